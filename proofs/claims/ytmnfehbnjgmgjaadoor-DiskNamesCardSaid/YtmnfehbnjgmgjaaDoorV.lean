/- A walk by registers, over any program: the frame as a function from slots to values (Env), the code's and a region's laws in that form, a region that draws its order. -/
import Derived.Test.YtmnfehbnjgmgjaaDoorOps
import Derived.OrdersHeld
namespace Go.Proofs.YtmnfehbnjgmgjaaDoor
set_option linter.all false
open Go.RowKit

abbrev Env := Nat → Value
def upd (ρ : Env) (d : Nat) (v : Value) : Env := fun t => bif Nat.beq t d then v else ρ t
def updo (ρ : Env) : Option Nat → Value → Env
  | some d, v => upd ρ d v
  | none, _ => ρ
def ev (ρ : Env) : Operand → Value
  | .tmp t => ρ t
  | .const v => v
  | .global g => .pointer (some ⟨g, 0, none⟩)
  | .func f => .func (.func f) #[] #[]
/-- The frame is this function of slots; it has n of them. -/
structure Agree (n : Nat) (a : Act) (ρ : Env) : Prop where
  size : a.tmps.size = n
  defers : a.defers = []
  get : ∀ t, a.tmps.getD t undef = ρ t
theorem Agree.eval {n : Nat} {a : Act} {ρ : Env} (h : Agree n a ρ) : a.eval = ev ρ := by
  funext x; cases x <;> simp only [Act.eval, ev, ← h.get]
def okd (n : Nat) : Option Nat → Bool
  | some d => Nat.blt d n
  | none => true
theorem upd_same (ρ : Env) (d : Nat) (v : Value) : upd ρ d v d = v := by simp [upd]
theorem upd_other {ρ : Env} {d t : Nat} {v : Value} (h : t ≠ d) : upd ρ d v t = ρ t := by
  have : Nat.beq t d = false := by cases hb : Nat.beq t d with
    | false => rfl
    | true => exact absurd (Nat.eq_of_beq_eq_true hb) h
  simp [upd, this]
theorem Agree.put {n : Nat} {a : Act} {ρ : Env} (h : Agree n a ρ) {d : Option Nat} (hd : okd n d = true) (v : Value) : Agree n (a.put d v) (updo ρ d v) := by
  cases d with
  | none => exact h
  | some d =>
    have hlt : d < n := by simpa [okd] using hd
    refine ⟨by simp [Act.put, h.size], h.defers, fun t => ?_⟩
    by_cases e : t = d
    · subst e
      show (a.tmps.setIfInBounds t v).getD t undef = upd ρ t v t
      rw [upd_same]
      simp [Array.getD_eq_getD_getElem?, h.size, hlt]
    · show (a.tmps.setIfInBounds d v).getD t undef = upd ρ d v t
      rw [upd_other e, ← h.get, Array.getD_eq_getD_getElem?, Array.getD_eq_getD_getElem?, Array.getElem?_setIfInBounds_ne (Ne.symm e)]
theorem Agree.slot {n : Nat} {a : Act} {ρ : Env} (h : Agree n a ρ) {d : Nat} {b : Bool} (hv : ρ d = .bool b) : a.tmps[d]? = some (.bool b) := by
  have := h.get d
  rw [hv, Array.getD_eq_getD_getElem?] at this
  cases hc : a.tmps[d]? with
  | none => rw [hc] at this; simp [undef] at this
  | some v => rw [hc] at this; simpa using this
theorem Agree.slotU {n : Nat} {a : Act} {ρ : Env} (h : Agree n a ρ) {d : Nat} (hv : ρ d = undef) (b : Bool) : a.tmps[d]? ≠ some (.bool b) := by
  intro hc
  have := h.get d
  rw [hv, Array.getD_eq_getD_getElem?, hc] at this
  simp [undef] at this

section
variable {P : Program} {n : Nat}

/-! ### a list of operations -/
def lq (n : Nat) (K : Env → World → Prop) : Exit → Act → World → Prop
  | .normal, a, w => ∃ ρ, Agree n a ρ ∧ K ρ w
  | _, _, _ => False
def lw (P : Program) (n : Nat) (ops : Array Oper) (l : List Oper) (K : Env → World → Prop) (ρ : Env) (w : World) : Prop :=
  ∀ a, Agree n a ρ → wpList P ops (lq n K) l a w
section
variable {ops : Array Oper} {rest : List Oper} {K : Env → World → Prop} {ρ : Env} {w : World} {dst : Option Tmp} {op : Op} {ty : TypeId} {pos : String} {aft : Array Edge}
theorem lw_nil (h : K ρ w) : lw P n ops [] K ρ w := fun _ ha => wpList_nil ⟨ρ, ha, h⟩
theorem lw_val (hd : okd n dst = true) {v : Value} {w' : World} (hr : (execOp (ev ρ) ⟨dst, op, ty, pos, aft, none⟩).run P w = .ok (.value v) w') (h : lw P n ops rest K (updo ρ dst v) w') :
    lw P n ops (⟨dst, op, ty, pos, aft, none⟩ :: rest) K ρ w := fun a ha =>
  wpList_run rfl (by rw [ha.eval]; exact hr) (h _ (ha.put hd v))
theorem lw_skip (hd : okd n dst = true) {w' : World} (hr : (execOp (ev ρ) ⟨dst, op, ty, pos, aft, none⟩).run P w = .ok .skip w') (h : lw P n ops rest K (updo ρ dst undef) w') :
    lw P n ops (⟨dst, op, ty, pos, aft, none⟩ :: rest) K ρ w := fun a ha =>
  wpList_skips rfl (by rw [ha.eval]; exact hr) (h _ (ha.put hd undef))
/-- A call: R is what is known of what it returns. -/
theorem lw_enter (hd : okd n dst = true) {f : FuncId} {args : Array Value} {R : Value → World → Prop} (hr : (execOp (ev ρ) ⟨dst, op, ty, pos, aft, none⟩).run P w = .ok (.enter f args) w)
    (hc : Calls P f args w fun e w' => ∃ v, e = .returned v ∧ R v w') (h : ∀ v w', R v w' → lw P n ops rest K (updo ρ dst v) w') :
    lw P n ops (⟨dst, op, ty, pos, aft, none⟩ :: rest) K ρ w := fun a ha => by
  refine wpList_plain rfl fun K' hK => ?_
  unfold Oper.wp
  rw [ha.eval, hr, Oper.upon_enter]
  refine hc.mono ?_
  rintro e w2 ⟨v, rfl, hs⟩
  exact hK _ _ (h v w2 hs _ (ha.put hd v))
theorem wp_noguard (o : Oper) (g : Option (Nat × Bool)) (a : Act) (w : World) (K' : Act → World → Prop) (Q : Exit → Act → World → Prop) : Oper.wp P { o with guard := g } a w K' Q = Oper.wp P o a w K' Q := by
  cases o; rfl
theorem asks_noguard (o : Oper) (g : Option (Nat × Bool)) (a : Act) (w : World) : Oper.asks P { o with guard := g } a w = Oper.asks P o a w := by
  cases o; rfl
theorem wanted_of {a : Act} (ha : Agree n a ρ) {j d : Nat} {b : Bool} (hj : (ops[j]?).bind (·.dst) = some d) (hv : ρ d = .bool b) : Region.wanted ⟨dst, op, ty, pos, aft, some (j, b)⟩ (yielded ops a.tmps) = true := by
  simp [Region.wanted, yielded, hj, ha.slot hv]
theorem unwanted_of {a : Act} (ha : Agree n a ρ) {j d : Nat} {b : Bool} (hj : (ops[j]?).bind (·.dst) = some d) (hv : ρ d = .bool (!b) ∨ ρ d = undef) : Region.wanted ⟨dst, op, ty, pos, aft, some (j, b)⟩ (yielded ops a.tmps) = false := by
  rcases hv with hv | hv
  · cases b <;> simp [Region.wanted, yielded, hj, ha.slot hv]
  · have h1 := ha.slotU hv b
    cases hc : a.tmps[d]? with
    | none => simp [Region.wanted, yielded, hj, hc]
    | some v =>
      rw [hc] at h1
      cases v <;> simp_all [Region.wanted, yielded]
/-- A guard that is met. -/
theorem lw_on {j d : Nat} {b t : Bool} (hj : (ops[j]?).bind (·.dst) = some d) (hv : ρ d = .bool t) (ht : t = b) (h : lw P n ops (⟨dst, op, ty, pos, aft, none⟩ :: rest) K ρ w) :
    lw P n ops (⟨dst, op, ty, pos, aft, some (j, b)⟩ :: rest) K ρ w := fun a ha => by
  subst ht
  have := h a ha
  unfold wpList at this ⊢
  rw [if_pos (wanted_of ha hj hv)]
  rw [if_pos (by simp [Region.wanted])] at this
  exact this
/-- A guard that is not. -/
theorem lw_off (hd : okd n dst = true) {j d : Nat} {b t : Bool} (hj : (ops[j]?).bind (·.dst) = some d) (hv : ρ d = .bool t) (ht : t = !b) (h : lw P n ops rest K (updo ρ dst undef) w) :
    lw P n ops (⟨dst, op, ty, pos, aft, some (j, b)⟩ :: rest) K ρ w := fun a ha => by
  subst ht
  unfold wpList
  rw [if_neg (by rw [unwanted_of ha hj (.inl hv)]; simp)]
  exact h _ (ha.put hd _)
theorem lw_offU (hd : okd n dst = true) {j d : Nat} {b : Bool} (hj : (ops[j]?).bind (·.dst) = some d) (hv : ρ d = undef) (h : lw P n ops rest K (updo ρ dst undef) w) :
    lw P n ops (⟨dst, op, ty, pos, aft, some (j, b)⟩ :: rest) K ρ w := fun a ha => by
  unfold wpList
  rw [if_neg (by rw [unwanted_of ha hj (.inr hv)]; simp)]
  exact h _ (ha.put hd _)
end

/-! ### code -/
abbrev Post := Env → World → Prop
def toB : List (Nat × Post) → Nat → Option Post
  | [], _ => none
  | (j, N) :: l, i => bif Nat.beq j i then some N else toB l i
def cq (n : Nat) (N : Post) (B : List (Nat × Post)) (R : Post) : Exit → Act → World → Prop
  | .normal, a, w => ∃ ρ, Agree n a ρ ∧ N ρ w
  | .exit i, a, w => ∃ ρ, Agree n a ρ ∧ ∃ K, toB B i = some K ∧ K ρ w
  | .ret, a, w => ∃ ρ, Agree n a ρ ∧ R ρ w
  | _, _, _ => False
/-- From here the code comes to N at its end, to B's at an exit, to R at a return. -/
def cw (P : Program) (n : Nat) (c : Code) (N : Post) (B : List (Nat × Post)) (R : Post) (ρ : Env) (w : World) : Prop := ∀ a, Agree n a ρ → c.wp P (cq n N B R) a w
section
variable {N R : Post} {B : List (Nat × Post)} {ρ : Env} {w : World}
theorem cw_mono {c : Code} {N' R' : Post} {B' : List (Nat × Post)} (h : cw P n c N' B' R' ρ w) (h1 : ∀ ρ w, N' ρ w → N ρ w) (h2 : ∀ i K ρ w, toB B' i = some K → K ρ w → ∃ K', toB B i = some K' ∧ K' ρ w) (h3 : ∀ ρ w, R' ρ w → R ρ w) : cw P n c N B R ρ w := fun a ha => by
  refine wp_mono (h a ha) ?_
  intro e a w q
  cases e with
  | normal => obtain ⟨ρ', ha', q⟩ := q; exact ⟨ρ', ha', h1 _ _ q⟩
  | exit i => obtain ⟨ρ', ha', K, hK, q⟩ := q; exact ⟨ρ', ha', h2 i K _ _ hK q⟩
  | ret => obtain ⟨ρ', ha', q⟩ := q; exact ⟨ρ', ha', h3 _ _ q⟩
  | _ => exact q
theorem cw_seq {x y : Code} (h : cw P n x (fun ρ w => cw P n y N B R ρ w) B R ρ w) : cw P n (.seq x y) N B R ρ w := fun a ha => by
  refine wp_seq (wp_mono (h a ha) ?_)
  intro e a w q
  cases e with
  | normal => obtain ⟨ρ', ha', q⟩ := q; exact q a ha'
  | exit i => exact q
  | goto l => exact q
  | ret => exact q
  | panic c => exact q
  | outgrown => exact q
theorem cw_skip (h : N ρ w) : cw P n .skip N B R ρ w := fun a ha => wp_skip ⟨ρ, ha, h⟩
theorem cw_ret (h : R ρ w) : cw P n .ret N B R ρ w := fun a ha => wp_ret ⟨ρ, ha, h⟩
theorem cw_exit {i : Nat} {K : Post} (hK : toB B i = some K) (h : K ρ w) : cw P n (.exit i) N B R ρ w := fun a ha => wp_exit ⟨ρ, ha, K, hK, h⟩
theorem cw_block {i : Nat} {c : Code} (h : cw P n c N ((i, N) :: B) R ρ w) : cw P n (.block i c) N B R ρ w := fun a ha => by
  refine wp_block (wp_mono (h a ha) ?_)
  intro e a w q
  cases e with
  | normal => exact q
  | exit j =>
    obtain ⟨ρ', ha', K, hK, q⟩ := q
    by_cases e : j = i
    · subst e
      simp only [Exit.inBlock, if_true]
      have : toB ((j, N) :: B) j = some N := by simp [toB]
      rw [this] at hK
      cases hK
      exact ⟨ρ', ha', q⟩
    · simp only [Exit.inBlock, e, if_false]
      have hb : Nat.beq i j = false := by cases hb : Nat.beq i j with
        | false => rfl
        | true => exact absurd (Nat.eq_of_beq_eq_true hb).symm e
      simp only [toB, hb, cond_false] at hK
      exact ⟨ρ', ha', K, hK, q⟩
  | goto l => exact q
  | ret => exact q
  | panic c => exact q
  | outgrown => exact q
theorem cw_if {c : Operand} {x y : Code} {t : Bool} (hc : ev ρ c = .bool t) (ht : t = true → cw P n x N B R ρ w) (hf : t = false → cw P n y N B R ρ w) : cw P n (.cond c x y) N B R ρ w := fun a ha =>
  wp_cond_split (by rw [ha.eval]; exact hc) (fun h => ht h a ha) (fun h => hf h a ha)
theorem cw_ift {c : Operand} {x y : Code} {t : Bool} (hc : ev ρ c = .bool t) (ht : t = true) (h : cw P n x N B R ρ w) : cw P n (.cond c x y) N B R ρ w := cw_if hc (fun _ => h) (fun e => by rw [ht] at e; cases e)
theorem cw_iff {c : Operand} {x y : Code} {t : Bool} (hc : ev ρ c = .bool t) (ht : t = false) (h : cw P n y N B R ρ w) : cw P n (.cond c x y) N B R ρ w := cw_if hc (fun e => by rw [ht] at e; cases e) (fun _ => h)
theorem cw_region {id : Nat} {l : List Oper} (h : lw P n l.toArray l N ρ w) : cw P n (.region id l.toArray false) N B R ρ w := fun a ha => by
  refine wp_mono (wp_region_lit (h a ha)) ?_
  intro e a w q
  cases e <;> first | exact q | exact q.elim
/-- Ways that meet again: J is what holds there. -/
theorem cw_join {x y : Code} (J : Post) (h : cw P n x J B R ρ w) (hJ : ∀ ρ w, J ρ w → cw P n y N B R ρ w) : cw P n (.seq x y) N B R ρ w :=
  cw_seq (cw_mono h hJ (fun _ K _ _ hK h => ⟨K, hK, h⟩) fun _ _ h => h)

/-! ### loops -/
/-- These slots hold these values. -/
def AllS (ρ : Env) : List (Nat × Value) → Prop
  | [] => True
  | (t, v) :: l => ρ t = v ∧ AllS ρ l
def memN (t : Nat) : List Nat → Bool
  | [] => false
  | d :: l => Nat.beq t d || memN t l
/-- The slots of W are anything, the others as before. -/
def mix (W : List Nat) (ξ ρ : Env) : Env := fun t => bif memN t W then ξ t else ρ t
def updL (ρ : Env) : List (Nat × Value) → Env
  | [] => ρ
  | (t, v) :: l => upd (updL ρ l) t v
/-- Outside W they are alike. -/
def Out (W : List Nat) (ρ' ρ : Env) : Prop := ∀ t, memN t W = false → ρ' t = ρ t
theorem Out.refl (W : List Nat) (ρ : Env) : Out W ρ ρ := fun _ _ => rfl
theorem Out.mix (W : List Nat) (ξ ρ : Env) : Out W (mix W ξ ρ) ρ := fun t h => by simp [Go.Proofs.YtmnfehbnjgmgjaaDoor.mix, h]
theorem Out.upd {W : List Nat} {ρ' ρ : Env} {d : Nat} {v : Value} (hd : memN d W = true) (h : Out W ρ' ρ) : Out W (upd ρ' d v) ρ := fun t ht => by
  have : t ≠ d := fun e => by rw [e, hd] at ht; cases ht
  rw [upd_other this]; exact h t ht
theorem Out.updL {W : List Nat} {ρ' ρ : Env} (h : Out W ρ' ρ) : ∀ (l : List (Nat × Value)), (l.all fun p => memN p.1 W) = true → Out W (updL ρ' l) ρ
  | [], _ => h
  | (t, v) :: l, hl => by
    simp only [List.all_cons, Bool.and_eq_true] at hl
    exact Out.upd hl.1 (Out.updL h l hl.2)
/-- Every slot that has been written is one of W's. -/
theorem Out.updo {W : List Nat} {ρ' ρ : Env} {d : Option Nat} {v : Value} (hd : (match d with | some d => memN d W | none => true) = true) (h : Out W ρ' ρ) : Out W (updo ρ' d v) ρ := by
  cases d with
  | none => exact h
  | some d => exact Out.upd hd h
theorem env_head {W : List Nat} {ρ' ρ : Env} (hout : Out W ρ' ρ) : ∀ (l : List (Nat × Value)), AllS ρ' l → ∀ t, ρ' t = updL (mix W ρ' ρ) l t
  | [], _, t => by
    show ρ' t = mix W ρ' ρ t
    cases hm : memN t W with
    | true => simp [mix, hm]
    | false => simp [mix, hm, hout t hm]
  | (d, v) :: l, h, t => by
    show ρ' t = upd (updL (mix W ρ' ρ) l) d v t
    by_cases e : t = d
    · subst e; rw [upd_same]; exact h.1
    · rw [upd_other e]; exact env_head hout l h.2 t
/-- A loop: X is what the rounds are counted and told by. -/
theorem cw_loop {c : Code} {X : Type} (W : List Nat) (slots : X → List (Nat × Value)) (I : X → World → Prop) (μ : X → Nat) (x0 : X) (h0s : AllS ρ (slots x0)) (h0 : I x0 w)
    (hr : ∀ x ξ w, I x w → cw P n c (fun ρ' w' => ∃ x', μ x' < μ x ∧ I x' w' ∧ AllS ρ' (slots x') ∧ Out W ρ' ρ) B R (updL (mix W ξ ρ) (slots x)) w) : cw P n (.loop c) N B R ρ w := by
  intro a ha
  let J : Nat → Act → World → Prop := fun m a w => ∃ x ρ', Agree n a ρ' ∧ μ x ≤ m ∧ I x w ∧ AllS ρ' (slots x) ∧ Out W ρ' ρ
  have hex : ∀ a w, (∃ m, J m a w) → ∃ m, J m a w ∧ ∀ k, k < m → ¬ J k a w := fun a w ⟨m, hm⟩ => by
    induction m using Nat.strongRecOn with
    | _ m ih =>
      by_cases hk : ∃ k, k < m ∧ J k a w
      · obtain ⟨k, hk, hj⟩ := hk; exact ih k hk hj
      · exact ⟨m, hm, fun k hlt hj => hk ⟨k, hlt, hj⟩⟩
  classical
  let M : Act → World → Nat := fun a w => if h : ∃ m, J m a w then Classical.choose (hex a w h) else 0
  have hM : ∀ a w, (∃ m, J m a w) → J (M a w) a w ∧ ∀ k, J k a w → M a w ≤ k := fun a w h => by
    have hs := Classical.choose_spec (hex a w h)
    simp only [M, dif_pos h]
    exact ⟨hs.1, fun k hk => Nat.le_of_not_lt fun hlt => hs.2 k hlt hk⟩
  refine wp_loop (fun a w => ∃ m, J m a w) M ⟨μ x0, x0, ρ, ha, Nat.le_refl _, h0, h0s, Out.refl _ _⟩ ?_
  intro a w hJ
  obtain ⟨⟨x, ρ', ha', hx, hI, hS, hO⟩, hmin⟩ := hM a w hJ
  have hρ : ρ' = updL (mix W ρ' ρ) (slots x) := funext (env_head hO _ hS)
  refine wp_mono (hr x ρ' w hI a (hρ ▸ ha')) ?_
  intro e a2 w2 q
  cases e with
  | normal =>
    obtain ⟨ρ2, ha2, x2, hlt, hI2, hS2, hO2⟩ := q
    have hJ2 : J (μ x2) a2 w2 := ⟨x2, ρ2, ha2, Nat.le_refl _, hI2, hS2, hO2⟩
    exact ⟨⟨_, hJ2⟩, Nat.lt_of_le_of_lt ((hM a2 w2 ⟨_, hJ2⟩).2 _ hJ2) (Nat.lt_of_lt_of_le hlt hx)⟩
  | exit i => exact q
  | goto l => exact q
  | ret => exact q
  | panic c => exact q
  | outgrown => exact q
end

/-! ### a function -/
def envOf (args : Array Value) : Env := fun t => args.getD t undef
theorem agree_enter (args : Array Value) (m : Nat) (h : Nat.ble args.size m = true) : Agree m { tmps := args ++ Array.replicate (m - args.size) undef, defers := [] } (envOf args) := by
  have h' : args.size ≤ m := by simpa using h
  refine ⟨by simp; omega, rfl, fun t => ?_⟩
  simp only [envOf, Array.getD_eq_getD_getElem?]
  by_cases hlt : t < args.size
  · rw [Array.getElem?_append_left hlt]
  · rw [Array.getElem?_append_right (by omega), Array.getElem?_eq_none (xs := args) (by omega)]
    by_cases h2 : t - args.size < m - args.size
    · simp [h2]
    · simp [h2]
/-- What a function's results are, by its slots. -/
def ResE (P : Program) (fn : Func) (R : Ending → World → Prop) (ρ : Env) (w : World) : Prop := ∀ a, Agree n a ρ → ∃ v, (results fn a.tmps).run P w = .ok v w ∧ R (.returned v) w
theorem calls_cw {f : FuncId} {fn : Func} {c : Code} {args : Array Value} {w : World} {R : Ending → World → Prop} (hf : P.funcs[f]? = some fn) (hb : fn.body = some c) (hn : Nat.ble args.size fn.ntmps = true)
    (h : cw P fn.ntmps c (ResE (n := fn.ntmps) P fn R) [] (ResE (n := fn.ntmps) P fn R) (envOf args) w) : Calls P f args w R := by
  refine calls_of_wp hf hb (wp_mono (h _ (agree_enter args fn.ntmps hn)) ?_)
  intro e a w q
  cases e with
  | normal => obtain ⟨ρ, ha, q⟩ := q; obtain ⟨v, h1, h2⟩ := q a ha; exact ⟨ha.defers, v, h1, h2⟩
  | ret => obtain ⟨ρ, ha, q⟩ := q; obtain ⟨v, h1, h2⟩ := q a ha; exact ⟨ha.defers, v, h1, h2⟩
  | exit i => obtain ⟨ρ, ha, K, hK, q⟩ := q; cases hK
  | goto l => exact q.elim
  | panic c => exact q.elim
  | outgrown => exact q.elim
section
variable {fn : Func} {R : Ending → World → Prop} {ρ : Env} {w : World}
theorem res0 (h : fn.results = #[]) (hR : R (.returned (.tuple #[])) w) : ResE (n := n) P fn R ρ w := fun a _ => ⟨_, results_none h _ _ _, hR⟩
theorem res1 {t : Tmp} (h : fn.results = #[.tmp t]) {v : Value} (hv : ρ t = v) (hR : R (.returned v) w) : ResE (n := n) P fn R ρ w := fun a ha => ⟨_, results_tmp h _ _ _, by rw [ha.get, hv]; exact hR⟩
theorem res2 {t u : Tmp} (h : fn.results = #[.tmp t, .tmp u]) {v v2 : Value} (hv : ρ t = v) (hv2 : ρ u = v2) (hR : R (.returned (.tuple #[v, v2])) w) : ResE (n := n) P fn R ρ w := fun a ha => ⟨_, results_tmp2 h _ _ _, by rw [ha.get, ha.get, hv, hv2]; exact hR⟩
theorem res3 {t u x : Tmp} (h : fn.results = #[.tmp t, .tmp u, .tmp x]) {v v2 v3 : Value} (hv : ρ t = v) (hv2 : ρ u = v2) (hv3 : ρ x = v3) (hR : R (.returned (.tuple #[v, v2, v3])) w) : ResE (n := n) P fn R ρ w := fun a ha =>
  ⟨.tuple #[v, v2, v3], by have h1 := ha.get t; have h2 := ha.get u; have h3 := ha.get x; rw [hv] at h1; rw [hv2] at h2; rw [hv3] at h3; rw [Array.getD_eq_getD_getElem?] at h1 h2 h3; simp [results, h, h1, h2, h3], hR⟩
theorem res4 {t u x y : Tmp} (h : fn.results = #[.tmp t, .tmp u, .tmp x, .tmp y]) {v v2 v3 v4 : Value} (hv : ρ t = v) (hv2 : ρ u = v2) (hv3 : ρ x = v3) (hv4 : ρ y = v4) (hR : R (.returned (.tuple #[v, v2, v3, v4])) w) : ResE (n := n) P fn R ρ w := fun a ha =>
  ⟨.tuple #[v, v2, v3, v4], by have h1 := ha.get t; have h2 := ha.get u; have h3 := ha.get x; have h4 := ha.get y; rw [hv] at h1; rw [hv2] at h2; rw [hv3] at h3; rw [hv4] at h4; rw [Array.getD_eq_getD_getElem?] at h1 h2 h3 h4; simp [results, h, h1, h2, h3, h4], hR⟩
end

/-! ### a region that draws its order -/
def aw (P : Program) (n : Nat) (ops : Array Oper) (S : World → Prop) (fuel : Nat) (listed : Array Bool) (K : Env → World → Prop) (ρ : Env) (w : World) : Prop :=
  ∀ a, Agree n a ρ → wpAnyH P .any ops (lq n K) S fuel listed a w
section
variable {ops : Array Oper} {S : World → Prop} {fuel : Nat} {listed : Array Bool} {K : Env → World → Prop} {ρ : Env} {w : World} {dst : Option Tmp} {op : Op} {ty : TypeId} {pos : String} {aft : Array Edge}
theorem cw_draw {N R : Post} {B : List (Nat × Post)} {id : Nat} {l : List Oper} (S : World → Prop) (hm : P.follows .mixedOrders = true) (h : aw P n l.toArray S l.toArray.size (Array.replicate l.toArray.size false) N ρ w.drew) : cw P n (.region id l.toArray true) N B R ρ w := fun a ha => by
  refine wp_mono (wp_region_held (S := S) hm (h a ha)) ?_
  intro e a w q
  cases e <;> first | exact q | exact q.elim
theorem aw_done (hr : Region.ready .any ops listed = []) (h : K ρ w) : aw P n ops S fuel listed K ρ w := fun _ ha => wpAnyH_done hr ⟨ρ, ha, h⟩ fuel
/-- Take number i first. -/
theorem aw_take (i : Nat) {v : Value} (hi : ops[i]? = some ⟨dst, op, ty, pos, aft, none⟩) (hs : Region.noSelect ops = true) (hf : Region.free .any ops listed i = true) (hr : (Region.ready .any ops listed).contains i = true) (hd : okd n dst = true)
    (hy : ∀ w, S w → (execOp (ev ρ) ⟨dst, op, ty, pos, aft, none⟩).run P w = .ok (.value v) w) (hS : S w) (h : aw P n ops S fuel (listed.setIfInBounds i true) K (updo ρ dst v) w) : aw P n ops S (fuel + 1) listed K ρ w := fun a ha =>
  wpAnyH_take hi hs hf hr (fun _ _ _ h => h) (.inl ⟨rfl, fun w' hw => by rw [ha.eval]; exact hy w' hw⟩) hS (h _ (ha.put hd v))
theorem aw_takeOn (i : Nat) {v : Value} {j d : Nat} {b t : Bool} (hi : ops[i]? = some ⟨dst, op, ty, pos, aft, some (j, b)⟩) (hs : Region.noSelect ops = true) (hf : Region.free .any ops listed i = true) (hr : (Region.ready .any ops listed).contains i = true) (hd : okd n dst = true)
    (hj : (ops[j]?).bind (·.dst) = some d) (hv : ρ d = .bool t) (ht : t = b)
    (hy : ∀ w, S w → (execOp (ev ρ) ⟨dst, op, ty, pos, aft, none⟩).run P w = .ok (.value v) w) (hS : S w) (h : aw P n ops S fuel (listed.setIfInBounds i true) K (updo ρ dst v) w) : aw P n ops S (fuel + 1) listed K ρ w := fun a ha => by
  subst ht
  exact wpAnyH_take hi hs hf hr (fun _ _ _ h => h) (.inl ⟨wanted_of ha hj hv, fun w' hw => by rw [ha.eval]; exact hy w' hw⟩) hS (h _ (ha.put hd v))
theorem aw_takeOff (i : Nat) {j d : Nat} {b t : Bool} (hi : ops[i]? = some ⟨dst, op, ty, pos, aft, some (j, b)⟩) (hs : Region.noSelect ops = true) (hf : Region.free .any ops listed i = true) (hr : (Region.ready .any ops listed).contains i = true) (hd : okd n dst = true)
    (hj : (ops[j]?).bind (·.dst) = some d) (hv : ρ d = .bool t) (ht : t = !b) (hS : S w) (h : aw P n ops S fuel (listed.setIfInBounds i true) K (updo ρ dst undef) w) : aw P n ops S (fuel + 1) listed K ρ w := fun a ha => by
  subst ht
  exact wpAnyH_take hi hs hf hr (fun _ _ _ h => h) (.inr ⟨unwanted_of ha hj (.inl hv), rfl⟩) hS (h _ (ha.put hd undef))
theorem aw_takeOffU (i : Nat) {j d : Nat} {b : Bool} (hi : ops[i]? = some ⟨dst, op, ty, pos, aft, some (j, b)⟩) (hs : Region.noSelect ops = true) (hf : Region.free .any ops listed i = true) (hr : (Region.ready .any ops listed).contains i = true) (hd : okd n dst = true)
    (hj : (ops[j]?).bind (·.dst) = some d) (hv : ρ d = undef) (hS : S w) (h : aw P n ops S fuel (listed.setIfInBounds i true) K (updo ρ dst undef) w) : aw P n ops S (fuel + 1) listed K ρ w := fun a ha =>
  wpAnyH_take hi hs hf hr (fun _ _ _ h => h) (.inr ⟨unwanted_of ha hj (.inr hv), rfl⟩) hS (h _ (ha.put hd undef))
/-- The operations that may come up: each is carried out (as a list of one operation). -/
def awAll (P : Program) (n : Nat) (ops : Array Oper) (S : World → Prop) (fuel : Nat) (listed : Array Bool) (K : Env → World → Prop) (ρ : Env) (w : World) : List Nat → Prop
  | [] => True
  | i :: rs => (∃ o, ops[i]? = some o ∧ lw P n ops [o] (fun ρ' w' => S w' ∧ aw P n ops S fuel (listed.setIfInBounds i true) K ρ' w') ρ w) ∧ awAll P n ops S fuel listed K ρ w rs
theorem aw_ready (rs : List Nat) (hr : Region.ready .any ops listed = rs) (hne : rs ≠ []) (h : awAll P n ops S fuel listed K ρ w rs) : aw P n ops S (fuel + 1) listed K ρ w := fun a ha => by
  refine wpAnyH_all hr hne ?_
  clear hr hne
  induction rs with
  | nil => intro i hi; cases hi
  | cons j rs ih =>
    obtain ⟨h1, h2⟩ := h
    intro i hi
    rcases List.mem_cons.1 hi with rfl | hi
    · obtain ⟨o, ho, h1⟩ := h1
      have := h1 a ha
      unfold wpOp
      simp only [ho]
      unfold wpList at this
      split
      · rename_i hw
        rw [if_pos hw] at this
        refine this.imp (fun hh => Oper.wp_mono (fun a' w' hq => ?_) hh) id
        obtain ⟨ρ', ha', q1, q2⟩ := hq
        exact ⟨q1, q2 a' ha'⟩
      · rename_i hw
        rw [if_neg hw] at this
        obtain ⟨ρ', ha', q1, q2⟩ := this
        exact ⟨q1, q2 _ ha'⟩
    · exact ih h2 i hi
end
end
end Go.Proofs.YtmnfehbnjgmgjaaDoor
