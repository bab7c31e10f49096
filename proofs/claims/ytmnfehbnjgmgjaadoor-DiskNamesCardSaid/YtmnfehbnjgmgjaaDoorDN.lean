/- The law DiskNames: names come back as they were behind some of the calls since they were synced. -/
import Derived.Test.YtmnfehbnjgmgjaaDoorDl
import Derived.Test.YtmnfehbnjgmgjaaDoorDR
namespace Go.Proofs.YtmnfehbnjgmgjaaDoor
set_option linter.all false
open Go.RowKit
attribute [local irreducible] errV
variable {g w : World} {L M : List HP} {ad : Nat → Addr} {p : Nat} {d e : Dk} {cs : List Chg}

theorem Mem.ownRd (hs : Mem g w L) (i : Nat) {v : Value} {l : List Value} (hi : L[i]? = some (own v l)) : Mem g w (L.set i (rd v l)) := by
  obtain ⟨F, ⟨g1, g2⟩, g3⟩ := hs.turn hi
  exact g3 w _ F ⟨g1.seq, g1.lt, g2⟩ (fun _ h => .inl h) (Keeps.refl _ _)
/-- A number, as the statements make it. -/
theorem numberE_sl (hs : Mem g w L) (n : Int) (b : Nat) (hb : 0 < b ∧ b < 1000) : Calls Tryd.prog 40 #[.int .i64 n, .int .i64 b] w (Ret fun v w' => v = .int .i64 (((n % (b : Int)).toNat : Nat) : Int) ∧ Mem g w' L) := by
  have h0 : (b : Int) ≠ 0 := by omega
  have h1 := Int.emod_nonneg n h0
  have h3 := Int.emod_lt_of_pos n (show (0 : Int) < b by omega)
  have h4 := Int.tmod_lt_of_pos n (show (0 : Int) < b by omega)
  have h5 : -(b : Int) < n.tmod b := by have h3 := Int.natAbs_tmod n (b : Int); have h4 := Nat.mod_lt n.natAbs (y := (b : Int).natAbs) (by omega); omega
  have he : n.tmod b < 0 → n.tmod b + b = n % (b : Int) := fun h => by
    have e1 : (n.tmod b + (b : Int) * 1) % b = n % b := by
      rw [Int.add_mul_emod_self_left]
      conv => rhs; rw [← Int.tmod_add_mul_tdiv n (b : Int)]
      rw [Int.add_mul_emod_self_left]
    rw [Int.mul_one, Int.emod_eq_of_lt (by omega) (by omega)] at e1
    exact e1
  have hp : ¬ n.tmod b < 0 → n.tmod b = n % (b : Int) := fun h => by
    have e1 : n.tmod b % b = n % b := by
      conv => rhs; rw [← Int.tmod_add_mul_tdiv n (b : Int)]
      rw [Int.add_mul_emod_self_left]
    rw [Int.emod_eq_of_lt (by omega) (by omega)] at e1
    exact e1
  refine calls_cw Tryd.func40 rfl rfl ?_
  skip
  refine cw_seq ?_
  refine cw_region ?_
  first | refine lw_val rfl (run_assign (v := .int .i64 _) rfl) ?_
  refine lw_nil ?_
  refine cw_seq ?_
  refine cw_region ?_
  first | refine lw_val rfl (run_move (v := .int .i64 _) rfl) ?_
  first | refine lw_val rfl (run_move (v := .int .i64 _) rfl) ?_
  refine lw_val rfl (run_rem rfl rfl (by omega)) ?_
  first | refine lw_val rfl (run_assign (v := .int .i64 _) rfl) ?_
  refine lw_nil ?_
  refine cw_seq ?_
  refine cw_seq ?_
  refine cw_region ?_
  first | refine lw_val rfl (run_move (v := .int .i64 _) rfl) ?_
  refine lw_val rfl (run_lss rfl rfl) ?_
  refine lw_nil ?_
  refine cw_if rfl ?_ ?_
  · intro h10
    have g10 := of_decide_eq_true h10
    refine cw_region ?_
    first | refine lw_val rfl (run_move (v := .int .i64 _) rfl) ?_
    first | refine lw_val rfl (run_move (v := .int .i64 _) rfl) ?_
    refine lw_val rfl (run_add64 rfl rfl (c := n.tmod b + b) rfl (inI (by omega) (by omega))) ?_
    first | refine lw_val rfl (run_assign (v := .int .i64 _) rfl) ?_
    refine lw_nil ?_
    refine cw_seq ?_
    refine cw_region ?_
    first | refine lw_val rfl (run_move (v := .int .i64 _) rfl) ?_
    first | refine lw_val rfl (run_assign (v := .int .i64 _) rfl) ?_
    refine lw_nil ?_
    refine cw_ret ?_
    refine res1 (v := .int .i64 _) rfl rfl ?_
    exact ⟨_, rfl, by show Value.int .i64 (n.tmod b + b) = _; rw [he g10]; congr 1; omega, hs⟩
  · intro h10
    have g10 := of_decide_eq_false h10
    refine cw_skip ?_
    refine cw_seq ?_
    refine cw_region ?_
    first | refine lw_val rfl (run_move (v := .int .i64 _) rfl) ?_
    first | refine lw_val rfl (run_assign (v := .int .i64 _) rfl) ?_
    refine lw_nil ?_
    refine cw_ret ?_
    refine res1 (v := .int .i64 _) rfl rfl ?_
    exact ⟨_, rfl, by show Value.int .i64 (n.tmod b) = _; rw [hp g10]; congr 1; omega, hs⟩
/-- The names behind q of the changes. -/
def stL (cs : List Chg) (q : Nat) : List ByteArray := sortT (keysOf (applyAll [] (cs.take q)))
theorem stL_more {c : Chg} {q : Nat} (h : q ≤ cs.length) : stL (cs ++ [c]) q = stL cs q := by rw [stL, stL, List.take_append_of_le_length h]
theorem app_keys {c : Chg} {l : List (ByteArray × Nat)} {n : ByteArray} (h : n ∈ keysOf (c.app l)) : n ∈ keysOf l ∨ n = c.name := by
  obtain ⟨v, hv⟩ := aget_of_key h
  have hm := aget_mem hv
  have h1 : ∀ x ∈ (if c.gone = ByteArray.empty then l else adel l c.gone), x.1 ∈ keysOf l := by
    split
    · exact fun x hx => List.mem_map_of_mem hx
    · exact fun x hx => List.mem_map_of_mem (adel_in hx)
  unfold Chg.app at hm
  cases hf : c.f with
  | none => rw [hf] at hm; exact .inl (h1 _ hm)
  | some i =>
    rw [hf] at hm
    rcases aput_in hm with e1 | hm
    · exact .inr (congrArg Prod.fst e1)
    · exact .inl (h1 _ hm)
theorem all_keys : ∀ {cs : List Chg} {l : List (ByteArray × Nat)} {n : ByteArray}, n ∈ keysOf (applyAll l cs) → n ∈ keysOf l ∨ ∃ c ∈ cs, n = c.name
  | [], _, _, h => .inl h
  | c :: cs, l, n, h => by
    rcases all_keys (cs := cs) (l := c.app l) h with h | ⟨c', hc, e1⟩
    · rcases app_keys h with h | h
      · exact .inl h
      · exact .inr ⟨c, List.mem_cons_self .., h⟩
    · exact .inr ⟨c', List.mem_cons_of_mem _ hc, e1⟩
structure NmI (d : Dk) (cs : List Chg) : Prop where
  ok : d.ok
  up : d.down = false
  arm : d.armed = 0
  kept : d.kept = []
  chs : d.changes = cs
  nms : d.names = applyAll [] cs
  calls : d.calls = cs.length
  small : ∀ c ∈ cs, c.name.size ≤ 10
/-- What a call does: nothing, or one change. -/
structure Stp (d e : Dk) (c : Chg) : Prop where
  up : e.down = false
  arm : e.armed = 0
  kept : e.kept = d.kept
  chs : e.changes = d.changes ++ [c]
  nms : e.names = c.app d.names
  calls : e.calls = d.calls + 1
  small : c.name.size ≤ 10
def Did (d : Dk) (k : Nat) (e : Dk) : Prop := (k ≠ 0 ∧ k ∈ allCodes ∧ e = d) ∨ (k = 0 ∧ ∃ c, Stp d e c)
theorem NmI.next {c : Chg} (h : NmI d cs) (s : Stp d e c) (ho : e.ok) : NmI e (cs ++ [c]) :=
  ⟨ho, s.up, s.arm, s.kept.trans h.kept, by rw [s.chs, h.chs], by rw [s.nms, h.nms]; simp [applyAll, List.foldl_append], by rw [s.calls, h.calls]; simp, fun x hx => by
    rcases List.mem_append.1 hx with hx | hx
    · exact h.small x hx
    · simp only [List.mem_cons, List.not_mem_nil, or_false] at hx; subst hx; exact s.small⟩
theorem NmI.sizes (h : NmI d cs) : ∀ x ∈ keysOf d.names, x.size ≤ 1000000 := fun x hx => by
  rw [h.nms] at hx
  rcases all_keys hx with h1 | ⟨c, hc, rfl⟩
  · simp [keysOf] at h1
  · have := h.small c hc; omega
theorem NmI.create (h : NmI d cs) {n : ByteArray} (hv : validB n.data.toList = true) (hn : n.size ≤ 10) : ∃ k e, d.create n = (k, e) ∧ Did d k e := by
  cases ha : aget d.names n with
  | none => exact ⟨_, _, Dk.create_up h.up h.arm hv ha, .inr ⟨rfl, _, h.up, h.arm, rfl, rfl, rfl, rfl, hn⟩⟩
  | some i =>
    refine ⟨108, d, ?_, .inl ⟨by decide, by decide, rfl⟩⟩
    simp [Dk.create, Dk.begin_up h.up h.arm, hv, ha]
theorem NmI.remove (h : NmI d cs) (n : ByteArray) : ∃ k e, d.remove n = (k, e) ∧ Did d k e := by
  cases ha : aget d.names n with
  | none => exact ⟨107, d, by simp only [Dk.remove, Dk.find_none h.up h.arm ha], .inl ⟨by decide, by decide, rfl⟩⟩
  | some i => exact ⟨_, _, Dk.remove_up h.up h.arm ha, .inr ⟨rfl, _, h.up, h.arm, rfl, rfl, rfl, rfl, by show 0 ≤ 10; decide⟩⟩
theorem NmI.rename (h : NmI d cs) {n m : ByteArray} (hv : validB m.data.toList = true) (hm : m.size ≤ 10) : ∃ k e, d.rename n m = (k, e) ∧ Did d k e := by
  cases ha : aget d.names n with
  | none => exact ⟨107, d, by simp only [Dk.rename, Dk.find_none h.up h.arm ha], .inl ⟨by decide, by decide, rfl⟩⟩
  | some i => exact ⟨_, _, Dk.rename_up h.up h.arm ha hv, .inr ⟨rfl, _, h.up, h.arm, rfl, rfl, rfl, rfl, hm⟩⟩
abbrev rdT (v : Value) (l : List ByteArray) : HP := rd v (textsL l)
def stM (cs : List Chg) : List (Nat × List ByteArray) := (List.range (cs.length + 1)).map fun q => (q, stL cs q)
theorem stM_keys (cs : List Chg) : keysOf (stM cs) = List.range (cs.length + 1) := by simp [stM, keysOf, List.map_map, Function.comp_def]
theorem stM_snoc (cs : List Chg) (c : Chg) : stM (cs ++ [c]) = stM cs ++ [(cs.length + 1, stL (cs ++ [c]) (cs.length + 1))] := by
  unfold stM
  rw [List.length_append, List.length_cons, List.length_nil, Nat.zero_add, List.range_succ, List.map_append]
  congr 1
  exact List.map_congr_left fun q hq => by rw [stL_more (by simpa using Nat.lt_succ_iff.1 (List.mem_range.1 hq))]
theorem stM_get {cs : List Chg} {q : Nat} (h : q ≤ cs.length) : aget (stM cs) q = some (stL cs q) := by
  unfold stM
  have : ∀ (l : List Nat), q ∈ l → aget (l.map fun q => (q, stL cs q)) q = some (stL cs q) := by
    intro l
    induction l with
    | nil => intro h; simp at h
    | cons a l ih =>
      intro h
      simp only [List.map_cons, aget]
      by_cases e1 : a = q
      · subst e1; simp
      · rw [if_neg e1]; exact ih ((List.mem_cons.1 h).resolve_left (fun e2 => e1 e2.symm))
  exact this _ (List.mem_range.2 (by omega))
/-- An element of the list of states, by its number. -/
theorem es_at {es : List (Nat × Value)} {n q : Nat} {v : Value} (hk : keysOf es = List.range n) (h : aget es q = some v) : (es.map (·.2))[q]? = some v := by
  have hq : q < n := by have := aget_keys h; rw [hk] at this; exact List.mem_range.1 this
  have hl : es.length = n := by have := congrArg List.length hk; simpa [keysOf] using this
  obtain ⟨x, hx⟩ : ∃ x, es[q]? = some x := ⟨_, List.getElem?_eq_getElem (by omega)⟩
  have hx1 : x.1 = q := by
    have := congrArg (fun l : List Nat => l[q]?) hk
    simp only [keysOf, List.getElem?_map, hx, Option.map_some, List.getElem?_range hq] at this
    exact Option.some.inj this
  have hnd : (keysOf es).Nodup := by rw [hk]; exact List.nodup_range
  have hm : x ∈ es := List.mem_of_getElem? hx
  have hg : aget es q = some x.2 := by
    have hmem : (q, x.2) ∈ es := by rw [← hx1]; exact hm
    clear hx hx1 hm hk hl h hq
    induction es with
    | nil => simp at hmem
    | cons y es ih =>
      obtain ⟨a, b⟩ := y
      simp only [keysOf, List.map_cons, List.nodup_cons] at hnd
      simp only [aget]
      rcases List.mem_cons.1 hmem with e1 | e1
      · simp only [Prod.mk.injEq] at e1; rw [if_pos e1.1.symm, e1.2]
      · rw [if_neg (show ¬ a = q from fun e2 => hnd.1 (by rw [e2]; exact List.mem_map_of_mem (f := Prod.fst) e1)), ih hnd.2 e1]
  rw [h] at hg
  cases hg
  simp [hx]
theorem nmI_letter : ∀ r < 5, validB (nm1 (UInt8.ofNat (97 + r))).data.toList = true ∧ (nm1 (UInt8.ofNat (97 + r))).size ≤ 10 := by decide +kernel
theorem names_crash {picks : List Int} (h : NmI d cs) {k : Nat} (hk : pickN picks 0 cs.length = k) : (d.crash picks).names = applyAll [] (cs.take k) := by
  show applyAll d.kept (d.changes.take (pickN picks 0 d.changes.length)) = _
  rw [h.kept, h.chs, hk]
theorem names_again (picks picks2 : List Int) : ((d.crash picks).crash picks2).names = (d.crash picks).names := by
  show applyAll (d.crash picks).kept ((d.crash picks).changes.take _) = _
  show applyAll (d.crash picks).names (([] : List Chg).take _) = _
  rw [List.take_nil]
  rfl
theorem sizes_take (h : NmI d cs) (k : Nat) : ∀ x ∈ keysOf (applyAll [] (cs.take k)), x.size ≤ 1000000 := fun x hx => by
  rcases all_keys hx with h1 | ⟨c, hc, rfl⟩
  · simp [keysOf] at h1
  · have := h.small c (List.mem_of_mem_take hc); omega
theorem Mem.famRd {es : List (Nat × Value)} {m : List (Nat × List ByteArray)} (_ : Mem g w L) (i : Nat) (hi : L[i]? = some (famC rdT es m)) {k : Nat} {v : Value} {l : List ByteArray} (ha : aget es k = some v) (hb : aget m k = some l) : Rd g L v (textsL l) := Ens.fam i hi ha hb fun _ _ h => h.1
set_option maxRecDepth 100000 in
set_option maxHeartbeats 1000000 in
theorem diskNames_sl (hE : ErrK ad g) (hs : Mem g w []) {a0 : Option Addr} {n0 c0 : Nat} {l : List Int} {pick : Int} (h0 : Came g (.slice a0 n0 c0) (intsL l)) (e0 : n0 = l.length) : Calls Tryd.prog 10 #[.slice a0 n0 c0, .int .i64 pick] w (Ret fun v w' => v = .bool true ∧ Mem g w' []) := by
  subst e0
  refine calls_cw Tryd.func10 rfl rfl ?_
  skip
  refine cw_seq ?_
  refine cw_region ?_
  first | refine lw_val rfl (run_assign (v := .bool _) rfl) ?_
  refine lw_nil ?_
  refine cw_seq ?_
  refine cw_region ?_
  refine lw_call rfl en48 (first4_sl hE hs) ?_
  clear hs
  rintro _ w ⟨rfl, hs⟩
  first | refine lw_val rfl (run_assign (v := .bool _) rfl) ?_
  refine lw_nil ?_
  refine cw_seq ?_
  refine cw_seq ?_
  refine cw_region ?_
  first | refine lw_val rfl (run_move (v := .bool _) rfl) ?_
  refine lw_val rfl (run_not rfl) ?_
  refine lw_nil ?_
  refine cw_iff rfl (not_f (rfl)) ?_
  refine cw_skip ?_
  refine cw_seq ?_
  refine cw_seq ?_
  refine cw_region ?_
  first | refine lw_val rfl (run_move (v := .slice _ _ _) rfl) ?_
  refine lw_val rfl (run_lenS Tryd.underlying63 rfl) ?_
  refine lw_val rfl (run_gtr rfl rfl) ?_
  first | refine lw_val rfl (run_move (v := .bool _) rfl) ?_
  refine lw_split (t := _) (d := 21) rfl ?_ ?_
  · intro h20
    have g20 := of_decide_eq_true h20
    refine lw_off rfl rfl rfl h20 ?_
    refine lw_off rfl rfl rfl h20 ?_
    first | refine lw_val rfl (run_pickT (v := .bool _) rfl h20 rfl) ?_
    refine lw_nil ?_
    refine cw_ift rfl rfl ?_
    refine cw_seq ?_
    refine cw_region ?_
    first | refine lw_val rfl (run_move (v := .bool _) rfl) ?_
    first | refine lw_val rfl (run_assign (v := .bool _) rfl) ?_
    refine lw_nil ?_
    refine cw_ret ?_
    refine res1 (v := .bool _) rfl rfl ?_
    exact ⟨_, rfl, rfl, hs⟩
  · intro h20
    have g20 := of_decide_eq_false h20
    refine lw_on rfl rfl h20 ?_
    first | refine lw_val rfl (run_move (v := .bool _) rfl) ?_
    refine lw_on rfl rfl h20 ?_
    refine lw_val rfl (run_not rfl) ?_
    first | refine lw_val rfl (run_pickF (v := .bool _) rfl h20 rfl) ?_
    refine lw_nil ?_
    refine cw_iff rfl (not_f (rfl)) ?_
    refine cw_skip ?_
    refine cw_seq ?_
    refine cw_region ?_
    refine lw_call rfl en26 (newd_sl hs (r := 100) (by decide) (by decide)) ?_
    clear hs
    rintro _ w ⟨p, rfl, hs⟩
    first | refine lw_val rfl (run_move (v := .tuple _) rfl) ?_
    first | refine lw_val rfl (run_extract (v := .pointer (some _)) rfl rfl) ?_ | refine lw_val rfl (run_extract (v := .pointer none) rfl rfl) ?_
    first | refine lw_val rfl (run_extract (v := errV ad _) rfl rfl) ?_ | refine lw_val rfl (run_extract (v := .nilIface) rfl rfl) ?_ | refine lw_val rfl (run_extract (v := eV ad _ _) rfl rfl) ?_ | refine lw_val rfl (run_extract (v := .iface _ (.pointer (some _))) rfl rfl) ?_
    first | refine lw_val rfl (run_assign (v := .pointer (some _)) rfl) ?_ | refine lw_val rfl (run_assign (v := .pointer none) rfl) ?_
    first | refine lw_val rfl (run_assign (v := errV ad _) rfl) ?_ | refine lw_val rfl (run_assign (v := .nilIface) rfl) ?_ | refine lw_val rfl (run_assign (v := eV ad _ _) rfl) ?_ | refine lw_val rfl (run_assign (v := .iface _ (.pointer (some _))) rfl) ?_
    refine lw_nil ?_
    refine cw_seq ?_
    refine cw_seq ?_
    refine cw_region ?_
    first | refine lw_val rfl (run_move (v := .pointer (some _)) rfl) ?_ | refine lw_val rfl (run_move (v := .pointer none) rfl) ?_
    refine lw_val rfl (run_eqpn Tryd.underlying45 rfl rfl) ?_
    first | refine lw_val rfl (run_move (v := .bool _) rfl) ?_
    refine lw_on rfl rfl rfl ?_
    first | refine lw_val rfl (run_move (v := errV ad _) rfl) ?_ | refine lw_val rfl (run_move (v := .nilIface) rfl) ?_ | refine lw_val rfl (run_move (v := eV ad _ _) rfl) ?_ | refine lw_val rfl (run_move (v := .iface _ (.pointer (some _))) rfl) ?_
    refine lw_on rfl rfl rfl ?_
    first | refine lw_val rfl (run_neerrn (ad := ad) rfl) ?_ | refine lw_val rfl (run_nenn rfl) ?_ | refine lw_val rfl (run_neE (ad := ad) rfl) ?_
    first | refine lw_val rfl (run_pickF (v := .bool _) rfl rfl rfl) ?_
    refine lw_nil ?_
    refine cw_iff rfl (rfl) ?_
    refine cw_skip ?_
    refine cw_seq ?_
    refine cw_region ?_
    first | refine lw_val rfl (run_assign (v := .slice _ _ _) rfl) ?_
    refine lw_nil ?_
    refine cw_seq ?_
    replace hs := hs.addE (own_nil _)
    refine cw_region ?_
    first | refine lw_val rfl (run_move (v := .slice _ _ _) rfl) ?_
    first | refine lw_val rfl (run_move (v := .pointer (some _)) rfl) ?_ | refine lw_val rfl (run_move (v := .pointer none) rfl) ?_
    refine lw_call rfl en44 (list_sl (L := own _ _ :: []) (hs.arr [1, 0] 2 (by decide)) (fun x hx => by simp [Dk.empty, keysOf] at hx) (by decide)) ?_
    clear hs
    rintro _ w ⟨a38, c38, rfl, hs⟩
    refine lw_buildSlice hs rfl ([.slice a38 (stL [] 0).length c38]) Tryd.underlying82 zs69 rfl (by simp [Value.cells]) rfl rfl rfl ?_
    clear hs
    intro b39 w hs
    try simp only [List.set_cons_succ, List.set_cons_zero] at hs
    refine lw_append hs rfl 3 rfl Tryd.underlying82 in69 rfl rfl rfl (src_of_seq (P := Tryd.prog) Tryd.underlying82 ((Rd.cells (n := 1) (cs := [.slice a38 (stL [] 0).length c38]) 0 rfl rfl).seq hs) (fun u hu => by simp at hu; subst hu; rfl)) (by simp) (by simp) ?_
    clear hs
    intro a40 c40 w hs
    simp only [List.set_cons_succ, List.set_cons_zero] at hs
    first | refine lw_val rfl (run_assign (v := .slice _ _ _) rfl) ?_
    refine lw_nil ?_
    have h1 : Mem g w [rdT (.slice a38 (stL [] 0).length c38) (stL [] 0), own (.slice a40 (([] : List Value).length + [Value.slice a38 (stL [] 0).length c38].length) c40) ([] ++ [Value.slice a38 (stL [] 0).length c38]), DiskC p (Dk.empty 100)] := (hs.ownRd 1 rfl).arr [1, 3, 2] 4 (by decide)
    have h2 := Mem.famPut (R := rdT) (k := (0 : Nat)) (X := fun _ => False) (l := []) (m := []) ((h1.addE (famC_nil _)).arr [1, 2, 3, 0] 4 (by decide)) 2 rfl (fun _ h => h.elim)
    clear hs h1
    have hs : Mem g w [own (.slice a40 1 c40) ([(0, Value.slice a38 (stL [] 0).length c38)].map (·.2)), DiskC p (Dk.empty 100), famC rdT [(0, Value.slice a38 (stL [] 0).length c38)] (stM [])] := h2
    clear h2
    refine cw_seq ?_
    refine cw_seq ?_
    refine cw_region ?_
    first | refine lw_val rfl (run_assign (v := .int .i64 _) rfl) ?_
    refine lw_nil ?_
    refine cw_block ?_
    refine cw_loop (X := Nat × Dk × List Chg × List (Nat × Value) × Option Addr × Nat) [8, 9, 10, 11, 12, 41, 42, 43, 44, 45, 46, 47, 48, 49, 50, 51, 52, 53, 54, 55, 56, 57, 58, 59, 60, 61, 62, 63, 64, 65, 66, 67, 68, 69, 70, 71, 72, 73, 74, 75, 76, 77, 78, 79, 80, 81, 82, 83, 84, 85, 86, 87, 88, 89, 90, 91, 92] (fun x => [(8, .slice x.2.2.2.2.1 (x.2.2.1.length + 1) x.2.2.2.2.2), (9, .int .i64 (x.1 : Nat))]) (fun x w => x.1 ≤ l.length ∧ x.2.2.1.length ≤ x.1 ∧ NmI x.2.1 x.2.2.1 ∧ keysOf x.2.2.2.1 = List.range (x.2.2.1.length + 1) ∧ Mem g w [own (.slice x.2.2.2.2.1 (x.2.2.1.length + 1) x.2.2.2.2.2) (x.2.2.2.1.map (·.2)), DiskC p x.2.1, famC rdT x.2.2.2.1 (stM x.2.2.1)]) (fun x => l.length - x.1) ((0, Dk.empty 100, [], [(0, Value.slice a38 (stL [] 0).length c38)], a40, c40)) ?_ ?_ ?_
    · exact ⟨rfl, rfl, trivial⟩
    · exact ⟨Nat.zero_le _, Nat.le_refl _, ⟨Dk.empty_ok (by decide), rfl, rfl, rfl, rfl, rfl, rfl, fun c hc => by simp at hc⟩, rfl, hs⟩
    clear hs
    rintro x ξ w hI
    obtain ⟨i, d, cs, es, sa, sc⟩ := x
    obtain ⟨hi, hci, hI, hes, hs⟩ := hI
    simp only at hi hci hI hes hs
    have hcl := hI.calls
    show cw _ _ _ _ _ _ (updL (mix _ ξ _) [(8, .slice sa (cs.length + 1) sc), (9, .int .i64 (i : Nat))]) w
    refine cw_seq ?_
    refine cw_seq ?_
    refine cw_region ?_
    first | refine lw_val rfl (run_move (v := .int .i64 _) rfl) ?_
    first | refine lw_val rfl (run_move (v := .slice _ _ _) rfl) ?_
    refine lw_val rfl (run_lenS Tryd.underlying63 rfl) ?_
    refine lw_val rfl (run_lss rfl rfl) ?_
    refine lw_nil ?_
    refine cw_if rfl ?_ ?_
    · intro h44
      have g44 := of_decide_eq_true h44
      obtain ⟨z, hz⟩ : ∃ z, l[i]? = some z := ⟨_, List.getElem?_eq_getElem (by omega)⟩
      obtain ⟨b1, o1, rfl, _⟩ := (h0.rd _).cells' hs (by rw [intsL_len]; omega)
      refine cw_skip ?_
      refine cw_seq ?_
      refine cw_block ?_
      refine cw_seq ?_
      refine cw_region ?_
      first | refine lw_val rfl (run_move (v := .slice _ _ _) rfl) ?_
      first | refine lw_val rfl (run_move (v := .int .i64 _) rfl) ?_
      refine lw_val rfl (run_indexAddr Tryd.underlying63 sz3 rfl rfl rfl (by omega) rfl) ?_
      refine lw_val rfl (run_load Tryd.underlying3 rfl rfl ((h0.rd _).cellAt hs (intsL_at hz))) ?_
      refine lw_call rfl en40 (number_sl hs z 5 (by decide)) ?_
      clear hs
      rintro _ w ⟨r1, hr1, rfl, hs⟩
      refine lw_val rfl (run_add64 rfl rfl (c := ((97 + r1 : Nat) : Int)) (by omega) (inI (by omega) (by omega))) ?_
      refine lw_val rfl (run_convIn Tryd.underlying3 Tryd.underlying5 rfl (c := (((UInt8.ofNat (97 + r1)).toNat : Nat) : Int)) (wrapU8 (by omega))) ?_
      refine lw_buildSlice hs rfl ((bytesL [UInt8.ofNat (97 + r1)])) Tryd.underlying23 zs5 rfl (cells_one (bytesL_one _)) rfl rfl rfl ?_
      clear hs
      intro b54 w hs
      try simp only [List.set_cons_succ, List.set_cons_zero] at hs
      refine lw_val rfl (run_bytesStr Tryd.underlying23 Tryd.underlying5 Tryd.underlying9 rfl (l := [UInt8.ofNat (97 + r1)]) rfl (fun j v hj => by rw [Nat.zero_add]; exact hs.cellAt 0 rfl hj)) ?_
      replace hs := hs.tail
      first | refine lw_val rfl (run_assign (v := .string _) rfl) ?_
      refine lw_nil ?_
      refine cw_seq ?_
      refine cw_region ?_
      first | refine lw_val rfl (run_move (v := .slice _ _ _) rfl) ?_
      first | refine lw_val rfl (run_move (v := .int .i64 _) rfl) ?_
      refine lw_val rfl (run_indexAddr Tryd.underlying63 sz3 rfl rfl rfl (by omega) rfl) ?_
      refine lw_val rfl (run_load Tryd.underlying3 rfl rfl ((h0.rd _).cellAt hs (intsL_at hz))) ?_
      refine lw_val rfl (run_quo rfl rfl (by decide)) ?_
      refine lw_call rfl en40 (number_sl hs _ 5 (by decide)) ?_
      clear hs
      rintro _ w ⟨r2, hr2, rfl, hs⟩
      refine lw_val rfl (run_add64 rfl rfl (c := ((97 + r2 : Nat) : Int)) (by omega) (inI (by omega) (by omega))) ?_
      refine lw_val rfl (run_convIn Tryd.underlying3 Tryd.underlying5 rfl (c := (((UInt8.ofNat (97 + r2)).toNat : Nat) : Int)) (wrapU8 (by omega))) ?_
      refine lw_buildSlice hs rfl ((bytesL [UInt8.ofNat (97 + r2)])) Tryd.underlying23 zs5 rfl (cells_one (bytesL_one _)) rfl rfl rfl ?_
      clear hs
      intro b64 w hs
      try simp only [List.set_cons_succ, List.set_cons_zero] at hs
      refine lw_val rfl (run_bytesStr Tryd.underlying23 Tryd.underlying5 Tryd.underlying9 rfl (l := [UInt8.ofNat (97 + r2)]) rfl (fun j v hj => by rw [Nat.zero_add]; exact hs.cellAt 0 rfl hj)) ?_
      replace hs := hs.tail
      first | refine lw_val rfl (run_assign (v := .string _) rfl) ?_
      refine lw_nil ?_
      refine cw_seq ?_
      refine cw_region ?_
      first | refine lw_val rfl (run_assign (v := errV ad _) rfl) ?_ | refine lw_val rfl (run_assign (v := .nilIface) rfl) ?_ | refine lw_val rfl (run_assign (v := eV ad _ _) rfl) ?_ | refine lw_val rfl (run_assign (v := .iface _ (.pointer (some _))) rfl) ?_
      refine lw_nil ?_
      refine cw_seq ?_
      refine cw_seq ?_
      refine cw_region ?_
      first | refine lw_val rfl (run_move (v := .slice _ _ _) rfl) ?_
      first | refine lw_val rfl (run_move (v := .int .i64 _) rfl) ?_
      refine lw_val rfl (run_indexAddr Tryd.underlying63 sz3 rfl rfl rfl (by omega) rfl) ?_
      refine lw_val rfl (run_load Tryd.underlying3 rfl rfl ((h0.rd _).cellAt hs (intsL_at hz))) ?_
      refine lw_val rfl (run_quo rfl rfl (by decide)) ?_
      refine lw_call rfl en40 (number_sl hs _ 3 (by decide)) ?_
      clear hs
      rintro _ w ⟨r3, hr3, rfl, hs⟩
      replace hs := hs.arr [1, 0, 2] 3 (by decide)
      refine lw_nil ?_
      refine cw_block ?_
      refine cw_seq ?_
      refine cw_region ?_
      refine lw_val rfl (run_eqi rfl rfl) ?_
      first | refine lw_val rfl (run_assign (v := .bool _) rfl) ?_
      refine lw_nil ?_
      refine cw_if rfl ?_ ?_
      · intro h77
        have g77 := of_decide_eq_true h77
        obtain ⟨k, e, hop, hdid⟩ := hI.create (n := nm1 (UInt8.ofNat (97 + r1))) (nmI_letter r1 (by omega)).1 (nmI_letter r1 (by omega)).2
        refine cw_region ?_
        first | refine lw_val rfl (run_move (v := .pointer (some _)) rfl) ?_ | refine lw_val rfl (run_move (v := .pointer none) rfl) ?_
        first | refine lw_val rfl (run_move (v := .string _) rfl) ?_
        refine lw_call rfl en29 (create_sl hE hs (by omega) (nm1 (UInt8.ofNat (97 + r1))) hop) ?_
        clear hs
        rintro _ w ⟨rfl, hs⟩
        first | refine lw_val rfl (run_assign (v := errV ad _) rfl) ?_ | refine lw_val rfl (run_assign (v := .nilIface) rfl) ?_ | refine lw_val rfl (run_assign (v := eV ad _ _) rfl) ?_ | refine lw_val rfl (run_assign (v := .iface _ (.pointer (some _))) rfl) ?_
        refine lw_nil ?_
        refine cw_seq ?_
        refine cw_region ?_
        first | refine lw_val rfl (run_move (v := errV ad _) rfl) ?_ | refine lw_val rfl (run_move (v := .nilIface) rfl) ?_ | refine lw_val rfl (run_move (v := eV ad _ _) rfl) ?_ | refine lw_val rfl (run_move (v := .iface _ (.pointer (some _))) rfl) ?_
        first | refine lw_val rfl (run_eqerrn (ad := ad) rfl) ?_ | refine lw_val rfl (run_eqnn rfl) ?_ | refine lw_val rfl (run_eqE (ad := ad) rfl) ?_
        refine lw_nil ?_
        refine cw_if rfl ?_ ?_
        · intro h87
          have g87 := of_decide_eq_true h87
          have hk0 := of_decide_eq_true h87
          obtain ⟨_, ch, hst⟩ := hdid.resolve_left (fun h => h.1 hk0)
          obtain ⟨hok, _⟩ := hs.openD
          have hN := hI.next hst hok
          have hnl := hok.nl
          have hec := hst.calls
          have hst2 : sortT (keysOf e.names) = stL (cs ++ [ch]) (cs.length + 1) := by rw [hN.nms, stL, List.take_of_length_le (by simp)]
          refine cw_region ?_
          first | refine lw_val rfl (run_move (v := .slice _ _ _) rfl) ?_
          first | refine lw_val rfl (run_move (v := .pointer (some _)) rfl) ?_ | refine lw_val rfl (run_move (v := .pointer none) rfl) ?_
          refine lw_call rfl en44 (list_sl hs hN.sizes (by omega)) ?_
          clear hs
          rintro _ w ⟨a90, c90, rfl, hs⟩
          rw [hst2] at hs ⊢
          refine lw_buildSlice hs rfl ([.slice a90 (stL (cs ++ [ch]) (cs.length + 1)).length c90]) Tryd.underlying82 zs69 rfl (by simp [Value.cells]) rfl rfl rfl ?_
          clear hs
          intro b91 w hs
          try simp only [List.set_cons_succ, List.set_cons_zero] at hs
          refine lw_append hs rfl 3 rfl Tryd.underlying82 in69 rfl rfl rfl (src_of_seq (P := Tryd.prog) Tryd.underlying82 ((Rd.cells (n := 1) (cs := [.slice a90 (stL (cs ++ [ch]) (cs.length + 1)).length c90]) 0 rfl rfl).seq hs) (fun u hu => by simp at hu; subst hu; rfl)) (by have h1 := congrArg List.length hes; simp [keysOf] at h1; simp; omega) (by have h1 := congrArg List.length hes; simp [keysOf] at h1; simp; omega) ?_
          clear hs
          intro a92 c92 w hs
          simp only [List.set_cons_succ, List.set_cons_zero] at hs
          first | refine lw_val rfl (run_assign (v := .slice _ _ _) rfl) ?_
          refine lw_nil ?_
          refine cw_region ?_
          first | refine lw_val rfl (run_move (v := .int .i64 _) rfl) ?_
          refine lw_val rfl (run_add64 rfl rfl rfl (inI (by omega) (by omega))) ?_
          first | refine lw_val rfl (run_assign (v := .int .i64 _) rfl) ?_
          refine lw_nil ?_
          have hel : (es.map (·.2)).length = cs.length + 1 := by have h1 := congrArg List.length hes; simpa [keysOf] using h1
          have h1 : Mem g w [rdT (.slice a90 (stL (cs ++ [ch]) (cs.length + 1)).length c90) (stL (cs ++ [ch]) (cs.length + 1)), own (.slice a92 ((es.map (·.2)).length + [Value.slice a90 (stL (cs ++ [ch]) (cs.length + 1)).length c90].length) c92) (es.map (·.2) ++ [Value.slice a90 (stL (cs ++ [ch]) (cs.length + 1)).length c90]), DiskC p e, famC rdT es (stM cs)] := (hs.ownRd 1 rfl).arr [1, 3, 2, 4] 5 (by decide)
          have h2 := Mem.famPut (R := rdT) (k := cs.length + 1) (X := fun _ => False) h1 2 rfl (fun _ h => h.elim)
          rw [aput_end (by rw [hes]; simp), aput_end (l := stM cs) (by rw [stM_keys]; simp), ← stM_snoc] at h2
          have e1 : (es.map (·.2)).length + [Value.slice a90 (stL (cs ++ [ch]) (cs.length + 1)).length c90].length = (cs ++ [ch]).length + 1 := by rw [hel]; simp
          have e2 : es.map (·.2) ++ [Value.slice a90 (stL (cs ++ [ch]) (cs.length + 1)).length c90] = (es ++ [(cs.length + 1, Value.slice a90 (stL (cs ++ [ch]) (cs.length + 1)).length c90)]).map (·.2) := by simp
          have h3 : Mem g w [own (.slice a92 ((cs ++ [ch]).length + 1) c92) ((es ++ [(cs.length + 1, Value.slice a90 (stL (cs ++ [ch]) (cs.length + 1)).length c90)]).map (·.2)), DiskC p e, famC rdT (es ++ [(cs.length + 1, Value.slice a90 (stL (cs ++ [ch]) (cs.length + 1)).length c90)]) (stM (cs ++ [ch]))] := by rw [← e1, ← e2]; exact h2
          exact ⟨(i + 1, e, cs ++ [ch], es ++ [(cs.length + 1, Value.slice a90 (stL (cs ++ [ch]) (cs.length + 1)).length c90)], a92, c92), by simp only; omega, ⟨by simp only; omega, by simp; omega, hN, by simp only [keysOf, List.map_append, List.map_cons, List.map_nil, List.length_append, List.length_cons, List.length_nil]; rw [show List.map (fun x => x.1) es = List.range (cs.length + 1) from hes, List.range_succ (n := cs.length + 1)], h3⟩, ⟨show Value.slice a92 ((es.map (·.2)).length + [Value.slice a90 (stL (cs ++ [ch]) (cs.length + 1)).length c90].length) c92 = Value.slice a92 ((cs ++ [ch]).length + 1) c92 from by rw [e1], rfl, trivial⟩, by repeat (first | exact Out.mix _ _ _ | refine Out.updo rfl ?_ | refine Out.upd rfl ?_ | refine Out.mixIn rfl ?_)⟩
        · intro h87
          have g87 := of_decide_eq_false h87
          have hk0 := of_decide_eq_false h87
          obtain ⟨_, _, he⟩ := hdid.resolve_right (fun h => hk0 h.1)
          subst he
          refine cw_skip ?_
          refine cw_region ?_
          first | refine lw_val rfl (run_move (v := .int .i64 _) rfl) ?_
          refine lw_val rfl (run_add64 rfl rfl rfl (inI (by omega) (by omega))) ?_
          first | refine lw_val rfl (run_assign (v := .int .i64 _) rfl) ?_
          refine lw_nil ?_
          exact ⟨(i + 1, e, cs, es, sa, sc), by simp only; omega, ⟨by simp only; omega, by simp only; omega, hI, hes, hs.arr [1, 0, 2] 3 (by decide)⟩, ⟨rfl, rfl, trivial⟩, by repeat (first | exact Out.mix _ _ _ | refine Out.updo rfl ?_ | refine Out.upd rfl ?_ | refine Out.mixIn rfl ?_)⟩
      · intro h77
        have g77 := of_decide_eq_false h77
        refine cw_seq ?_
        refine cw_region ?_
        refine lw_val rfl (run_eqi rfl rfl) ?_
        first | refine lw_val rfl (run_assign (v := .bool _) rfl) ?_
        refine lw_nil ?_
        refine cw_if rfl ?_ ?_
        · intro h82
          have g82 := of_decide_eq_true h82
          obtain ⟨k, e, hop, hdid⟩ := hI.remove (nm1 (UInt8.ofNat (97 + r1)))
          refine cw_region ?_
          first | refine lw_val rfl (run_move (v := .pointer (some _)) rfl) ?_ | refine lw_val rfl (run_move (v := .pointer none) rfl) ?_
          first | refine lw_val rfl (run_move (v := .string _) rfl) ?_
          refine lw_call rfl en49 (remove_sl hE hs (by omega) (nm1 (UInt8.ofNat (97 + r1))) hop) ?_
          clear hs
          rintro _ w ⟨rfl, hs⟩
          first | refine lw_val rfl (run_assign (v := errV ad _) rfl) ?_ | refine lw_val rfl (run_assign (v := .nilIface) rfl) ?_ | refine lw_val rfl (run_assign (v := eV ad _ _) rfl) ?_ | refine lw_val rfl (run_assign (v := .iface _ (.pointer (some _))) rfl) ?_
          refine lw_nil ?_
          refine cw_seq ?_
          refine cw_region ?_
          first | refine lw_val rfl (run_move (v := errV ad _) rfl) ?_ | refine lw_val rfl (run_move (v := .nilIface) rfl) ?_ | refine lw_val rfl (run_move (v := eV ad _ _) rfl) ?_ | refine lw_val rfl (run_move (v := .iface _ (.pointer (some _))) rfl) ?_
          first | refine lw_val rfl (run_eqerrn (ad := ad) rfl) ?_ | refine lw_val rfl (run_eqnn rfl) ?_ | refine lw_val rfl (run_eqE (ad := ad) rfl) ?_
          refine lw_nil ?_
          refine cw_if rfl ?_ ?_
          · intro h87
            have g87 := of_decide_eq_true h87
            have hk0 := of_decide_eq_true h87
            obtain ⟨_, ch, hst⟩ := hdid.resolve_left (fun h => h.1 hk0)
            obtain ⟨hok, _⟩ := hs.openD
            have hN := hI.next hst hok
            have hnl := hok.nl
            have hec := hst.calls
            have hst2 : sortT (keysOf e.names) = stL (cs ++ [ch]) (cs.length + 1) := by rw [hN.nms, stL, List.take_of_length_le (by simp)]
            refine cw_region ?_
            first | refine lw_val rfl (run_move (v := .slice _ _ _) rfl) ?_
            first | refine lw_val rfl (run_move (v := .pointer (some _)) rfl) ?_ | refine lw_val rfl (run_move (v := .pointer none) rfl) ?_
            refine lw_call rfl en44 (list_sl hs hN.sizes (by omega)) ?_
            clear hs
            rintro _ w ⟨a90, c90, rfl, hs⟩
            rw [hst2] at hs ⊢
            refine lw_buildSlice hs rfl ([.slice a90 (stL (cs ++ [ch]) (cs.length + 1)).length c90]) Tryd.underlying82 zs69 rfl (by simp [Value.cells]) rfl rfl rfl ?_
            clear hs
            intro b91 w hs
            try simp only [List.set_cons_succ, List.set_cons_zero] at hs
            refine lw_append hs rfl 3 rfl Tryd.underlying82 in69 rfl rfl rfl (src_of_seq (P := Tryd.prog) Tryd.underlying82 ((Rd.cells (n := 1) (cs := [.slice a90 (stL (cs ++ [ch]) (cs.length + 1)).length c90]) 0 rfl rfl).seq hs) (fun u hu => by simp at hu; subst hu; rfl)) (by have h1 := congrArg List.length hes; simp [keysOf] at h1; simp; omega) (by have h1 := congrArg List.length hes; simp [keysOf] at h1; simp; omega) ?_
            clear hs
            intro a92 c92 w hs
            simp only [List.set_cons_succ, List.set_cons_zero] at hs
            first | refine lw_val rfl (run_assign (v := .slice _ _ _) rfl) ?_
            refine lw_nil ?_
            refine cw_region ?_
            first | refine lw_val rfl (run_move (v := .int .i64 _) rfl) ?_
            refine lw_val rfl (run_add64 rfl rfl rfl (inI (by omega) (by omega))) ?_
            first | refine lw_val rfl (run_assign (v := .int .i64 _) rfl) ?_
            refine lw_nil ?_
            have hel : (es.map (·.2)).length = cs.length + 1 := by have h1 := congrArg List.length hes; simpa [keysOf] using h1
            have h1 : Mem g w [rdT (.slice a90 (stL (cs ++ [ch]) (cs.length + 1)).length c90) (stL (cs ++ [ch]) (cs.length + 1)), own (.slice a92 ((es.map (·.2)).length + [Value.slice a90 (stL (cs ++ [ch]) (cs.length + 1)).length c90].length) c92) (es.map (·.2) ++ [Value.slice a90 (stL (cs ++ [ch]) (cs.length + 1)).length c90]), DiskC p e, famC rdT es (stM cs)] := (hs.ownRd 1 rfl).arr [1, 3, 2, 4] 5 (by decide)
            have h2 := Mem.famPut (R := rdT) (k := cs.length + 1) (X := fun _ => False) h1 2 rfl (fun _ h => h.elim)
            rw [aput_end (by rw [hes]; simp), aput_end (l := stM cs) (by rw [stM_keys]; simp), ← stM_snoc] at h2
            have e1 : (es.map (·.2)).length + [Value.slice a90 (stL (cs ++ [ch]) (cs.length + 1)).length c90].length = (cs ++ [ch]).length + 1 := by rw [hel]; simp
            have e2 : es.map (·.2) ++ [Value.slice a90 (stL (cs ++ [ch]) (cs.length + 1)).length c90] = (es ++ [(cs.length + 1, Value.slice a90 (stL (cs ++ [ch]) (cs.length + 1)).length c90)]).map (·.2) := by simp
            have h3 : Mem g w [own (.slice a92 ((cs ++ [ch]).length + 1) c92) ((es ++ [(cs.length + 1, Value.slice a90 (stL (cs ++ [ch]) (cs.length + 1)).length c90)]).map (·.2)), DiskC p e, famC rdT (es ++ [(cs.length + 1, Value.slice a90 (stL (cs ++ [ch]) (cs.length + 1)).length c90)]) (stM (cs ++ [ch]))] := by rw [← e1, ← e2]; exact h2
            exact ⟨(i + 1, e, cs ++ [ch], es ++ [(cs.length + 1, Value.slice a90 (stL (cs ++ [ch]) (cs.length + 1)).length c90)], a92, c92), by simp only; omega, ⟨by simp only; omega, by simp; omega, hN, by simp only [keysOf, List.map_append, List.map_cons, List.map_nil, List.length_append, List.length_cons, List.length_nil]; rw [show List.map (fun x => x.1) es = List.range (cs.length + 1) from hes, List.range_succ (n := cs.length + 1)], h3⟩, ⟨show Value.slice a92 ((es.map (·.2)).length + [Value.slice a90 (stL (cs ++ [ch]) (cs.length + 1)).length c90].length) c92 = Value.slice a92 ((cs ++ [ch]).length + 1) c92 from by rw [e1], rfl, trivial⟩, by repeat (first | exact Out.mix _ _ _ | refine Out.updo rfl ?_ | refine Out.upd rfl ?_ | refine Out.mixIn rfl ?_)⟩
          · intro h87
            have g87 := of_decide_eq_false h87
            have hk0 := of_decide_eq_false h87
            obtain ⟨_, _, he⟩ := hdid.resolve_right (fun h => hk0 h.1)
            subst he
            refine cw_skip ?_
            refine cw_region ?_
            first | refine lw_val rfl (run_move (v := .int .i64 _) rfl) ?_
            refine lw_val rfl (run_add64 rfl rfl rfl (inI (by omega) (by omega))) ?_
            first | refine lw_val rfl (run_assign (v := .int .i64 _) rfl) ?_
            refine lw_nil ?_
            exact ⟨(i + 1, e, cs, es, sa, sc), by simp only; omega, ⟨by simp only; omega, by simp only; omega, hI, hes, hs.arr [1, 0, 2] 3 (by decide)⟩, ⟨rfl, rfl, trivial⟩, by repeat (first | exact Out.mix _ _ _ | refine Out.updo rfl ?_ | refine Out.upd rfl ?_ | refine Out.mixIn rfl ?_)⟩
        · intro h82
          have g82 := of_decide_eq_false h82
          obtain ⟨k, e, hop, hdid⟩ := hI.rename (n := nm1 (UInt8.ofNat (97 + r1))) (m := nm1 (UInt8.ofNat (97 + r2))) (nmI_letter r2 (by omega)).1 (nmI_letter r2 (by omega)).2
          refine cw_region ?_
          first | refine lw_val rfl (run_move (v := .pointer (some _)) rfl) ?_ | refine lw_val rfl (run_move (v := .pointer none) rfl) ?_
          first | refine lw_val rfl (run_move (v := .string _) rfl) ?_
          first | refine lw_val rfl (run_move (v := .string _) rfl) ?_
          refine lw_call rfl en50 (rename_sl hE hs (by omega) (nm1 (UInt8.ofNat (97 + r1))) (nm1 (UInt8.ofNat (97 + r2))) hop) ?_
          clear hs
          rintro _ w ⟨rfl, hs⟩
          first | refine lw_val rfl (run_assign (v := errV ad _) rfl) ?_ | refine lw_val rfl (run_assign (v := .nilIface) rfl) ?_ | refine lw_val rfl (run_assign (v := eV ad _ _) rfl) ?_ | refine lw_val rfl (run_assign (v := .iface _ (.pointer (some _))) rfl) ?_
          refine lw_nil ?_
          refine cw_seq ?_
          refine cw_region ?_
          first | refine lw_val rfl (run_move (v := errV ad _) rfl) ?_ | refine lw_val rfl (run_move (v := .nilIface) rfl) ?_ | refine lw_val rfl (run_move (v := eV ad _ _) rfl) ?_ | refine lw_val rfl (run_move (v := .iface _ (.pointer (some _))) rfl) ?_
          first | refine lw_val rfl (run_eqerrn (ad := ad) rfl) ?_ | refine lw_val rfl (run_eqnn rfl) ?_ | refine lw_val rfl (run_eqE (ad := ad) rfl) ?_
          refine lw_nil ?_
          refine cw_if rfl ?_ ?_
          · intro h87
            have g87 := of_decide_eq_true h87
            have hk0 := of_decide_eq_true h87
            obtain ⟨_, ch, hst⟩ := hdid.resolve_left (fun h => h.1 hk0)
            obtain ⟨hok, _⟩ := hs.openD
            have hN := hI.next hst hok
            have hnl := hok.nl
            have hec := hst.calls
            have hst2 : sortT (keysOf e.names) = stL (cs ++ [ch]) (cs.length + 1) := by rw [hN.nms, stL, List.take_of_length_le (by simp)]
            refine cw_region ?_
            first | refine lw_val rfl (run_move (v := .slice _ _ _) rfl) ?_
            first | refine lw_val rfl (run_move (v := .pointer (some _)) rfl) ?_ | refine lw_val rfl (run_move (v := .pointer none) rfl) ?_
            refine lw_call rfl en44 (list_sl hs hN.sizes (by omega)) ?_
            clear hs
            rintro _ w ⟨a90, c90, rfl, hs⟩
            rw [hst2] at hs ⊢
            refine lw_buildSlice hs rfl ([.slice a90 (stL (cs ++ [ch]) (cs.length + 1)).length c90]) Tryd.underlying82 zs69 rfl (by simp [Value.cells]) rfl rfl rfl ?_
            clear hs
            intro b91 w hs
            try simp only [List.set_cons_succ, List.set_cons_zero] at hs
            refine lw_append hs rfl 3 rfl Tryd.underlying82 in69 rfl rfl rfl (src_of_seq (P := Tryd.prog) Tryd.underlying82 ((Rd.cells (n := 1) (cs := [.slice a90 (stL (cs ++ [ch]) (cs.length + 1)).length c90]) 0 rfl rfl).seq hs) (fun u hu => by simp at hu; subst hu; rfl)) (by have h1 := congrArg List.length hes; simp [keysOf] at h1; simp; omega) (by have h1 := congrArg List.length hes; simp [keysOf] at h1; simp; omega) ?_
            clear hs
            intro a92 c92 w hs
            simp only [List.set_cons_succ, List.set_cons_zero] at hs
            first | refine lw_val rfl (run_assign (v := .slice _ _ _) rfl) ?_
            refine lw_nil ?_
            refine cw_region ?_
            first | refine lw_val rfl (run_move (v := .int .i64 _) rfl) ?_
            refine lw_val rfl (run_add64 rfl rfl rfl (inI (by omega) (by omega))) ?_
            first | refine lw_val rfl (run_assign (v := .int .i64 _) rfl) ?_
            refine lw_nil ?_
            have hel : (es.map (·.2)).length = cs.length + 1 := by have h1 := congrArg List.length hes; simpa [keysOf] using h1
            have h1 : Mem g w [rdT (.slice a90 (stL (cs ++ [ch]) (cs.length + 1)).length c90) (stL (cs ++ [ch]) (cs.length + 1)), own (.slice a92 ((es.map (·.2)).length + [Value.slice a90 (stL (cs ++ [ch]) (cs.length + 1)).length c90].length) c92) (es.map (·.2) ++ [Value.slice a90 (stL (cs ++ [ch]) (cs.length + 1)).length c90]), DiskC p e, famC rdT es (stM cs)] := (hs.ownRd 1 rfl).arr [1, 3, 2, 4] 5 (by decide)
            have h2 := Mem.famPut (R := rdT) (k := cs.length + 1) (X := fun _ => False) h1 2 rfl (fun _ h => h.elim)
            rw [aput_end (by rw [hes]; simp), aput_end (l := stM cs) (by rw [stM_keys]; simp), ← stM_snoc] at h2
            have e1 : (es.map (·.2)).length + [Value.slice a90 (stL (cs ++ [ch]) (cs.length + 1)).length c90].length = (cs ++ [ch]).length + 1 := by rw [hel]; simp
            have e2 : es.map (·.2) ++ [Value.slice a90 (stL (cs ++ [ch]) (cs.length + 1)).length c90] = (es ++ [(cs.length + 1, Value.slice a90 (stL (cs ++ [ch]) (cs.length + 1)).length c90)]).map (·.2) := by simp
            have h3 : Mem g w [own (.slice a92 ((cs ++ [ch]).length + 1) c92) ((es ++ [(cs.length + 1, Value.slice a90 (stL (cs ++ [ch]) (cs.length + 1)).length c90)]).map (·.2)), DiskC p e, famC rdT (es ++ [(cs.length + 1, Value.slice a90 (stL (cs ++ [ch]) (cs.length + 1)).length c90)]) (stM (cs ++ [ch]))] := by rw [← e1, ← e2]; exact h2
            exact ⟨(i + 1, e, cs ++ [ch], es ++ [(cs.length + 1, Value.slice a90 (stL (cs ++ [ch]) (cs.length + 1)).length c90)], a92, c92), by simp only; omega, ⟨by simp only; omega, by simp; omega, hN, by simp only [keysOf, List.map_append, List.map_cons, List.map_nil, List.length_append, List.length_cons, List.length_nil]; rw [show List.map (fun x => x.1) es = List.range (cs.length + 1) from hes, List.range_succ (n := cs.length + 1)], h3⟩, ⟨show Value.slice a92 ((es.map (·.2)).length + [Value.slice a90 (stL (cs ++ [ch]) (cs.length + 1)).length c90].length) c92 = Value.slice a92 ((cs ++ [ch]).length + 1) c92 from by rw [e1], rfl, trivial⟩, by repeat (first | exact Out.mix _ _ _ | refine Out.updo rfl ?_ | refine Out.upd rfl ?_ | refine Out.mixIn rfl ?_)⟩
          · intro h87
            have g87 := of_decide_eq_false h87
            have hk0 := of_decide_eq_false h87
            obtain ⟨_, _, he⟩ := hdid.resolve_right (fun h => hk0 h.1)
            subst he
            refine cw_skip ?_
            refine cw_region ?_
            first | refine lw_val rfl (run_move (v := .int .i64 _) rfl) ?_
            refine lw_val rfl (run_add64 rfl rfl rfl (inI (by omega) (by omega))) ?_
            first | refine lw_val rfl (run_assign (v := .int .i64 _) rfl) ?_
            refine lw_nil ?_
            exact ⟨(i + 1, e, cs, es, sa, sc), by simp only; omega, ⟨by simp only; omega, by simp only; omega, hI, hes, hs.arr [1, 0, 2] 3 (by decide)⟩, ⟨rfl, rfl, trivial⟩, by repeat (first | exact Out.mix _ _ _ | refine Out.updo rfl ?_ | refine Out.upd rfl ?_ | refine Out.mixIn rfl ?_)⟩
    · intro h44
      have g44 := of_decide_eq_false h44
      refine cw_exit rfl ?_
      refine cw_seq ?_
      refine cw_region ?_
      first | refine lw_val rfl (run_move (v := .int .i64 _) rfl) ?_
      first | refine lw_val rfl (run_move (v := .slice _ _ _) rfl) ?_
      refine lw_val rfl (run_lenS Tryd.underlying82 rfl) ?_
      refine lw_call rfl en40 (numberE_sl hs pick (cs.length + 1) ⟨by omega, by omega⟩) ?_
      clear hs
      rintro _ w ⟨rfl, hs⟩
      obtain ⟨k, hk⟩ : ∃ k, (pick % ((cs.length + 1 : Nat) : Int)).toNat = k := ⟨_, rfl⟩
      rw [hk]
      have hkl : k ≤ cs.length := by have h1 := Int.emod_nonneg pick (b := ((cs.length + 1 : Nat) : Int)) (by omega); have h2 := Int.emod_lt_of_pos pick (b := ((cs.length + 1 : Nat) : Int)) (by omega); omega
      have hpk : pickN [pick] 0 cs.length = k := by rw [← hk]; show (pick % ((cs.length : Int) + 1)).toNat = _; congr 2
      obtain ⟨v, hv⟩ := aget_of_key (l := es) (k := k) (by rw [hes]; simp; omega)
      first | refine lw_val rfl (run_assign (v := .int .i64 _) rfl) ?_
      refine lw_nil ?_
      refine cw_seq ?_
      refine cw_region ?_
      first | refine lw_val rfl (run_move (v := .pointer (some _)) rfl) ?_ | refine lw_val rfl (run_move (v := .pointer none) rfl) ?_
      first | refine lw_val rfl (run_move (v := .int .i64 _) rfl) ?_
      refine lw_buildSlice hs rfl ((intsL [pick])) Tryd.underlying63 zs3 rfl (cells_one (intsL_one _)) rfl rfl rfl ?_
      clear hs
      intro b99 w hs
      try simp only [List.set_cons_succ, List.set_cons_zero] at hs
      refine lw_call rfl en42 (crash_sl (d := d) (L := _ :: _ :: _ :: []) (hs.arr [2, 0, 1, 3] 4 (by decide)) (by omega) (picks := [pick]) (Rd.cells (n := 1) 0 rfl rfl) rfl (show 1 ≤ 1000000000 by decide)) ?_
      clear hs
      rintro _ w ⟨rfl, hs⟩
      have hn1 := names_crash hI hpk
      have hsz := sizes_take hI k
      rw [← hn1] at hsz
      obtain ⟨hokc, _⟩ := hs.openD
      have hnl1 := hokc.nl
      have hcc : (d.crash [pick]).calls = d.calls := rfl
      have hnow : sortT (keysOf (d.crash [pick]).names) = stL cs k := by rw [hn1]; rfl
      refine lw_nil ?_
      refine cw_seq ?_
      refine cw_region ?_
      first | refine lw_val rfl (run_move (v := .pointer (some _)) rfl) ?_ | refine lw_val rfl (run_move (v := .pointer none) rfl) ?_
      refine lw_call rfl en44 (list_sl hs hsz (by omega)) ?_
      clear hs
      rintro _ w ⟨a102, c102, rfl, hs⟩
      rw [hnow] at hs ⊢
      first | refine lw_val rfl (run_assign (v := .slice _ _ _) rfl) ?_
      refine lw_nil ?_
      refine cw_seq ?_
      refine cw_region ?_
      first | refine lw_val rfl (run_move (v := .pointer (some _)) rfl) ?_ | refine lw_val rfl (run_move (v := .pointer none) rfl) ?_
      refine lw_buildSlice hs rfl ((intsL [7, 7, 7])) Tryd.underlying63 zs3 rfl (cells_one (intsL_one _)) rfl rfl rfl ?_
      clear hs
      intro b104 w hs
      try simp only [List.set_cons_succ, List.set_cons_zero] at hs
      refine lw_call rfl en42 (crash_sl (d := d.crash [pick]) (L := _ :: _ :: _ :: _ :: _ :: []) (hs.arr [2, 0, 1, 3, 4, 5] 6 (by decide)) (by omega) (picks := [7, 7, 7]) (Rd.cells (n := 3) 0 rfl rfl) rfl (show 3 ≤ 1000000000 by decide)) ?_
      clear hs
      rintro _ w ⟨rfl, hs⟩
      have hn2 := names_again (d := d) [pick] [7, 7, 7]
      have hrv := hs.famRd 5 rfl hv (stM_get hkl)
      have hsv := hrv.seq hs
      obtain ⟨va, vn, vc, rfl, hvn, _⟩ := id hsv
      rw [textsL_len] at hvn
      obtain ⟨sb, so, rfl, _⟩ := hs.ownCells 4 rfl (by have h1 := congrArg List.length hes; simp [keysOf] at h1; simp; omega)
      refine lw_nil ?_
      refine cw_seq ?_
      refine cw_region ?_
      first | refine lw_val rfl (run_move (v := .slice _ _ _) rfl) ?_
      first | refine lw_val rfl (run_move (v := .slice _ _ _) rfl) ?_
      first | refine lw_val rfl (run_move (v := .int .i64 _) rfl) ?_
      refine lw_val rfl (run_indexAddr Tryd.underlying82 sz69 rfl rfl rfl (by omega) rfl) ?_
      refine lw_val rfl (run_load (v := .slice va vn vc) Tryd.underlying69 rfl rfl (hs.ownAt 4 rfl (es_at hes hv))) ?_
      refine lw_call rfl en45 (sameT_sl hs (la := stL cs k) (lb := stL cs k) (hs.rdOwn 2 rfl) hrv rfl hvn (by rw [stL, sortT_len]; simp only [keysOf, List.length_map]; rw [← hn1]; omega)) ?_
      clear hs
      rintro _ w ⟨rfl, hs⟩
      first | refine lw_val rfl (run_move (v := .bool _) rfl) ?_
      refine lw_on rfl rfl (decide_eq_true rfl) ?_
      first | refine lw_val rfl (run_move (v := .pointer (some _)) rfl) ?_ | refine lw_val rfl (run_move (v := .pointer none) rfl) ?_
      refine lw_on rfl rfl (decide_eq_true rfl) ?_
      refine lw_call rfl en44 (list_sl hs (by rw [hn2]; exact hsz) (by rw [hn2]; omega)) ?_
      clear hs
      rintro _ w ⟨a114, c114, rfl, hs⟩
      rw [hn2, hnow] at hs ⊢
      refine lw_on rfl rfl (decide_eq_true rfl) ?_
      first | refine lw_val rfl (run_move (v := .slice _ _ _) rfl) ?_
      refine lw_on rfl rfl (decide_eq_true rfl) ?_
      refine lw_call rfl en45 (sameT_sl hs (la := stL cs k) (lb := stL cs k) (hs.rdOwn 0 rfl) (hs.rdOwn 3 rfl) rfl rfl (by rw [stL, sortT_len]; simp only [keysOf, List.length_map]; rw [← hn1]; omega)) ?_
      clear hs
      rintro _ w ⟨rfl, hs⟩
      first | refine lw_val rfl (run_pickT (v := .bool _) rfl (decide_eq_true rfl) rfl) ?_
      first | refine lw_val rfl (run_assign (v := .bool _) rfl) ?_
      refine lw_nil ?_
      refine cw_ret ?_
      refine res1 (v := .bool _) rfl rfl ?_
      exact ⟨_, rfl, ret_b (decide_eq_true rfl), hs.nil⟩
end Go.Proofs.YtmnfehbnjgmgjaaDoor
