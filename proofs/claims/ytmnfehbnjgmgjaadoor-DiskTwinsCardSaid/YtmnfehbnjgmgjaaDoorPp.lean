/- Maps whose keys are pointers to what is there. -/
import Derived.Test.YtmnfehbnjgmgjaaDoorDd
namespace Go.Proofs.YtmnfehbnjgmgjaaDoor
set_option linter.all false
open Go.RowKit
open Go.MapKept (Stamped)

def pK (b : Nat) : Value := .pointer (some ⟨b, 0, none⟩)
theorem pK_inj {a b : Nat} (h : pK a = pK b) : a = b := by cases h; rfl
/-- A block of cells is there. -/
def There (w : World) (b : Nat) : Prop := ∃ cs T, w.heap[b]? = some (.cells cs T (0, 0))
section
variable {P : Program} {w : World}
theorem equal_pK {t e : TypeId} {a b q : Nat} (ht : P.underlying t = some (.pointer e)) (hsz : (P.info? e).map (·.size) = some q) (hq : q ≠ 0) (ha : There w a) (hb : There w b) : (Op.equal t (pK a) (pK b)).run P w = .ok (decide (a = b)) w := by
  obtain ⟨ca, ta, ha⟩ := ha
  obtain ⟨cb, tb, hb⟩ := hb
  obtain ⟨inf, hinf, hz⟩ := Option.map_eq_some_iff.1 hsz
  have hs : (sizeOf e).run P w = .ok q w := by simp [sizeOf, typeInfo, hinf, hz]
  show (Op.equalIn 10000 _ _ _).run P w = _
  unfold pK
  rw [Op.equalIn]
  by_cases h : a = b
  · subst h
    simp [run_underlying ht, hs, hq, run_sameAddr_same]
  · have hne : (⟨a, 0, none⟩ : Addr) ≠ ⟨b, 0, none⟩ := fun e => h (by cases e; rfl)
    have hq2 := run_sameAddr_other (P := P) w hne ha hb
    simp [run_underlying ht, hs, hq, h, hq2]
theorem findAsk_get {t e : TypeId} {k q : Nat} (ht : P.underlying t = some (.pointer e)) (hsz : (P.info? e).map (·.size) = some q) (hq : q ≠ 0) (hk : There w k) : ∀ (l : List MapEntry) (es : List (Nat × Value)) (i : Nat), l.map kv = es.map (ekv pK) → (∀ x ∈ keysOf es, There w x) →
    ∃ r, (Instr.findAsking t (pK k) l i).run P w = .ok r w ∧ r.map (·.2) = aget es k
  | [], es, i, h, _ => by
    cases es with
    | nil => exact ⟨none, rfl, rfl⟩
    | cons p es => cases h
  | e1 :: l, es, i, h, hth => by
    cases es with
    | nil => cases h
    | cons p es =>
      obtain ⟨k', v'⟩ := p
      simp only [List.map_cons, List.cons.injEq] at h
      obtain ⟨h1, h2⟩ := h
      simp only [kv, ekv, Prod.mk.injEq] at h1
      obtain ⟨hk1, hv⟩ := h1
      have heq := equal_pK ht hsz hq hk (hth k' (by simp [keysOf]))
      obtain ⟨r, hr, hr2⟩ := findAsk_get ht hsz hq hk l es (i + 1) h2 (fun x hx => hth x (by simp only [keysOf, List.map_cons, List.mem_cons]; exact .inr hx))
      by_cases hkk : k = k'
      · subst hkk
        refine ⟨some (i, e1.val), ?_, by simp [aget, hv]⟩
        unfold Instr.findAsking
        rw [hk1]
        simp [heq]
      · refine ⟨r, ?_, by simp only [aget]; rw [if_neg (fun e => hkk e.symm)]; exact hr2⟩
        unfold Instr.findAsking
        rw [hk1]
        simp [heq, hkk, hr]
theorem findKey_pK {t e : TypeId} {k : Nat} (ht : P.underlying t = some (.pointer e)) (l : List MapEntry) (es : List (Nat × Value)) (h : l.map kv = es.map (ekv pK)) : (Instr.findKey t (pK k) l).run P w = (Instr.findAsking t (pK k) l 0).run P w := by
  cases l with
  | nil => simp [Instr.findKey, run_underlying ht, Instr.findNow, Instr.findAsking]
  | cons e1 l =>
    cases es with
    | nil => cases h
    | cons p es =>
      simp only [List.map_cons, List.cons.injEq, kv, ekv, Prod.mk.injEq] at h
      have hn : Instr.findNow (.pointer e) (pK k) (e1 :: l) 0 = none := by simp [Instr.findNow, Instr.sameNow, pK]
      simp [Instr.findKey, run_underlying ht, hn]
theorem checkKey_pK {t e : TypeId} {k : Nat} (ht : P.underlying t = some (.pointer e)) (em : Bool) (n : Nat) : (Instr.checkKey em (n + 1) t (pK k)).run P w = .ok () w := by
  unfold Instr.checkKey
  simp [run_underlying ht, pK]
end
section
variable {P : Program} {n : Nat} {ops : Array Oper} {rest : List Oper} {K : Env → World → Prop} {ρ : Env} {g w : World} {L : List HP} {dst : Option Tmp} {ty : TypeId} {pos : String} {aft : Array Edge}
theorem run_lookupP {T kt et e : TypeId} {m k q : Nat} {es : List (Nat × Value)} {x y : Operand} (hm : MapAt w pK m es) (hT : P.underlying T = some (.map kt et)) (hk : P.underlying kt = some (.pointer e)) (hsz : (P.info? e).map (·.size) = some q) (hq : q ≠ 0) (hth : ∀ x ∈ keysOf es, There w x) (hkt : There w k) {v : Value} (hz : (P.info? et).map (·.zero) = some (some v)) (hx : ev ρ x = .map (some m)) (hy : ev ρ y = pK k) {o : Option Value} (ho : aget es k = o) :
    (execOp (ev ρ) ⟨dst, .lookup T x y false, ty, pos, aft, none⟩).run P w = .ok (.value (o.getD v)) w := by
  subst ho
  obtain ⟨inf, hinf, hz⟩ := Option.map_eq_some_iff.1 hz
  have hz' : (zeroValue et).run P w = .ok v w := by simp [zeroValue, typeInfo, hinf, hz]
  obtain ⟨arr, clock, hb, he, hs⟩ := hm
  obtain ⟨r, hr, hr2⟩ := findAsk_get hk hsz hq hkt arr.toList es 0 he hth
  have hf : (Instr.findKey kt (pK k) arr.toList).run P w = .ok r w := by rw [findKey_pK hk _ es he]; exact hr
  have : (Instr.lookup T (.map (some m)) (pK k) false).run P w = .ok ((aget es k).getD v) w := by
    rw [← hr2]
    cases r with
    | none => simp [Instr.lookup, run_underlying hT, MapKept.run_getObj_map hb, checkKey_pK hk, hf, hz', Result.andThen]
    | some r => simp [Instr.lookup, run_underlying hT, MapKept.run_getObj_map hb, checkKey_pK hk, hf, Result.andThen]
  simp [execOp, hx, hy, this]
/-- A key that was not there. -/
theorem lw_mapUpdateP (hs : Mem g w L) (i : Nat) {T kt et e : TypeId} {m k q : Nat} {es : List (Nat × Value)} {x y z : Operand} (hi : L[i]? = some (mapC pK m es)) (hT : P.underlying T = some (.map kt et)) (hk : P.underlying kt = some (.pointer e)) (hsz : (P.info? e).map (·.size) = some q) (hq : q ≠ 0) (hth : ∀ x ∈ keysOf es, There w x) (hkt : There w k) {v : Value} (hx : ev ρ x = .map (some m)) (hy : ev ρ y = pK k) (hv : ev ρ z = v) (hn : aget es k = none)
    (h : ∀ w', Mem g w' (L.set i (mapC pK m (es ++ [(k, v)]))) → lw P n ops rest K ρ w') : lw P n ops (⟨none, .mapUpdate T x y z, ty, pos, aft, none⟩ :: rest) K ρ w := by
  obtain ⟨F, ⟨g1, g2⟩, g3⟩ := hs.turn hi
  obtain ⟨arr, clock, hb, he, hst⟩ := id g1
  obtain ⟨r, hr, hr2⟩ := findAsk_get hk hsz hq hkt arr.toList es 0 he hth
  rw [hn] at hr2
  have hrn : r = none := by cases r with
    | none => rfl
    | some r => simp at hr2
  subst hrn
  have hf : (Instr.findKey kt (pK k) arr.toList).run P w = .ok none w := by rw [findKey_pK hk _ es he]; exact hr
  have hrun : (Instr.mapUpdate T (.map (some m)) (pK k) v).run P w = .ok () (w.putObj m (.map (arr.push { key := pK k, val := v, born := clock }) (clock + 1))) := by
    simp [Instr.mapUpdate, run_underlying hT, MapKept.run_getObj_map hb, checkKey_pK hk, hf, MapKept.run_setObj_map _ hb, Result.andThen, World.putObj]
  have hnew : MapAt (w.putObj m (.map (arr.push { key := pK k, val := v, born := clock }) (clock + 1))) pK m (es ++ [(k, v)]) := by
    refine ⟨_, _, heap_putObj_same hb, by simp [he, kv, ekv], MapKept.stamped_push hst fun x hx hxk => ?_⟩
    have h1 : kv x ∈ es.map (ekv pK) := he ▸ List.mem_map_of_mem hx
    obtain ⟨y, hy, e1⟩ := List.mem_map.1 h1
    have h2 : pK y.1 = x.key := congrArg Prod.fst e1
    have h3 := pK_inj (h2.trans hxk)
    exact (aget_none_iff es k).1 hn (h3 ▸ List.mem_map_of_mem (f := Prod.fst) hy)
  refine lw_skip rfl (w' := w.putObj m (.map (arr.push { key := pK k, val := v, born := clock }) (clock + 1))) ?_ (h _ (g3 _ _ F ⟨hnew, g2⟩ (fun _ h => .inl h) ((Keeps.refl _ _).putObj m _ fun _ => (g2 m).2 rfl)))
  simp [execOp, hx, hy, hv, hrun]
end
/-! ### a family of chunks, in another order -/
section
variable {κ α β : Type} [DecidableEq κ] {R : α → β → HP} {g w : World} {L : List HP}
theorem mem_keys_iff {γ : Type} {l : List (κ × γ)} {k : κ} : k ∈ keysOf l ↔ aget l k ≠ none := by
  rw [Ne, aget_none_iff]
  exact Decidable.not_not.symm
theorem Mem.famPerm (hs : Mem g w L) (i : Nat) {l l' : List (κ × α)} {m m' : List (κ × β)} (hi : L[i]? = some (famC R l m)) (hk : keysOf l' = keysOf m') (ha : ∀ k, aget l' k = aget l k) (hb : ∀ k, aget m' k = aget m k) : Mem g w (L.set i (famC R l' m')) := by
  obtain ⟨F, ⟨G, h1, h2, h3, h4, h5⟩, g3⟩ := hs.turn hi
  refine g3 w (famC R l' m') F ⟨G, hk, fun k a b hX e1 e2 => h2 k a b hX ((ha k) ▸ e1) ((hb k) ▸ e2), h3, fun k x hx => ⟨?_, (h4 k x hx).2⟩, h5⟩ (fun _ h => .inl h) (Keeps.refl _ _)
  have := (h4 k x hx).1
  rw [mem_keys_iff] at this ⊢
  rw [hb k]; exact this
end
section
variable {g w : World} {L : List HP} {ptr : List (Nat × Nat)}
/-- The files' blocks are there. -/
theorem Mem.flThere (hs : Mem g w L) (k : Nat) {fs : List (Nat × Fl)} (hk : L[k]? = some (famC flC ptr fs)) {i b : Nat} (hb : aget ptr i = some b) : There w b := by
  have hi : i ∈ keysOf fs := (hs.famKeys k hk) ▸ aget_keys hb
  obtain ⟨f, hf⟩ := aget_of_key hi
  exact hs.flBlock k hk hb hf
theorem Mem.fxThere (hs : Mem g w L) (k : Nat) {X : Nat → Prop} {fs : List (Nat × Fl)} (hk : L[k]? = some (famX flC X ptr fs)) {i b : Nat} (hX : ¬ X i) (hb : aget ptr i = some b) : There w b := by
  obtain ⟨F, G, h1, h2, _⟩ := hs.read hk
  obtain ⟨f, hf⟩ := aget_of_key (h1 ▸ aget_keys hb : i ∈ keysOf fs)
  obtain ⟨v, F1, F2, ⟨hc, _⟩, _⟩ := h2 i b f hX hb hf
  exact ⟨_, _, hc⟩
theorem Mem.cellsThere (hs : Mem g w L) (k : Nat) {b : Nat} {cs : List Value} {T : TypeId} (hk : L[k]? = some (cells b cs T)) : There w b := by
  obtain ⟨F, h, _⟩ := hs.read hk
  exact ⟨_, _, h⟩
end
end Go.Proofs.YtmnfehbnjgmgjaaDoor
