/- A map's keys, in order: what all maps share. -/
import Derived.Test.YtkogkokmcmallaaGreatDoorSh0
import Derived.Test.YtkogkokmcmallaaGreatDoorG
namespace Go.Proofs.YtkogkokmcmallaaGreatDoor
set_option linter.all false
open Go.RowKit Go.MapKept Go.Maps Go.Sort Go.Shelf Go.WideElems
variable {g w : World} {L M : List HP} {ad : Nat → Addr} {p q : Nat}

/-- A reading that every value has. -/
def anyR (_ : Value) : Option (DataW Unit × List MemPlace) := some (.nil, [])
theorem keys_read {κ : Type} {enc : κ → Value} {k : TypeId} {lit : κ → Lit} : ∀ (xs : List MapEntry) (es : List (κ × Value)), xs.map kv = es.map (ekv enc) → (∀ x ∈ keysOf es, keyOf Tryz.prog k (enc x) = some (lit x)) →
    (∀ x ∈ xs, ∃ y, Go.WideElems.rd Tryz.prog k anyR x = some y) ∧ xs.map (fun x => (rg Tryz.prog k anyR x).1) = (keysOf es).map lit
  | [], [], _, _ => ⟨fun _ h => by simp at h, rfl⟩
  | [], _ :: _, h, _ => by simp at h
  | _ :: _, [], h, _ => by simp at h
  | a :: xs, e :: es, h, hk => by
    simp only [List.map_cons, List.cons.injEq] at h
    obtain ⟨h1, h2⟩ := h
    obtain ⟨i1, i2⟩ := keys_read xs es h2 fun x hx => hk x (List.mem_cons_of_mem _ hx)
    have ha : a.key = enc e.1 := by have := congrArg Prod.fst h1; exact this
    have hr : Go.WideElems.rd Tryz.prog k anyR a = some (lit e.1, .nil) := by
      simp [Go.WideElems.rd, ha, hk e.1 (List.mem_cons_self ..), anyR]
    refine ⟨fun x hx => ?_, ?_⟩
    · rcases List.mem_cons.1 hx with rfl | hx
      · exact ⟨_, hr⟩
      · exact i1 x hx
    · simp only [List.map_cons, keysOf, rg_of hr]
      exact congrArg _ i2
theorem keys_owned {κ : Type} {W : World} {enc : κ → Value} {b : Nat} {es : List (κ × Value)} {k : TypeId} {lit : κ → Lit} (h : MapAt W enc b es) (hk : ∀ x ∈ keysOf es, keyOf Tryz.prog k (enc x) = some (lit x)) (hn : es.length ≤ 1000000) :
    ∃ l : List (Lit × DataW Unit), W.ownsMap Tryz.prog k anyR b es.length (.map l) ∧ (l.map (·.1)).Perm ((keysOf es).map lit) := by
  obtain ⟨arr, clock, hb, he, hst⟩ := h
  have hlen : arr.size = es.length := by have := congrArg List.length he; simpa using this
  obtain ⟨h1, h2⟩ := keys_read arr.toList es he hk
  refine ⟨(arr.toList.map (rg Tryz.prog k anyR)).foldr DataW.insert [], ⟨arr, clock, hb, ⟨by unfold maxLen; omega, hst, h1⟩, by omega, rfl⟩, ?_⟩
  refine ((Go.WideShapes.sorted_perm _).map _).trans ?_
  rw [List.map_map, ← h2]
  exact List.Perm.refl _
theorem newSeq_of_row {W w' : World} {T : TypeId} {v : Value} {n : Nat} {xs : List Value} (h : w'.ownsRow W.heap.size T 1 v n xs) (hb : Below W.heap.size W w') : NewSeq W xs (.returned v) w' := by
  obtain ⟨hx, ⟨rfl, hn⟩ | ⟨b, cap, cur, rfl, hg, hc, h1, h2, h3, h4⟩⟩ := h
  · subst hn
    have : xs = [] := List.eq_nil_of_length_eq_zero (by omega)
    subst this
    exact ⟨_, rfl, ⟨none, 0, 0, rfl, rfl, Nat.le_refl _, ⟨fun _ => rfl, fun _ h => by cases h⟩, .inl rfl⟩, hb, fun _ h => by cases h⟩
  · have hlt := lt_of_block hc
    refine ⟨_, rfl, ⟨some ⟨b, 0, none⟩, n, cap, rfl, by omega, h1, ⟨fun e => (by cases e), fun x hx => by cases hx; exact hlt⟩, .inr ⟨b, 0, cur, T, rfl, hc, by omega, fun i hi => ?_⟩⟩, hb, fun x hx => by cases hx; exact ⟨hg, hlt⟩⟩
    rw [← h4, List.getElem?_take_of_lt (by omega), Array.getElem?_toList, Nat.zero_add]

/-! ### ints -/
theorem perm_sortI {a b : List Int} (h : a.Perm b) : a.mergeSort (fun x y => decide (x ≤ y)) = b.mergeSort (fun x y => decide (x ≤ y)) := by
  have ht : ∀ x y z : Int, decide (x ≤ y) = true → decide (y ≤ z) = true → decide (x ≤ z) = true := fun x y z h1 h2 => by simp only [decide_eq_true_eq] at *; omega
  have hl : ∀ x y : Int, (decide (x ≤ y) || decide (y ≤ x)) = true := fun x y => by simp only [Bool.or_eq_true, decide_eq_true_eq]; omega
  have p1 := (List.mergeSort_perm a (fun x y => decide (x ≤ y))).trans (h.trans (List.mergeSort_perm b (fun x y => decide (x ≤ y))).symm)
  have s1 := List.pairwise_mergeSort ht hl a
  have s2 := List.pairwise_mergeSort ht hl b
  exact p1.eq_of_pairwise (fun x y _ _ h1 h2 => by simp only [decide_eq_true_eq] at h1 h2; omega) s1 s2
/-- Ints in order. -/
def sortI (l : List Int) : List Int := l.mergeSort fun x y => decide (x ≤ y)
theorem sortsI (m : Nat) : AnyZI.SortsIn Tryz.prog Tryz.sorted100_ren Fence.wide m :=
  ⟨fun blk off cap ss W hH hblk hsz => callsIn_wide.2 (AnyM.slices_Sort_int Tryz.sort187 blk off cap ss W hH hblk hsz),
   fun p cap W => callsIn_wide.2 (AnyM.slices_Sort_int_none Tryz.sort187 p cap W)⟩
theorem keyOf_int {x : Int} (h : InI64 x) : keyOf Tryz.prog 3 (Value.int .i64 x) = some (Lit.int .i64 x) := by
  obtain ⟨h1, h2⟩ := h
  have hw : (Lit.int .i64 x).wf = true := by simp [Lit.wf, IntKind.min, IntKind.max, IntKind.signed, IntKind.bits]; omega
  simp [keyOf, mapKey, Tryz.underlying3, hw]
end Go.Proofs.YtkogkokmcmallaaGreatDoor
