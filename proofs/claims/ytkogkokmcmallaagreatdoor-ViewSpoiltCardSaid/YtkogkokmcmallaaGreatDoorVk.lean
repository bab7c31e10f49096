/- A view's keys, in order. -/
import Derived.Test.YtkogkokmcmallaaGreatDoorIu
import Derived.Test.YtkogkokmcmallaaGreatDoorFl
namespace Go.Proofs.YtkogkokmcmallaaGreatDoor
set_option linter.all false
open Go.RowKit Go.MapKept Go.Maps Go.Sort Go.Shelf Go.WideElems
attribute [local irreducible] errV
variable {g w : World} {L M : List HP} {ad : Nat → Addr} {p q : Nat}

theorem sortedV_any {W : World} {kb b : Nat} {es : List (Int × Value)} (hc : W.cell? ⟨kb, 0, none⟩ = some (.map (some b))) (hkb : kb < W.heap.size) (h : MapAt W (Value.int .i64) b es) (hk : ∀ x ∈ keysOf es, InI64 x) (hn : es.length ≤ 1000000) :
    Calls Tryz.prog 100 #[.func (.func 197) #[] #[.pointer (some ⟨kb, 0, none⟩)]] W (NewSeq W (intsL (sortI (keysOf es)))) := by
  obtain ⟨l, hown, hp⟩ := keys_owned (k := 3) (lit := Lit.int .i64) h (fun x hx => keyOf_int (hk x hx)) hn
  have hl : l.length = es.length := by have := hp.length_eq; simpa [keysOf] using this
  have hseq : SeqGives Fence.wide 2 Tryz.prog 197 #[.pointer (some ⟨kb, 0, none⟩)] encZ (fun ss => ss.Perm (intKeys (.map l))) (Maps.size (.map l)) W :=
    AnyZI.keys_gives (ρ := Tryz.keys112_ren) { Tryz.keys112 with } Fence.wide _ trivial rfl (by omega) kb b _ _ W hkb hc hown
  have hS := AnyZI.sorted_in Tryz.sorted100 Fence.wide 5 trivial trivial trivial trivial rfl (by omega) (sortsI _) (enters_of Tryz.func187 (by kernel_rfl) rfl) 197 #[.pointer (some ⟨kb, 0, none⟩)] trivial (enters_of Tryz.func197 (by kernel_rfl) rfl) _ _ (by show l.length ≤ maxLen; unfold maxLen; omega) (by show l.length * 8 ≤ _; omega) W hseq
  refine (callsIn_wide.1 hS).mono ?_
  rintro e w' ⟨v, ss, rfl, hss, hrow, _, hb⟩
  have e1 : ss.Perm (keysOf es) := by
    refine hss.trans ?_
    have h2 : intKeys (.map l) = (l.map (·.1)).map Go.intOf := by simp [intKeys, List.map_map, Function.comp_def]
    rw [h2]
    refine (hp.map _).trans ?_
    rw [List.map_map]
    exact List.Perm.of_eq (by simp [Function.comp_def, Go.intOf])
  rw [perm_sortI e1] at hrow
  exact newSeq_of_row hrow hb
theorem keysV_sl (hs : Mem g w L) {b : Nat} : Calls Tryz.prog 112 #[.map (some b)] w (Ret fun v w' => ∃ kb, v = .func (.func 197) #[] #[.pointer (some ⟨kb, 0, none⟩)] ∧ Mem g w' (cells kb [.map (some b)] 160 :: L)) := by
  refine (callsIn_wide.1 (Go.Proofs.AnyZI.keys_in Tryz.keys112 Fence.wide 5 trivial rfl (some b) w)).mono ?_
  rintro e w' ⟨rfl, rfl⟩
  exact ⟨_, rfl, _, rfl, hs.new [.map (some b)] _⟩
theorem sortedV_sl (hs : Mem g w L) {kb b i j : Nat} {es : List (Int × Value)} (hi : L[i]? = some (cells kb [.map (some b)] 160)) (hj : L[j]? = some (mapC (Value.int .i64) b es)) (hk : ∀ x ∈ keysOf es, InI64 x) (hn : es.length ≤ 1000000) :
    Calls Tryz.prog 100 #[.func (.func 197) #[] #[.pointer (some ⟨kb, 0, none⟩)]] w (Ret fun v w' => ∃ a c, v = .slice a (sortI (keysOf es)).length c ∧ Mem g w' (own (.slice a (sortI (keysOf es)).length c) (intsL (sortI (keysOf es))) :: L)) := by
  obtain ⟨F, hblk, _⟩ := hs.read hi
  have hc := hs.cellAt i hi (o := 0) (v := .map (some b)) rfl
  refine (newSeq_sl hs (sortedV_any hc (lt_of_block hblk) (hs.mapAt j hj) hk hn)).mono ?_
  rintro e w' ⟨v, rfl, a, c, rfl, h⟩
  rw [show (intsL (sortI (keysOf es))).length = (sortI (keysOf es)).length by simp [intsL]] at h ⊢
  exact ⟨_, rfl, a, c, rfl, h⟩
end Go.Proofs.YtkogkokmcmallaaGreatDoor
