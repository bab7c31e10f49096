/- slices.Sorted(maps.Keys(m)) at strings; the store's Names. -/
import Derived.Test.YtkogkokmcmallaaGreatDoorOq
import Derived.Test.YtkogkokmcmallaaGreatDoorTx
namespace Go.Proofs.YtkogkokmcmallaaGreatDoor
set_option linter.all false
open Go.RowKit Go.MapKept Go.Maps Go.Sort Go.Shelf Go.WideElems
variable {g w : World} {L M : List HP} {ad : Nat → Addr} {p q : Nat} {st : St}

def bytesOf (l : List ByteArray) : List (List UInt8) := l.map (·.data.toList)
def sortB (l : List (List UInt8)) : List (List UInt8) := l.mergeSort fun x y => decide (x ≤ y)
/-- Texts in order. -/
def sortT (l : List ByteArray) : List ByteArray := (sortB (bytesOf l)).map fun x => ⟨x.toArray⟩
theorem perm_sortB {a b : List (List UInt8)} (h : a.Perm b) : sortB a = sortB b := by
  have ht : ∀ x y z : List UInt8, decide (x ≤ y) = true → decide (y ≤ z) = true → decide (x ≤ z) = true := fun x y z h1 h2 => by simp only [decide_eq_true_eq] at *; exact List.le_trans h1 h2
  have hl : ∀ x y : List UInt8, (decide (x ≤ y) || decide (y ≤ x)) = true := fun x y => by simp only [Bool.or_eq_true, decide_eq_true_eq]; exact List.le_total x y
  have p1 := (List.mergeSort_perm a (fun x y => decide (x ≤ y))).trans (h.trans (List.mergeSort_perm b (fun x y => decide (x ≤ y))).symm)
  have s1 := List.pairwise_mergeSort ht hl a
  have s2 := List.pairwise_mergeSort ht hl b
  exact p1.eq_of_pairwise (fun x y _ _ h1 h2 => by simp only [decide_eq_true_eq] at h1 h2; exact List.le_antisymm h1 h2) s1 s2
theorem sortsS (m : Nat) : AnyZ.SortsIn Tryz.prog Tryz.sorted98_ren Fence.wide m :=
  ⟨fun blk off cap ss W hH hblk hsz => callsIn_wide.2 (AnyM.slices_Sort_string Tryz.sort184 blk off cap ss W hH hblk hsz),
   fun p cap W => callsIn_wide.2 (AnyM.slices_Sort_string_none Tryz.sort184 p cap W)⟩
theorem keyOf_str {x : ByteArray} (h : x.size ≤ 1000000) : keyOf Tryz.prog 9 (Value.string x) = some (Lit.string x.data.toList) := by
  have : x.size ≤ maxLen := by unfold maxLen; omega
  simp [keyOf, mapKey, Tryz.underlying9, this]
theorem sortedS_any {W : World} {kb b : Nat} {es : List (ByteArray × Value)} (hc : W.cell? ⟨kb, 0, none⟩ = some (.map (some b))) (hkb : kb < W.heap.size) (h : MapAt W Value.string b es) (hk : ∀ x ∈ keysOf es, x.size ≤ 1000000) (hn : es.length ≤ 1000000) :
    Calls Tryz.prog 98 #[.func (.func 185) #[] #[.pointer (some ⟨kb, 0, none⟩)]] W (NewSeq W (textsL (sortT (keysOf es)))) := by
  obtain ⟨l, hown, hp⟩ := keys_owned (k := 9) (lit := fun x : ByteArray => Lit.string x.data.toList) h (fun x hx => keyOf_str (hk x hx)) hn
  have hl : l.length = es.length := by have := hp.length_eq; simpa [keysOf] using this
  have hseq : SeqGives Fence.wide 2 Tryz.prog 185 #[.pointer (some ⟨kb, 0, none⟩)] encStr (fun ss => ss.Perm (strKeys (.map l))) (Maps.size (.map l)) W :=
    AnyZ.keys_gives (ρ := Tryz.keys99_ren) { Tryz.keys99 with } Fence.wide _ trivial rfl (by omega) kb b _ _ W hkb hc hown
  have hS := AnyZ.sorted_in Tryz.sorted98 Fence.wide 5 trivial trivial trivial trivial rfl (by omega) (sortsS _) (enters_of Tryz.func184 (by kernel_rfl) rfl) 185 #[.pointer (some ⟨kb, 0, none⟩)] trivial (enters_of Tryz.func185 (by kernel_rfl) rfl) _ _ (by show l.length ≤ maxLen; unfold maxLen; omega) (by show l.length * 16 ≤ _; omega) W hseq
  refine (callsIn_wide.1 hS).mono ?_
  rintro e w' ⟨v, ss, rfl, hss, hrow, _, hb⟩
  have e1 : ss.Perm (bytesOf (keysOf es)) := by
    refine hss.trans ?_
    have h2 : strKeys (.map l) = (l.map (·.1)).map Go.strOf := by simp [strKeys, List.map_map, Function.comp_def]
    rw [h2]
    refine (hp.map _).trans ?_
    rw [List.map_map]
    exact List.Perm.of_eq (by simp [Function.comp_def, Go.strOf, bytesOf])
  have e2 := perm_sortB e1
  unfold sortB at e2
  rw [e2] at hrow
  have e3 : ((bytesOf (keysOf es)).mergeSort fun x y => decide (x ≤ y)).map encStr = textsL (sortT (keysOf es)) := by simp [textsL, sortT, sortB, List.map_map, Function.comp_def]
  rw [e3] at hrow
  exact newSeq_of_row hrow hb
theorem keysS_sl (hs : Mem g w L) {b : Nat} : Calls Tryz.prog 99 #[.map (some b)] w (Ret fun v w' => ∃ kb, v = .func (.func 185) #[] #[.pointer (some ⟨kb, 0, none⟩)] ∧ Mem g w' (cells kb [.map (some b)] 132 :: L)) := by
  refine (callsIn_wide.1 (Go.Proofs.AnyZ.keys_in Tryz.keys99 Fence.wide 5 trivial rfl (some b) w)).mono ?_
  rintro e w' ⟨rfl, rfl⟩
  exact ⟨_, rfl, _, rfl, hs.new [.map (some b)] _⟩
theorem sortedS_sl (hs : Mem g w L) {kb b i j : Nat} {es : List (ByteArray × Value)} (hi : L[i]? = some (cells kb [.map (some b)] 132)) (hj : L[j]? = some (mapC Value.string b es)) (hk : ∀ x ∈ keysOf es, x.size ≤ 1000000) (hn : es.length ≤ 1000000) :
    Calls Tryz.prog 98 #[.func (.func 185) #[] #[.pointer (some ⟨kb, 0, none⟩)]] w (Ret fun v w' => ∃ a c, v = .slice a (sortT (keysOf es)).length c ∧ Mem g w' (own (.slice a (sortT (keysOf es)).length c) (textsL (sortT (keysOf es))) :: L)) := by
  obtain ⟨F, hblk, _⟩ := hs.read hi
  have hc := hs.cellAt i hi (o := 0) (v := .map (some b)) rfl
  refine (newSeq_sl hs (sortedS_any hc (lt_of_block hblk) (hs.mapAt j hj) hk hn)).mono ?_
  rintro e w' ⟨v, rfl, a, c, rfl, h⟩
  rw [show (textsL (sortT (keysOf es))).length = (sortT (keysOf es)).length by simp [textsL]] at h ⊢
  exact ⟨_, rfl, a, c, rfl, h⟩
attribute [local irreducible] errV in
theorem names_sl (hs : Mem g w (StoreC p st :: L)) (hk : ∀ x ∈ keysOf st.objs, x.size ≤ 1000000) (hn : st.objs.length ≤ 1000000) : Calls Tryz.prog 19 #[.pointer (some ⟨p, 0, none⟩)] w
    (Ret fun v w' => ∃ a c, v = .slice a (sortT (keysOf st.objs)).length c ∧ Mem g w' (own (.slice a (sortT (keysOf st.objs)).length c) (textsL (sortT (keysOf st.objs))) :: StoreC p st :: L)) := by
  obtain ⟨mo, mu, sa, sn, sc, es, us, hn2, hs⟩ := hs.openS
  simp only [storeParts, List.cons_append, List.nil_append] at hs
  have he : keysOf es = keysOf st.objs := hs.famKeys 2 rfl
  have hl : es.length = st.objs.length := by have := congrArg List.length he; simpa [keysOf] using this
  rw [← he]
  rw [← he] at hk
  rw [← hl] at hn
  refine calls_cw Tryz.func19 rfl rfl ?_
  skip
  refine cw_seq ?_
  refine cw_region ?_
  refine lw_val rfl (run_assign (v := .slice _ _ _) rfl) ?_
  refine lw_nil ?_
  refine cw_seq ?_
  refine cw_region ?_
  refine lw_val rfl (run_move (v := .pointer (some _)) rfl) ?_
  refine lw_val rfl (run_nilCheckP rfl) ?_
  refine lw_val rfl (run_fieldAddr (o' := 0) Tryz.underlying135 rfl sz132 rfl rfl rfl) ?_
  refine lw_val rfl (run_load Tryz.underlying132 rfl rfl (hs.cellAt 0 rfl rfl)) ?_
  refine lw_call rfl en99 (keysS_sl hs) ?_
  clear hs
  rintro _ w ⟨kb, rfl, hs⟩
  refine lw_call rfl en98 (sortedS_sl hs (i := 0) (j := 2) rfl rfl hk hn) ?_
  clear hs
  rintro _ w ⟨a8, c8, rfl, hs⟩
  refine lw_val rfl (run_assign (v := .slice _ _ _) rfl) ?_
  refine lw_nil ?_
  refine cw_ret ?_
  refine res1 (v := .slice _ _ _) rfl rfl ?_
  exact ⟨_, rfl, a8, c8, rfl, (hs.drop 1).closeS1⟩
end Go.Proofs.YtkogkokmcmallaaGreatDoor
