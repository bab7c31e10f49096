/- The store, over chunks: Open. -/
import Derived.Test.YtkogkokmcmallaaGreatDoorIu
import Derived.Test.YtkogkokmcmallaaGreatDoorT3
namespace Go.Proofs.YtkogkokmcmallaaGreatDoor
set_option linter.all false
open Go.RowKit Go.MapKept Go.Maps Go.Sort Go.Shelf Go.WideElems
attribute [local irreducible] errV
variable {g w : World} {L M : List HP} {ad : Nat → Addr} {p q : Nat} {st : St}

theorem sortedI_any {W : World} {kb b : Nat} {es : List (Int × Value)} (hc : W.cell? ⟨kb, 0, none⟩ = some (.map (some b))) (hkb : kb < W.heap.size) (h : MapAt W (Value.int .i64) b es) (hk : ∀ x ∈ keysOf es, InI64 x) (hn : es.length ≤ 1000000) :
    Calls Tryz.prog 100 #[.func (.func 188) #[] #[.pointer (some ⟨kb, 0, none⟩)]] W (NewSeq W (intsL (sortI (keysOf es)))) := by
  obtain ⟨l, hown, hp⟩ := keys_owned (k := 3) (lit := Lit.int .i64) h (fun x hx => keyOf_int (hk x hx)) hn
  have hl : l.length = es.length := by have := hp.length_eq; simpa [keysOf] using this
  have hseq : SeqGives Fence.wide 2 Tryz.prog 188 #[.pointer (some ⟨kb, 0, none⟩)] encZ (fun ss => ss.Perm (intKeys (.map l))) (Maps.size (.map l)) W :=
    AnyZI.keys_gives (ρ := Tryz.keys101_ren) { Tryz.keys101 with } Fence.wide _ trivial rfl (by omega) kb b _ _ W hkb hc hown
  have hS := AnyZI.sorted_in Tryz.sorted100 Fence.wide 5 trivial trivial trivial trivial rfl (by omega) (sortsI _) (enters_of Tryz.func187 (by kernel_rfl) rfl) 188 #[.pointer (some ⟨kb, 0, none⟩)] trivial (enters_of Tryz.func188 (by kernel_rfl) rfl) _ _ (by show l.length ≤ maxLen; unfold maxLen; omega) (by show l.length * 8 ≤ _; omega) W hseq
  refine (callsIn_wide.1 hS).mono ?_
  rintro e w' ⟨v, ss, rfl, hss, hrow, _, hb⟩
  have e1 : ss.Perm (keysOf es) := by
    refine hss.trans ?_
    have h2 : intKeys (.map l) = (l.map (·.1)).map Go.intOf := by simp [intKeys, List.map_map, Function.comp_def]
    rw [h2]
    refine (hp.map _).trans ?_
    rw [List.map_map]
    exact List.Perm.of_eq (by simp [Function.comp_def, Go.intOf])
  rw [perm_sortI e1] at hrow
  exact newSeq_of_row hrow hb
theorem keysI_sl (hs : Mem g w L) {b : Nat} : Calls Tryz.prog 101 #[.map (some b)] w (Ret fun v w' => ∃ kb, v = .func (.func 188) #[] #[.pointer (some ⟨kb, 0, none⟩)] ∧ Mem g w' (cells kb [.map (some b)] 133 :: L)) := by
  refine (callsIn_wide.1 (Go.Proofs.AnyZI.keys_in Tryz.keys101 Fence.wide 5 trivial rfl (some b) w)).mono ?_
  rintro e w' ⟨rfl, rfl⟩
  exact ⟨_, rfl, _, rfl, hs.new [.map (some b)] _⟩
theorem sortedI_sl (hs : Mem g w L) {kb b i j : Nat} {es : List (Int × Value)} (hi : L[i]? = some (cells kb [.map (some b)] 133)) (hj : L[j]? = some (mapC (Value.int .i64) b es)) (hk : ∀ x ∈ keysOf es, InI64 x) (hn : es.length ≤ 1000000) :
    Calls Tryz.prog 100 #[.func (.func 188) #[] #[.pointer (some ⟨kb, 0, none⟩)]] w (Ret fun v w' => ∃ a c, v = .slice a (sortI (keysOf es)).length c ∧ Mem g w' (own (.slice a (sortI (keysOf es)).length c) (intsL (sortI (keysOf es))) :: L)) := by
  obtain ⟨F, hblk, _⟩ := hs.read hi
  have hc := hs.cellAt i hi (o := 0) (v := .map (some b)) rfl
  refine (newSeq_sl hs (sortedI_any hc (lt_of_block hblk) (hs.mapAt j hj) hk hn)).mono ?_
  rintro e w' ⟨v, rfl, a, c, rfl, h⟩
  rw [show (intsL (sortI (keysOf es))).length = (sortI (keysOf es)).length by simp [intsL]] at h ⊢
  exact ⟨_, rfl, a, c, rfl, h⟩
theorem open_sl (hs : Mem g w (StoreC p st :: L)) (hk : ∀ x ∈ keysOf st.ups, InI64 x) (hn : st.ups.length ≤ 1000000) : Calls Tryz.prog 21 #[.pointer (some ⟨p, 0, none⟩)] w
    (Ret fun v w' => ∃ a c, v = .slice a (sortI (keysOf st.ups)).length c ∧ Mem g w' (own (.slice a (sortI (keysOf st.ups)).length c) (intsL (sortI (keysOf st.ups))) :: StoreC p st :: L)) := by
  obtain ⟨mo, mu, sa, sn, sc, es, us, hn2, hs⟩ := hs.openS
  simp only [storeParts, List.cons_append, List.nil_append] at hs
  have hky := hs.famKeys 4 rfl
  have he : keysOf (us.map upPtr) = keysOf st.ups := by rw [up_keys]; exact hky
  have hl : (us.map upPtr).length = st.ups.length := by have := congrArg List.length he; simpa [keysOf] using this
  rw [← he]
  rw [← he] at hk
  rw [← hl] at hn
  refine calls_cw Tryz.func21 rfl rfl ?_
  skip
  refine cw_seq ?_
  refine cw_region ?_
  refine lw_val rfl (run_assign (v := .slice _ _ _) rfl) ?_
  refine lw_nil ?_
  refine cw_seq ?_
  refine cw_region ?_
  refine lw_val rfl (run_move (v := .pointer (some _)) rfl) ?_
  refine lw_val rfl (run_nilCheckP rfl) ?_
  refine lw_val rfl (run_fieldAddr (o' := 1) Tryz.underlying135 rfl sz133 rfl rfl rfl) ?_
  refine lw_val rfl (run_load Tryz.underlying133 rfl rfl (hs.cellAt 0 rfl rfl)) ?_
  refine lw_call rfl en101 (keysI_sl hs) ?_
  clear hs
  rintro _ w ⟨kb, rfl, hs⟩
  refine lw_call rfl en100 (sortedI_sl hs (i := 0) (j := 4) rfl rfl hk hn) ?_
  clear hs
  rintro _ w ⟨a8, c8, rfl, hs⟩
  refine lw_val rfl (run_assign (v := .slice _ _ _) rfl) ?_
  refine lw_nil ?_
  refine cw_ret ?_
  refine res1 (v := .slice _ _ _) rfl rfl ?_
  exact ⟨_, rfl, a8, c8, rfl, (hs.drop 1).closeS1⟩
theorem open_none (hs : Mem g w (StoreC p st :: L)) (h : st.ups = []) : Calls Tryz.prog 21 #[.pointer (some ⟨p, 0, none⟩)] w
    (Ret fun v w' => ∃ a c, v = .slice a 0 c ∧ Mem g w' (own (.slice a 0 c) [] :: StoreC p st :: L)) := by
  have := open_sl hs (fun x hx => by rw [h] at hx; simp [keysOf] at hx) (by rw [h]; simp)
  rw [h] at this
  simpa [keysOf, sortI, intsL] using this
end Go.Proofs.YtkogkokmcmallaaGreatDoor
