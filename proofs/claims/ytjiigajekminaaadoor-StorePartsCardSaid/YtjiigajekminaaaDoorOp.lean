/- The store, over chunks: Open. -/
import Derived.Test.YtjiigajekminaaaDoorIt
import Derived.Test.YtjiigajekminaaaDoorT3
namespace Go.Proofs.YtjiigajekminaaaDoor
set_option linter.all false
open Go.RowKit
attribute [local irreducible] errV
variable {g w : World} {L M : List HP} {ad : Nat → Addr} {p q : Nat} {st : St}

theorem keysI_sl (hs : Mem g w L) {b : Nat} : Calls Tryd.prog 94 #[.map (some b)] w (Ret fun v w' => ∃ kb, v = .func (.func 112) #[] #[.pointer (some ⟨kb, 0, none⟩)] ∧ Mem g w' (cells kb [.map (some b)] 92 :: L)) := by
  refine (callsIn_wide.1 (Go.Proofs.AnyZI.keys_in Tryd.keys94 Fence.wide 5 trivial rfl (some b) w)).mono ?_
  rintro e w' ⟨rfl, rfl⟩
  exact ⟨_, rfl, _, rfl, hs.new [.map (some b)] _⟩
theorem sortedI_sl (hs : Mem g w L) {kb b i j : Nat} {es : List (Int × Value)} (hi : L[i]? = some (cells kb [.map (some b)] 92)) (hj : L[j]? = some (mapC (Value.int .i64) b es)) (hk : ∀ x ∈ keysOf es, InI64 x) (hn : es.length ≤ 1000000) :
    Calls Tryd.prog 93 #[.func (.func 112) #[] #[.pointer (some ⟨kb, 0, none⟩)]] w (Ret fun v w' => ∃ a c, v = .slice a (sortI (keysOf es)).length c ∧ Mem g w' (own (.slice a (sortI (keysOf es)).length c) (intsL (sortI (keysOf es))) :: L)) := by
  obtain ⟨F, hblk, _⟩ := hs.read hi
  have hc := hs.cellAt i hi (o := 0) (v := .map (some b)) rfl
  refine (newSeq_sl hs (sortedI_any hc (lt_of_block hblk) (hs.mapAt j hj) hk hn)).mono ?_
  rintro e w' ⟨v, rfl, a, c, rfl, h⟩
  rw [show (intsL (sortI (keysOf es))).length = (sortI (keysOf es)).length by simp [intsL]] at h ⊢
  exact ⟨_, rfl, a, c, rfl, h⟩
theorem open_sl (hs : Mem g w (StoreC p st :: L)) (hk : ∀ x ∈ keysOf st.ups, InI64 x) (hn : st.ups.length ≤ 1000000) : Calls Tryd.prog 54 #[.pointer (some ⟨p, 0, none⟩)] w
    (Ret fun v w' => ∃ a c, v = .slice a (sortI (keysOf st.ups)).length c ∧ Mem g w' (own (.slice a (sortI (keysOf st.ups)).length c) (intsL (sortI (keysOf st.ups))) :: StoreC p st :: L)) := by
  obtain ⟨mo, mu, sa, sn, sc, es, us, hn2, hs⟩ := hs.openS
  simp only [storeParts, List.cons_append, List.nil_append] at hs
  have hky := hs.famKeys 4 rfl
  have he : keysOf (us.map upPtr) = keysOf st.ups := by rw [up_keys]; exact hky
  have hl : (us.map upPtr).length = st.ups.length := by have := congrArg List.length he; simpa [keysOf] using this
  rw [← he]
  rw [← he] at hk
  rw [← hl] at hn
  refine calls_cw Tryd.func54 rfl rfl ?_
  skip
  refine cw_seq ?_
  refine cw_region ?_
  first | refine lw_val rfl (run_assign (v := .slice _ _ _) rfl) ?_
  refine lw_nil ?_
  refine cw_seq ?_
  refine cw_region ?_
  first | refine lw_val rfl (run_move (v := .pointer (some _)) rfl) ?_ | refine lw_val rfl (run_move (v := .pointer none) rfl) ?_
  refine lw_val rfl (run_nilCheckP rfl) ?_
  first | refine lw_val rfl (run_fieldAddr (o' := 1) Tryd.underlying94 rfl sz92 rfl rfl rfl) ?_ | refine lw_val rfl (run_fieldAddr Tryd.underlying94 rfl sz92 rfl rfl rfl) ?_
  first | refine lw_val rfl (run_load Tryd.underlying92 rfl rfl (hs.cellAt 0 rfl rfl)) ?_ | refine lw_val rfl (run_load Tryd.underlying92 rfl rfl (hs.cellAt 1 rfl rfl)) ?_ | refine lw_val rfl (run_load Tryd.underlying92 rfl rfl (hs.cellAt 2 rfl rfl)) ?_ | refine lw_val rfl (run_load Tryd.underlying92 rfl rfl (hs.cellAt 3 rfl rfl)) ?_ | refine lw_val rfl (run_load Tryd.underlying92 rfl rfl (hs.cellAt 4 rfl rfl)) ?_ | refine lw_val rfl (run_load Tryd.underlying92 rfl rfl (hs.cellAt 5 rfl rfl)) ?_ | refine lw_val rfl (run_load Tryd.underlying92 rfl rfl (hs.cellAt 6 rfl rfl)) ?_ | refine lw_val rfl (run_load Tryd.underlying92 rfl rfl (hs.cellAt 7 rfl rfl)) ?_ | refine lw_val rfl (run_load Tryd.underlying92 rfl rfl (hs.cellAt 8 rfl rfl)) ?_ | refine lw_val rfl (run_load Tryd.underlying92 rfl rfl (hs.cellAt 9 rfl rfl)) ?_ | refine lw_val rfl (run_load Tryd.underlying92 rfl rfl (hs.cellAt 10 rfl rfl)) ?_ | refine lw_val rfl (run_load Tryd.underlying92 rfl rfl (hs.cellAt 11 rfl rfl)) ?_ | refine lw_val rfl (run_load Tryd.underlying92 rfl rfl (hs.cellAt 12 rfl rfl)) ?_ | refine lw_val rfl (run_load Tryd.underlying92 rfl rfl (hs.cellAt 13 rfl rfl)) ?_
  refine lw_call rfl en94 (keysI_sl hs) ?_
  clear hs
  rintro _ w ⟨kb, rfl, hs⟩
  refine lw_call rfl en93 (sortedI_sl hs (i := 0) (j := 4) rfl rfl hk hn) ?_
  clear hs
  rintro _ w ⟨a8, c8, rfl, hs⟩
  first | refine lw_val rfl (run_assign (v := .slice _ _ _) rfl) ?_
  refine lw_nil ?_
  refine cw_ret ?_
  refine res1 (v := .slice _ _ _) rfl rfl ?_
  exact ⟨_, rfl, a8, c8, rfl, (hs.drop 1).closeS1⟩
theorem open_none (hs : Mem g w (StoreC p st :: L)) (h : st.ups = []) : Calls Tryd.prog 54 #[.pointer (some ⟨p, 0, none⟩)] w
    (Ret fun v w' => ∃ a c, v = .slice a 0 c ∧ Mem g w' (own (.slice a 0 c) [] :: StoreC p st :: L)) := by
  have := open_sl hs (fun x hx => by rw [h] at hx; simp [keysOf] at hx) (by rw [h]; simp)
  rw [h] at this
  simpa [keysOf, sortI, intsL] using this
end Go.Proofs.YtjiigajekminaaaDoor
