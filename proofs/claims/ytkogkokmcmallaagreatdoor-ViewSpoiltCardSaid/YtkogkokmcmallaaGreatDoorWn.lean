/- A view's Next. -/
import Derived.Test.YtkogkokmcmallaaGreatDoorVb
import Derived.Test.YtkogkokmcmallaaGreatDoorEx
namespace Go.Proofs.YtkogkokmcmallaaGreatDoor
set_option linter.all false
open Go.RowKit
attribute [local irreducible] errV
variable {g w : World} {L M : List HP} {ad : Nat → Addr} {p : Nat} {V : Vw}

/-- One above all IDs. -/
def Vw.top : Vw → Int
  | [] => 0
  | x :: V => max (x.1 + 1) (Vw.top V)
theorem Vw.top_ge : ∀ {V : Vw} {k : Int}, k ∈ keysOf V → k + 1 ≤ V.top
  | x :: V, k, h => by
    simp only [keysOf, List.map_cons, List.mem_cons] at h
    simp only [Vw.top]
    rcases h with rfl | h
    · omega
    · have := Vw.top_ge (V := V) h
      omega
theorem Vw.top_in : ∀ (V : Vw), (∀ k ∈ keysOf V, 0 ≤ k) → V.top = 0 ∧ V = [] ∨ ∃ k ∈ keysOf V, V.top = k + 1
  | [], _ => .inl ⟨rfl, rfl⟩
  | x :: V, h => by
    have hx := h x.1 (List.mem_cons_self ..)
    rcases Vw.top_in V (fun k hk => h k (List.mem_cons_of_mem _ hk)) with ⟨h1, _⟩ | ⟨k, hk, h1⟩
    · refine .inr ⟨x.1, List.mem_cons_self .., ?_⟩
      simp only [Vw.top]; omega
    · rcases Int.le_total (x.1 + 1) (k + 1) with h2 | h2
      · exact .inr ⟨k, List.mem_cons_of_mem _ hk, by simp only [Vw.top]; omega⟩
      · exact .inr ⟨x.1, List.mem_cons_self .., by simp only [Vw.top]; omega⟩
theorem mf_id {x : Mf} (h : (mfF x).1 = 0) : 0 ≤ x.id ∧ x.id ≤ 2147483647 := by
  unfold mfF at h
  split at h
  · cases h
  · rename_i h1
    simp only [rangeBad, Bool.or_eq_true, decide_eq_true_eq, not_or] at h1
    omega
theorem Vw.ok.ids (h : V.ok) {k : Int} (hk : k ∈ keysOf V) : 0 ≤ k ∧ k ≤ 2147483647 := by
  obtain ⟨x, hx, rfl⟩ := List.mem_map.1 hk
  have h1 := h.fine x hx
  have := mf_id h1.1
  rw [h1.2.1] at this
  exact this
structure NxI (V : Vw) (es left : List (Int × Value)) (m : Int) : Prop where
  nd : (keysOf left).Nodup
  sub : ∀ k v, aget left k = some v → aget es k = some v
  ge : ∀ k ∈ keysOf V, aget left k = none → k + 1 ≤ m
  has : m = 0 ∨ ∃ k ∈ keysOf V, m = k + 1
theorem NxI.step {es left : List (Int × Value)} {m : Int} (h : NxI V es left m) {k : Int} (hk : k ∈ keysOf V) : NxI V es (adel left k) (max m (k + 1)) := by
  refine ⟨nodup_del h.nd k, fun j v hj => ?_, fun j hj hn => ?_, ?_⟩
  · by_cases e : j = k
    · subst e; rw [aget_del_same h.nd] at hj; cases hj
    · rw [aget_del_other _ e] at hj; exact h.sub j v hj
  · by_cases e : j = k
    · subst e; omega
    · rw [aget_del_other _ e] at hn; have := h.ge j hj hn; omega
  · rcases Int.le_total m (k + 1) with h2 | h2
    · exact .inr ⟨k, hk, by omega⟩
    · rw [Int.max_eq_left h2]; exact h.has
theorem NxI.over {es : List (Int × Value)} {m : Int} (h : NxI V es [] m) (h0 : ∀ k ∈ keysOf V, 0 ≤ k) : m = V.top := by
  have h1 : ∀ k ∈ keysOf V, k + 1 ≤ m := fun k hk => h.ge k hk rfl
  rcases Vw.top_in V h0 with ⟨h2, h3⟩ | ⟨k, hk, h2⟩
  · rcases h.has with h4 | ⟨k, hk, _⟩
    · omega
    · subst h3; simp [keysOf] at hk
  · have := h1 k hk
    rcases h.has with h4 | ⟨j, hj, h4⟩
    · have := h0 k hk; omega
    · have := Vw.top_ge hj; omega
theorem nextV_sl (hs : Mem g w (ViewC p V :: L)) : Calls Tryz.prog 139 #[.pointer (some ⟨p, 0, none⟩)] w (Ret fun v w' => v = .int .i64 (min V.top 2147483647) ∧ Mem g w' (ViewC p V :: L)) := by
  obtain ⟨ho, m, es, hs⟩ := hs.openV
  simp only [viewP, List.cons_append, List.nil_append] at hs
  have hke := hs.famKeys 2 rfl
  have h0 : ∀ k ∈ keysOf V, 0 ≤ k := fun k hk => (ho.ids hk).1
  refine calls_cw Tryz.func139 rfl rfl ?_
  skip
  refine cw_seq ?_
  refine cw_region ?_
  first | refine lw_val rfl (run_assign (v := .int .i64 _) rfl) ?_
  refine lw_nil ?_
  refine cw_seq ?_
  refine cw_region ?_
  first | refine lw_val rfl (run_assign (v := .int .i64 _) rfl) ?_
  refine lw_nil ?_
  refine cw_seq ?_
  refine cw_seq ?_
  refine cw_region ?_
  first | refine lw_val rfl (run_move (v := .pointer (some _)) rfl) ?_ | refine lw_val rfl (run_move (v := .pointer none) rfl) ?_ | refine lw_val rfl (run_move (v := .pointer _) rfl) ?_
  refine lw_val rfl (run_nilCheckP rfl) ?_
  first | refine lw_val rfl (run_fieldAddr (o' := 0) Tryz.underlying162 rfl sz160 rfl rfl rfl) ?_ | refine lw_val rfl (run_fieldAddr Tryz.underlying162 rfl sz160 rfl rfl rfl) ?_
  first | refine lw_val rfl (run_load Tryz.underlying160 rfl rfl (hs.cellAt 0 rfl rfl)) ?_ | refine lw_val rfl (run_load Tryz.underlying160 rfl rfl (hs.cellAt 1 rfl rfl)) ?_ | refine lw_val rfl (run_load Tryz.underlying160 rfl rfl (hs.cellAt 2 rfl rfl)) ?_ | refine lw_val rfl (run_load Tryz.underlying160 rfl rfl (hs.cellAt 3 rfl rfl)) ?_ | refine lw_val rfl (run_load Tryz.underlying160 rfl rfl (hs.cellAt 4 rfl rfl)) ?_ | refine lw_val rfl (run_load Tryz.underlying160 rfl rfl (hs.cellAt 5 rfl rfl)) ?_ | refine lw_val rfl (run_load Tryz.underlying160 rfl rfl (hs.cellAt 6 rfl rfl)) ?_ | refine lw_val rfl (run_load Tryz.underlying160 rfl rfl (hs.cellAt 7 rfl rfl)) ?_ | refine lw_val rfl (run_load Tryz.underlying160 rfl rfl (hs.cellAt 8 rfl rfl)) ?_ | refine lw_val rfl (run_load Tryz.underlying160 rfl rfl (hs.cellAt 9 rfl rfl)) ?_ | refine lw_val rfl (run_load Tryz.underlying160 rfl rfl (hs.cellAt 10 rfl rfl)) ?_ | refine lw_val rfl (run_load Tryz.underlying160 rfl rfl (hs.cellAt 11 rfl rfl)) ?_ | refine lw_val rfl (run_load Tryz.underlying160 rfl rfl (hs.cellAt 12 rfl rfl)) ?_ | refine lw_val rfl (run_load Tryz.underlying160 rfl rfl (hs.cellAt 13 rfl rfl)) ?_
  first | refine lw_rangeM hs rfl 0 rfl Tryz.underlying160 rfl ?_ | refine lw_rangeM hs rfl 1 rfl Tryz.underlying160 rfl ?_ | refine lw_rangeM hs rfl 2 rfl Tryz.underlying160 rfl ?_ | refine lw_rangeM hs rfl 3 rfl Tryz.underlying160 rfl ?_ | refine lw_rangeM hs rfl 4 rfl Tryz.underlying160 rfl ?_ | refine lw_rangeM hs rfl 5 rfl Tryz.underlying160 rfl ?_ | refine lw_rangeM hs rfl 6 rfl Tryz.underlying160 rfl ?_ | refine lw_rangeM hs rfl 7 rfl Tryz.underlying160 rfl ?_ | refine lw_rangeM hs rfl 8 rfl Tryz.underlying160 rfl ?_ | refine lw_rangeM hs rfl 9 rfl Tryz.underlying160 rfl ?_ | refine lw_rangeM hs rfl 10 rfl Tryz.underlying160 rfl ?_ | refine lw_rangeM hs rfl 11 rfl Tryz.underlying160 rfl ?_ | refine lw_rangeM hs rfl 12 rfl Tryz.underlying160 rfl ?_ | refine lw_rangeM hs rfl 13 rfl Tryz.underlying160 rfl ?_
  clear hs
  intro r9 w hs
  try simp only [List.set_cons_succ, List.set_cons_zero] at hs
  refine lw_nil ?_
  refine cw_block ?_
  refine cw_loop (X := List (Int × Value) × Option (Int × Value) × Int) [3, 4, 10, 11, 12, 13, 14, 15, 16, 17] (fun x => [(3, .int .i64 x.2.2)]) (fun x w => NxI V es x.1 x.2.2 ∧ Mem g w (rngC (Value.int .i64) r9 m es x.1 x.2.1 :: cells p [.map (some m)] 162 :: famC itmC es V :: L)) (fun x => x.1.length) ((es, none, 0)) ?_ ?_ ?_
  · exact ⟨rfl, trivial⟩
  · exact ⟨⟨hke ▸ ho.nd, fun _ _ h => h, fun k hk h2 => by rw [aget_none_iff, hke] at h2; exact absurd hk h2, .inl rfl⟩, hs.arr [1, 0, 2] 3 (by decide)⟩
  clear hs
  rintro x ξ w hI
  obtain ⟨left, cur, q⟩ := x
  obtain ⟨hJ, hs⟩ := hI
  simp only at hJ hs
  show cw _ _ _ _ _ _ (updL (mix _ ξ _) [(3, .int .i64 q)]) w
  refine cw_seq ?_
  refine cw_region ?_
  first | refine lw_nextM hs rfl 0 rfl strKind.inj rfl ?_ ?_ | refine lw_nextM hs rfl 0 rfl intKind.inj rfl ?_ ?_ | refine lw_nextM hs rfl 1 rfl strKind.inj rfl ?_ ?_ | refine lw_nextM hs rfl 1 rfl intKind.inj rfl ?_ ?_ | refine lw_nextM hs rfl 2 rfl strKind.inj rfl ?_ ?_ | refine lw_nextM hs rfl 2 rfl intKind.inj rfl ?_ ?_ | refine lw_nextM hs rfl 3 rfl strKind.inj rfl ?_ ?_ | refine lw_nextM hs rfl 3 rfl intKind.inj rfl ?_ ?_ | refine lw_nextM hs rfl 4 rfl strKind.inj rfl ?_ ?_ | refine lw_nextM hs rfl 4 rfl intKind.inj rfl ?_ ?_ | refine lw_nextM hs rfl 5 rfl strKind.inj rfl ?_ ?_ | refine lw_nextM hs rfl 5 rfl intKind.inj rfl ?_ ?_ | refine lw_nextM hs rfl 6 rfl strKind.inj rfl ?_ ?_ | refine lw_nextM hs rfl 6 rfl intKind.inj rfl ?_ ?_ | refine lw_nextM hs rfl 7 rfl strKind.inj rfl ?_ ?_ | refine lw_nextM hs rfl 7 rfl intKind.inj rfl ?_ ?_ | refine lw_nextM hs rfl 8 rfl strKind.inj rfl ?_ ?_ | refine lw_nextM hs rfl 8 rfl intKind.inj rfl ?_ ?_ | refine lw_nextM hs rfl 9 rfl strKind.inj rfl ?_ ?_ | refine lw_nextM hs rfl 9 rfl intKind.inj rfl ?_ ?_ | refine lw_nextM hs rfl 10 rfl strKind.inj rfl ?_ ?_ | refine lw_nextM hs rfl 10 rfl intKind.inj rfl ?_ ?_ | refine lw_nextM hs rfl 11 rfl strKind.inj rfl ?_ ?_ | refine lw_nextM hs rfl 11 rfl intKind.inj rfl ?_ ?_ | refine lw_nextM hs rfl 12 rfl strKind.inj rfl ?_ ?_ | refine lw_nextM hs rfl 12 rfl intKind.inj rfl ?_ ?_ | refine lw_nextM hs rfl 13 rfl strKind.inj rfl ?_ ?_ | refine lw_nextM hs rfl 13 rfl intKind.inj rfl ?_ ?_
  · intro hl10
    subst hl10
    first | refine lw_val rfl (run_extract (v := .bool _) rfl rfl) ?_
    refine lw_nil ?_
    refine cw_seq ?_
    refine cw_iff rfl rfl ?_
    refine cw_exit rfl ?_
    refine cw_seq ?_
    refine cw_region ?_
    first | refine lw_val rfl (run_move (v := .int .i64 _) rfl) ?_
    refine lw_val rfl (run_min rfl rfl) ?_
    first | refine lw_val rfl (run_assign (v := .int .i64 _) rfl) ?_
    refine lw_nil ?_
    refine cw_ret ?_
    refine res1 (v := .int .i64 _) rfl rfl ?_
    have e := hJ.over h0
    subst e
    exact ⟨_, rfl, rfl, Mem.closeV ho ((hs.rngd 0 rfl).arr [1, 0, 2] 3 (by decide))⟩
  · clear hs
    intro k10 v10 w hk10 hs
    try simp only [List.set_cons_succ, List.set_cons_zero] at hs
    have hes := hJ.sub _ _ hk10
    have hkV : k10 ∈ keysOf V := hke ▸ al_key hes
    have hkb := ho.ids hkV
    have hdl := al_del hk10
    first | refine lw_val rfl (run_extract (v := .bool _) rfl rfl) ?_
    refine lw_nil ?_
    refine cw_seq ?_
    refine cw_ift rfl rfl ?_
    refine cw_skip ?_
    refine cw_block ?_
    refine cw_seq ?_
    refine cw_region ?_
    first | refine lw_val rfl (run_entryM hs 0 rfl rfl) ?_ | refine lw_val rfl (run_entryM hs 1 rfl rfl) ?_ | refine lw_val rfl (run_entryM hs 2 rfl rfl) ?_ | refine lw_val rfl (run_entryM hs 3 rfl rfl) ?_ | refine lw_val rfl (run_entryM hs 4 rfl rfl) ?_ | refine lw_val rfl (run_entryM hs 5 rfl rfl) ?_ | refine lw_val rfl (run_entryM hs 6 rfl rfl) ?_ | refine lw_val rfl (run_entryM hs 7 rfl rfl) ?_ | refine lw_val rfl (run_entryM hs 8 rfl rfl) ?_ | refine lw_val rfl (run_entryM hs 9 rfl rfl) ?_ | refine lw_val rfl (run_entryM hs 10 rfl rfl) ?_ | refine lw_val rfl (run_entryM hs 11 rfl rfl) ?_ | refine lw_val rfl (run_entryM hs 12 rfl rfl) ?_ | refine lw_val rfl (run_entryM hs 13 rfl rfl) ?_
    first | refine lw_val rfl (run_extract (v := .int .i64 _) rfl rfl) ?_
    first | refine lw_val rfl (run_assign (v := .int .i64 _) rfl) ?_
    refine lw_nil ?_
    refine cw_region ?_
    first | refine lw_val rfl (run_move (v := .int .i64 _) rfl) ?_
    first | refine lw_val rfl (run_move (v := .int .i64 _) rfl) ?_
    refine lw_val rfl (run_add64 rfl rfl (c := k10 + 1) rfl (inI (by omega) (by omega))) ?_
    refine lw_val rfl (run_max rfl rfl) ?_
    first | refine lw_val rfl (run_assign (v := .int .i64 _) rfl) ?_
    refine lw_nil ?_
    exact ⟨(adel left k10, some (k10, v10), max q (k10 + 1)), by simp only; omega, ⟨hJ.step hkV, hs⟩, ⟨rfl, trivial⟩, by repeat (first | exact Out.mix _ _ _ | refine Out.updo rfl ?_ | refine Out.upd rfl ?_ | refine Out.mixIn rfl ?_)⟩
end Go.Proofs.YtkogkokmcmallaaGreatDoor
