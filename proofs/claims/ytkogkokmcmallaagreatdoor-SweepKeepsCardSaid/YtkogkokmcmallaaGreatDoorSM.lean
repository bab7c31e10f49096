/- The law SweepKeeps: the walk. -/
import Derived.Test.YtkogkokmcmallaaGreatDoorSK
namespace Go.Proofs.YtkogkokmcmallaaGreatDoor
set_option linter.all false
open Go.RowKit
attribute [local irreducible] errV
variable {g w : World} {L M : List HP} {ad : Nat → Addr} {p q pv : Nat} {V : Vw} {st : St}

def keepCodes : List Nat := [103, 104, 105, 106, 107, 111, 112, 113]
abbrev ErrE (ad : Nat → Addr) (g : World) : Prop := Errs keepCodes ad g.heap.size g
theorem keep_view {c : Nat} (h : c ∈ viewCodes) : c ∈ keepCodes := by
  simp only [viewCodes, keepCodes, List.mem_cons, List.not_mem_nil, or_false] at *; omega
theorem keep_core {c : Nat} (h : c ∈ coreCodes) : c ∈ keepCodes := by
  simp only [coreCodes, keepCodes, List.mem_cons, List.not_mem_nil, or_false] at *; omega
theorem k8_size {y : ByteArray} (h : y ∈ k8) : y.size ≤ 1000000 := by
  obtain ⟨id, q, h1, h2, rfl⟩ := k8_mem.1 h
  have := (nmK id (by omega) q h2).2.2; omega
theorem k8_pre {y : ByteArray} (h : y ∈ k8) : preB bPre y = true := by
  obtain ⟨id, q, h1, h2, rfl⟩ := k8_mem.1 h
  exact (nmK id (by omega) q h2).2.1
theorem swept_sl (hs : Mem g w (clientC q p ((1 : Nat) : Int) 0 :: StoreC p st :: M)) (hnm : st.named) (hn : st.objs.length = 8) : Calls Tryz.prog 15 #[.pointer (some ⟨q, 0, none⟩), .pointer (some ⟨p, 0, none⟩), .int .i64 8] w (Ret fun v w' => v = .bool true ∧ Mem g w' (clientC q p ((1 : Nat) : Int) 0 :: StoreC p st :: M)) := by
  refine calls_cw Tryz.func15 rfl rfl ?_
  skip
  refine cw_seq ?_
  refine cw_region ?_
  refine lw_val rfl (run_assign (v := .bool _) rfl) ?_
  refine lw_nil ?_
  refine cw_seq ?_
  refine cw_region ?_
  refine lw_val rfl (run_move (v := .pointer (some _)) rfl) ?_
  refine lw_call rfl en85 (asked_sl hs) ?_
  clear hs
  rintro _ w ⟨rfl, hs⟩
  refine lw_val rfl (run_eqi rfl rfl) ?_
  refine lw_val rfl (run_move (v := .bool _) rfl) ?_
  refine lw_on rfl rfl (rfl) ?_
  refine lw_val rfl (run_move (v := .pointer (some _)) rfl) ?_
  refine lw_on rfl rfl (rfl) ?_
  refine lw_call rfl en19 (names_sl (L := _ :: M) (hs.arr [1, 0] 2 (by decide)) hnm.1 hnm.2) ?_
  clear hs
  rintro _ w ⟨a12, c12, rfl, hs⟩
  refine lw_on rfl rfl (rfl) ?_
  refine lw_val rfl (run_lenS Tryz.underlying48 rfl) ?_
  refine lw_on rfl rfl (rfl) ?_
  refine lw_val rfl (run_move (v := .int .i64 _) rfl) ?_
  refine lw_on rfl rfl (rfl) ?_
  refine lw_val rfl (run_eqi rfl rfl) ?_
  refine lw_val rfl (run_pickT (v := .bool _) rfl (rfl) rfl) ?_
  refine lw_val rfl (run_assign (v := .bool _) rfl) ?_
  refine lw_nil ?_
  refine cw_ret ?_
  refine res1 (v := .bool _) rfl rfl ?_
  exact ⟨_, rfl, ret_b (decide_eq_true (by rw [sortT_len, keysOf, List.length_map, hn]; rfl)), hs.arr [2, 1] 3 (by decide)⟩
theorem sw_named {o : Int} {K : List ByteArray} (h : SwI V o K [] st) (hK : ∀ y ∈ K, y ∈ k8) (hl : K.length ≤ 8) : st.named ∧ st.upped ∧ cnt st ≤ 8 := by
  have h1 := h.ko.length_le
  have h2 := h.ku.length_le
  rw [keysOf, List.length_map] at h1 h2
  have h3 : st.ups = [] := List.eq_nil_of_length_eq_zero (by simpa using h2)
  exact ⟨⟨fun y hy => k8_size (hK y (h.ko.subset hy)), by omega⟩, ⟨fun i hi => by rw [h3] at hi; simp [keysOf] at hi, by rw [h3]; simp⟩, by simp only [cnt, h3, List.length_nil]; omega⟩
set_option maxHeartbeats 8000000 in
set_option maxRecDepth 20000 in
theorem keeps_sl (hX : ErrE ad g) (hs : Mem g w [clientC q p ((1 : Nat) : Int) 0, StoreC p (pS (kO 4) 8)]) {a2 : Option Addr} {n2 c2 : Nat} {sts : List Int} {th : Int} (h2 : Came g (.slice a2 n2 c2) (intsL sts)) (e2 : n2 = sts.length) : Calls Tryz.prog 16 #[.pointer (some ⟨q, 0, none⟩), .pointer (some ⟨p, 0, none⟩), .slice a2 n2 c2, .int .i64 th] w (Ret fun v w' => v = .bool true ∧ Mem g w' []) := by
  subst e2
  have hE : ErrG ad g := hX.part fun _ => keep_core
  have hV : ErrV ad g := hX.part fun _ => keep_view
  have hI0 : ∀ V : Vw, SwI V 0 k8 [] (pS (kO 4) 8) := fun V => ⟨List.Sublist.refl _, List.Sublist.refl _, fun y hy _ => hy, fun i hi _ => hi⟩
  refine calls_cw Tryz.func16 rfl rfl ?_
  skip
  refine cw_seq ?_
  refine cw_region ?_
  refine lw_val rfl (run_assign (v := .bool _) rfl) ?_
  refine lw_nil ?_
  refine cw_seq ?_
  refine cw_region ?_
  refine lw_val rfl (run_move (v := .slice _ _ _) rfl) ?_
  refine lw_call rfl en10 (made_sl hV hs (h2.rd _) rfl) ?_
  clear hs
  rintro _ w ⟨pv, rfl, hs⟩
  have hO4 := on4_made sts
  obtain ⟨V, hVV⟩ : ∃ V, V = madeV sts 4 := ⟨_, rfl⟩
  rw [← hVV] at hs hO4
  refine lw_val rfl (run_assign (v := .pointer (some _)) rfl) ?_
  refine lw_nil ?_
  refine cw_seq ?_
  refine cw_seq ?_
  refine cw_region ?_
  refine lw_val rfl (run_assign (v := .int .i64 _) rfl) ?_
  refine lw_nil ?_
  refine cw_block ?_
  refine cw_loop (X := Nat × St × Int) [8, 10, 11, 12, 23, 24, 25, 26, 27, 28, 29, 30, 31, 32, 33, 34] (fun y => [(10, .int .i64 (y.1 : Nat))]) (fun y w => y.1 ≤ 20 ∧ SwI V 0 k8 [] y.2.1 ∧ y.2.1.script = [] ∧ (cnt y.2.1 + y.1 ≤ 8 ∨ Fin_ V 0 y.2.1) ∧ y.2.1.calls ≤ 60 + 3 * y.1 ∧ y.2.1.failed ≤ 60 + 3 * y.1 ∧ (0 ≤ y.2.2 ∧ y.2.2 ≤ 24 * y.1) ∧ Mem g w [clientC q p ((1 : Nat) : Int) y.2.2, StoreC p y.2.1, ViewC pv V]) (fun y => 20 - y.1) ((0, pS (kO 4) 8, 0)) ?_ ?_ ?_
  · exact ⟨rfl, trivial⟩
  · exact ⟨Nat.zero_le _, hI0 V, rfl, .inl (by decide +kernel), by decide, by decide, by decide, hs.arr [1, 2, 0] 3 (by decide)⟩
  clear hs
  rintro x ξ w hI
  obtain ⟨i, st, a⟩ := x
  obtain ⟨hi, hSI, hsc, hd, hca, hfa, haa, hs⟩ := hI
  simp only at hi hSI hsc hd hca hfa haa hs
  obtain ⟨hnmd, hupd, hcn8⟩ := sw_named hSI (fun _ h => h) (by rw [k8_len]; decide)
  obtain ⟨hno, hnu⟩ := hSI.nodup k8_nodup List.nodup_nil
  show cw _ _ _ _ _ _ (updL (mix _ ξ _) [(10, .int .i64 (i : Nat))]) w
  refine cw_seq ?_
  refine cw_seq ?_
  refine cw_region ?_
  refine lw_val rfl (run_move (v := .int .i64 _) rfl) ?_
  refine lw_val rfl (run_lss rfl rfl) ?_
  refine lw_nil ?_
  refine cw_if rfl ?_ ?_
  · intro h24
    have g24 := of_decide_eq_true h24
    refine cw_skip ?_
    refine cw_seq ?_
    refine cw_block ?_
    refine cw_seq ?_
    refine cw_region ?_
    refine lw_val rfl (run_move (v := .pointer (some _)) rfl) ?_
    refine lw_val rfl (run_move (v := .pointer (some _)) rfl) ?_
    refine lw_call rfl en22 (step_sl hE (M := []) (t := 1) (own_ := 0) ⟨by omega, by omega⟩ (by decide) hs (by omega) (by omega) hnmd hupd hno hnu) ?_
    clear hs
    rintro _ w ⟨is, c, st2, nn, rfl, hsw, hnn, hs⟩
    obtain ⟨rfl, hSI2, hsc2, hd2⟩ := kstep hSI k8_nodup List.nodup_nil hsw hsc hd
    have hca2 := hsw.eats.calls
    have hfa2 := hsw.eats.failed
    refine lw_val rfl (run_move (v := .tuple _) rfl) ?_
    refine lw_val rfl (run_extract (v := .bool _) rfl rfl) ?_
    refine lw_val rfl (run_extract (v := errV ad _) rfl rfl) ?_
    refine lw_val rfl (run_assign (v := .bool _) rfl) ?_
    refine lw_val rfl (run_assign (v := errV ad _) rfl) ?_
    refine lw_nil ?_
    refine cw_seq ?_
    refine cw_region ?_
    refine lw_val rfl (run_move (v := errV ad _) rfl) ?_
    refine lw_val rfl (run_neerrn (ad := ad) rfl) ?_
    refine lw_nil ?_
    refine cw_iff rfl (rfl) ?_
    refine cw_skip ?_
    refine cw_region ?_
    refine lw_val rfl (run_move (v := .int .i64 _) rfl) ?_
    refine lw_val rfl (run_add64 rfl rfl rfl (inI (by omega) (by omega))) ?_
    refine lw_val rfl (run_assign (v := .int .i64 _) rfl) ?_
    refine lw_nil ?_
    exact ⟨(i + 1, st2, a + (nn : Nat)), by simp only; omega, ⟨by simp only; omega, hSI2, hsc2, hd2, by simp only; omega, by simp only; omega, ⟨by simp only; omega, by simp only; omega⟩, hs⟩, ⟨rfl, trivial⟩, by repeat (first | exact Out.mix _ _ _ | refine Out.updo rfl ?_ | refine Out.upd rfl ?_ | refine Out.mixIn rfl ?_)⟩
  · intro h24
    have g24 := of_decide_eq_false h24
    have hfin : Fin_ V 0 st := by rcases hd with h | h; omega; exact h
    have hdone := (hSI.done k8_nodup List.nodup_nil (fun y hy => .inr (k8_pre hy)) hfin.1 hfin.2).1
    have hin : ∀ id, id < 4 → ∀ r, r < 2 → hasN (sortT (keysOf st.objs)) (objNm id (kindB r) (10 * id)) = (decide (V.state (id : Int) = 1) || decide (V.state (id : Int) = 2)) := fun id h5 r h6 => by rw [← hO4.refers h5 h6]; have h7 : objNm id (kindB r) (10 * id) ∈ k8 := k8_mem.2 ⟨id, r, h5, h6, rfl⟩; refine Bool.eq_iff_iff.2 ?_; rw [hasN_sort, hdone, List.mem_filter, stays_nm h7]; exact ⟨fun h => h.2, fun h => ⟨h7, h⟩⟩
    refine cw_exit rfl ?_
    refine cw_seq ?_
    refine cw_seq ?_
    refine cw_region ?_
    refine lw_val rfl (run_assign (v := .int .i64 _) rfl) ?_
    refine lw_nil ?_
    refine cw_block ?_
    refine cw_loop (X := Nat) [8, 13, 14, 15, 35, 36, 37, 38, 39, 40, 41, 42, 43, 44, 45, 46, 47, 48, 49, 50, 51, 52, 53, 54, 55, 56, 57, 58, 59, 60, 61, 62, 63, 64, 65, 66, 67, 68, 69, 70, 71, 72] (fun y => [(13, .int .i64 (y : Nat))]) (fun y w => y ≤ 4 ∧ Mem g w [clientC q p ((1 : Nat) : Int) a, StoreC p st, ViewC pv V]) (fun y => 4 - y) (0) ?_ ?_ ?_
    · exact ⟨rfl, trivial⟩
    · exact ⟨Nat.zero_le _, hs⟩
    clear hs
    rintro x ξ w hI
    obtain ⟨hi1, hs⟩ := hI
    refine cw_seq ?_
    refine cw_seq ?_
    refine cw_region ?_
    refine lw_val rfl (run_move (v := .int .i64 _) rfl) ?_
    refine lw_val rfl (run_lss rfl rfl) ?_
    refine lw_nil ?_
    refine cw_if rfl ?_ ?_
    · intro h36
      have g36 := of_decide_eq_true h36
      have hx4 : x < 4 := by omega
      have hin0 := hin x hx4 0 (by decide)
      have hin1 := hin x hx4 1 (by decide)
      refine cw_skip ?_
      refine cw_seq ?_
      refine cw_block ?_
      refine cw_seq ?_
      refine cw_region ?_
      refine lw_val rfl (run_move (v := .int .i64 _) rfl) ?_
      refine lw_call rfl en13 (one23_sl hs x (by omega)) ?_
      clear hs
      rintro _ w ⟨s1, s2, rfl, hs⟩
      obtain ⟨b9, o9, sc, rfl, hrk⟩ := hs.obsAt (by show 0 < 2; decide)
      refine lw_alloc hs rfl ze36 ?_
      clear hs
      intro b14 w hs
      try simp only [List.set_cons_succ, List.set_cons_zero] at hs
      refine lw_storeRow hs 0 rfl rfl rfl sz36 rfl rfl ?_
      clear hs
      intro w hs
      try simp only [List.set_cons_succ, List.set_cons_zero] at hs
      refine lw_nil ?_
      refine cw_seq ?_
      refine cw_region ?_
      refine lw_val rfl (run_move (v := .pointer (some _)) rfl) ?_
      refine lw_val rfl (run_move (v := .int .i64 _) rfl) ?_
      refine lw_call rfl en95 (state_sl (L := [_, _, _, _, _]) (hs.arr [5, 0, 1, 2, 3, 4] 6 (by decide)) (x : Int)) ?_
      clear hs
      rintro _ w ⟨rfl, hs⟩
      replace hs := hs.arr [1, 2, 3, 4, 5, 0] 6 (by decide)
      refine lw_val rfl (run_eqi rfl rfl) ?_
      refine lw_val rfl (run_move (v := .bool _) rfl) ?_
      refine lw_split (t := _) (d := 45) rfl ?_ ?_
      · intro h44
        have g44 := of_decide_eq_true h44
        refine lw_off rfl rfl rfl h44 ?_
        refine lw_off rfl rfl rfl h44 ?_
        refine lw_off rfl rfl rfl h44 ?_
        refine lw_off rfl rfl rfl h44 ?_
        refine lw_val rfl (run_pickT (v := .bool _) rfl h44 rfl) ?_
        refine lw_val rfl (run_assign (v := .bool _) rfl) ?_
        refine lw_nil ?_
        refine cw_seq ?_
        refine cw_drawS mixes hs ?_
        intro w tr hK
        replace hs := tr _ hs
        clear tr
        refine aw_take 0 rfl (by kernel_rfl) (by kernel_rfl) (by kernel_rfl) rfl (fun w hs => run_move (v := .pointer (some _)) rfl) hK ?_
        refine aw_take 2 rfl (by kernel_rfl) (by kernel_rfl) (by kernel_rfl) rfl (fun w hs => run_fieldAddr (o' := 5) Tryz.underlying36 rfl sz34 rfl rfl rfl) hK ?_
        refine aw_take 3 rfl (by kernel_rfl) (by kernel_rfl) (by kernel_rfl) rfl (fun w hs => run_load Tryz.underlying34 rfl rfl (hs.cellAt 0 rfl rfl)) hK ?_
        refine aw_take 4 rfl (by kernel_rfl) (by kernel_rfl) (by kernel_rfl) rfl (fun w hs => run_indexAddrK Tryz.underlying34 sz41 rfl rfl (i := 0) rfl (by show 0 < 2; decide) rfl) hK ?_
        refine aw_take 5 rfl (by kernel_rfl) (by kernel_rfl) (by kernel_rfl) rfl (fun w hs => run_fieldAddr Tryz.underlying41 rfl sz9 rfl rfl rfl) hK ?_
        refine aw_take 6 rfl (by kernel_rfl) (by kernel_rfl) (by kernel_rfl) rfl (fun w hs => run_load Tryz.underlying9 rfl rfl ((RdK.row 2 rfl : RdK g _ 3 (.slice (some ⟨b9, o9, none⟩) 2 sc) ((oneM x (10 * x)).obs.map obL)).cell hs (q := 0) (row := obL (objNm x (kindB 0) (10 * x), 0, 0)) rfl (j := 0) rfl)) hK ?_
        refine aw_take 8 rfl (by kernel_rfl) (by kernel_rfl) (by kernel_rfl) rfl (fun w hs => run_move (v := .bool _) rfl) hK ?_
        refine aw_ready [1] (by kernel_rfl) (by simp) ?_
        refine ⟨⟨_, rfl, ?_⟩, trivial⟩
        refine lw_call rfl en19 (names_sl (L := [_, _, _, _, _]) (hs.arr [4, 0, 1, 2, 3, 5] 6 (by decide)) hnmd.1 hnmd.2) ?_
        clear hs
        rintro _ w ⟨a52, c52, rfl, hs⟩
        replace hs := hs.arr [0, 2, 3, 4, 5, 1, 6] 7 (by decide)
        clear hK
        have hK := hs.tail
        refine lw_nil ⟨hK, ?_⟩
        refine aw_ready [7] (by kernel_rfl) (by simp) ?_
        refine ⟨⟨_, rfl, ?_⟩, trivial⟩
        refine lw_call rfl en96 (in_sl hs (Rd.own 0 rfl) rfl (by rw [sortT_len, keysOf, List.length_map]; simp only [cnt] at hcn8; omega) (objNm x (kindB 0) (10 * x))) ?_
        clear hs
        rintro _ w ⟨rfl, hs⟩
        clear hK
        have hK := hs.tail
        refine lw_nil ⟨hK, ?_⟩
        refine aw_take 9 rfl (by kernel_rfl) (by kernel_rfl) (by kernel_rfl) rfl (fun w hs => run_neb Tryz.underlying4 rfl rfl) hK ?_
        refine aw_take 10 rfl (by kernel_rfl) (by kernel_rfl) (by kernel_rfl) rfl (fun w hs => run_move (v := .bool _) rfl) hK ?_
        refine aw_takeOn 11 rfl (by kernel_rfl) (by kernel_rfl) (by kernel_rfl) rfl rfl rfl (by rw [hin0, decide_eq_true g44]; rfl) (fun w hs => run_move (v := .pointer (some _)) rfl) hK ?_
        refine aw_takeOn 13 rfl (by kernel_rfl) (by kernel_rfl) (by kernel_rfl) rfl rfl rfl (by rw [hin0, decide_eq_true g44]; rfl) (fun w hs => run_fieldAddr (o' := 5) Tryz.underlying36 rfl sz34 rfl rfl rfl) hK ?_
        refine aw_takeOn 14 rfl (by kernel_rfl) (by kernel_rfl) (by kernel_rfl) rfl rfl rfl (by rw [hin0, decide_eq_true g44]; rfl) (fun w hs => run_load Tryz.underlying34 rfl rfl (hs.cellAt 0 rfl rfl)) hK ?_
        refine aw_takeOn 15 rfl (by kernel_rfl) (by kernel_rfl) (by kernel_rfl) rfl rfl rfl (by rw [hin0, decide_eq_true g44]; rfl) (fun w hs => run_indexAddrK Tryz.underlying34 sz41 rfl rfl (i := 1) rfl (by show 1 < 2; decide) rfl) hK ?_
        refine aw_takeOn 16 rfl (by kernel_rfl) (by kernel_rfl) (by kernel_rfl) rfl rfl rfl (by rw [hin0, decide_eq_true g44]; rfl) (fun w hs => run_fieldAddr Tryz.underlying41 rfl sz9 rfl rfl rfl) hK ?_
        refine aw_takeOn 17 rfl (by kernel_rfl) (by kernel_rfl) (by kernel_rfl) rfl rfl rfl (by rw [hin0, decide_eq_true g44]; rfl) (fun w hs => run_load Tryz.underlying9 rfl rfl ((RdK.row 2 rfl : RdK g _ 3 (.slice (some ⟨b9, o9, none⟩) 2 sc) ((oneM x (10 * x)).obs.map obL)).cell hs (q := 1) (row := obL (objNm x (kindB 1) (10 * x), 0, 0)) rfl (j := 0) rfl)) hK ?_
        refine aw_takeOn 19 rfl (by kernel_rfl) (by kernel_rfl) (by kernel_rfl) rfl rfl rfl (by rw [hin0, decide_eq_true g44]; rfl) (fun w hs => run_move (v := .bool _) rfl) hK ?_
        refine aw_ready [12] (by kernel_rfl) (by simp) ?_
        refine ⟨⟨_, rfl, ?_⟩, trivial⟩
        refine lw_on rfl rfl (by rw [hin0, decide_eq_true g44]; rfl) ?_
        refine lw_call rfl en19 (names_sl (L := [_, _, _, _, _]) (hs.arr [5, 1, 2, 3, 4, 6] 7 (by decide)) hnmd.1 hnmd.2) ?_
        clear hs
        rintro _ w ⟨a63, c63, rfl, hs⟩
        replace hs := hs.arr [0, 2, 3, 4, 5, 1, 6] 7 (by decide)
        clear hK
        have hK := hs.tail
        refine lw_nil ⟨hK, ?_⟩
        refine aw_ready [18] (by kernel_rfl) (by simp) ?_
        refine ⟨⟨_, rfl, ?_⟩, trivial⟩
        refine lw_on rfl rfl (by rw [hin0, decide_eq_true g44]; rfl) ?_
        refine lw_call rfl en96 (in_sl hs (Rd.own 0 rfl) rfl (by rw [sortT_len, keysOf, List.length_map]; simp only [cnt] at hcn8; omega) (objNm x (kindB 1) (10 * x))) ?_
        clear hs
        rintro _ w ⟨rfl, hs⟩
        clear hK
        have hK := hs.tail
        refine lw_nil ⟨hK, ?_⟩
        refine aw_takeOn 20 rfl (by kernel_rfl) (by kernel_rfl) (by kernel_rfl) rfl rfl rfl (by rw [hin0, decide_eq_true g44]; rfl) (fun w hs => run_neb Tryz.underlying4 rfl rfl) hK ?_
        refine aw_take 21 rfl (by kernel_rfl) (by kernel_rfl) (by kernel_rfl) rfl (fun w hs => run_pickF (v := .bool _) rfl (by rw [hin0, decide_eq_true g44]; rfl) rfl) hK ?_
        refine aw_done (by kernel_rfl) ?_
        clear hK
        refine cw_iff rfl (by rw [hin1, decide_eq_true g44]; rfl) ?_
        refine cw_skip ?_
        refine cw_region ?_
        refine lw_val rfl (run_move (v := .int .i64 _) rfl) ?_
        refine lw_val rfl (run_add64 rfl rfl rfl (inI (by omega) (by omega))) ?_
        refine lw_val rfl (run_assign (v := .int .i64 _) rfl) ?_
        refine lw_nil ?_
        exact ⟨x + 1, by omega, ⟨by omega, hs.suffix 4 rfl⟩, ⟨rfl, trivial⟩, by repeat (first | exact Out.mix _ _ _ | refine Out.updo rfl ?_ | refine Out.upd rfl ?_ | refine Out.mixIn rfl ?_)⟩
      · intro h44
        have g44 := of_decide_eq_false h44
        refine lw_on rfl rfl h44 ?_
        refine lw_val rfl (run_move (v := .pointer (some _)) rfl) ?_
        refine lw_on rfl rfl h44 ?_
        refine lw_val rfl (run_move (v := .int .i64 _) rfl) ?_
        refine lw_on rfl rfl h44 ?_
        refine lw_call rfl en95 (state_sl (L := [_, _, _, _, _]) (hs.arr [5, 0, 1, 2, 3, 4] 6 (by decide)) (x : Int)) ?_
        clear hs
        rintro _ w ⟨rfl, hs⟩
        replace hs := hs.arr [1, 2, 3, 4, 5, 0] 6 (by decide)
        refine lw_on rfl rfl h44 ?_
        refine lw_val rfl (run_eqi rfl rfl) ?_
        refine lw_val rfl (run_pickF (v := .bool _) rfl h44 rfl) ?_
        refine lw_val rfl (run_assign (v := .bool _) rfl) ?_
        refine lw_nil ?_
        refine cw_seq ?_
        refine cw_drawS mixes hs ?_
        intro w tr hK
        replace hs := tr _ hs
        clear tr
        refine aw_take 0 rfl (by kernel_rfl) (by kernel_rfl) (by kernel_rfl) rfl (fun w hs => run_move (v := .pointer (some _)) rfl) hK ?_
        refine aw_take 2 rfl (by kernel_rfl) (by kernel_rfl) (by kernel_rfl) rfl (fun w hs => run_fieldAddr (o' := 5) Tryz.underlying36 rfl sz34 rfl rfl rfl) hK ?_
        refine aw_take 3 rfl (by kernel_rfl) (by kernel_rfl) (by kernel_rfl) rfl (fun w hs => run_load Tryz.underlying34 rfl rfl (hs.cellAt 0 rfl rfl)) hK ?_
        refine aw_take 4 rfl (by kernel_rfl) (by kernel_rfl) (by kernel_rfl) rfl (fun w hs => run_indexAddrK Tryz.underlying34 sz41 rfl rfl (i := 0) rfl (by show 0 < 2; decide) rfl) hK ?_
        refine aw_take 5 rfl (by kernel_rfl) (by kernel_rfl) (by kernel_rfl) rfl (fun w hs => run_fieldAddr Tryz.underlying41 rfl sz9 rfl rfl rfl) hK ?_
        refine aw_take 6 rfl (by kernel_rfl) (by kernel_rfl) (by kernel_rfl) rfl (fun w hs => run_load Tryz.underlying9 rfl rfl ((RdK.row 2 rfl : RdK g _ 3 (.slice (some ⟨b9, o9, none⟩) 2 sc) ((oneM x (10 * x)).obs.map obL)).cell hs (q := 0) (row := obL (objNm x (kindB 0) (10 * x), 0, 0)) rfl (j := 0) rfl)) hK ?_
        refine aw_take 8 rfl (by kernel_rfl) (by kernel_rfl) (by kernel_rfl) rfl (fun w hs => run_move (v := .bool _) rfl) hK ?_
        refine aw_ready [1] (by kernel_rfl) (by simp) ?_
        refine ⟨⟨_, rfl, ?_⟩, trivial⟩
        refine lw_call rfl en19 (names_sl (L := [_, _, _, _, _]) (hs.arr [4, 0, 1, 2, 3, 5] 6 (by decide)) hnmd.1 hnmd.2) ?_
        clear hs
        rintro _ w ⟨a52, c52, rfl, hs⟩
        replace hs := hs.arr [0, 2, 3, 4, 5, 1, 6] 7 (by decide)
        clear hK
        have hK := hs.tail
        refine lw_nil ⟨hK, ?_⟩
        refine aw_ready [7] (by kernel_rfl) (by simp) ?_
        refine ⟨⟨_, rfl, ?_⟩, trivial⟩
        refine lw_call rfl en96 (in_sl hs (Rd.own 0 rfl) rfl (by rw [sortT_len, keysOf, List.length_map]; simp only [cnt] at hcn8; omega) (objNm x (kindB 0) (10 * x))) ?_
        clear hs
        rintro _ w ⟨rfl, hs⟩
        clear hK
        have hK := hs.tail
        refine lw_nil ⟨hK, ?_⟩
        refine aw_take 9 rfl (by kernel_rfl) (by kernel_rfl) (by kernel_rfl) rfl (fun w hs => run_neb Tryz.underlying4 rfl rfl) hK ?_
        refine aw_take 10 rfl (by kernel_rfl) (by kernel_rfl) (by kernel_rfl) rfl (fun w hs => run_move (v := .bool _) rfl) hK ?_
        refine aw_takeOn 11 rfl (by kernel_rfl) (by kernel_rfl) (by kernel_rfl) rfl rfl rfl (by rw [hin0, decide_eq_false g44]; simp) (fun w hs => run_move (v := .pointer (some _)) rfl) hK ?_
        refine aw_takeOn 13 rfl (by kernel_rfl) (by kernel_rfl) (by kernel_rfl) rfl rfl rfl (by rw [hin0, decide_eq_false g44]; simp) (fun w hs => run_fieldAddr (o' := 5) Tryz.underlying36 rfl sz34 rfl rfl rfl) hK ?_
        refine aw_takeOn 14 rfl (by kernel_rfl) (by kernel_rfl) (by kernel_rfl) rfl rfl rfl (by rw [hin0, decide_eq_false g44]; simp) (fun w hs => run_load Tryz.underlying34 rfl rfl (hs.cellAt 0 rfl rfl)) hK ?_
        refine aw_takeOn 15 rfl (by kernel_rfl) (by kernel_rfl) (by kernel_rfl) rfl rfl rfl (by rw [hin0, decide_eq_false g44]; simp) (fun w hs => run_indexAddrK Tryz.underlying34 sz41 rfl rfl (i := 1) rfl (by show 1 < 2; decide) rfl) hK ?_
        refine aw_takeOn 16 rfl (by kernel_rfl) (by kernel_rfl) (by kernel_rfl) rfl rfl rfl (by rw [hin0, decide_eq_false g44]; simp) (fun w hs => run_fieldAddr Tryz.underlying41 rfl sz9 rfl rfl rfl) hK ?_
        refine aw_takeOn 17 rfl (by kernel_rfl) (by kernel_rfl) (by kernel_rfl) rfl rfl rfl (by rw [hin0, decide_eq_false g44]; simp) (fun w hs => run_load Tryz.underlying9 rfl rfl ((RdK.row 2 rfl : RdK g _ 3 (.slice (some ⟨b9, o9, none⟩) 2 sc) ((oneM x (10 * x)).obs.map obL)).cell hs (q := 1) (row := obL (objNm x (kindB 1) (10 * x), 0, 0)) rfl (j := 0) rfl)) hK ?_
        refine aw_takeOn 19 rfl (by kernel_rfl) (by kernel_rfl) (by kernel_rfl) rfl rfl rfl (by rw [hin0, decide_eq_false g44]; simp) (fun w hs => run_move (v := .bool _) rfl) hK ?_
        refine aw_ready [12] (by kernel_rfl) (by simp) ?_
        refine ⟨⟨_, rfl, ?_⟩, trivial⟩
        refine lw_on rfl rfl (by rw [hin0, decide_eq_false g44]; simp) ?_
        refine lw_call rfl en19 (names_sl (L := [_, _, _, _, _]) (hs.arr [5, 1, 2, 3, 4, 6] 7 (by decide)) hnmd.1 hnmd.2) ?_
        clear hs
        rintro _ w ⟨a63, c63, rfl, hs⟩
        replace hs := hs.arr [0, 2, 3, 4, 5, 1, 6] 7 (by decide)
        clear hK
        have hK := hs.tail
        refine lw_nil ⟨hK, ?_⟩
        refine aw_ready [18] (by kernel_rfl) (by simp) ?_
        refine ⟨⟨_, rfl, ?_⟩, trivial⟩
        refine lw_on rfl rfl (by rw [hin0, decide_eq_false g44]; simp) ?_
        refine lw_call rfl en96 (in_sl hs (Rd.own 0 rfl) rfl (by rw [sortT_len, keysOf, List.length_map]; simp only [cnt] at hcn8; omega) (objNm x (kindB 1) (10 * x))) ?_
        clear hs
        rintro _ w ⟨rfl, hs⟩
        clear hK
        have hK := hs.tail
        refine lw_nil ⟨hK, ?_⟩
        refine aw_takeOn 20 rfl (by kernel_rfl) (by kernel_rfl) (by kernel_rfl) rfl rfl rfl (by rw [hin0, decide_eq_false g44]; simp) (fun w hs => run_neb Tryz.underlying4 rfl rfl) hK ?_
        refine aw_take 21 rfl (by kernel_rfl) (by kernel_rfl) (by kernel_rfl) rfl (fun w hs => run_pickF (v := .bool _) rfl (by rw [hin0, decide_eq_false g44]; simp) rfl) hK ?_
        refine aw_done (by kernel_rfl) ?_
        clear hK
        refine cw_iff rfl (by rw [hin1, decide_eq_false g44]; simp) ?_
        refine cw_skip ?_
        refine cw_region ?_
        refine lw_val rfl (run_move (v := .int .i64 _) rfl) ?_
        refine lw_val rfl (run_add64 rfl rfl rfl (inI (by omega) (by omega))) ?_
        refine lw_val rfl (run_assign (v := .int .i64 _) rfl) ?_
        refine lw_nil ?_
        exact ⟨x + 1, by omega, ⟨by omega, hs.suffix 4 rfl⟩, ⟨rfl, trivial⟩, by repeat (first | exact Out.mix _ _ _ | refine Out.updo rfl ?_ | refine Out.upd rfl ?_ | refine Out.mixIn rfl ?_)⟩
    · intro h36
      have g36 := of_decide_eq_false h36
      refine cw_exit rfl ?_
      refine cw_seq ?_
      refine cw_region ?_
      refine lw_val rfl (run_move (v := .int .i64 _) rfl) ?_
      refine lw_call rfl en17 (numberE_sl hs th 4 (by decide)) ?_
      clear hs
      rintro _ w ⟨rfl, hs⟩
      obtain ⟨kk, hkk⟩ : ∃ kk, kk = (th % ((4 : Nat) : Int)).toNat := ⟨_, rfl⟩
      rw [← hkk]
      have hk4 : kk < 4 := by have := Int.emod_lt_of_pos th (show (0 : Int) < (4 : Nat) by decide); have := Int.emod_nonneg th (show ((4 : Nat) : Int) ≠ 0 by decide); omega
      refine lw_val rfl (run_assign (v := .int .i64 _) rfl) ?_
      refine lw_nil ?_
      refine cw_seq ?_
      refine cw_seq ?_
      refine cw_region ?_
      refine lw_val rfl (run_move (v := .pointer (some _)) rfl) ?_
      refine lw_val rfl (run_move (v := .int .i64 _) rfl) ?_
      refine lw_call rfl en95 (state_sl (L := [_, _]) (hs.arr [2, 0, 1] 3 (by decide)) (kk : Int)) ?_
      clear hs
      rintro _ w ⟨rfl, hs⟩
      refine lw_val rfl (run_assign (v := .int .i64 _) rfl) ?_
      refine lw_nil ?_
      refine cw_seq ?_
      refine cw_region ?_
      refine lw_val rfl (run_move (v := .int .i64 _) rfl) ?_
      refine lw_val rfl (run_nei rfl rfl) ?_
      refine lw_val rfl (run_move (v := .bool _) rfl) ?_
      refine lw_split (t := _) (d := 80) rfl ?_ ?_
      · intro h79
        have g79 := ne_t h79
        refine lw_on rfl rfl h79 ?_
        refine lw_val rfl (run_move (v := .int .i64 _) rfl) ?_
        refine lw_on rfl rfl h79 ?_
        refine lw_val rfl (run_nei rfl rfl) ?_
        refine lw_val rfl (run_pickT (v := .bool _) rfl h79 rfl) ?_
        refine lw_nil ?_
        refine cw_if rfl ?_ ?_
        · intro h82
          have g82 := ne_t h82
          refine cw_seq ?_
          refine cw_region ?_
          refine lw_val rfl (run_assign (v := .bool _) rfl) ?_
          refine lw_nil ?_
          refine cw_ret ?_
          refine res1 (v := .bool _) rfl rfl ?_
          exact ⟨_, rfl, rfl, hs.nil⟩
        · intro h82
          have g82 := ne_f h82
          refine cw_skip ?_
          refine cw_seq ?_
          refine cw_seq ?_
          have hst12 : V.state (kk : Int) = 1 ∨ V.state (kk : Int) = 2 := by first | exact .inl g79 | exact .inr g82
          obtain ⟨it, hit⟩ : ∃ it, aget V (kk : Int) = some it := by cases hV9 : aget V (kk : Int) with | some it => exact ⟨it, rfl⟩ | none => (simp [Vw.state, hV9] at hst12)
          have hap : V.apply 3 (oneM kk (10 * kk)) = ((0, none), aput V (kk : Int) ⟨3, oneM kk (10 * kk)⟩) := by obtain ⟨j, _, h6, h7⟩ := hO4.all _ _ hit; obtain rfl : kk = j := (by omega); rw [Vw.apply_old (one_ok (by omega)) (by omega) (by show nextB (V.state (kk : Int)) 3 = true; rcases hst12 with h | h <;> rw [h] <;> rfl) hit, if_pos h7]; rfl
          obtain ⟨V2, hV2⟩ : ∃ V2, V2 = aput V (kk : Int) ⟨3, oneM kk (10 * kk)⟩ := ⟨_, rfl⟩
          rw [← hV2] at hap
          have hO5 : On4 V2 := by rw [hV2]; exact hO4.put hk4 3
          obtain ⟨K2, hK2⟩ : ∃ K2, K2 = keysOf st.objs := ⟨_, rfl⟩
          have hK2n : K2.Nodup := by rw [hK2]; exact hno
          have hK28 : ∀ y ∈ K2, y ∈ k8 ∧ V.refers y = true := fun y hy => by rw [hK2, hdone, List.mem_filter] at hy; exact ⟨hy.1, by rw [← stays_nm hy.1]; exact hy.2⟩
          have hK2l : K2.length ≤ 8 := by rw [hK2, hdone]; exact Nat.le_trans (List.length_filter_le _ _) (by rw [k8_len]; exact Nat.le_refl _)
          have htwo := two_less hO4 hk4 (s := 3) hK2n hK28
          rw [← hV2] at htwo
          have hups : st.ups = [] := List.eq_nil_of_length_eq_zero (by have h9 := hSI.ku.length_le; rw [keysOf, List.length_map] at h9; simpa using h9)
          have hI5 : SwI V2 0 K2 [] st := ⟨by rw [hK2]; exact List.Sublist.refl _, by rw [hups]; exact List.Sublist.refl _, fun y hy _ => by rw [← hK2]; exact hy, fun i hi _ => by cases hi⟩
          refine cw_region ?_
          refine lw_val rfl (run_move (v := .pointer (some _)) rfl) ?_
          refine lw_val rfl (run_move (v := .int .i64 _) rfl) ?_
          refine lw_call rfl en13 (one23_sl hs kk (by omega)) ?_
          clear hs
          rintro _ w ⟨s1, s2, rfl, hs⟩
          refine lw_val rfl (run_buildKM (k := 3) (m := oneM kk (10 * kk)) (e := s1) (o := s2) Tryz.underlying63 ze63 pl63 rfl rfl) ?_
          refine lw_call rfl en29 (applyOne_sl hV hs hap) ?_
          clear hs
          rintro _ w ⟨rfl, hs⟩
          refine lw_val rfl (run_nenn rfl) ?_
          refine lw_nil ?_
          refine cw_iff rfl (rfl) ?_
          refine cw_skip ?_
          refine cw_seq ?_
          refine cw_seq ?_
          refine cw_region ?_
          refine lw_val rfl (run_assign (v := .int .i64 _) rfl) ?_
          refine lw_nil ?_
          refine cw_block ?_
          refine cw_loop (X := Nat × St × Int) [8, 18, 19, 20, 90, 91, 92, 93, 94, 95, 96, 97, 98, 99, 100, 101] (fun y => [(18, .int .i64 (y.1 : Nat))]) (fun y w => y.1 ≤ 5 ∧ SwI V2 0 K2 [] y.2.1 ∧ y.2.1.script = [] ∧ (cnt y.2.1 + y.1 ≤ K2.length ∨ Fin_ V2 0 y.2.1) ∧ y.2.1.calls ≤ 120 + 3 * y.1 ∧ y.2.1.failed ≤ 120 + 3 * y.1 ∧ (0 ≤ y.2.2 ∧ y.2.2 ≤ 480 + 24 * y.1) ∧ Mem g w [clientC q p ((1 : Nat) : Int) y.2.2, StoreC p y.2.1, ViewC pv V2]) (fun y => 5 - y.1) ((0, st, a)) ?_ ?_ ?_
          · exact ⟨rfl, trivial⟩
          · exact ⟨Nat.zero_le _, hI5, hsc, .inl (by simp only [cnt, hups, List.length_nil]; rw [hK2, keysOf, List.length_map]; exact Nat.le_refl _), by simp only; omega, by simp only; omega, ⟨by simp only; omega, by simp only; omega⟩, hs.arr [1, 2, 0] 3 (by decide)⟩
          clear hs
          rintro x ξ w hI
          obtain ⟨i, st3, a3⟩ := x
          obtain ⟨hi3, hSI3, hsc3, hd3, hca3, hfa3, haa3, hs⟩ := hI
          simp only at hi3 hSI3 hsc3 hd3 hca3 hfa3 haa3 hs
          obtain ⟨hnmd3, hupd3, hcn3⟩ := sw_named hSI3 (fun y hy => (hK28 y hy).1) hK2l
          obtain ⟨hno3, hnu3⟩ := hSI3.nodup hK2n List.nodup_nil
          show cw _ _ _ _ _ _ (updL (mix _ ξ _) [(18, .int .i64 (i : Nat))]) w
          refine cw_seq ?_
          refine cw_seq ?_
          refine cw_region ?_
          refine lw_val rfl (run_move (v := .int .i64 _) rfl) ?_
          refine lw_val rfl (run_lss rfl rfl) ?_
          refine lw_nil ?_
          refine cw_if rfl ?_ ?_
          · intro h91
            have g91 := of_decide_eq_true h91
            refine cw_skip ?_
            refine cw_seq ?_
            refine cw_block ?_
            refine cw_seq ?_
            refine cw_region ?_
            refine lw_val rfl (run_move (v := .pointer (some _)) rfl) ?_
            refine lw_val rfl (run_move (v := .pointer (some _)) rfl) ?_
            refine lw_call rfl en22 (step_sl hE (M := []) (t := 1) (own_ := 0) ⟨by omega, by omega⟩ (by decide) hs (by omega) (by omega) hnmd3 hupd3 hno3 hnu3) ?_
            clear hs
            rintro _ w ⟨is, c, st4, nn, rfl, hsw, hnn, hs⟩
            obtain ⟨rfl, hSI4, hsc4, hd4⟩ := kstep hSI3 hK2n List.nodup_nil hsw hsc3 hd3
            have hca4 := hsw.eats.calls
            have hfa4 := hsw.eats.failed
            refine lw_val rfl (run_move (v := .tuple _) rfl) ?_
            refine lw_val rfl (run_extract (v := .bool _) rfl rfl) ?_
            refine lw_val rfl (run_extract (v := errV ad _) rfl rfl) ?_
            refine lw_val rfl (run_assign (v := .bool _) rfl) ?_
            refine lw_val rfl (run_assign (v := errV ad _) rfl) ?_
            refine lw_nil ?_
            refine cw_seq ?_
            refine cw_region ?_
            refine lw_val rfl (run_move (v := errV ad _) rfl) ?_
            refine lw_val rfl (run_neerrn (ad := ad) rfl) ?_
            refine lw_nil ?_
            refine cw_iff rfl (rfl) ?_
            refine cw_skip ?_
            refine cw_region ?_
            refine lw_val rfl (run_move (v := .int .i64 _) rfl) ?_
            refine lw_val rfl (run_add64 rfl rfl rfl (inI (by omega) (by omega))) ?_
            refine lw_val rfl (run_assign (v := .int .i64 _) rfl) ?_
            refine lw_nil ?_
            exact ⟨(i + 1, st4, a3 + (nn : Nat)), by simp only; omega, ⟨by simp only; omega, hSI4, hsc4, hd4, by simp only; omega, by simp only; omega, ⟨by simp only; omega, by simp only; omega⟩, hs⟩, ⟨rfl, trivial⟩, by repeat (first | exact Out.mix _ _ _ | refine Out.updo rfl ?_ | refine Out.upd rfl ?_ | refine Out.mixIn rfl ?_)⟩
          · intro h91
            have g91 := of_decide_eq_false h91
            have hle : (K2.filter (stays V2)).length ≤ (keysOf st3.objs).length := List.Nodup.length_le_of_subset (hK2n.sublist List.filter_sublist) fun y hy => by obtain ⟨h6, h7⟩ := List.mem_filter.1 hy; exact hSI3.keep y h6 h7
            rw [keysOf, List.length_map] at hle
            have hfin3 : Fin_ V2 0 st3 := by rcases hd3 with h | h; (simp only [cnt] at h; omega); exact h
            have hdone3 := (hSI3.done hK2n List.nodup_nil (fun y hy => .inr (k8_pre (hK28 y hy).1)) hfin3.1 hfin3.2).1
            have hout : ∀ r, r < 2 → hasN (sortT (keysOf st3.objs)) (objNm kk (kindB r) (10 * kk)) = false := fun r h6 => Bool.eq_false_iff.2 fun h => by rw [hasN_sort, hdone3, List.mem_filter, stays_nm (k8_mem.2 ⟨kk, r, hk4, h6, rfl⟩), hO5.refers hk4 h6, hV2, state_putK, if_pos rfl] at h; simp at h
            refine cw_exit rfl ?_
            refine cw_seq ?_
            refine cw_region ?_
            refine lw_val rfl (run_move (v := .pointer (some _)) rfl) ?_
            refine lw_call rfl en19 (names_sl (L := [_, _]) (hs.arr [1, 0, 2] 3 (by decide)) hnmd3.1 hnmd3.2) ?_
            clear hs
            rintro _ w ⟨a103, c103, rfl, hs⟩
            refine lw_val rfl (run_move (v := .int .i64 _) rfl) ?_
            refine lw_call rfl en13 (one23_sl hs kk (by omega)) ?_
            clear hs
            rintro _ w ⟨s3, s4, rfl, hs⟩
            obtain ⟨b9, o9, sc, rfl, hrk⟩ := hs.obsAt (by show 0 < 2; decide)
            refine lw_val rfl (run_field1 (v := .slice (some ⟨b9, o9, none⟩) 2 sc) Tryz.underlying36 rfl Tryz.isAgg34 rfl rfl) ?_
            refine lw_val rfl (run_indexAddrK Tryz.underlying34 sz41 rfl rfl (i := 0) rfl (by decide) rfl) ?_
            refine lw_val rfl (run_fieldAddr Tryz.underlying41 rfl sz9 rfl rfl rfl) ?_
            refine lw_val rfl (run_load Tryz.underlying9 rfl rfl (hrk.cell hs (q := 0) (row := obL (objNm kk (kindB 0) (10 * kk), 0, 0)) rfl (j := 0) rfl)) ?_
            refine lw_call rfl en96 (in_sl hs (Rd.own 2 rfl) rfl (by rw [sortT_len, keysOf, List.length_map]; simp only [cnt] at hcn3; omega) (objNm kk (kindB 0) (10 * kk))) ?_
            clear hs
            rintro _ w ⟨rfl, hs⟩
            refine lw_val rfl (run_not rfl) ?_
            refine lw_val rfl (run_move (v := .bool _) rfl) ?_
            refine lw_on rfl rfl (not_t (hout 0 (by decide))) ?_
            refine lw_val rfl (run_move (v := .pointer (some _)) rfl) ?_
            refine lw_on rfl rfl (not_t (hout 0 (by decide))) ?_
            refine lw_call rfl en19 (names_sl (L := [_, _, _, _, _]) (hs.arr [3, 0, 1, 2, 4, 5] 6 (by decide)) hnmd3.1 hnmd3.2) ?_
            clear hs
            rintro _ w ⟨a114, c114, rfl, hs⟩
            refine lw_on rfl rfl (not_t (hout 0 (by decide))) ?_
            refine lw_val rfl (run_move (v := .int .i64 _) rfl) ?_
            refine lw_on rfl rfl (not_t (hout 0 (by decide))) ?_
            refine lw_call rfl en13 (one23_sl hs kk (by omega)) ?_
            clear hs
            rintro _ w ⟨s5, s6, rfl, hs⟩
            obtain ⟨b8, o8, sc8, rfl, hrk8⟩ := hs.obsAt (by show 0 < 2; decide)
            refine lw_on rfl rfl (not_t (hout 0 (by decide))) ?_
            refine lw_val rfl (run_field1 (v := .slice (some ⟨b8, o8, none⟩) 2 sc8) Tryz.underlying36 rfl Tryz.isAgg34 rfl rfl) ?_
            refine lw_on rfl rfl (not_t (hout 0 (by decide))) ?_
            refine lw_val rfl (run_indexAddrK Tryz.underlying34 sz41 rfl rfl (i := 1) rfl (by decide) rfl) ?_
            refine lw_on rfl rfl (not_t (hout 0 (by decide))) ?_
            refine lw_val rfl (run_fieldAddr Tryz.underlying41 rfl sz9 rfl rfl rfl) ?_
            refine lw_on rfl rfl (not_t (hout 0 (by decide))) ?_
            refine lw_val rfl (run_load Tryz.underlying9 rfl rfl (hrk8.cell hs (q := 1) (row := obL (objNm kk (kindB 1) (10 * kk), 0, 0)) rfl (j := 0) rfl)) ?_
            refine lw_on rfl rfl (not_t (hout 0 (by decide))) ?_
            refine lw_call rfl en96 (in_sl hs (Rd.own 2 rfl) rfl (by rw [sortT_len, keysOf, List.length_map]; simp only [cnt] at hcn3; omega) (objNm kk (kindB 1) (10 * kk))) ?_
            clear hs
            rintro _ w ⟨rfl, hs⟩
            refine lw_on rfl rfl (not_t (hout 0 (by decide))) ?_
            refine lw_val rfl (run_not rfl) ?_
            refine lw_val rfl (run_pickT (v := .bool _) rfl (not_t (hout 0 (by decide))) rfl) ?_
            refine lw_val rfl (run_assign (v := .bool _) rfl) ?_
            refine lw_nil ?_
            refine cw_ret ?_
            refine res1 (v := .bool _) rfl rfl ?_
            exact ⟨_, rfl, ret_b (by rw [hout 1 (by decide)]; rfl), hs.nil⟩
      · intro h79
        have g79 := ne_f h79
        refine lw_off rfl rfl rfl h79 ?_
        refine lw_off rfl rfl rfl h79 ?_
        refine lw_val rfl (run_pickF (v := .bool _) rfl h79 rfl) ?_
        refine lw_nil ?_
        refine cw_iff rfl rfl ?_
        refine cw_skip ?_
        refine cw_seq ?_
        refine cw_seq ?_
        have hst12 : V.state (kk : Int) = 1 ∨ V.state (kk : Int) = 2 := by first | exact .inl g79 | exact .inr g82
        obtain ⟨it, hit⟩ : ∃ it, aget V (kk : Int) = some it := by cases hV9 : aget V (kk : Int) with | some it => exact ⟨it, rfl⟩ | none => (simp [Vw.state, hV9] at hst12)
        have hap : V.apply 3 (oneM kk (10 * kk)) = ((0, none), aput V (kk : Int) ⟨3, oneM kk (10 * kk)⟩) := by obtain ⟨j, _, h6, h7⟩ := hO4.all _ _ hit; obtain rfl : kk = j := (by omega); rw [Vw.apply_old (one_ok (by omega)) (by omega) (by show nextB (V.state (kk : Int)) 3 = true; rcases hst12 with h | h <;> rw [h] <;> rfl) hit, if_pos h7]; rfl
        obtain ⟨V2, hV2⟩ : ∃ V2, V2 = aput V (kk : Int) ⟨3, oneM kk (10 * kk)⟩ := ⟨_, rfl⟩
        rw [← hV2] at hap
        have hO5 : On4 V2 := by rw [hV2]; exact hO4.put hk4 3
        obtain ⟨K2, hK2⟩ : ∃ K2, K2 = keysOf st.objs := ⟨_, rfl⟩
        have hK2n : K2.Nodup := by rw [hK2]; exact hno
        have hK28 : ∀ y ∈ K2, y ∈ k8 ∧ V.refers y = true := fun y hy => by rw [hK2, hdone, List.mem_filter] at hy; exact ⟨hy.1, by rw [← stays_nm hy.1]; exact hy.2⟩
        have hK2l : K2.length ≤ 8 := by rw [hK2, hdone]; exact Nat.le_trans (List.length_filter_le _ _) (by rw [k8_len]; exact Nat.le_refl _)
        have htwo := two_less hO4 hk4 (s := 3) hK2n hK28
        rw [← hV2] at htwo
        have hups : st.ups = [] := List.eq_nil_of_length_eq_zero (by have h9 := hSI.ku.length_le; rw [keysOf, List.length_map] at h9; simpa using h9)
        have hI5 : SwI V2 0 K2 [] st := ⟨by rw [hK2]; exact List.Sublist.refl _, by rw [hups]; exact List.Sublist.refl _, fun y hy _ => by rw [← hK2]; exact hy, fun i hi _ => by cases hi⟩
        refine cw_region ?_
        refine lw_val rfl (run_move (v := .pointer (some _)) rfl) ?_
        refine lw_val rfl (run_move (v := .int .i64 _) rfl) ?_
        refine lw_call rfl en13 (one23_sl hs kk (by omega)) ?_
        clear hs
        rintro _ w ⟨s1, s2, rfl, hs⟩
        refine lw_val rfl (run_buildKM (k := 3) (m := oneM kk (10 * kk)) (e := s1) (o := s2) Tryz.underlying63 ze63 pl63 rfl rfl) ?_
        refine lw_call rfl en29 (applyOne_sl hV hs hap) ?_
        clear hs
        rintro _ w ⟨rfl, hs⟩
        refine lw_val rfl (run_nenn rfl) ?_
        refine lw_nil ?_
        refine cw_iff rfl (rfl) ?_
        refine cw_skip ?_
        refine cw_seq ?_
        refine cw_seq ?_
        refine cw_region ?_
        refine lw_val rfl (run_assign (v := .int .i64 _) rfl) ?_
        refine lw_nil ?_
        refine cw_block ?_
        refine cw_loop (X := Nat × St × Int) [8, 18, 19, 20, 90, 91, 92, 93, 94, 95, 96, 97, 98, 99, 100, 101] (fun y => [(18, .int .i64 (y.1 : Nat))]) (fun y w => y.1 ≤ 5 ∧ SwI V2 0 K2 [] y.2.1 ∧ y.2.1.script = [] ∧ (cnt y.2.1 + y.1 ≤ K2.length ∨ Fin_ V2 0 y.2.1) ∧ y.2.1.calls ≤ 120 + 3 * y.1 ∧ y.2.1.failed ≤ 120 + 3 * y.1 ∧ (0 ≤ y.2.2 ∧ y.2.2 ≤ 480 + 24 * y.1) ∧ Mem g w [clientC q p ((1 : Nat) : Int) y.2.2, StoreC p y.2.1, ViewC pv V2]) (fun y => 5 - y.1) ((0, st, a)) ?_ ?_ ?_
        · exact ⟨rfl, trivial⟩
        · exact ⟨Nat.zero_le _, hI5, hsc, .inl (by simp only [cnt, hups, List.length_nil]; rw [hK2, keysOf, List.length_map]; exact Nat.le_refl _), by simp only; omega, by simp only; omega, ⟨by simp only; omega, by simp only; omega⟩, hs.arr [1, 2, 0] 3 (by decide)⟩
        clear hs
        rintro x ξ w hI
        obtain ⟨i, st3, a3⟩ := x
        obtain ⟨hi3, hSI3, hsc3, hd3, hca3, hfa3, haa3, hs⟩ := hI
        simp only at hi3 hSI3 hsc3 hd3 hca3 hfa3 haa3 hs
        obtain ⟨hnmd3, hupd3, hcn3⟩ := sw_named hSI3 (fun y hy => (hK28 y hy).1) hK2l
        obtain ⟨hno3, hnu3⟩ := hSI3.nodup hK2n List.nodup_nil
        show cw _ _ _ _ _ _ (updL (mix _ ξ _) [(18, .int .i64 (i : Nat))]) w
        refine cw_seq ?_
        refine cw_seq ?_
        refine cw_region ?_
        refine lw_val rfl (run_move (v := .int .i64 _) rfl) ?_
        refine lw_val rfl (run_lss rfl rfl) ?_
        refine lw_nil ?_
        refine cw_if rfl ?_ ?_
        · intro h91
          have g91 := of_decide_eq_true h91
          refine cw_skip ?_
          refine cw_seq ?_
          refine cw_block ?_
          refine cw_seq ?_
          refine cw_region ?_
          refine lw_val rfl (run_move (v := .pointer (some _)) rfl) ?_
          refine lw_val rfl (run_move (v := .pointer (some _)) rfl) ?_
          refine lw_call rfl en22 (step_sl hE (M := []) (t := 1) (own_ := 0) ⟨by omega, by omega⟩ (by decide) hs (by omega) (by omega) hnmd3 hupd3 hno3 hnu3) ?_
          clear hs
          rintro _ w ⟨is, c, st4, nn, rfl, hsw, hnn, hs⟩
          obtain ⟨rfl, hSI4, hsc4, hd4⟩ := kstep hSI3 hK2n List.nodup_nil hsw hsc3 hd3
          have hca4 := hsw.eats.calls
          have hfa4 := hsw.eats.failed
          refine lw_val rfl (run_move (v := .tuple _) rfl) ?_
          refine lw_val rfl (run_extract (v := .bool _) rfl rfl) ?_
          refine lw_val rfl (run_extract (v := errV ad _) rfl rfl) ?_
          refine lw_val rfl (run_assign (v := .bool _) rfl) ?_
          refine lw_val rfl (run_assign (v := errV ad _) rfl) ?_
          refine lw_nil ?_
          refine cw_seq ?_
          refine cw_region ?_
          refine lw_val rfl (run_move (v := errV ad _) rfl) ?_
          refine lw_val rfl (run_neerrn (ad := ad) rfl) ?_
          refine lw_nil ?_
          refine cw_iff rfl (rfl) ?_
          refine cw_skip ?_
          refine cw_region ?_
          refine lw_val rfl (run_move (v := .int .i64 _) rfl) ?_
          refine lw_val rfl (run_add64 rfl rfl rfl (inI (by omega) (by omega))) ?_
          refine lw_val rfl (run_assign (v := .int .i64 _) rfl) ?_
          refine lw_nil ?_
          exact ⟨(i + 1, st4, a3 + (nn : Nat)), by simp only; omega, ⟨by simp only; omega, hSI4, hsc4, hd4, by simp only; omega, by simp only; omega, ⟨by simp only; omega, by simp only; omega⟩, hs⟩, ⟨rfl, trivial⟩, by repeat (first | exact Out.mix _ _ _ | refine Out.updo rfl ?_ | refine Out.upd rfl ?_ | refine Out.mixIn rfl ?_)⟩
        · intro h91
          have g91 := of_decide_eq_false h91
          have hle : (K2.filter (stays V2)).length ≤ (keysOf st3.objs).length := List.Nodup.length_le_of_subset (hK2n.sublist List.filter_sublist) fun y hy => by obtain ⟨h6, h7⟩ := List.mem_filter.1 hy; exact hSI3.keep y h6 h7
          rw [keysOf, List.length_map] at hle
          have hfin3 : Fin_ V2 0 st3 := by rcases hd3 with h | h; (simp only [cnt] at h; omega); exact h
          have hdone3 := (hSI3.done hK2n List.nodup_nil (fun y hy => .inr (k8_pre (hK28 y hy).1)) hfin3.1 hfin3.2).1
          have hout : ∀ r, r < 2 → hasN (sortT (keysOf st3.objs)) (objNm kk (kindB r) (10 * kk)) = false := fun r h6 => Bool.eq_false_iff.2 fun h => by rw [hasN_sort, hdone3, List.mem_filter, stays_nm (k8_mem.2 ⟨kk, r, hk4, h6, rfl⟩), hO5.refers hk4 h6, hV2, state_putK, if_pos rfl] at h; simp at h
          refine cw_exit rfl ?_
          refine cw_seq ?_
          refine cw_region ?_
          refine lw_val rfl (run_move (v := .pointer (some _)) rfl) ?_
          refine lw_call rfl en19 (names_sl (L := [_, _]) (hs.arr [1, 0, 2] 3 (by decide)) hnmd3.1 hnmd3.2) ?_
          clear hs
          rintro _ w ⟨a103, c103, rfl, hs⟩
          refine lw_val rfl (run_move (v := .int .i64 _) rfl) ?_
          refine lw_call rfl en13 (one23_sl hs kk (by omega)) ?_
          clear hs
          rintro _ w ⟨s3, s4, rfl, hs⟩
          obtain ⟨b9, o9, sc, rfl, hrk⟩ := hs.obsAt (by show 0 < 2; decide)
          refine lw_val rfl (run_field1 (v := .slice (some ⟨b9, o9, none⟩) 2 sc) Tryz.underlying36 rfl Tryz.isAgg34 rfl rfl) ?_
          refine lw_val rfl (run_indexAddrK Tryz.underlying34 sz41 rfl rfl (i := 0) rfl (by decide) rfl) ?_
          refine lw_val rfl (run_fieldAddr Tryz.underlying41 rfl sz9 rfl rfl rfl) ?_
          refine lw_val rfl (run_load Tryz.underlying9 rfl rfl (hrk.cell hs (q := 0) (row := obL (objNm kk (kindB 0) (10 * kk), 0, 0)) rfl (j := 0) rfl)) ?_
          refine lw_call rfl en96 (in_sl hs (Rd.own 2 rfl) rfl (by rw [sortT_len, keysOf, List.length_map]; simp only [cnt] at hcn3; omega) (objNm kk (kindB 0) (10 * kk))) ?_
          clear hs
          rintro _ w ⟨rfl, hs⟩
          refine lw_val rfl (run_not rfl) ?_
          refine lw_val rfl (run_move (v := .bool _) rfl) ?_
          refine lw_on rfl rfl (not_t (hout 0 (by decide))) ?_
          refine lw_val rfl (run_move (v := .pointer (some _)) rfl) ?_
          refine lw_on rfl rfl (not_t (hout 0 (by decide))) ?_
          refine lw_call rfl en19 (names_sl (L := [_, _, _, _, _]) (hs.arr [3, 0, 1, 2, 4, 5] 6 (by decide)) hnmd3.1 hnmd3.2) ?_
          clear hs
          rintro _ w ⟨a114, c114, rfl, hs⟩
          refine lw_on rfl rfl (not_t (hout 0 (by decide))) ?_
          refine lw_val rfl (run_move (v := .int .i64 _) rfl) ?_
          refine lw_on rfl rfl (not_t (hout 0 (by decide))) ?_
          refine lw_call rfl en13 (one23_sl hs kk (by omega)) ?_
          clear hs
          rintro _ w ⟨s5, s6, rfl, hs⟩
          obtain ⟨b8, o8, sc8, rfl, hrk8⟩ := hs.obsAt (by show 0 < 2; decide)
          refine lw_on rfl rfl (not_t (hout 0 (by decide))) ?_
          refine lw_val rfl (run_field1 (v := .slice (some ⟨b8, o8, none⟩) 2 sc8) Tryz.underlying36 rfl Tryz.isAgg34 rfl rfl) ?_
          refine lw_on rfl rfl (not_t (hout 0 (by decide))) ?_
          refine lw_val rfl (run_indexAddrK Tryz.underlying34 sz41 rfl rfl (i := 1) rfl (by decide) rfl) ?_
          refine lw_on rfl rfl (not_t (hout 0 (by decide))) ?_
          refine lw_val rfl (run_fieldAddr Tryz.underlying41 rfl sz9 rfl rfl rfl) ?_
          refine lw_on rfl rfl (not_t (hout 0 (by decide))) ?_
          refine lw_val rfl (run_load Tryz.underlying9 rfl rfl (hrk8.cell hs (q := 1) (row := obL (objNm kk (kindB 1) (10 * kk), 0, 0)) rfl (j := 0) rfl)) ?_
          refine lw_on rfl rfl (not_t (hout 0 (by decide))) ?_
          refine lw_call rfl en96 (in_sl hs (Rd.own 2 rfl) rfl (by rw [sortT_len, keysOf, List.length_map]; simp only [cnt] at hcn3; omega) (objNm kk (kindB 1) (10 * kk))) ?_
          clear hs
          rintro _ w ⟨rfl, hs⟩
          refine lw_on rfl rfl (not_t (hout 0 (by decide))) ?_
          refine lw_val rfl (run_not rfl) ?_
          refine lw_val rfl (run_pickT (v := .bool _) rfl (not_t (hout 0 (by decide))) rfl) ?_
          refine lw_val rfl (run_assign (v := .bool _) rfl) ?_
          refine lw_nil ?_
          refine cw_ret ?_
          refine res1 (v := .bool _) rfl rfl ?_
          exact ⟨_, rfl, ret_b (by rw [hout 1 (by decide)]; rfl), hs.nil⟩
set_option maxHeartbeats 4000000 in
set_option maxRecDepth 20000 in
theorem sweepKeeps_sl (hX : ErrE ad g) (hs : Mem g w []) {a0 : Option Addr} {n0 c0 : Nat} {sts : List Int} {th : Int} (h0 : Came g (.slice a0 n0 c0) (intsL sts)) (e0 : n0 = sts.length) : Calls Tryz.prog 3 #[.slice a0 n0 c0, .int .i64 th] w (Ret fun v w' => v = .bool true ∧ Mem g w' []) := by
  subst e0
  have hE : ErrG ad g := hX.part fun _ => keep_core
  have hV : ErrV ad g := hX.part fun _ => keep_view
  refine calls_cw Tryz.func3 rfl rfl ?_
  skip
  refine cw_seq ?_
  refine cw_region ?_
  refine lw_val rfl (run_assign (v := .bool _) rfl) ?_
  refine lw_nil ?_
  refine cw_seq ?_
  refine cw_region ?_
  refine lw_call rfl en9 (first23_sl hV hs) ?_
  clear hs
  rintro _ w ⟨rfl, hs⟩
  refine lw_val rfl (run_assign (v := .bool _) rfl) ?_
  refine lw_nil ?_
  refine cw_seq ?_
  refine cw_seq ?_
  refine cw_region ?_
  refine lw_val rfl (run_move (v := .bool _) rfl) ?_
  refine lw_val rfl (run_not rfl) ?_
  refine lw_nil ?_
  refine cw_iff rfl (not_f (rfl)) ?_
  refine cw_skip ?_
  refine cw_seq ?_
  refine cw_region ?_
  refine lw_val rfl (run_move (v := .slice _ _ _) rfl) ?_
  refine lw_call rfl en10 (made_sl hV hs (h0.rd _) rfl) ?_
  clear hs
  rintro _ w ⟨pv, rfl, hs⟩
  refine lw_val rfl (run_assign (v := .pointer (some _)) rfl) ?_
  refine lw_nil ?_
  refine cw_seq ?_
  refine cw_region ?_
  refine lw_call rfl en11 (new_sl hs.nil) ?_
  clear hs
  rintro _ w ⟨p, rfl, hs⟩
  refine lw_val rfl (run_assign (v := .pointer (some _)) rfl) ?_
  refine lw_nil ?_
  refine cw_seq ?_
  refine cw_region ?_
  refine lw_val rfl (run_move (v := .pointer (some _)) rfl) ?_
  refine lw_call rfl en12 (clnew_sl hE hs (t := 1) (by decide)) ?_
  clear hs
  rintro _ w ⟨q, rfl, hs⟩
  refine lw_val rfl (run_move (v := .tuple _) rfl) ?_
  refine lw_val rfl (run_extract (v := .pointer (some _)) rfl rfl) ?_
  refine lw_val rfl (run_extract (v := .nilIface) rfl rfl) ?_
  refine lw_val rfl (run_assign (v := .pointer (some _)) rfl) ?_
  refine lw_val rfl (run_assign (v := .nilIface) rfl) ?_
  refine lw_nil ?_
  refine cw_seq ?_
  refine cw_seq ?_
  refine cw_region ?_
  refine lw_val rfl (run_move (v := .pointer (some _)) rfl) ?_
  refine lw_val rfl (run_eqpn Tryz.underlying24 rfl rfl) ?_
  refine lw_val rfl (run_move (v := .bool _) rfl) ?_
  refine lw_on rfl rfl (rfl) ?_
  refine lw_val rfl (run_move (v := .pointer (some _)) rfl) ?_
  refine lw_on rfl rfl (rfl) ?_
  refine lw_val rfl (run_eqpn Tryz.underlying28 rfl rfl) ?_
  refine lw_val rfl (run_pickF (v := .bool _) rfl (rfl) rfl) ?_
  refine lw_val rfl (run_move (v := .bool _) rfl) ?_
  refine lw_on rfl rfl (rfl) ?_
  refine lw_val rfl (run_move (v := .nilIface) rfl) ?_
  refine lw_on rfl rfl (rfl) ?_
  refine lw_val rfl (run_nenn rfl) ?_
  refine lw_val rfl (run_pickF (v := .bool _) rfl (rfl) rfl) ?_
  refine lw_val rfl (run_move (v := .bool _) rfl) ?_
  refine lw_on rfl rfl (rfl) ?_
  refine lw_val rfl (run_move (v := .bool _) rfl) ?_
  refine lw_on rfl rfl (rfl) ?_
  refine lw_val rfl (run_not rfl) ?_
  refine lw_val rfl (run_pickF (v := .bool _) rfl (rfl) rfl) ?_
  refine lw_nil ?_
  refine cw_iff rfl (not_f (rfl)) ?_
  refine cw_skip ?_
  refine cw_seq ?_
  refine cw_seq ?_
  refine cw_region ?_
  refine lw_val rfl (run_assign (v := .int .i64 _) rfl) ?_
  refine lw_nil ?_
  refine cw_block ?_
  refine cw_loop (X := Nat) [4, 10, 11, 37, 38, 39, 40, 41, 42, 43, 44, 45, 46, 47, 48, 49, 50, 51, 52, 53, 54, 55, 56, 57, 58, 59, 60] (fun y => [(10, .int .i64 (y : Nat))]) (fun y w => y ≤ 4 ∧ Mem g w [clientC q p ((1 : Nat) : Int) 0, StoreC p (pS (kO y) (2 * y))]) (fun y => 4 - y) (0) ?_ ?_ ?_
  · exact ⟨rfl, trivial⟩
  · exact ⟨Nat.zero_le _, hs⟩
  clear hs
  rintro x ξ w hI
  obtain ⟨hi, hs⟩ := hI
  refine cw_seq ?_
  refine cw_seq ?_
  refine cw_region ?_
  refine lw_val rfl (run_move (v := .int .i64 _) rfl) ?_
  refine lw_val rfl (run_lss rfl rfl) ?_
  refine lw_nil ?_
  refine cw_if rfl ?_ ?_
  · intro h38
    have g38 := of_decide_eq_true h38
    have hx4 : x < 4 := by omega
    have hn0 := nmK x (by omega) 0 (by decide)
    have hn1 := nmK x (by omega) 1 (by decide)
    have hkn := kO_next x hx4
    refine cw_skip ?_
    refine cw_seq ?_
    refine cw_block ?_
    refine cw_seq ?_
    refine cw_region ?_
    refine lw_val rfl (run_move (v := .int .i64 _) rfl) ?_
    refine lw_call rfl en13 (one23_sl hs x (by omega)) ?_
    clear hs
    rintro _ w ⟨s1, s2, rfl, hs⟩
    obtain ⟨b9, o9, sc, rfl, hrk⟩ := hs.obsAt (by show 0 < 2; decide)
    refine lw_alloc hs rfl ze36 ?_
    clear hs
    intro b11 w hs
    try simp only [List.set_cons_succ, List.set_cons_zero] at hs
    refine lw_storeRow hs 0 rfl rfl rfl sz36 rfl rfl ?_
    clear hs
    intro w hs
    try simp only [List.set_cons_succ, List.set_cons_zero] at hs
    refine lw_nil ?_
    refine cw_seq ?_
    refine cw_region ?_
    refine lw_val rfl (run_move (v := .pointer (some _)) rfl) ?_
    refine lw_val rfl (run_fieldAddr (o' := 5) Tryz.underlying36 rfl sz34 rfl rfl rfl) ?_
    refine lw_val rfl (run_load Tryz.underlying34 rfl rfl (hs.cellAt 0 rfl rfl)) ?_
    refine lw_val rfl (run_indexAddrK Tryz.underlying34 sz41 rfl rfl (i := 0) rfl (by show 0 < 2; decide) rfl) ?_
    refine lw_val rfl (run_fieldAddr Tryz.underlying41 rfl sz9 rfl rfl rfl) ?_
    refine lw_val rfl (run_load Tryz.underlying9 rfl rfl ((RdK.row 2 rfl : RdK g _ 3 (.slice (some ⟨b9, o9, none⟩) 2 sc) ((oneM x (10 * x)).obs.map obL)).cell hs (q := 0) (row := obL (objNm x (kindB 0) (10 * x), 0, 0)) rfl (j := 0) rfl)) ?_
    refine lw_call rfl en14 (put_sl hE (M := [_, _, _, _]) (hs.arr [4, 0, 1, 2, 3] 5 (by decide)) (by show 2 * x < _; omega) (by show 0 < _; decide) (n := objNm x (kindB 0) (10 * x)) (b := []) Rd.nil (by decide) (put_pS hn0.1)) ?_
    clear hs
    rintro _ w ⟨rfl, hs⟩
    replace hs := hs.arr [1, 2, 3, 4, 0] 5 (by decide)
    refine lw_val rfl (run_neerrn (ad := ad) rfl) ?_
    refine lw_val rfl (run_move (v := .bool _) rfl) ?_
    refine lw_on rfl rfl (rfl) ?_
    refine lw_val rfl (run_move (v := .pointer (some _)) rfl) ?_
    refine lw_on rfl rfl (rfl) ?_
    refine lw_val rfl (run_fieldAddr (o' := 5) Tryz.underlying36 rfl sz34 rfl rfl rfl) ?_
    refine lw_on rfl rfl (rfl) ?_
    refine lw_val rfl (run_load Tryz.underlying34 rfl rfl (hs.cellAt 0 rfl rfl)) ?_
    refine lw_on rfl rfl (rfl) ?_
    refine lw_val rfl (run_indexAddrK Tryz.underlying34 sz41 rfl rfl (i := 1) rfl (by show 1 < 2; decide) rfl) ?_
    refine lw_on rfl rfl (rfl) ?_
    refine lw_val rfl (run_fieldAddr Tryz.underlying41 rfl sz9 rfl rfl rfl) ?_
    refine lw_on rfl rfl (rfl) ?_
    refine lw_val rfl (run_load Tryz.underlying9 rfl rfl ((RdK.row 2 rfl : RdK g _ 3 (.slice (some ⟨b9, o9, none⟩) 2 sc) ((oneM x (10 * x)).obs.map obL)).cell hs (q := 1) (row := obL (objNm x (kindB 1) (10 * x), 0, 0)) rfl (j := 0) rfl)) ?_
    refine lw_on rfl rfl (rfl) ?_
    refine lw_call rfl en14 (put_sl hE (M := [_, _, _, _]) (hs.arr [4, 0, 1, 2, 3] 5 (by decide)) (by show 2 * x + 1 < _; omega) (by show 0 < _; decide) (n := objNm x (kindB 1) (10 * x)) (b := []) Rd.nil (by decide) (put_pS hn1.1)) ?_
    clear hs
    rintro _ w ⟨rfl, hs⟩
    rw [hkn] at hs
    replace hs := hs.arr [4, 0] 5 (by decide)
    refine lw_on rfl rfl (rfl) ?_
    refine lw_val rfl (run_neerrn (ad := ad) rfl) ?_
    refine lw_val rfl (run_pickF (v := .bool _) rfl (rfl) rfl) ?_
    refine lw_nil ?_
    refine cw_iff rfl (rfl) ?_
    refine cw_skip ?_
    refine cw_region ?_
    refine lw_val rfl (run_move (v := .int .i64 _) rfl) ?_
    refine lw_val rfl (run_add64 rfl rfl rfl (inI (by omega) (by omega))) ?_
    refine lw_val rfl (run_assign (v := .int .i64 _) rfl) ?_
    refine lw_nil ?_
    exact ⟨x + 1, by omega, ⟨by omega, by rw [show 2 * (x + 1) = 2 * x + 1 + 1 by omega]; exact hs⟩, ⟨rfl, trivial⟩, by repeat (first | exact Out.mix _ _ _ | refine Out.updo rfl ?_ | refine Out.upd rfl ?_ | refine Out.mixIn rfl ?_)⟩
  · intro h38
    have g38 := of_decide_eq_false h38
    obtain rfl : x = 4 := by omega
    refine cw_exit rfl ?_
    refine cw_seq ?_
    refine cw_seq ?_
    refine cw_region ?_
    refine lw_val rfl (run_move (v := .pointer (some _)) rfl) ?_
    refine lw_val rfl (run_move (v := .pointer (some _)) rfl) ?_
    refine lw_call rfl en15 (swept_sl (M := []) hs ⟨fun y hy => k8_size hy, by decide +kernel⟩ (by decide +kernel)) ?_
    clear hs
    rintro _ w ⟨rfl, hs⟩
    refine lw_val rfl (run_not rfl) ?_
    refine lw_nil ?_
    refine cw_iff rfl (not_f (rfl)) ?_
    refine cw_skip ?_
    refine cw_seq ?_
    refine cw_region ?_
    refine lw_val rfl (run_move (v := .pointer (some _)) rfl) ?_
    refine lw_val rfl (run_move (v := .pointer (some _)) rfl) ?_
    refine lw_val rfl (run_move (v := .slice _ _ _) rfl) ?_
    refine lw_val rfl (run_move (v := .int .i64 _) rfl) ?_
    refine lw_call rfl en16 (keeps_sl (th := th) hX hs h0 rfl) ?_
    clear hs
    rintro _ w ⟨rfl, hs⟩
    refine lw_val rfl (run_assign (v := .bool _) rfl) ?_
    refine lw_nil ?_
    refine cw_ret ?_
    refine res1 (v := .bool _) rfl rfl ?_
    exact ⟨_, rfl, rfl, hs⟩
end Go.Proofs.YtkogkokmcmallaaGreatDoor
