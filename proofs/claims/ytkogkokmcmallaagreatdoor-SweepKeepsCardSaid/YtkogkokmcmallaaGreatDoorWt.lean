/- A sweep's step. -/
import Derived.Test.YtkogkokmcmallaaGreatDoorWs
namespace Go.Proofs.YtkogkokmcmallaaGreatDoor
set_option linter.all false
open Go.RowKit
attribute [local irreducible] errV
variable {g w : World} {L M : List HP} {ad : Nat → Addr} {p q pv : Nat} {st : St} {V : Vw}

theorem Errs.part {A C : List Nat} {ad : Nat → Addr} {B : Nat} {w : World} (h : Errs A ad B w) (hs : ∀ c ∈ C, c ∈ A) : Errs C ad B w :=
  ⟨fun c hc => h.pos c (hs c hc), fun c hc => h.cell c (hs c hc), fun c hc => h.block c (hs c hc), fun c hc d hd => h.inj c (hs c hc) d (hs d hd), fun c hc => h.lt c (hs c hc)⟩
theorem snone_sl (hE : ErrG ad g) (hs : Mem g w L) {c : Nat} (hc : c = 0 ∨ c ∈ coreCodes) : Calls Tryz.prog 102 #[errV ad c] w (Ret fun v w' => v = errV ad (if c = 107 then 0 else c) ∧ Mem g w' L) := by
  refine calls_cw Tryz.func102 rfl rfl ?_
  skip
  refine cw_seq ?_
  refine cw_region ?_
  refine lw_val rfl (run_assign (v := .nilIface) rfl) ?_
  refine lw_nil ?_
  refine cw_seq ?_
  refine cw_seq ?_
  refine cw_region ?_
  refine lw_val rfl (run_move (v := errV ad _) rfl) ?_
  refine lw_val rfl (run_load Tryz.underlying30 rfl rfl (hE.cellW hs 107 (by decide) rfl)) ?_
  refine lw_val rfl (run_eqerr (hE.atW hs) hc (by decide) (c := c) (d := 107) rfl rfl) ?_
  refine lw_nil ?_
  refine cw_if rfl ?_ ?_
  · intro h5
    have g5 := of_decide_eq_true h5
    refine cw_seq ?_
    refine cw_region ?_
    refine lw_val rfl (run_assign (v := .nilIface) rfl) ?_
    refine lw_nil ?_
    refine cw_ret ?_
    refine res1 (v := .nilIface) rfl rfl ?_
    exact ⟨_, rfl, by rw [if_pos g5, errV_zero], hs⟩
  · intro h5
    have g5 := of_decide_eq_false h5
    refine cw_skip ?_
    refine cw_seq ?_
    refine cw_region ?_
    refine lw_val rfl (run_move (v := errV ad _) rfl) ?_
    refine lw_val rfl (run_assign (v := errV ad _) rfl) ?_
    refine lw_nil ?_
    refine cw_ret ?_
    refine res1 (v := errV ad _) rfl rfl ?_
    exact ⟨_, rfl, by rw [if_neg g5], hs⟩
theorem again_few {σ : Type} (step : σ → Nat × σ) : ∀ (t : Nat) (s : σ), (againR step t s).2.2.1 ≤ t
  | 0, _ => Nat.le_refl _
  | t + 1, s => by
    simp only [againR]
    split
    · have := again_few step t (step s).2; simp only; omega
    · simp only; omega
theorem c111 : (111 : Nat) = 0 ∨ 111 ∈ coreCodes := .inr m111
theorem list1_len (hnm : st.named) (pre : ByteArray) : (st.list1 pre).length ≤ 1000000 := by
  have h1 := List.length_filter_le (preB pre) (sortT (keysOf st.objs))
  rw [sortT_len, keysOf, List.length_map] at h1
  have := hnm.2
  simp only [St.list1, keysOf]
  omega
theorem sortT_mem {l : List ByteArray} {x : ByteArray} : x ∈ sortT l ↔ x ∈ l := by
  simp only [sortT, sortB, List.mem_map, (List.mergeSort_perm _ _).mem_iff, bytesOf]
  constructor
  · rintro ⟨y, ⟨z, hz, rfl⟩, rfl⟩
    exact hz
  · intro h
    exact ⟨x.data.toList, ⟨x, h, rfl⟩, rfl⟩
theorem list1_mem {pre x : ByteArray} : x ∈ st.list1 pre ↔ x ∈ keysOf st.objs ∧ preB pre x = true := by
  simp only [St.list1, List.mem_filter, sortT_mem]
theorem orphV_mem {l : List ByteArray} {x : ByteArray} : x ∈ orphV V l ↔ x ∈ l ∧ V.refers x = false := by
  simp only [orphV, List.mem_filter, Bool.not_eq_true']
theorem some_key {κ α : Type} [DecidableEq κ] {l : List (κ × α)} {k : κ} (h : k ∈ keysOf l) : (aget l k).isSome = true := by
  obtain ⟨v, hv⟩ := al_of_key h
  rw [hv]; rfl
set_option maxHeartbeats 4000000 in
theorem step_sl (hE : ErrG ad g) {t : Nat} {a own_ : Int} (ha : 0 ≤ a ∧ a < 900000000000) (ht : 1 ≤ t ∧ t ≤ 8) (hs : Mem g w (clientC q p t a :: StoreC p st :: ViewC pv V :: M)) (hcl : st.calls + 100 < 4611686018427387904) (hfl : st.failed + 100 < 4611686018427387904)
    (hnm : st.named) (hup : st.upped) (hno : (keysOf st.objs).Nodup) (hnu : (keysOf st.ups).Nodup) :
    Calls Tryz.prog 22 #[.pointer (some ⟨q, 0, none⟩), .pointer (some ⟨pv, 0, none⟩), .int .i64 own_] w (Ret fun v w' => ∃ (is : Bool) (c : Nat) (st2 : St) (n : Nat), v = .tuple #[.bool is, errV ad c] ∧ Swept V own_ t st st2 is c ∧ n ≤ 24 ∧ Mem g w' (clientC q p t (a + (n : Nat)) :: StoreC p st2 :: ViewC pv V :: M)) := by
  obtain ⟨lost, x1, n1, st1, out, hk⟩ : ∃ lost x1 n1 st1 out, againR (listStep bPre) t (st, []) = (lost, x1, n1, st1, out) := ⟨_, _, _, _, _, rfl⟩
  have hl := again_list bPre t st []
  have hn1 := again_few (listStep bPre) t (st, [])
  rw [hk] at hl hn1
  obtain ⟨hcore, hx, heat, hbad⟩ := hl
  simp only at hcore hx heat hbad hn1
  have ho1 := St.core_objs hcore
  have hu1 := St.core_ups hcore
  have hc1 := heat.calls
  have hf1 := heat.failed
  refine calls_cw Tryz.func22 rfl rfl ?_
  skip
  refine cw_seq ?_
  refine cw_region ?_
  refine lw_val rfl (run_assign (v := .bool _) rfl) ?_
  refine lw_val rfl (run_assign (v := .nilIface) rfl) ?_
  refine lw_nil ?_
  refine cw_seq ?_
  refine cw_region ?_
  refine lw_val rfl (run_move (v := .pointer (some _)) rfl) ?_
  refine lw_call rfl en71 (clList_sl hE hnm (by omega) ht.2 hs (by omega) (by omega) hk) ?_
  clear hs
  rintro _ w ⟨ao, co, rfl, hs⟩
  refine lw_val rfl (run_move (v := .tuple _) rfl) ?_
  refine lw_val rfl (run_extract (v := .slice _ _ _) rfl rfl) ?_
  refine lw_val rfl (run_extract (v := errV ad _) rfl rfl) ?_
  refine lw_val rfl (run_assign (v := .slice _ _ _) rfl) ?_
  refine lw_val rfl (run_assign (v := errV ad _) rfl) ?_
  refine lw_nil ?_
  refine cw_seq ?_
  refine cw_seq ?_
  refine cw_region ?_
  refine lw_val rfl (run_move (v := errV ad _) rfl) ?_
  refine lw_val rfl (run_neerrn (ad := ad) rfl) ?_
  refine lw_nil ?_
  refine cw_if rfl ?_ ?_
  · intro h23
    have g23 := ne_t h23
    have hx0 : x1 ≠ 0 := by simpa using h23
    obtain ⟨h0, _⟩ | hx := hx
    · exact absurd h0 hx0
    refine cw_seq ?_
    refine cw_region ?_
    refine lw_val rfl (run_move (v := errV ad _) rfl) ?_
    refine lw_val rfl (run_assign (v := .bool _) rfl) ?_
    refine lw_val rfl (run_assign (v := errV ad _) rfl) ?_
    refine lw_nil ?_
    refine cw_ret ?_
    refine res2 (v := .bool _) (v2 := errV ad _) rfl rfl rfl ?_
    subst hx
    exact ⟨_, rfl, false, 111, st1, n1, rfl, ⟨heat.more (by omega), .inr (.inl ⟨rfl, rfl, .inl ⟨ho1, hu1⟩, hbad rfl (by omega)⟩)⟩, by omega, hs.tail⟩
  · intro h23
    have g23 := ne_f h23
    have hx0 : x1 = 0 := by simpa using h23
    have hout : out = st.list1 bPre := by rcases hx with ⟨_, h⟩ | h; exact h; omega
    have hol : out.length ≤ 1000000 := by rw [hout]; exact list1_len hnm bPre
    obtain ⟨O, hO⟩ : ∃ O, O = orphV V out := ⟨_, rfl⟩
    have hOl : O.length ≤ 1000000 := by rw [hO]; have := orphV_len V out; omega
    refine cw_skip ?_
    refine cw_seq ?_
    refine cw_seq ?_
    refine cw_region ?_
    refine lw_val rfl (run_move (v := .pointer (some _)) rfl) ?_
    refine lw_val rfl (run_move (v := .slice _ _ _) rfl) ?_
    refine lw_call rfl en89 (orph_sl (l := out) (hs.arr [3, 0, 1, 2] 4 (by decide)) (Rd.own 0 rfl) rfl hol) ?_
    clear hs
    rintro _ w ⟨s, rfl, hs⟩
    rw [← hO] at hs ⊢
    refine lw_val rfl (run_lenS Tryz.underlying48 rfl) ?_
    refine lw_val rfl (run_move (v := .int .i64 _) rfl) ?_
    refine lw_nil ?_
    refine cw_block ?_
    refine cw_loop (X := Nat) [6, 7, 11, 12, 29, 30, 31, 32, 33, 34, 35, 36, 37, 38, 39, 40] (fun k => [(29, .int .i64 (k : Nat))]) (fun k w => k = 0 ∧ Mem g w (own (.slice s.1 O.length s.2) (textsL O) :: clientC q p t (a + (n1 : Nat)) :: StoreC p st1 :: ViewC pv V :: M)) (fun k => 1 - k) (0) ?_ ?_ ?_
    · exact ⟨rfl, trivial⟩
    · exact ⟨rfl, hs.arr [0, 3, 4, 1] 5 (by decide)⟩
    clear hs
    rintro x ξ w hI
    obtain ⟨rfl, hs⟩ := hI
    refine cw_seq ?_
    refine cw_region ?_
    refine lw_val rfl (run_lss rfl rfl) ?_
    refine lw_nil ?_
    refine cw_seq ?_
    refine cw_if rfl ?_ ?_
    · intro h30
      have g30 := of_decide_eq_true h30
      obtain ⟨y, hy⟩ : ∃ y, O[0]? = some y := ⟨_, List.getElem?_eq_getElem (by omega)⟩
      obtain ⟨sa, sc⟩ := s
      obtain ⟨b1, o1, rfl, _⟩ := (Rd.own (g := g) (L := own (.slice sa O.length sc) (textsL O) :: clientC q p t (a + (n1 : Nat)) :: StoreC p st1 :: ViewC pv V :: M) 0 rfl).cells' hs (by rw [textsL_len]; omega)
      have hyO := List.mem_of_getElem? hy
      rw [hO, orphV_mem, hout, list1_mem] at hyO
      obtain ⟨⟨hyk, hyp⟩, hyr⟩ := hyO
      obtain ⟨l2, x2, n2, st2, hk2⟩ : ∃ l2 x2 n2 st2, againR (fun s => s.run (St.del1 y)) t st1 = (l2, x2, n2, st2) := ⟨_, _, _, _, rfl⟩
      have hT := (lets_del y).there t st1 (by rw [ho1]; exact hno) (by rw [ho1]; exact some_key hyk) _ rfl
      have hn2 := again_few (fun s : St => s.run (St.del1 y)) t st1
      rw [hk2] at hT hn2
      obtain ⟨c2, hc2⟩ : ∃ c2, c2 = (if l2 = true ∧ x2 = 107 then 0 else x2) := ⟨_, rfl⟩
      simp only at hT hn2
      rw [← hc2] at hT
      obtain ⟨hT, heat2, hbad2⟩ := hT
      have hobj : ({ st1 with objs := adel st1.objs y } : St).core = (adel st.objs y, st.ups, st.ids) := by rw [← ho1, ← hu1, ← St.core_ids hcore]; rfl
      refine cw_skip ?_
      refine cw_seq ?_
      refine cw_block ?_
      refine cw_seq ?_
      refine cw_region ?_
      refine lw_val rfl (run_indexAddr Tryz.underlying48 sz9 rfl rfl rfl (by omega) rfl) ?_
      refine lw_val rfl (run_load Tryz.underlying9 rfl rfl (hs.ownAt 0 rfl (textsL_at hy))) ?_
      refine lw_val rfl (run_assign (v := .string _) rfl) ?_
      refine lw_nil ?_
      refine cw_seq ?_
      refine cw_seq ?_
      refine cw_region ?_
      refine lw_val rfl (run_move (v := .pointer (some _)) rfl) ?_
      refine lw_val rfl (run_move (v := .string _) rfl) ?_
      refine lw_call rfl en73 (clDel_sl hE (by omega) ht.2 (hs.arr [1, 2, 0, 3] 4 (by decide)) (by omega) (by omega) hk2) ?_
      clear hs
      rintro _ w ⟨rfl, hs⟩
      rw [← hc2]
      refine lw_call rfl en102 (snone_sl hE hs (c := c2) (by rcases hT with ⟨h, _⟩ | ⟨h, _⟩; exact .inl h; rw [h]; exact c111)) ?_
      clear hs
      rintro _ w ⟨rfl, hs⟩
      refine lw_val rfl (run_assign (v := errV ad _) rfl) ?_
      refine lw_nil ?_
      refine cw_seq ?_
      have e9 : a + ((n1 : Nat) : Int) + ((n2 : Nat) : Int) = a + ((n1 + n2 : Nat) : Int) := by omega
      rw [e9] at hs
      have heat3 := (heat.trans heat2).more (show t + t ≤ 3 * t by omega)
      have hwent : st2.core = (adel st.objs y, st.ups, st.ids) → Went V own_ st st2 := fun h => .obj y hyk hyr hyp (congrArg Prod.fst h) (congrArg (fun x => x.2.1) h)
      refine cw_region ?_
      refine lw_val rfl (run_move (v := errV ad _) rfl) ?_
      refine lw_val rfl (run_neerrn (ad := ad) rfl) ?_
      refine lw_nil ?_
      refine cw_if rfl ?_ ?_
      · intro h38
        have g38 := ne_t h38
        refine cw_seq ?_
        refine cw_region ?_
        refine lw_val rfl (run_move (v := errV ad _) rfl) ?_
        refine lw_val rfl (run_assign (v := .bool _) rfl) ?_
        refine lw_val rfl (run_assign (v := errV ad _) rfl) ?_
        refine lw_nil ?_
        refine cw_ret ?_
        refine res2 (v := .bool _) (v2 := errV ad _) rfl rfl rfl ?_
        have h7 : c2 = 111 := by rcases hT with ⟨h, _⟩ | ⟨h, _⟩; (simp [h] at h38); exact h
        have h8 := hbad2 h7 (by omega)
        have h9 := heat.sc
        have how : Idle st st2 ∨ Went V own_ st st2 := by rcases hT with ⟨h, _⟩ | ⟨_, h | h⟩; (rw [h] at h7; cases h7); exact .inl ⟨(St.core_objs h).trans ho1, (St.core_ups h).trans hu1⟩; exact .inr (hwent (h.trans hobj))
        exact ⟨_, rfl, false, 111, st2, n1 + n2, by rw [h7]; rfl, ⟨heat3, .inr (.inl ⟨rfl, rfl, how, by omega⟩)⟩, by omega, hs.arr [0, 1, 3] 4 (by decide)⟩
      · intro h38
        have g38 := ne_f h38
        refine cw_skip ?_
        refine cw_seq ?_
        refine cw_region ?_
        refine lw_val rfl (run_assign (v := .bool _) rfl) ?_
        refine lw_val rfl (run_assign (v := .nilIface) rfl) ?_
        refine lw_nil ?_
        refine cw_ret ?_
        refine res2 (v := .bool _) (v2 := .nilIface) rfl rfl rfl ?_
        have h7 : c2 = 0 := by rcases hT with ⟨h, _⟩ | ⟨h, _⟩; exact h; (simp [h] at h38)
        have how : Went V own_ st st2 := by rcases hT with ⟨_, h⟩ | ⟨h, _⟩; exact hwent (h.trans hobj); (rw [h] at h7; cases h7)
        exact ⟨_, rfl, true, 0, st2, n1 + n2, by rw [errV_zero], ⟨heat3, .inl ⟨rfl, rfl, how⟩⟩, by omega, hs.arr [0, 1, 3] 4 (by decide)⟩
    · intro h30
      have g30 := of_decide_eq_false h30
      have hO0 : O = [] := List.eq_nil_of_length_eq_zero (by omega)
      have hall : ∀ n ∈ keysOf st.objs, preB bPre n = true → V.refers n = true := fun n hn hp => by cases hr : V.refers n with | true => rfl | false => exact absurd (show n ∈ O by rw [hO, orphV_mem, hout, list1_mem]; exact ⟨⟨hn, hp⟩, hr⟩) (by rw [hO0]; simp)
      obtain ⟨l3, x3, n3, st3, ids, hk3⟩ : ∃ l3 x3 n3 st3 ids, againR upsStep t (st1, []) = (l3, x3, n3, st3, ids) := ⟨_, _, _, _, _, rfl⟩
      have hl3 := again_ups t st1 []
      have hn3 := again_few upsStep t (st1, [])
      rw [hk3] at hl3 hn3
      obtain ⟨hcore3, hx3, heat2, hbad2⟩ := hl3
      simp only at hcore3 hx3 heat2 hbad2 hn3
      have ho3 := (St.core_objs hcore3).trans ho1
      have hu3 := (St.core_ups hcore3).trans hu1
      have hc3 := heat2.calls
      have hf3 := heat2.failed
      have heat3 := (heat.trans heat2).more (show t + t ≤ 2 * t by omega)
      refine cw_exit rfl ?_
      refine cw_seq ?_
      refine cw_region ?_
      refine lw_val rfl (run_move (v := .pointer (some _)) rfl) ?_
      refine lw_call rfl en83 (clUps_sl hE (show st1.upped by unfold St.upped; rw [hu1]; exact hup) (by omega) ht.2 (hs.arr [1, 2, 3] 4 (by decide)) (by omega) (by omega) hk3) ?_
      clear hs
      rintro _ w ⟨a43, c43, rfl, hs⟩
      have e9 : a + ((n1 : Nat) : Int) + ((n3 : Nat) : Int) = a + ((n1 + n3 : Nat) : Int) := by omega
      rw [e9] at hs
      refine lw_val rfl (run_move (v := .tuple _) rfl) ?_
      refine lw_val rfl (run_extract (v := .slice _ _ _) rfl rfl) ?_
      refine lw_val rfl (run_extract (v := errV ad _) rfl rfl) ?_
      refine lw_val rfl (run_assign (v := .slice _ _ _) rfl) ?_
      refine lw_val rfl (run_assign (v := errV ad _) rfl) ?_
      refine lw_nil ?_
      refine cw_seq ?_
      refine cw_seq ?_
      refine cw_region ?_
      refine lw_val rfl (run_move (v := errV ad _) rfl) ?_
      refine lw_val rfl (run_neerrn (ad := ad) rfl) ?_
      refine lw_nil ?_
      refine cw_if rfl ?_ ?_
      · intro h47
        have g47 := ne_t h47
        have hx0 : x3 ≠ 0 := by simpa using h47
        obtain ⟨h0, _⟩ | hx3 := hx3
        · exact absurd h0 hx0
        refine cw_seq ?_
        refine cw_region ?_
        refine lw_val rfl (run_move (v := errV ad _) rfl) ?_
        refine lw_val rfl (run_assign (v := .bool _) rfl) ?_
        refine lw_val rfl (run_assign (v := errV ad _) rfl) ?_
        refine lw_nil ?_
        refine cw_ret ?_
        refine res2 (v := .bool _) (v2 := errV ad _) rfl rfl rfl ?_
        have h8 := hbad2 hx3 (by omega)
        have h9 := heat.sc
        subst hx3
        exact ⟨_, rfl, false, 111, st3, n1 + n3, rfl, ⟨heat3.more (by omega), .inr (.inl ⟨rfl, rfl, .inl ⟨ho3, hu3⟩, by omega⟩)⟩, by omega, hs.tail⟩
      · intro h47
        have g47 := ne_f h47
        have hx0 : x3 = 0 := by simpa using h47
        have hids : ids = sortI (keysOf st.ups) := by rcases hx3 with ⟨_, h⟩ | h; (rw [← hu1]; exact h); omega
        have hidl : ids.length ≤ 1000000 := by rw [hids]; simp only [sortI, List.length_mergeSort, keysOf, List.length_map]; exact hup.2
        obtain ⟨Q, hQ⟩ : ∃ Q, Q = looseL own_ ids := ⟨_, rfl⟩
        have hQl : Q.length ≤ 1000000 := by rw [hQ]; have := loose_len own_ ids; omega
        have hQm : ∀ i, i ∈ Q ↔ i ∈ keysOf st.ups ∧ i ≠ own_ := fun i => by rw [hQ, hids]; simp only [looseL, List.mem_filter, sortI, (List.mergeSort_perm _ _).mem_iff, decide_eq_true_eq]
        refine cw_skip ?_
        refine cw_seq ?_
        refine cw_seq ?_
        refine cw_region ?_
        refine lw_val rfl (run_move (v := .int .i64 _) rfl) ?_
        refine lw_val rfl (run_move (v := .slice _ _ _) rfl) ?_
        refine lw_call rfl en103 (loose_sl (l := ids) hs own_ (Rd.own 0 rfl) rfl hidl) ?_
        clear hs
        rintro _ w ⟨s5, rfl, hs⟩
        rw [← hQ] at hs ⊢
        refine lw_val rfl (run_lenS Tryz.underlying22 rfl) ?_
        refine lw_val rfl (run_move (v := .int .i64 _) rfl) ?_
        refine lw_nil ?_
        refine cw_block ?_
        refine cw_loop (X := Nat) [6, 7, 15, 16, 53, 54, 55, 56, 57, 58, 59, 60, 61, 62, 63, 64] (fun k => [(53, .int .i64 (k : Nat))]) (fun k w => k = 0 ∧ Mem g w (own (.slice s5.1 Q.length s5.2) (intsL Q) :: clientC q p t (a + ((n1 + n3 : Nat) : Int)) :: StoreC p st3 :: ViewC pv V :: M)) (fun k => 1 - k) (0) ?_ ?_ ?_
        · exact ⟨rfl, trivial⟩
        · exact ⟨rfl, hs.arr [0, 2, 3, 4] 5 (by decide)⟩
        clear hs
        rintro x ξ w hI
        obtain ⟨rfl, hs⟩ := hI
        refine cw_seq ?_
        refine cw_region ?_
        refine lw_val rfl (run_lss rfl rfl) ?_
        refine lw_nil ?_
        refine cw_seq ?_
        refine cw_if rfl ?_ ?_
        · intro h54
          have g54 := of_decide_eq_true h54
          obtain ⟨y, hy⟩ : ∃ y, Q[0]? = some y := ⟨_, List.getElem?_eq_getElem (by omega)⟩
          obtain ⟨sa, sc⟩ := s5
          obtain ⟨b1, o1, rfl, _⟩ := (Rd.own (g := g) (L := own (.slice sa Q.length sc) (intsL Q) :: clientC q p t (a + ((n1 + n3 : Nat) : Int)) :: StoreC p st3 :: ViewC pv V :: M) 0 rfl).cells' hs (by rw [intsL_len]; omega)
          have hyQ := (hQm y).1 (List.mem_of_getElem? hy)
          obtain ⟨l2, x2, n2, st2, hk2⟩ : ∃ l2 x2 n2 st2, againR (fun s => s.run (St.abort1 y)) t st3 = (l2, x2, n2, st2) := ⟨_, _, _, _, rfl⟩
          have hT := (lets_abort y).there t st3 (by rw [hu3]; exact hnu) (by rw [hu3]; exact some_key hyQ.1) _ rfl
          have hn2 := again_few (fun s : St => s.run (St.abort1 y)) t st3
          rw [hk2] at hT hn2
          obtain ⟨c2, hc2⟩ : ∃ c2, c2 = (if l2 = true ∧ x2 = 107 then 0 else x2) := ⟨_, rfl⟩
          simp only at hT hn2
          rw [← hc2] at hT
          obtain ⟨hT, heat4, hbad4⟩ := hT
          have hobj : ({ st3 with ups := adel st3.ups y } : St).core = (st.objs, adel st.ups y, st3.ids) := by rw [← ho3, ← hu3]; rfl
          refine cw_skip ?_
          refine cw_seq ?_
          refine cw_block ?_
          refine cw_seq ?_
          refine cw_region ?_
          refine lw_val rfl (run_indexAddr Tryz.underlying22 sz3 rfl rfl rfl (by omega) rfl) ?_
          refine lw_val rfl (run_load Tryz.underlying3 rfl rfl (hs.ownAt 0 rfl (intsL_at hy))) ?_
          refine lw_val rfl (run_assign (v := .int .i64 _) rfl) ?_
          refine lw_nil ?_
          refine cw_seq ?_
          refine cw_seq ?_
          refine cw_region ?_
          refine lw_val rfl (run_move (v := .pointer (some _)) rfl) ?_
          refine lw_val rfl (run_move (v := .int .i64 _) rfl) ?_
          refine lw_call rfl en81 (clAbort_sl hE (by omega) ht.2 (hs.arr [1, 2, 0, 3] 4 (by decide)) (by omega) (by omega) hk2) ?_
          clear hs
          rintro _ w ⟨rfl, hs⟩
          rw [← hc2]
          refine lw_call rfl en102 (snone_sl hE hs (c := c2) (by rcases hT with ⟨h, _⟩ | ⟨h, _⟩; exact .inl h; rw [h]; exact c111)) ?_
          clear hs
          rintro _ w ⟨rfl, hs⟩
          refine lw_val rfl (run_assign (v := errV ad _) rfl) ?_
          refine lw_nil ?_
          refine cw_seq ?_
          have e9 : a + ((n1 + n3 : Nat) : Int) + ((n2 : Nat) : Int) = a + ((n1 + n3 + n2 : Nat) : Int) := by omega
          rw [e9] at hs
          have heat5 := (heat3.trans heat4).more (show 2 * t + t ≤ 3 * t by omega)
          have hwent : st2.core = (st.objs, adel st.ups y, st3.ids) → Went V own_ st st2 := fun h => .up y hyQ.1 hyQ.2 (congrArg (fun x => x.2.1) h) (congrArg Prod.fst h)
          refine cw_region ?_
          refine lw_val rfl (run_move (v := errV ad _) rfl) ?_
          refine lw_val rfl (run_neerrn (ad := ad) rfl) ?_
          refine lw_nil ?_
          refine cw_if rfl ?_ ?_
          · intro h62
            have g62 := ne_t h62
            refine cw_seq ?_
            refine cw_region ?_
            refine lw_val rfl (run_move (v := errV ad _) rfl) ?_
            refine lw_val rfl (run_assign (v := .bool _) rfl) ?_
            refine lw_val rfl (run_assign (v := errV ad _) rfl) ?_
            refine lw_nil ?_
            refine cw_ret ?_
            refine res2 (v := .bool _) (v2 := errV ad _) rfl rfl rfl ?_
            have h7 : c2 = 111 := by rcases hT with ⟨h, _⟩ | ⟨h, _⟩; (simp [h] at h62); exact h
            have h8 := hbad4 h7 (by omega)
            have h9 := heat3.sc
            have how : Idle st st2 ∨ Went V own_ st st2 := by rcases hT with ⟨h, _⟩ | ⟨_, h | h⟩; (rw [h] at h7; cases h7); exact .inl ⟨(St.core_objs h).trans ho3, (St.core_ups h).trans hu3⟩; exact .inr (hwent (h.trans hobj))
            exact ⟨_, rfl, false, 111, st2, n1 + n3 + n2, by rw [h7]; rfl, ⟨heat5, .inr (.inl ⟨rfl, rfl, how, by omega⟩)⟩, by omega, hs.arr [0, 1, 3] 4 (by decide)⟩
          · intro h62
            have g62 := ne_f h62
            refine cw_skip ?_
            refine cw_seq ?_
            refine cw_region ?_
            refine lw_val rfl (run_assign (v := .bool _) rfl) ?_
            refine lw_val rfl (run_assign (v := .nilIface) rfl) ?_
            refine lw_nil ?_
            refine cw_ret ?_
            refine res2 (v := .bool _) (v2 := .nilIface) rfl rfl rfl ?_
            have h7 : c2 = 0 := by rcases hT with ⟨h, _⟩ | ⟨h, _⟩; exact h; (simp [h] at h62)
            have how : Went V own_ st st2 := by rcases hT with ⟨_, h⟩ | ⟨h, _⟩; exact hwent (h.trans hobj); (rw [h] at h7; cases h7)
            exact ⟨_, rfl, true, 0, st2, n1 + n3 + n2, by rw [errV_zero], ⟨heat5, .inl ⟨rfl, rfl, how⟩⟩, by omega, hs.arr [0, 1, 3] 4 (by decide)⟩
        · intro h54
          have g54 := of_decide_eq_false h54
          refine cw_exit rfl ?_
          refine cw_seq ?_
          refine cw_region ?_
          refine lw_val rfl (run_assign (v := .bool _) rfl) ?_
          refine lw_val rfl (run_assign (v := .nilIface) rfl) ?_
          refine lw_nil ?_
          refine cw_ret ?_
          refine res2 (v := .bool _) (v2 := .nilIface) rfl rfl rfl ?_
          have hQ0 : Q = [] := List.eq_nil_of_length_eq_zero (by omega)
          have hall2 : ∀ i ∈ keysOf st.ups, i = own_ := fun i hi => Classical.byContradiction fun hne => absurd ((hQm i).2 ⟨hi, hne⟩) (by rw [hQ0]; simp)
          exact ⟨_, rfl, false, 0, st3, n1 + n3, by rw [errV_zero], ⟨heat3.more (by omega), .inr (.inr ⟨rfl, rfl, ⟨ho3, hu3⟩, hall, hall2⟩)⟩, by omega, hs.tail⟩
end Go.Proofs.YtkogkokmcmallaaGreatDoor
