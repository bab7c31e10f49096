/- The document's Make; the manifests of the statements. -/
import Derived.Test.YtkogkokmcmallaaGreatDoorRn
namespace Go.Proofs.YtkogkokmcmallaaGreatDoor
set_option linter.all false
open Go.RowKit
attribute [local irreducible] errV
variable {g w : World} {L M : List HP} {ad : Nat → Addr} {p : Nat}

theorem digR_size (n : Nat) : ∀ k, (digR n k).size = k
  | 0 => rfl
  | k + 1 => by
    rw [digR, ByteArray.size_append, digR_size n k]
    show 1 + k = k + 1
    omega
theorem dig_at : ∀ d, d < 10 → (⟨#[48, 49, 50, 51, 52, 53, 54, 55, 56, 57]⟩ : ByteArray).extract d (d + 1) = ⟨#[UInt8.ofNat (48 + d)]⟩ := by decide +kernel
theorem digits_sl (hs : Mem g w L) (n k : Nat) (hn : n ≤ 1099511627776) (hk : k ≤ 20) : Calls Tryz.prog 227 #[.int .i64 n, .int .i64 k] w (Ret fun v w' => v = .string (digR n k) ∧ Mem g w' L) := by
  refine calls_cw Tryz.func227 rfl rfl ?_
  skip
  refine cw_seq ?_
  refine cw_region ?_
  refine lw_val rfl (run_assign (v := .string _) rfl) ?_
  refine lw_nil ?_
  refine cw_seq ?_
  refine cw_region ?_
  refine lw_val rfl (run_assign (v := .string _) rfl) ?_
  refine lw_nil ?_
  refine cw_seq ?_
  refine cw_seq ?_
  refine cw_region ?_
  refine lw_val rfl (run_assign (v := .int .i64 _) rfl) ?_
  refine lw_nil ?_
  refine cw_block ?_
  refine cw_loop (X := Nat × Nat) [0, 5, 6, 7, 8, 9, 10, 11, 12, 13, 14, 15, 16, 17, 18, 19, 20, 21, 22] (fun q => [(0, .int .i64 (q.2 : Nat)), (5, .string (digR n q.1)), (6, .int .i64 (q.1 : Nat))]) (fun q w => q.1 ≤ k ∧ q.2 = n / 10 ^ q.1 ∧ Mem g w L) (fun q => k - q.1) ((0, n)) ?_ ?_ ?_
  · exact ⟨rfl, rfl, rfl, trivial⟩
  · exact ⟨Nat.zero_le _, by simp, hs⟩
  clear hs
  rintro x ξ w hI
  obtain ⟨i, m⟩ := x
  obtain ⟨hi, hm, hs⟩ := hI
  simp only at hi hm hs
  have hmn : m ≤ n := hm ▸ Nat.div_le_self _ _
  show cw _ _ _ _ _ _ (updL (mix _ ξ _) [(0, .int .i64 (m : Nat)), (5, .string (digR n i)), (6, .int .i64 (i : Nat))]) w
  refine cw_seq ?_
  refine cw_seq ?_
  refine cw_region ?_
  refine lw_val rfl (run_move (v := .int .i64 _) rfl) ?_
  refine lw_val rfl (run_move (v := .int .i64 _) rfl) ?_
  refine lw_val rfl (run_lss rfl rfl) ?_
  refine lw_nil ?_
  refine cw_if rfl ?_ ?_
  · intro h10
    have g10 := of_decide_eq_true h10
    refine cw_skip ?_
    refine cw_seq ?_
    refine cw_block ?_
    refine cw_seq ?_
    refine cw_region ?_
    refine lw_val rfl (run_move (v := .int .i64 _) rfl) ?_
    refine lw_val rfl (run_rem64 rfl rfl (c := ((m % 10 : Nat) : Int)) (by omega) (by omega) (by omega)) ?_
    refine lw_val rfl (run_assign (v := .int .i64 _) rfl) ?_
    refine lw_nil ?_
    refine cw_seq ?_
    refine cw_region ?_
    refine lw_val rfl (run_move (v := .int .i64 _) rfl) ?_
    refine lw_val rfl (run_move (v := .int .i64 _) rfl) ?_
    refine lw_val rfl (run_add64 rfl rfl (c := ((m % 10 + 1 : Nat) : Int)) (by omega) (inI (by omega) (by omega))) ?_
    refine lw_val rfl (run_str2 Tryz.underlying9 rfl rfl rfl (lo := m % 10) (hi := m % 10 + 1) rfl rfl (by omega) (by show m % 10 + 1 ≤ 10; omega)) ?_
    refine lw_val rfl (run_move (v := .string _) rfl) ?_
    refine lw_val rfl (run_cats (a := (⟨#[48, 49, 50, 51, 52, 53, 54, 55, 56, 57]⟩ : ByteArray).extract (m % 10) (m % 10 + 1)) (b := digR n i) rfl rfl (by rw [digR_size, dig_at _ (by omega)]; show 1 + i ≤ _; omega)) ?_
    refine lw_val rfl (run_assign (v := .string _) rfl) ?_
    refine lw_nil ?_
    refine cw_region ?_
    refine lw_val rfl (run_move (v := .int .i64 _) rfl) ?_
    refine lw_val rfl (run_quo64 rfl rfl (c := ((m / 10 : Nat) : Int)) (by omega) (by omega) (by omega) (inI (by omega) (by omega))) ?_
    refine lw_val rfl (run_assign (v := .int .i64 _) rfl) ?_
    refine lw_nil ?_
    refine cw_region ?_
    refine lw_val rfl (run_move (v := .int .i64 _) rfl) ?_
    refine lw_val rfl (run_add64 rfl rfl rfl (inI (by omega) (by omega))) ?_
    refine lw_val rfl (run_assign (v := .int .i64 _) rfl) ?_
    refine lw_nil ?_
    exact ⟨(i + 1, m / 10), by simp only; omega, ⟨by simp only; omega, by simp only; rw [hm, Nat.div_div_eq_div_mul, Nat.pow_succ], hs⟩, ⟨rfl, by rw [digR, ← hm, ← dig_at _ (by omega)]; rfl, rfl, trivial⟩, by repeat (first | exact Out.mix _ _ _ | refine Out.updo rfl ?_ | refine Out.upd rfl ?_ | refine Out.mixIn rfl ?_)⟩
  · intro h10
    have g10 := of_decide_eq_false h10
    refine cw_exit rfl ?_
    refine cw_seq ?_
    refine cw_region ?_
    refine lw_val rfl (run_move (v := .string _) rfl) ?_
    refine lw_val rfl (run_assign (v := .string _) rfl) ?_
    refine lw_nil ?_
    refine cw_ret ?_
    refine res1 (v := .string _) rfl rfl ?_
    have e : i = k := by omega
    subst e
    exact ⟨_, rfl, rfl, hs⟩
theorem kindly_sl (hs : Mem g w L) (s : ByteArray) (h1 : 1 ≤ s.size ∧ s.size ≤ 8) (hall : ∀ b ∈ s.data.toList, 97 ≤ b.toNat ∧ b.toNat ≤ 122) : Calls Tryz.prog 226 #[.string s] w (Ret fun v w' => v = .bool true ∧ Mem g w' L) := by
  have hsz : s.data.toList.length = s.size := by simp
  refine calls_cw Tryz.func226 rfl rfl ?_
  skip
  refine cw_seq ?_
  refine cw_region ?_
  refine lw_val rfl (run_assign (v := .bool _) rfl) ?_
  refine lw_nil ?_
  refine cw_seq ?_
  refine cw_seq ?_
  refine cw_region ?_
  refine lw_val rfl (run_move (v := .string _) rfl) ?_
  refine lw_val rfl (run_lenT Tryz.underlying9 rfl) ?_
  refine lw_val rfl (run_lss rfl rfl) ?_
  refine lw_val rfl (run_move (v := .bool _) rfl) ?_
  refine lw_on rfl rfl (decide_eq_false (by omega)) ?_
  refine lw_val rfl (run_move (v := .string _) rfl) ?_
  refine lw_on rfl rfl (decide_eq_false (by omega)) ?_
  refine lw_val rfl (run_lenT Tryz.underlying9 rfl) ?_
  refine lw_on rfl rfl (decide_eq_false (by omega)) ?_
  refine lw_val rfl (run_gtr rfl rfl) ?_
  refine lw_val rfl (run_pickF (v := .bool _) rfl (decide_eq_false (by omega)) rfl) ?_
  refine lw_nil ?_
  refine cw_iff rfl (decide_eq_false (by omega)) ?_
  refine cw_skip ?_
  refine cw_seq ?_
  refine cw_seq ?_
  refine cw_region ?_
  refine lw_val rfl (run_assign (v := .int .i64 _) rfl) ?_
  refine lw_nil ?_
  refine cw_block ?_
  refine cw_loop (X := Nat) [2, 3, 12, 13, 14, 15, 16, 17, 18, 19, 20, 21, 22, 23, 24, 25, 26, 27] (fun k => [(3, .int .i64 (k : Nat))]) (fun k w => k ≤ s.size ∧ Mem g w L) (fun k => s.size - k) (0) ?_ ?_ ?_
  · exact ⟨rfl, trivial⟩
  · exact ⟨Nat.zero_le _, hs⟩
  clear hs
  rintro x ξ w hI
  obtain ⟨hk, hs⟩ := hI
  refine cw_seq ?_
  refine cw_seq ?_
  refine cw_region ?_
  refine lw_val rfl (run_move (v := .int .i64 _) rfl) ?_
  refine lw_val rfl (run_move (v := .string _) rfl) ?_
  refine lw_val rfl (run_lenT Tryz.underlying9 rfl) ?_
  refine lw_val rfl (run_lss rfl rfl) ?_
  refine lw_nil ?_
  refine cw_if rfl ?_ ?_
  · intro h15
    have g15 := of_decide_eq_true h15
    obtain ⟨b, hb⟩ : ∃ b, s.data.toList[x]? = some b := ⟨_, List.getElem?_eq_getElem (by omega)⟩
    have hbb := hall b (List.mem_of_getElem? hb)
    refine cw_skip ?_
    refine cw_seq ?_
    refine cw_block ?_
    refine cw_seq ?_
    refine cw_region ?_
    refine lw_val rfl (run_move (v := .string _) rfl) ?_
    refine lw_val rfl (run_move (v := .int .i64 _) rfl) ?_
    refine lw_val rfl (run_indexs Tryz.underlying9 rfl rfl hb) ?_
    refine lw_val rfl (run_lss rfl rfl) ?_
    refine lw_val rfl (run_move (v := .bool _) rfl) ?_
    refine lw_on rfl rfl (decide_eq_false (by omega)) ?_
    refine lw_val rfl (run_move (v := .string _) rfl) ?_
    refine lw_on rfl rfl (decide_eq_false (by omega)) ?_
    refine lw_val rfl (run_move (v := .int .i64 _) rfl) ?_
    refine lw_on rfl rfl (decide_eq_false (by omega)) ?_
    refine lw_val rfl (run_indexs Tryz.underlying9 rfl rfl hb) ?_
    refine lw_on rfl rfl (decide_eq_false (by omega)) ?_
    refine lw_val rfl (run_gtr rfl rfl) ?_
    refine lw_val rfl (run_pickF (v := .bool _) rfl (decide_eq_false (by omega)) rfl) ?_
    refine lw_nil ?_
    refine cw_iff rfl (decide_eq_false (by omega)) ?_
    refine cw_skip ?_
    refine cw_region ?_
    refine lw_val rfl (run_move (v := .int .i64 _) rfl) ?_
    refine lw_val rfl (run_add64 rfl rfl rfl (inI (by omega) (by omega))) ?_
    refine lw_val rfl (run_assign (v := .int .i64 _) rfl) ?_
    refine lw_nil ?_
    exact ⟨x + 1, by omega, ⟨by omega, hs⟩, ⟨rfl, trivial⟩, by repeat (first | exact Out.mix _ _ _ | refine Out.updo rfl ?_ | refine Out.upd rfl ?_ | refine Out.mixIn rfl ?_)⟩
  · intro h15
    have g15 := of_decide_eq_false h15
    refine cw_exit rfl ?_
    refine cw_seq ?_
    refine cw_region ?_
    refine lw_val rfl (run_assign (v := .bool _) rfl) ?_
    refine lw_nil ?_
    refine cw_ret ?_
    refine res1 (v := .bool _) rfl rfl ?_
    exact ⟨_, rfl, rfl, hs⟩
theorem objNm_sl (hs : Mem g w L) (id base : Nat) (s : ByteArray) (hid : id ≤ 2147483647) (hb : base ≤ 1099511627776) (h1 : 1 ≤ s.size ∧ s.size ≤ 8) (hall : ∀ b ∈ s.data.toList, 97 ≤ b.toNat ∧ b.toNat ≤ 122) : Calls Tryz.prog 181 #[.int .i64 id, .string s, .int .i64 base] w (Ret fun v w' => v = .string (objNm id s base) ∧ Mem g w' L) := by
  refine calls_cw Tryz.func181 rfl rfl ?_
  skip
  refine cw_seq ?_
  refine cw_region ?_
  refine lw_val rfl (run_assign (v := .string _) rfl) ?_
  refine lw_nil ?_
  refine cw_seq ?_
  refine cw_seq ?_
  refine cw_region ?_
  refine lw_val rfl (run_move (v := .int .i64 _) rfl) ?_
  refine lw_val rfl (run_lss rfl rfl) ?_
  refine lw_val rfl (run_move (v := .bool _) rfl) ?_
  refine lw_on rfl rfl (decide_eq_false (by omega)) ?_
  refine lw_val rfl (run_move (v := .int .i64 _) rfl) ?_
  refine lw_on rfl rfl (decide_eq_false (by omega)) ?_
  refine lw_val rfl (run_gtr rfl rfl) ?_
  refine lw_val rfl (run_pickF (v := .bool _) rfl (decide_eq_false (by omega)) rfl) ?_
  refine lw_val rfl (run_move (v := .bool _) rfl) ?_
  refine lw_on rfl rfl (decide_eq_false (by omega)) ?_
  refine lw_val rfl (run_move (v := .string _) rfl) ?_
  refine lw_on rfl rfl (decide_eq_false (by omega)) ?_
  refine lw_call rfl en226 (kindly_sl hs s h1 hall) ?_
  clear hs
  rintro _ w ⟨rfl, hs⟩
  refine lw_on rfl rfl (decide_eq_false (by omega)) ?_
  refine lw_val rfl (run_not rfl) ?_
  refine lw_val rfl (run_pickF (v := .bool _) rfl (decide_eq_false (by omega)) rfl) ?_
  refine lw_val rfl (run_move (v := .bool _) rfl) ?_
  refine lw_on rfl rfl (not_f (rfl)) ?_
  refine lw_val rfl (run_move (v := .int .i64 _) rfl) ?_
  refine lw_on rfl rfl (not_f (rfl)) ?_
  refine lw_call rfl en205 (rRight_sl hs base) ?_
  clear hs
  rintro _ w ⟨rfl, hs⟩
  refine lw_on rfl rfl (not_f (rfl)) ?_
  refine lw_val rfl (run_not rfl) ?_
  refine lw_val rfl (run_pickF (v := .bool _) rfl (not_f (rfl)) rfl) ?_
  refine lw_nil ?_
  refine cw_iff rfl (not_f ((by simp [rightN]; omega))) ?_
  refine cw_skip ?_
  refine cw_seq ?_
  refine cw_region ?_
  refine lw_val rfl (run_move (v := .int .i64 _) rfl) ?_
  refine lw_call rfl en227 (digits_sl hs id 10 (by omega) (by decide)) ?_
  clear hs
  rintro _ w ⟨rfl, hs⟩
  refine lw_val rfl (run_cats (a := bSeg) (b := digR id 10) rfl rfl (by rw [digR_size]; decide)) ?_
  refine lw_val rfl (run_cats (a := bSeg ++ digR id 10) (b := bDash) rfl rfl (by rw [ByteArray.size_append, digR_size]; decide)) ?_
  refine lw_val rfl (run_move (v := .string _) rfl) ?_
  refine lw_val rfl (run_cats (a := bSeg ++ digR id 10 ++ bDash) (b := s) rfl rfl (by rw [ByteArray.size_append, ByteArray.size_append, digR_size]; show 4 + 10 + 1 + s.size ≤ _; omega)) ?_
  refine lw_val rfl (run_cats (a := bSeg ++ digR id 10 ++ bDash ++ s) (b := bDash) rfl rfl (by rw [ByteArray.size_append, ByteArray.size_append, ByteArray.size_append, digR_size]; show 4 + 10 + 1 + s.size + 1 ≤ _; omega)) ?_
  refine lw_val rfl (run_move (v := .int .i64 _) rfl) ?_
  refine lw_call rfl en227 (digits_sl hs base 13 hb (by decide)) ?_
  clear hs
  rintro _ w ⟨rfl, hs⟩
  refine lw_val rfl (run_cats (a := bSeg ++ digR id 10 ++ bDash ++ s ++ bDash) (b := digR base 13) rfl rfl (by rw [ByteArray.size_append, ByteArray.size_append, ByteArray.size_append, ByteArray.size_append, digR_size, digR_size]; show 4 + 10 + 1 + s.size + 1 + 13 ≤ _; omega)) ?_
  refine lw_val rfl (run_assign (v := .string _) rfl) ?_
  refine lw_nil ?_
  refine cw_ret ?_
  refine res1 (v := .string _) rfl rfl ?_
  exact ⟨_, rfl, rfl, hs⟩
theorem zsPr : (Tryz.prog.info? 141).map (fun i => (i.zero, i.size)) = some (some (.agg #[.int .i64 0, .int .i64 0]), 2) := by kernel_rfl
theorem fill_pr (a b : Int) : Instr.fill (fun i => some (i * 2, 2)) ((Array.range (1 * 2)).map ((Value.agg #[.int .i64 0, .int .i64 0]).cells[· % (Value.agg #[.int .i64 0, .int .i64 0]).cells.size]!)) [(0, .agg (prL (a, b)).toArray)] = some (prL (a, b)).toArray := by kernel_rfl
theorem zsOb : (Tryz.prog.info? 41).map (fun i => (i.zero, i.size)) = some (some (.agg #[.string ByteArray.empty, .int .i64 0, .int .u32 0]), 3) := by kernel_rfl
theorem fill_ob (s t : ByteArray) (a c : Int) (b d : Nat) : Instr.fill (fun i => some (i * 3, 3)) ((Array.range (2 * 3)).map ((Value.agg #[.string ByteArray.empty, .int .i64 0, .int .u32 0]).cells[· % (Value.agg #[.string ByteArray.empty, .int .i64 0, .int .u32 0]).cells.size]!)) [(0, .agg (obL (s, a, b)).toArray), (1, .agg (obL (t, c, d)).toArray)] = some (obL (s, a, b) ++ obL (t, c, d)).toArray := by kernel_rfl
theorem copyPr_sl (hs : Mem g w L) {a : Option Addr} {n c : Nat} {l : List Pr} (hr : RdK g L 2 (.slice a n c) (l.map prL)) (hn : n = l.length) (hlen : 1 ≤ l.length ∧ l.length ≤ 1000000) : Calls Tryz.prog 180 #[.slice a n c] w (Ret fun v w' => ∃ s : SA, v = .slice s.1 l.length s.2 ∧ Mem g w' (rowK 2 (.slice s.1 l.length s.2) (l.map prL) :: L)) := by
  subst hn
  refine calls_cw Tryz.func180 rfl rfl ?_
  skip
  refine cw_seq ?_
  refine cw_region ?_
  refine lw_val rfl (run_assign (v := .slice _ _ _) rfl) ?_
  refine lw_nil ?_
  refine cw_seq ?_
  refine cw_region ?_
  refine lw_val rfl (run_move (v := .slice _ _ _) rfl) ?_
  refine lw_val rfl (run_lenS Tryz.underlying33 rfl) ?_
  refine lw_makeRows hs rfl Tryz.underlying33 in141 rfl rfl rfl (by omega) (by omega) ?_
  clear hs
  intro b7 w hs
  refine lw_val rfl (run_assign (v := .slice _ _ _) rfl) ?_
  refine lw_nil ?_
  refine cw_seq ?_
  refine cw_seq ?_
  refine cw_region ?_
  refine lw_val rfl (run_assign (v := .int .i64 _) rfl) ?_
  refine lw_nil ?_
  refine cw_block ?_
  refine cw_loop (X := Nat × SA) [3, 4, 8, 9, 10, 11, 12, 13, 14, 15, 16, 17, 18, 19, 20] (fun q => [(3, .slice q.2.1 q.1 q.2.2), (4, .int .i64 (q.1 : Nat))]) (fun q w => q.1 ≤ l.length ∧ Mem g w (rowK 2 (.slice q.2.1 q.1 q.2.2) ((l.take q.1).map prL) :: L)) (fun q => l.length - q.1) ((0, (some ⟨b7, 0, none⟩, l.length))) ?_ ?_ ?_
  · exact ⟨rfl, rfl, trivial⟩
  · exact ⟨Nat.zero_le _, hs⟩
  clear hs
  rintro x ξ w hI
  obtain ⟨k, s⟩ := x
  obtain ⟨hk, hs⟩ := hI
  simp only at hk hs
  show cw _ _ _ _ _ _ (updL (mix _ ξ _) [(3, .slice s.1 k s.2), (4, .int .i64 (k : Nat))]) w
  refine cw_seq ?_
  refine cw_seq ?_
  refine cw_region ?_
  refine lw_val rfl (run_move (v := .int .i64 _) rfl) ?_
  refine lw_val rfl (run_move (v := .slice _ _ _) rfl) ?_
  refine lw_val rfl (run_lenS Tryz.underlying33 rfl) ?_
  refine lw_val rfl (run_lss rfl rfl) ?_
  refine lw_nil ?_
  refine cw_if rfl ?_ ?_
  · intro h11
    have g11 := of_decide_eq_true h11
    obtain ⟨y, hy⟩ : ∃ y, l[k]? = some y := ⟨_, List.getElem?_eq_getElem (by omega)⟩
    obtain ⟨b9, o9, rfl⟩ := hr.cons.at hs (by rw [len_prL]; omega)
    refine cw_skip ?_
    refine cw_seq ?_
    refine cw_block ?_
    refine cw_region ?_
    refine lw_val rfl (run_move (v := .slice _ _ _) rfl) ?_
    refine lw_val rfl (run_move (v := .slice _ _ _) rfl) ?_
    refine lw_val rfl (run_move (v := .int .i64 _) rfl) ?_
    refine lw_val rfl (run_indexAddrK Tryz.underlying33 sz141 rfl rfl rfl (by omega) rfl) ?_
    refine lw_val rfl (run_loadK (cs := prL y) Tryz.underlying141 sz141 rfl (fun j v hj => hr.cons.cell hs (prL_at hy) hj)) ?_
    refine lw_buildRow hs rfl (row := prL y) Tryz.underlying33 zsPr rfl (fill_pr y.1 y.2) (by decide) (by decide) ?_
    clear hs
    intro b19 w hs
    refine lw_appendRow hs rfl 1 0 rfl rfl Tryz.underlying33 Tryz.underlying33 in141 rfl rfl (by rfl) rfl rfl (by simp only [List.length_map, List.length_take]; omega) (by simp only [List.length_map, List.length_take]; omega) ?_
    clear hs
    intro a20 c20 w hs
    simp only [List.set_cons_succ, List.set_cons_zero] at hs
    refine lw_val rfl (run_assign (v := .slice _ _ _) rfl) ?_
    refine lw_nil ?_
    refine cw_region ?_
    refine lw_val rfl (run_move (v := .int .i64 _) rfl) ?_
    refine lw_val rfl (run_add64 rfl rfl rfl (inI (by omega) (by omega))) ?_
    refine lw_val rfl (run_assign (v := .int .i64 _) rfl) ?_
    refine lw_nil ?_
    have hl : ((l.take k).map prL).length = k := by rw [List.length_map, List.length_take]; omega
    exact ⟨(k + 1, (a20, c20)), by simp only; omega, ⟨by simp only; omega, by simp only [List.take_add_one, hy, Option.toList, List.map_append, List.map_cons, List.map_nil]; have h3 := hs.tail; rw [hl] at h3; exact h3⟩, ⟨by rw [hl]; rfl, rfl, trivial⟩, by repeat (first | exact Out.mix _ _ _ | refine Out.updo rfl ?_ | refine Out.upd rfl ?_ | refine Out.mixIn rfl ?_)⟩
  · intro h11
    have g11 := of_decide_eq_false h11
    refine cw_exit rfl ?_
    refine cw_seq ?_
    refine cw_region ?_
    refine lw_val rfl (run_move (v := .slice _ _ _) rfl) ?_
    refine lw_val rfl (run_assign (v := .slice _ _ _) rfl) ?_
    refine lw_nil ?_
    refine cw_ret ?_
    refine res1 (v := .slice _ _ _) rfl rfl ?_
    have e : k = l.length := by omega
    subst e
    rw [List.take_length] at hs
    exact ⟨_, rfl, s, rfl, hs⟩
end Go.Proofs.YtkogkokmcmallaaGreatDoor
