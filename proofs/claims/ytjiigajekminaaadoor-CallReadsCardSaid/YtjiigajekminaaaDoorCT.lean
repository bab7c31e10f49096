/- CallTwice: the walk. -/
import Derived.Test.YtjiigajekminaaaDoorC3
import Derived.Test.YtjiigajekminaaaDoorLR
import Derived.Test.YtjiigajekminaaaDoorUtil
namespace Go.Proofs.YtjiigajekminaaaDoor
set_option linter.all false
open Go.RowKit
attribute [local irreducible] errV
variable {g w : World} {L M : List HP} {ad : Nat → Addr} {p q : Nat} {st : St}

theorem number_sl (hs : Mem g w L) (n b : Int) (hb : 0 < b ∧ b < 1000) : Calls Tryd.prog 34 #[.int .i64 n, .int .i64 b] w (Ret fun v w' => ∃ r : Nat, (r : Int) < b ∧ v = .int .i64 (r : Nat) ∧ Mem g w' L) := by
  refine (number_lit n b hb w).mono ?_
  rintro e w' ⟨r, hr, rfl, rfl⟩
  exact ⟨_, rfl, r, by omega, rfl, hs⟩
theorem first12_again : againR (fun s => s.run (St.put1 ⟨#[97]⟩ [])) 2 { St.empty with script := [2] } = (true, 0, 2, { objs := [(⟨#[97]⟩, [])], ups := [], ids := 0, script := [], calls := 2, failed := 1 }) := by kernel_rfl
theorem first12_sl (hE : ErrG ad g) (hs : Mem g w L) : Calls Tryd.prog 33 #[] w (Ret fun v w' => v = .bool true ∧ Mem g w' L) := by
  refine calls_cw Tryd.func33 rfl rfl ?_
  skip
  refine cw_seq ?_
  refine cw_region ?_
  first | refine lw_val rfl (run_assign (v := .bool _) rfl) ?_
  refine lw_nil ?_
  refine cw_seq ?_
  refine cw_region ?_
  refine lw_call rfl en21 (new_sl hs) ?_
  clear hs
  rintro _ w ⟨p, rfl, hs⟩
  first | refine lw_val rfl (run_assign (v := .pointer (some _)) rfl) ?_ | refine lw_val rfl (run_assign (v := .pointer none) rfl) ?_
  refine lw_nil ?_
  refine cw_seq ?_
  refine cw_region ?_
  first | refine lw_val rfl (run_move (v := .pointer (some _)) rfl) ?_ | refine lw_val rfl (run_move (v := .pointer none) rfl) ?_
  refine lw_call rfl en35 (clnew_sl (t := 2) hE hs (by decide)) ?_
  clear hs
  rintro _ w ⟨q, rfl, hs⟩
  first | refine lw_val rfl (run_move (v := .tuple _) rfl) ?_
  first | refine lw_val rfl (run_extract (v := .pointer (some _)) rfl rfl) ?_ | refine lw_val rfl (run_extract (v := .pointer none) rfl rfl) ?_
  first | refine lw_val rfl (run_extract (v := errV ad _) rfl rfl) ?_ | refine lw_val rfl (run_extract (v := .nilIface) rfl rfl) ?_
  first | refine lw_val rfl (run_assign (v := .pointer (some _)) rfl) ?_ | refine lw_val rfl (run_assign (v := .pointer none) rfl) ?_
  first | refine lw_val rfl (run_assign (v := errV ad _) rfl) ?_ | refine lw_val rfl (run_assign (v := .nilIface) rfl) ?_
  refine lw_nil ?_
  refine cw_seq ?_
  refine cw_seq ?_
  refine cw_region ?_
  first | refine lw_val rfl (run_move (v := .pointer (some _)) rfl) ?_ | refine lw_val rfl (run_move (v := .pointer none) rfl) ?_
  refine lw_val rfl (run_eqpn Tryd.underlying47 rfl rfl) ?_
  first | refine lw_val rfl (run_move (v := .bool _) rfl) ?_
  refine lw_on rfl rfl rfl ?_
  first | refine lw_val rfl (run_move (v := errV ad _) rfl) ?_ | refine lw_val rfl (run_move (v := .nilIface) rfl) ?_
  refine lw_on rfl rfl rfl ?_
  first | refine lw_val rfl (run_neerrn (ad := ad) rfl) ?_ | refine lw_val rfl (run_nenn rfl) ?_
  first | refine lw_val rfl (run_pickF (v := .bool _) rfl rfl rfl) ?_
  refine lw_nil ?_
  refine cw_iff rfl (rfl) ?_
  refine cw_skip ?_
  refine cw_seq ?_
  refine cw_region ?_
  first | refine lw_val rfl (run_move (v := .pointer (some _)) rfl) ?_ | refine lw_val rfl (run_move (v := .pointer none) rfl) ?_
  refine lw_buildSlice hs rfl ((intsL [2])) Tryd.underlying22 zs3 rfl (cells_one (intsL_one _)) rfl rfl rfl ?_
  clear hs
  intro b17 w hs
  try simp only [List.set_cons_succ, List.set_cons_zero] at hs
  refine lw_call rfl en22 (script_sl (outs := [2]) (hs.pick 2 rfl) (Rd.cells 0 rfl rfl) (by decide)) ?_
  clear hs
  rintro _ w ⟨rfl, hs⟩
  refine lw_nil ?_
  refine cw_seq ?_
  refine cw_region ?_
  first | refine lw_val rfl (run_move (v := .pointer (some _)) rfl) ?_ | refine lw_val rfl (run_move (v := .pointer none) rfl) ?_
  refine lw_call rfl en36 (clPut_sl (t := 2) (nm := ⟨#[97]⟩) (b := []) hE (by decide) (by decide) (hs.arr [2, 0] 3 (by decide)) (by decide) (by decide) Rd.nil (by decide) first12_again) ?_
  clear hs
  rintro _ w ⟨rfl, hs⟩
  first | refine lw_val rfl (run_eqerrn (ad := ad) rfl) ?_ | refine lw_val rfl (run_eqnn rfl) ?_
  first | refine lw_val rfl (run_move (v := .bool _) rfl) ?_
  refine lw_on rfl rfl (decide_eq_true rfl) ?_
  first | refine lw_val rfl (run_move (v := .pointer (some _)) rfl) ?_ | refine lw_val rfl (run_move (v := .pointer none) rfl) ?_
  refine lw_on rfl rfl (decide_eq_true rfl) ?_
  refine lw_call rfl en37 (asked_sl hs) ?_
  clear hs
  rintro _ w ⟨rfl, hs⟩
  refine lw_on rfl rfl (decide_eq_true rfl) ?_
  refine lw_val rfl (run_eqi rfl rfl) ?_
  first | refine lw_val rfl (run_pickT (v := .bool _) rfl (decide_eq_true rfl) rfl) ?_
  first | refine lw_val rfl (run_assign (v := .bool _) rfl) ?_
  refine lw_nil ?_
  refine cw_ret ?_
  refine res1 (v := .bool _) rfl rfl ?_
  exact ⟨_, rfl, ret_b (by decide), hs.tail.tail⟩

theorem clDel_x (hE : ErrG ad g) {t : Nat} {a : Int} (ha : 0 ≤ a ∧ a < 1000000000000) (ht : t ≤ 8) (hs : Mem g w (clientC q p t a :: StoreC p st :: M)) (hcl : st.calls + 8 < 4611686018427387904) (hfl : st.failed + 8 < 4611686018427387904)
    {nm : ByteArray} {lost : Bool} {x n : Nat} {st2 : St} (hk : againR (fun s => s.run (St.del1 nm)) t st = (lost, x, n, st2)) {r : Nat} (hr : (if lost = true ∧ x = 107 then 0 else x) = r) :
    Calls Tryd.prog 43 #[.pointer (some ⟨q, 0, none⟩), .string nm] w (Ret fun v w' => v = errV ad r ∧ Mem g w' (clientC q p t (a + (n : Nat)) :: StoreC p st2 :: M)) := by subst hr; exact clDel_sl hE ha ht hs hcl hfl hk
theorem clAbort_x (hE : ErrG ad g) {t : Nat} {a : Int} (ha : 0 ≤ a ∧ a < 1000000000000) (ht : t ≤ 8) (hs : Mem g w (clientC q p t a :: StoreC p st :: M)) (hcl : st.calls + 8 < 4611686018427387904) (hfl : st.failed + 8 < 4611686018427387904)
    {id : Int} {lost : Bool} {x n : Nat} {st2 : St} (hk : againR (fun s => s.run (St.abort1 id)) t st = (lost, x, n, st2)) {r : Nat} (hr : (if lost = true ∧ x = 107 then 0 else x) = r) :
    Calls Tryd.prog 44 #[.pointer (some ⟨q, 0, none⟩), .int .i64 id] w (Ret fun v w' => v = errV ad r ∧ Mem g w' (clientC q p t (a + (n : Nat)) :: StoreC p st2 :: M)) := by subst hr; exact clAbort_sl hE ha ht hs hcl hfl hk
theorem clComplete_x (hE : ErrG ad g) (hsm : st.small) {t : Nat} {a : Int} (ha : 0 ≤ a ∧ a < 900000000000) (ht : t ≤ 8) (hs : Mem g w (clientC q p t a :: StoreC p st :: M)) (hcl : st.calls + 16 < 4611686018427387904) (hfl : st.failed + 16 < 4611686018427387904)
    {id k size sum : Int} {nm : ByteArray} {lost l2 : Bool} {x y n m : Nat} {st2 st3 : St} {i j : Int} (hk : againR (fun s => s.run (St.complete1 id k)) t st = (lost, x, n, st2)) (hq : againR (headStep nm) t (st2, 0, 0) = (l2, y, m, st3, i, j))
    {r N : Nat} {st4 : St} (hr : (if lost = true ∧ x = 107 then (if y = 111 then 111 else if y = 0 ∧ i = size ∧ j = sum then 0 else 107) else x) = r) (hN : (if lost = true ∧ x = 107 then n + m else n) = N) (h4 : (if lost = true ∧ x = 107 then st3 else st2) = st4) :
    Calls Tryd.prog 45 #[.pointer (some ⟨q, 0, none⟩), .int .i64 id, .int .i64 k, .string nm, .int .i64 size, .int .u32 sum] w
      (Ret fun v w' => v = errV ad r ∧ Mem g w' (clientC q p t (a + (N : Nat)) :: StoreC p st4 :: M)) := by subst hr hN h4; exact clComplete_sl hE hsm ha ht hs hcl hfl hk hq

/-! ### the store of CallTwice -/
def tw (o : List (ByteArray × List UInt8)) (u : List (Int × Up)) (s : List Int) (c f : Nat) : St := { objs := o, ups := u, ids := 1, script := s, calls := c, failed := f }
def twU (b : List UInt8) : List (Int × Up) := [(1, ⟨nY, [(0, b)]⟩)]
theorem nXY : ¬ nX = nY := nYX
theorem nYX' : ¬ nY = nX := fun h => nYX h.symm
theorem nY_valid : validB nY.data.toList = true := by decide +kernel
theorem tw_put (b : List UInt8) : againR (fun s => s.run (St.put1 nX b)) 5 St.empty = (false, 0, 1, oneSt nX b 1) := by simp [againR, put_first nX_valid]
theorem tw_start (b : List UInt8) : againR (startStep nY) 5 (oneSt nX b 1, 0) = (false, 0, 1, tw [(nX, b)] [(1, ⟨nY, []⟩)] [] 2 0, 1) := by
  simp [againR, St.startR, St.next, St.begin, oneSt, St.start1, nY_valid, tw, aput]
theorem tw_part (b : List UInt8) : againR (fun s => s.run (St.part1 1 0 b)) 5 (tw [(nX, b)] [(1, ⟨nY, []⟩)] [] 2 0) = (false, 0, 1, tw [(nX, b)] (twU b) [] 3 0) := by
  simp [againR, St.run, St.next, St.begin, St.part1, tw, twU, aput, aget]
theorem tw_head (b : List UInt8) : (tw [(nX, b)] (twU b) [] 3 0).headR nX = ((b.length : Int), ((crcMore 0 b : Nat) : Int), 0, tw [(nX, b)] (twU b) [] 4 0) := by
  rw [head_ok rfl]; simp [tw, aget]
theorem tw_small {o : List (ByteArray × List UInt8)} {u : List (Int × Up)} {s : List Int} {c f : Nat} (ho : ∀ n b, (n, b) ∈ o → b.length ≤ 1000) (hu : ∀ i x, (i, x) ∈ u → ∀ k b, (k, b) ∈ x.parts → b.length ≤ 1000) : (tw o u s c f).small := ⟨fun n b h => Nat.le_trans (ho n b h) (by decide), fun i x h k b hb => Nat.le_trans (hu i x h k b hb) (by decide)⟩
theorem twU_small {b : List UInt8} (h : b.length ≤ 100) : ∀ i x, (i, x) ∈ twU b → ∀ k c, (k, c) ∈ x.parts → c.length ≤ 1000 := by
  intro i x hx k c hc
  simp [twU] at hx
  rw [hx.2] at hc
  simp at hc
  rw [hc.2]; omega
theorem twO_small {b : List UInt8} (h : b.length ≤ 100) : ∀ n c, (n, c) ∈ [(nX, b)] → c.length ≤ 1000 := by
  intro n c hc; simp at hc; rw [hc.2]; omega
theorem twO2_small {b : List UInt8} (h : b.length ≤ 100) : ∀ n c, (n, c) ∈ [(nX, b), (nY, b)] → c.length ≤ 1000 := by
  intro n c hc; simp at hc; rcases hc with hc | hc <;> rw [hc.2] <;> omega
theorem tw_del (b : List UInt8) {k : Nat} (hk : k < 4) : againR (fun s => s.run (St.del1 nX)) 5 (tw [(nX, b)] (twU b) (List.replicate k 2) 4 0) = (decide (0 < k), if k = 0 then 0 else 107, k + 1, tw [] (twU b) [] (4 + (k + 1)) k) := by
  rcases k with _ | _ | _ | _ | k <;> first | (simp [againR, St.run, St.next, St.begin, St.del1, tw, aget, adel, List.replicate]; done) | omega
theorem tw_del2 (b : List UInt8) (c f : Nat) : againR (fun s => s.run (St.del1 nX)) 5 (tw [] (twU b) [] c f) = (false, 107, 1, tw [] (twU b) [] (c + 1) f) := by
  simp [againR, St.run, St.next, St.begin, St.del1, tw, aget]
theorem tw_abort (b : List UInt8) {k : Nat} (hk : k < 4) : againR (fun s => s.run (St.abort1 1)) 5 (tw [(nX, b)] (twU b) (List.replicate k 2) 4 0) = (decide (0 < k), if k = 0 then 0 else 107, k + 1, tw [(nX, b)] [] [] (4 + (k + 1)) k) := by
  rcases k with _ | _ | _ | _ | k <;> first | (simp [againR, St.run, St.next, St.begin, St.abort1, tw, twU, aget, adel, List.replicate]; done) | omega
theorem tw_abort2 (b : List UInt8) (c f : Nat) : againR (fun s => s.run (St.abort1 1)) 5 (tw [(nX, b)] [] [] c f) = (false, 107, 1, tw [(nX, b)] [] [] (c + 1) f) := by
  simp [againR, St.run, St.next, St.begin, St.abort1, tw, aget]
theorem tw_all (b : List UInt8) : haveAll [((0 : Int), b)] 1 = true := by simp [haveAll, aget]
theorem tw_out (b : List UInt8) : outK [((0 : Int), b)] 1 = b := by simp [outK, aget]
theorem tw_complete (b : List UInt8) {k : Nat} (hk : k < 4) : againR (fun s => s.run (St.complete1 1 1)) 5 (tw [(nX, b)] (twU b) (List.replicate k 2) 4 0) = (decide (0 < k), if k = 0 then 0 else 107, k + 1, tw [(nX, b), (nY, b)] [] [] (4 + (k + 1)) k) := by
  rcases k with _ | _ | _ | _ | k <;> first | (simp [againR, St.run, St.next, St.begin, St.complete1, tw, twU, aget, adel, aput, tw_all, tw_out, nXY, List.replicate]; done) | omega
theorem tw_complete2 (b : List UInt8) (c f : Nat) : againR (fun s => s.run (St.complete1 1 1)) 5 (tw [(nX, b), (nY, b)] [] [] c f) = (false, 107, 1, tw [(nX, b), (nY, b)] [] [] (c + 1) f) := by
  simp [againR, St.run, St.next, St.begin, St.complete1, tw, aget]
theorem tw_clhead (b : List UInt8) (c f : Nat) : againR (headStep nY) 5 (tw [(nX, b), (nY, b)] [] [] c f, 0, 0) = (false, 0, 1, tw [(nX, b), (nY, b)] [] [] (c + 1) f, (b.length : Int), ((crcMore 0 b : Nat) : Int)) := by
  simp only [againR, headStep, head_ok (show (tw [(nX, b), (nY, b)] [] [] c f).script = [] from rfl)]
  simp [tw, aget, nXY]
theorem tw_code (k : Nat) : (if decide (0 < k) = true ∧ (if k = 0 then 0 else 107) = 107 then 0 else if k = 0 then 0 else 107) = 0 := by by_cases h : k = 0 <;> simp [h]
theorem tw_c1 (k L C : Nat) : (if decide (0 < k) = true ∧ (if k = 0 then 0 else 107) = 107 then (if 0 = 111 then 111 else if 0 = 0 ∧ (L : Int) = (L : Int) ∧ (C : Int) = (C : Int) then 0 else 107) else if k = 0 then 0 else 107) = 0 := by by_cases h : k = 0 <;> simp [h]
theorem tw_c2 (k : Nat) : (if decide (0 < k) = true ∧ (if k = 0 then 0 else 107) = 107 then k + 1 + 1 else k + 1) = if k = 0 then 1 else k + 2 := by
  by_cases h : k = 0
  · subst h; rfl
  · have : 0 < k := by omega
    simp [h, this]
theorem tw_c3 (b : List UInt8) (k : Nat) : (if decide (0 < k) = true ∧ (if k = 0 then 0 else 107) = 107 then tw [(nX, b), (nY, b)] [] [] (4 + (k + 1) + 1) k else tw [(nX, b), (nY, b)] [] [] (4 + (k + 1)) k) = tw [(nX, b), (nY, b)] [] [] (if k = 0 then 5 else k + 6) k := by
  by_cases h : k = 0
  · subst h; rfl
  · have : 0 < k := by omega
    simp [h, this]; congr 1; omega
theorem tw_bytes (b : List UInt8) (c f : Nat) : aget (tw [(nX, b), (nY, b)] [] [] c f).objs nY = some b := by simp [tw, aget, nXY]

set_option maxHeartbeats 2000000 in
set_option maxRecDepth 10000 in
theorem callTwice_sl (hA : ErrA ad g) (hs : Mem g w []) {a : Option Addr} {n c : Nat} {l : List UInt8} {ki lo : Int} (hb : Came g (.slice a n c) (bytesL l)) (hn : n = l.length) :
    Calls Tryd.prog 8 #[.int .i64 ki, .slice a n c, .int .i64 lo] w (Ret fun v w' => v = .bool true ∧ Mem g w' []) := by
  have hE := hA.core
  subst hn
  refine calls_cw Tryd.func8 rfl rfl ?_
  skip
  refine cw_seq ?_
  refine cw_region ?_
  first | refine lw_val rfl (run_assign (v := .bool _) rfl) ?_
  refine lw_nil ?_
  refine cw_seq ?_
  refine cw_region ?_
  refine lw_call rfl en33 (first12_sl hE hs) ?_
  clear hs
  rintro _ w ⟨rfl, hs⟩
  first | refine lw_val rfl (run_assign (v := .bool _) rfl) ?_
  refine lw_nil ?_
  refine cw_seq ?_
  refine cw_seq ?_
  refine cw_region ?_
  first | refine lw_val rfl (run_move (v := .bool _) rfl) ?_
  refine lw_val rfl (run_not rfl) ?_
  refine lw_nil ?_
  refine cw_iff rfl (not_f (rfl)) ?_
  refine cw_skip ?_
  refine cw_seq ?_
  refine cw_region ?_
  first | refine lw_val rfl (run_move (v := .int .i64 _) rfl) ?_
  refine lw_call rfl en34 (number_sl hs _ _ (by decide)) ?_
  clear hs
  rintro _ w ⟨kd, hkd, rfl, hs⟩
  first | refine lw_val rfl (run_assign (v := .int .i64 _) rfl) ?_
  refine lw_nil ?_
  refine cw_seq ?_
  refine cw_region ?_
  first | refine lw_val rfl (run_move (v := .int .i64 _) rfl) ?_
  refine lw_call rfl en34 (number_sl hs _ _ (by decide)) ?_
  clear hs
  rintro _ w ⟨lt, hlt, rfl, hs⟩
  first | refine lw_val rfl (run_assign (v := .int .i64 _) rfl) ?_
  refine lw_nil ?_
  refine cw_seq ?_
  refine cw_seq ?_
  refine cw_region ?_
  first | refine lw_val rfl (run_move (v := .slice _ _ _) rfl) ?_
  refine lw_val rfl (run_lenS Tryd.underlying27 rfl) ?_
  refine lw_val rfl (run_gtr rfl rfl) ?_
  first | refine lw_val rfl (run_move (v := .bool _) rfl) ?_
  refine lw_split (t := _) (d := 31) rfl ?_ ?_
  · intro h30
    have g30 := of_decide_eq_true h30
    refine lw_off rfl rfl rfl h30 ?_
    refine lw_off rfl rfl rfl h30 ?_
    first | refine lw_val rfl (run_pickT (v := .bool _) rfl h30 rfl) ?_
    refine lw_nil ?_
    refine cw_ift rfl rfl ?_
    refine cw_seq ?_
    refine cw_region ?_
    first | refine lw_val rfl (run_move (v := .bool _) rfl) ?_
    first | refine lw_val rfl (run_assign (v := .bool _) rfl) ?_
    refine lw_nil ?_
    refine cw_ret ?_
    refine res1 (v := .bool _) rfl rfl ?_
    exact ⟨_, rfl, rfl, hs.nil⟩
  · intro h30
    have g30 := of_decide_eq_false h30
    refine lw_on rfl rfl h30 ?_
    first | refine lw_val rfl (run_move (v := .bool _) rfl) ?_
    refine lw_on rfl rfl h30 ?_
    refine lw_val rfl (run_not rfl) ?_
    first | refine lw_val rfl (run_pickF (v := .bool _) rfl h30 rfl) ?_
    refine lw_nil ?_
    refine cw_iff rfl (not_f (rfl)) ?_
    refine cw_skip ?_
    refine cw_seq ?_
    refine cw_region ?_
    refine lw_call rfl en21 (new_sl hs) ?_
    clear hs
    rintro _ w ⟨p, rfl, hs⟩
    first | refine lw_val rfl (run_assign (v := .pointer (some _)) rfl) ?_ | refine lw_val rfl (run_assign (v := .pointer none) rfl) ?_
    refine lw_nil ?_
    refine cw_seq ?_
    refine cw_region ?_
    first | refine lw_val rfl (run_move (v := .pointer (some _)) rfl) ?_ | refine lw_val rfl (run_move (v := .pointer none) rfl) ?_
    refine lw_call rfl en35 (clnew_sl (t := 5) hE hs (by decide)) ?_
    clear hs
    rintro _ w ⟨q, rfl, hs⟩
    first | refine lw_val rfl (run_move (v := .tuple _) rfl) ?_
    first | refine lw_val rfl (run_extract (v := .pointer (some _)) rfl rfl) ?_ | refine lw_val rfl (run_extract (v := .pointer none) rfl rfl) ?_
    first | refine lw_val rfl (run_extract (v := errV ad _) rfl rfl) ?_ | refine lw_val rfl (run_extract (v := .nilIface) rfl rfl) ?_
    first | refine lw_val rfl (run_assign (v := .pointer (some _)) rfl) ?_ | refine lw_val rfl (run_assign (v := .pointer none) rfl) ?_
    first | refine lw_val rfl (run_assign (v := errV ad _) rfl) ?_ | refine lw_val rfl (run_assign (v := .nilIface) rfl) ?_
    refine lw_nil ?_
    refine cw_seq ?_
    refine cw_seq ?_
    refine cw_region ?_
    first | refine lw_val rfl (run_move (v := .pointer (some _)) rfl) ?_ | refine lw_val rfl (run_move (v := .pointer none) rfl) ?_
    refine lw_val rfl (run_eqpn Tryd.underlying47 rfl rfl) ?_
    first | refine lw_val rfl (run_move (v := .bool _) rfl) ?_
    refine lw_on rfl rfl rfl ?_
    first | refine lw_val rfl (run_move (v := errV ad _) rfl) ?_ | refine lw_val rfl (run_move (v := .nilIface) rfl) ?_
    refine lw_on rfl rfl rfl ?_
    first | refine lw_val rfl (run_neerrn (ad := ad) rfl) ?_ | refine lw_val rfl (run_nenn rfl) ?_
    first | refine lw_val rfl (run_pickF (v := .bool _) rfl rfl rfl) ?_
    first | refine lw_val rfl (run_move (v := .bool _) rfl) ?_
    refine lw_on rfl rfl (rfl) ?_
    first | refine lw_val rfl (run_move (v := .pointer (some _)) rfl) ?_ | refine lw_val rfl (run_move (v := .pointer none) rfl) ?_
    refine lw_on rfl rfl (rfl) ?_
    first | refine lw_val rfl (run_move (v := .slice _ _ _) rfl) ?_
    refine lw_on rfl rfl (rfl) ?_
    refine lw_call rfl en36 (clPut_sl (t := 5) (nm := nX) (b := l) hE (by decide) (by decide) hs (by decide) (by decide) (hb.rd _) (by omega) (tw_put l)) ?_
    clear hs
    rintro _ w ⟨rfl, hs⟩
    refine lw_on rfl rfl (rfl) ?_
    first | refine lw_val rfl (run_neerrn (ad := ad) rfl) ?_ | refine lw_val rfl (run_nenn rfl) ?_
    first | refine lw_val rfl (run_pickF (v := .bool _) rfl (rfl) rfl) ?_
    refine lw_nil ?_
    refine cw_iff rfl (not_f (decide_eq_true rfl)) ?_
    refine cw_skip ?_
    refine cw_seq ?_
    refine cw_region ?_
    first | refine lw_val rfl (run_move (v := .pointer (some _)) rfl) ?_ | refine lw_val rfl (run_move (v := .pointer none) rfl) ?_
    refine lw_call rfl en41 (clStart_sl (t := 5) (nm := nY) hE (by decide) (by decide) hs (by simp [oneSt]) (by simp [oneSt]) (by simp [oneSt]) (tw_start l)) ?_
    clear hs
    rintro _ w ⟨rfl, hs⟩
    first | refine lw_val rfl (run_move (v := .tuple _) rfl) ?_
    first | refine lw_val rfl (run_extract (v := .int .i64 _) rfl rfl) ?_
    first | refine lw_val rfl (run_extract (v := errV ad _) rfl rfl) ?_ | refine lw_val rfl (run_extract (v := .nilIface) rfl rfl) ?_
    first | refine lw_val rfl (run_assign (v := .int .i64 _) rfl) ?_
    first | refine lw_val rfl (run_assign (v := errV ad _) rfl) ?_ | refine lw_val rfl (run_assign (v := .nilIface) rfl) ?_
    refine lw_nil ?_
    refine cw_seq ?_
    refine cw_seq ?_
    refine cw_region ?_
    first | refine lw_val rfl (run_move (v := errV ad _) rfl) ?_ | refine lw_val rfl (run_move (v := .nilIface) rfl) ?_
    first | refine lw_val rfl (run_neerrn (ad := ad) rfl) ?_ | refine lw_val rfl (run_nenn rfl) ?_
    first | refine lw_val rfl (run_move (v := .bool _) rfl) ?_
    refine lw_on rfl rfl (not_f (decide_eq_true rfl)) ?_
    first | refine lw_val rfl (run_move (v := .pointer (some _)) rfl) ?_ | refine lw_val rfl (run_move (v := .pointer none) rfl) ?_
    refine lw_on rfl rfl (not_f (decide_eq_true rfl)) ?_
    first | refine lw_val rfl (run_move (v := .int .i64 _) rfl) ?_
    refine lw_on rfl rfl (not_f (decide_eq_true rfl)) ?_
    first | refine lw_val rfl (run_move (v := .slice _ _ _) rfl) ?_
    refine lw_on rfl rfl (not_f (decide_eq_true rfl)) ?_
    refine lw_call rfl en42 (clPart_sl (t := 5) hE (by decide) (by decide) hs (by simp [tw]) (by simp [tw]) (hb.rd _) (by omega) (tw_part l)) ?_
    clear hs
    rintro _ w ⟨rfl, hs⟩
    refine lw_on rfl rfl (not_f (decide_eq_true rfl)) ?_
    first | refine lw_val rfl (run_neerrn (ad := ad) rfl) ?_ | refine lw_val rfl (run_nenn rfl) ?_
    first | refine lw_val rfl (run_pickF (v := .bool _) rfl (not_f (decide_eq_true rfl)) rfl) ?_
    refine lw_nil ?_
    refine cw_iff rfl (not_f (decide_eq_true rfl)) ?_
    refine cw_skip ?_
    refine cw_seq ?_
    refine cw_region ?_
    first | refine lw_val rfl (run_move (v := .pointer (some _)) rfl) ?_ | refine lw_val rfl (run_move (v := .pointer none) rfl) ?_
    refine lw_call rfl en40 (head_sl hE (tw_small (twO_small (by omega)) (twU_small (by omega))) (hs.pick 1 rfl) (by simp [tw]) (by simp [tw]) nX (tw_head l)) ?_
    clear hs
    rintro _ w ⟨rfl, hs⟩
    first | refine lw_val rfl (run_move (v := .tuple _) rfl) ?_
    first | refine lw_val rfl (run_extract (v := .int .i64 _) rfl rfl) ?_
    first | refine lw_val rfl (run_extract (v := .int .u32 _) rfl rfl) ?_
    first | refine lw_val rfl (run_extract (v := errV ad _) rfl rfl) ?_ | refine lw_val rfl (run_extract (v := .nilIface) rfl rfl) ?_
    first | refine lw_val rfl (run_assign (v := .int .i64 _) rfl) ?_
    first | refine lw_val rfl (run_assign (v := .int .u32 _) rfl) ?_
    first | refine lw_val rfl (run_assign (v := errV ad _) rfl) ?_ | refine lw_val rfl (run_assign (v := .nilIface) rfl) ?_
    refine lw_nil ?_
    refine cw_seq ?_
    refine cw_seq ?_
    refine cw_region ?_
    first | refine lw_val rfl (run_move (v := errV ad _) rfl) ?_ | refine lw_val rfl (run_move (v := .nilIface) rfl) ?_
    first | refine lw_val rfl (run_neerrn (ad := ad) rfl) ?_ | refine lw_val rfl (run_nenn rfl) ?_
    refine lw_nil ?_
    refine cw_iff rfl (not_f (decide_eq_true rfl)) ?_
    refine cw_skip ?_
    refine cw_seq ?_
    refine cw_seq ?_
    refine cw_region ?_
    first | refine lw_val rfl (run_assign (v := .int .i64 _) rfl) ?_
    refine lw_nil ?_
    refine cw_block ?_
    refine cw_loop (X := Nat) [16, 76, 77, 78, 79, 80, 81, 82, 83] (fun k => [(16, .int .i64 (k : Nat))]) (fun k w => k ≤ lt ∧ Mem g w [StoreC p (tw [(nX, l)] (twU l) (List.replicate k 2) 4 0), clientC q p 5 3]) (fun k => lt - k) (0) ?_ ?_ ?_
    · exact ⟨rfl, trivial⟩
    · exact ⟨Nat.zero_le _, hs⟩
    clear hs
    rintro x ξ w hI
    obtain ⟨hk, hs⟩ := hI
    refine cw_seq ?_
    refine cw_seq ?_
    refine cw_region ?_
    first | refine lw_val rfl (run_move (v := .int .i64 _) rfl) ?_
    first | refine lw_val rfl (run_move (v := .int .i64 _) rfl) ?_
    refine lw_val rfl (run_lss rfl rfl) ?_
    refine lw_nil ?_
    refine cw_if rfl ?_ ?_
    · intro h78
      have g78 := of_decide_eq_true h78
      refine cw_skip ?_
      refine cw_seq ?_
      refine cw_block ?_
      refine cw_region ?_
      first | refine lw_val rfl (run_move (v := .pointer (some _)) rfl) ?_ | refine lw_val rfl (run_move (v := .pointer none) rfl) ?_
      refine lw_buildSlice hs rfl ((intsL [2])) Tryd.underlying22 zs3 rfl (cells_one (intsL_one _)) rfl rfl rfl ?_
      clear hs
      intro b82 w hs
      try simp only [List.set_cons_succ, List.set_cons_zero] at hs
      refine lw_call rfl en22 (script_sl (outs := [2]) (hs.pick 1 rfl) (Rd.cells 0 rfl rfl) (by simp [tw]; omega)) ?_
      clear hs
      rintro _ w ⟨rfl, hs⟩
      refine lw_nil ?_
      refine cw_region ?_
      first | refine lw_val rfl (run_move (v := .int .i64 _) rfl) ?_
      refine lw_val rfl (run_add64 rfl rfl rfl (inI (by omega) (by omega))) ?_
      first | refine lw_val rfl (run_assign (v := .int .i64 _) rfl) ?_
      refine lw_nil ?_
      exact ⟨x + 1, by omega, ⟨by omega, by have := hs.drop 1; simpa [tw, List.replicate_succ'] using this⟩, ⟨rfl, trivial⟩, by repeat (first | exact Out.mix _ _ _ | refine Out.updo rfl ?_ | refine Out.upd rfl ?_)⟩
    · intro h78
      have g78 := of_decide_eq_false h78
      have e : x = lt := by omega
      subst e
      refine cw_exit rfl ?_
      refine cw_seq ?_
      refine cw_region ?_
      first | refine lw_val rfl (run_assign (v := errV ad _) rfl) ?_ | refine lw_val rfl (run_assign (v := .nilIface) rfl) ?_
      first | refine lw_val rfl (run_assign (v := errV ad _) rfl) ?_ | refine lw_val rfl (run_assign (v := .nilIface) rfl) ?_
      refine lw_nil ?_
      refine cw_seq ?_
      refine cw_seq ?_
      refine cw_region ?_
      first | refine lw_val rfl (run_move (v := .int .i64 _) rfl) ?_
      refine lw_nil ?_
      refine cw_block ?_
      refine cw_seq ?_
      refine cw_region ?_
      refine lw_val rfl (run_eqi rfl rfl) ?_
      first | refine lw_val rfl (run_assign (v := .bool _) rfl) ?_
      refine lw_nil ?_
      refine cw_if rfl ?_ ?_
      · intro h111
        have g111 := of_decide_eq_true h111
        refine cw_seq ?_
        refine cw_region ?_
        first | refine lw_val rfl (run_move (v := .pointer (some _)) rfl) ?_ | refine lw_val rfl (run_move (v := .pointer none) rfl) ?_
        refine lw_call rfl en43 (clDel_x (t := 5) (nm := nX) hE (by decide) (by decide) (hs.arr [1, 0] 2 (by decide)) (by simp [tw]) (by simp [tw]) (tw_del l (by omega)) (tw_code x)) ?_
        clear hs
        rintro _ w ⟨rfl, hs⟩
        first | refine lw_val rfl (run_assign (v := errV ad _) rfl) ?_ | refine lw_val rfl (run_assign (v := .nilIface) rfl) ?_
        refine lw_nil ?_
        refine cw_region ?_
        first | refine lw_val rfl (run_move (v := .pointer (some _)) rfl) ?_ | refine lw_val rfl (run_move (v := .pointer none) rfl) ?_
        refine lw_call rfl en43 (clDel_x (t := 5) (nm := nX) hE (by omega) (by decide) hs (by simp [tw]; omega) (by simp [tw]; omega) (tw_del2 l _ _) (r := 107) (if_neg (by simp))) ?_
        clear hs
        rintro _ w ⟨rfl, hs⟩
        first | refine lw_val rfl (run_assign (v := errV ad _) rfl) ?_ | refine lw_val rfl (run_assign (v := .nilIface) rfl) ?_
        refine lw_nil ?_
        refine cw_seq ?_
        refine cw_region ?_
        first | refine lw_val rfl (run_move (v := .bool _) rfl) ?_
        first | refine lw_val rfl (run_move (v := .bool _) rfl) ?_
        refine lw_on rfl rfl (rfl) ?_
        first | refine lw_val rfl (run_move (v := errV ad _) rfl) ?_ | refine lw_val rfl (run_move (v := .nilIface) rfl) ?_
        refine lw_on rfl rfl (rfl) ?_
        first | refine lw_val rfl (run_eqerrn (ad := ad) rfl) ?_ | refine lw_val rfl (run_eqnn rfl) ?_
        first | refine lw_val rfl (run_pickT (v := .bool _) rfl (rfl) rfl) ?_
        first | refine lw_val rfl (run_move (v := .bool _) rfl) ?_
        refine lw_on rfl rfl (decide_eq_true rfl) ?_
        first | refine lw_val rfl (run_move (v := errV ad _) rfl) ?_ | refine lw_val rfl (run_move (v := .nilIface) rfl) ?_
        refine lw_on rfl rfl (decide_eq_true rfl) ?_
        refine lw_call rfl en25 (is_sl hA hs (d := 107) (.inr m107) _) ?_
        clear hs
        rintro _ w ⟨rfl, hs⟩
        first | refine lw_val rfl (run_pickT (v := .bool _) rfl (decide_eq_true rfl) rfl) ?_
        first | refine lw_val rfl (run_assign (v := .bool _) rfl) ?_
        refine lw_nil ?_
        refine cw_ret ?_
        refine res1 (v := .bool _) rfl rfl ?_
        exact ⟨_, rfl, ret_b (decide_eq_true rfl), hs.nil⟩
      · intro h111
        have g111 := of_decide_eq_false h111
        refine cw_seq ?_
        refine cw_region ?_
        refine lw_val rfl (run_eqi rfl rfl) ?_
        first | refine lw_val rfl (run_assign (v := .bool _) rfl) ?_
        refine lw_nil ?_
        refine cw_if rfl ?_ ?_
        · intro h117
          have g117 := of_decide_eq_true h117
          refine cw_seq ?_
          refine cw_region ?_
          first | refine lw_val rfl (run_move (v := .pointer (some _)) rfl) ?_ | refine lw_val rfl (run_move (v := .pointer none) rfl) ?_
          first | refine lw_val rfl (run_move (v := .int .i64 _) rfl) ?_
          refine lw_call rfl en44 (clAbort_x (t := 5) hE (by decide) (by decide) (hs.arr [1, 0] 2 (by decide)) (by simp [tw]) (by simp [tw]) (tw_abort l (by omega)) (tw_code x)) ?_
          clear hs
          rintro _ w ⟨rfl, hs⟩
          first | refine lw_val rfl (run_assign (v := errV ad _) rfl) ?_ | refine lw_val rfl (run_assign (v := .nilIface) rfl) ?_
          refine lw_nil ?_
          refine cw_region ?_
          first | refine lw_val rfl (run_move (v := .pointer (some _)) rfl) ?_ | refine lw_val rfl (run_move (v := .pointer none) rfl) ?_
          first | refine lw_val rfl (run_move (v := .int .i64 _) rfl) ?_
          refine lw_call rfl en44 (clAbort_x (t := 5) hE (by omega) (by decide) hs (by simp [tw]; omega) (by simp [tw]; omega) (tw_abort2 l _ _) (r := 107) (if_neg (by simp))) ?_
          clear hs
          rintro _ w ⟨rfl, hs⟩
          first | refine lw_val rfl (run_assign (v := errV ad _) rfl) ?_ | refine lw_val rfl (run_assign (v := .nilIface) rfl) ?_
          refine lw_nil ?_
          refine cw_seq ?_
          refine cw_region ?_
          first | refine lw_val rfl (run_move (v := .bool _) rfl) ?_
          first | refine lw_val rfl (run_move (v := .bool _) rfl) ?_
          refine lw_on rfl rfl (rfl) ?_
          first | refine lw_val rfl (run_move (v := errV ad _) rfl) ?_ | refine lw_val rfl (run_move (v := .nilIface) rfl) ?_
          refine lw_on rfl rfl (rfl) ?_
          first | refine lw_val rfl (run_eqerrn (ad := ad) rfl) ?_ | refine lw_val rfl (run_eqnn rfl) ?_
          first | refine lw_val rfl (run_pickT (v := .bool _) rfl (rfl) rfl) ?_
          first | refine lw_val rfl (run_move (v := .bool _) rfl) ?_
          refine lw_on rfl rfl (decide_eq_true rfl) ?_
          first | refine lw_val rfl (run_move (v := errV ad _) rfl) ?_ | refine lw_val rfl (run_move (v := .nilIface) rfl) ?_
          refine lw_on rfl rfl (decide_eq_true rfl) ?_
          refine lw_call rfl en25 (is_sl hA hs (d := 107) (.inr m107) _) ?_
          clear hs
          rintro _ w ⟨rfl, hs⟩
          first | refine lw_val rfl (run_pickT (v := .bool _) rfl (decide_eq_true rfl) rfl) ?_
          first | refine lw_val rfl (run_assign (v := .bool _) rfl) ?_
          refine lw_nil ?_
          refine cw_ret ?_
          refine res1 (v := .bool _) rfl rfl ?_
          exact ⟨_, rfl, ret_b (decide_eq_true rfl), hs.nil⟩
        · intro h117
          have g117 := of_decide_eq_false h117
          refine cw_seq ?_
          refine cw_region ?_
          first | refine lw_val rfl (run_move (v := .pointer (some _)) rfl) ?_ | refine lw_val rfl (run_move (v := .pointer none) rfl) ?_
          first | refine lw_val rfl (run_move (v := .int .i64 _) rfl) ?_
          first | refine lw_val rfl (run_move (v := .slice _ _ _) rfl) ?_
          refine lw_val rfl (run_lenS Tryd.underlying27 rfl) ?_
          first | refine lw_val rfl (run_move (v := .int .u32 _) rfl) ?_
          refine lw_call rfl en45 (clComplete_x (t := 5) (nm := nY) hE (tw_small (twO_small (by omega)) (twU_small (by omega))) (by decide) (by decide) (hs.arr [1, 0] 2 (by decide)) (by simp [tw]) (by simp [tw]) (tw_complete l (by omega)) (tw_clhead l _ _) (tw_c1 x _ _) (tw_c2 x) (tw_c3 l x)) ?_
          clear hs
          rintro _ w ⟨rfl, hs⟩
          first | refine lw_val rfl (run_assign (v := errV ad _) rfl) ?_ | refine lw_val rfl (run_assign (v := .nilIface) rfl) ?_
          refine lw_nil ?_
          refine cw_seq ?_
          refine cw_region ?_
          first | refine lw_val rfl (run_move (v := .pointer (some _)) rfl) ?_ | refine lw_val rfl (run_move (v := .pointer none) rfl) ?_
          first | refine lw_val rfl (run_move (v := .int .i64 _) rfl) ?_
          first | refine lw_val rfl (run_move (v := .slice _ _ _) rfl) ?_
          refine lw_val rfl (run_lenS Tryd.underlying27 rfl) ?_
          first | refine lw_val rfl (run_move (v := .int .u32 _) rfl) ?_
          refine lw_call rfl en45 (clComplete_x (t := 5) (nm := nY) hE (tw_small (twO2_small (by omega)) (fun i x h => by simp at h)) ⟨by omega, by split <;> omega⟩ (by decide) hs (by simp [tw]; split <;> omega) (by simp [tw]; omega) (tw_complete2 l _ _) (tw_clhead l _ _) (r := 107) (N := 1) (if_neg (by simp)) (if_neg (by simp)) (if_neg (by simp))) ?_
          clear hs
          rintro _ w ⟨rfl, hs⟩
          first | refine lw_val rfl (run_assign (v := errV ad _) rfl) ?_ | refine lw_val rfl (run_assign (v := .nilIface) rfl) ?_
          refine lw_nil ?_
          refine cw_seq ?_
          refine cw_region ?_
          first | refine lw_val rfl (run_move (v := .pointer (some _)) rfl) ?_ | refine lw_val rfl (run_move (v := .pointer none) rfl) ?_
          refine lw_call rfl en24 (bytes_sl (hs.pick 1 rfl) (tw_small (twO2_small (by omega)) (fun i x h => by simp at h)) nY (tw_bytes l _ _)) ?_
          clear hs
          rintro _ w ⟨a99, c99, rfl, hs⟩
          first | refine lw_val rfl (run_move (v := .tuple _) rfl) ?_
          first | refine lw_val rfl (run_extract (v := .slice _ _ _) rfl rfl) ?_
          first | refine lw_val rfl (run_extract (v := .bool _) rfl rfl) ?_
          first | refine lw_val rfl (run_assign (v := .slice _ _ _) rfl) ?_
          first | refine lw_val rfl (run_assign (v := .bool _) rfl) ?_
          refine lw_nil ?_
          refine cw_seq ?_
          refine cw_region ?_
          first | refine lw_val rfl (run_move (v := .bool _) rfl) ?_
          refine lw_val rfl (run_not rfl) ?_
          first | refine lw_val rfl (run_move (v := .bool _) rfl) ?_
          refine lw_on rfl rfl (not_f (rfl)) ?_
          first | refine lw_val rfl (run_move (v := .slice _ _ _) rfl) ?_
          refine lw_on rfl rfl (not_f (rfl)) ?_
          first | refine lw_val rfl (run_move (v := .slice _ _ _) rfl) ?_
          refine lw_on rfl rfl (not_f (rfl)) ?_
          refine lw_call rfl en38 (sameB_sl (la := l) (lb := l) hs (Rd.own 0 rfl) (hb.rd _) rfl rfl (by omega)) ?_
          clear hs
          rintro _ w ⟨rfl, hs⟩
          refine lw_on rfl rfl (not_f (rfl)) ?_
          refine lw_val rfl (run_not rfl) ?_
          first | refine lw_val rfl (run_pickF (v := .bool _) rfl (not_f (rfl)) rfl) ?_
          refine lw_nil ?_
          refine cw_iff rfl (not_f (decide_eq_true rfl)) ?_
          refine cw_skip ?_
          refine cw_seq ?_
          refine cw_region ?_
          first | refine lw_val rfl (run_move (v := .bool _) rfl) ?_
          first | refine lw_val rfl (run_move (v := .bool _) rfl) ?_
          refine lw_on rfl rfl (rfl) ?_
          first | refine lw_val rfl (run_move (v := errV ad _) rfl) ?_ | refine lw_val rfl (run_move (v := .nilIface) rfl) ?_
          refine lw_on rfl rfl (rfl) ?_
          first | refine lw_val rfl (run_eqerrn (ad := ad) rfl) ?_ | refine lw_val rfl (run_eqnn rfl) ?_
          first | refine lw_val rfl (run_pickT (v := .bool _) rfl (rfl) rfl) ?_
          first | refine lw_val rfl (run_move (v := .bool _) rfl) ?_
          refine lw_on rfl rfl (decide_eq_true rfl) ?_
          first | refine lw_val rfl (run_move (v := errV ad _) rfl) ?_ | refine lw_val rfl (run_move (v := .nilIface) rfl) ?_
          refine lw_on rfl rfl (decide_eq_true rfl) ?_
          refine lw_call rfl en25 (is_sl hA hs (d := 107) (.inr m107) _) ?_
          clear hs
          rintro _ w ⟨rfl, hs⟩
          first | refine lw_val rfl (run_pickT (v := .bool _) rfl (decide_eq_true rfl) rfl) ?_
          first | refine lw_val rfl (run_assign (v := .bool _) rfl) ?_
          refine lw_nil ?_
          refine cw_ret ?_
          refine res1 (v := .bool _) rfl rfl ?_
          exact ⟨_, rfl, ret_b (decide_eq_true rfl), hs.nil⟩
end Go.Proofs.YtjiigajekminaaaDoor
