/- PartTwice: the walk. -/
import Derived.Test.YtjiigajekminaaaDoorPL
namespace Go.Proofs.YtjiigajekminaaaDoor
set_option linter.all false
open Go.RowKit
attribute [local irreducible] errV
variable {g w : World} {L M : List HP} {ad : Nat → Addr} {p q : Nat} {st : St}

def boolsL (l : List Bool) : List Value := l.map Value.bool
theorem boolsL_at {l : List Bool} {k : Nat} {x : Bool} (h : l[k]? = some x) : (boolsL l)[k]? = some (.bool x) := by simp [boolsL, h]
theorem boolsL_len (l : List Bool) : (boolsL l).length = l.length := by simp [boolsL]
theorem Came.bools {a : Option Addr} {n c : Nat} {l : List Bool} (h : seqV w (.slice a n c) (boolsL l)) (hb : ∀ b, blk (.slice a n c) = some b → b < w.heap.size) : Came w (.slice a n c) (boolsL l) ∧ n = l.length := ⟨⟨h, hb⟩, by have := h.len; simpa [boolsL] using this.symm⟩
theorem tw_step (hE : ErrG ad g) {k c : Nat} {l : List UInt8} {e : Nat} (h1 : 1 ≤ e) (h2 : e ≤ 1000) (h3 : l.length ≤ 256) (hk : k < partsN l.length e) (hc : c < 1000) {ba : Option Addr} {m : Nat} (hs : Mem g w (clientC q p 1 (c : Nat) :: StoreC p (tw [] (upO l e k) [] c 0) :: M)) (hr : Rd g M (.slice ba l.length m) (bytesL l)) :
    Calls Tryd.prog 46 #[.pointer (some ⟨q, 0, none⟩), .agg (planC nO l.length (crcMore 0 l : Nat) e (partsN l.length e : Nat)).toArray, .slice ba l.length m, .int .i64 1, .int .i64 (k : Nat)] w
      (Ret fun v w' => v = .tuple #[.int .i64 1, .int .i64 ((k : Nat) + 1), .bool false, errV ad 0] ∧ Mem g w' (clientC q p 1 (c + 1 : Nat) :: StoreC p (tw [] (upO l e (k + 1)) [] (c + 1) 0) :: M)) := by
  have hp := partsN_le (n := l.length) h1
  exact step_part (t := 1) (n := 1) (id := 1) (k := k) hE ⟨by omega, by omega⟩ (by decide) hs (by simp [tw]; omega) (by simp [tw]) (fairN h1 h2 h3) (by decide) hk hr (up_part l e k 0 c (by omega))
theorem up_part2 (l : List UInt8) (e k c : Nat) (hk : k < 256) : againR (fun s => s.run (St.part1 1 k (chunkN l e k))) 1 (tw [] (upO l e (k + 1)) [] c 0) = (false, 0, 1, tw [] (upO l e (k + 1)) [] (c + 1) 0) := by
  refine again_ok ?_ (by decide)
  rw [run_ok rfl]
  have h : aget (tw [] (upO l e (k + 1)) [] (c + 1) 0).ups 1 = some ⟨nO, pts l e (k + 1)⟩ := by simp [tw, upO, aget]
  show St.part1 1 k (chunkN l e k) (tw [] (upO l e (k + 1)) [] (c + 1) 0) = _
  simp only [St.part1, h]
  rw [if_neg (by omega), pts_put2]
  simp [tw, upO, aput]
theorem tw_step2 (hE : ErrG ad g) {k c : Nat} {l : List UInt8} {e : Nat} (h1 : 1 ≤ e) (h2 : e ≤ 1000) (h3 : l.length ≤ 256) (hk : k < partsN l.length e) (hc : c < 1000) {ba : Option Addr} {m : Nat} (hs : Mem g w (clientC q p 1 (c : Nat) :: StoreC p (tw [] (upO l e (k + 1)) [] c 0) :: M)) (hr : Rd g M (.slice ba l.length m) (bytesL l)) :
    Calls Tryd.prog 46 #[.pointer (some ⟨q, 0, none⟩), .agg (planC nO l.length (crcMore 0 l : Nat) e (partsN l.length e : Nat)).toArray, .slice ba l.length m, .int .i64 1, .int .i64 (k : Nat)] w
      (Ret fun v w' => v = .tuple #[.int .i64 1, .int .i64 ((k : Nat) + 1), .bool false, errV ad 0] ∧ Mem g w' (clientC q p 1 (c + 1 : Nat) :: StoreC p (tw [] (upO l e (k + 1)) [] (c + 1) 0) :: M)) := by
  have hp := partsN_le (n := l.length) h1
  exact step_part (t := 1) (n := 1) (id := 1) (k := k) hE ⟨by omega, by omega⟩ (by decide) hs (by simp [tw]; omega) (by simp [tw]) (fairN h1 h2 h3) (by decide) hk hr (up_part2 l e k c (by omega))
theorem up_fullT (l : List UInt8) {e : Nat} (h1 : 1 ≤ e) (h3 : l.length ≤ 256) (c : Nat) : againR (fun s => s.run (St.complete1 1 (partsN l.length e : Nat))) 1 (tw [] (upO l e (partsN l.length e)) [] c 0) = (false, 0, 1, tw [(nO, l)] [] [] (c + 1) 0) := by
  refine again_ok ?_ (by decide)
  rw [run_ok rfl]
  exact up_complete1 l h1 h3 [] (c + 1) 0
theorem tw_last (hE : ErrG ad g) {c : Nat} {l : List UInt8} {e : Nat} (h1 : 1 ≤ e) (h2 : e ≤ 1000) (h3 : l.length ≤ 256) (hc : c < 1000) {ba : Option Addr} {m : Nat} (hs : Mem g w (clientC q p 1 (c : Nat) :: StoreC p (tw [] (upO l e (partsN l.length e)) [] c 0) :: M)) :
    Calls Tryd.prog 46 #[.pointer (some ⟨q, 0, none⟩), .agg (planC nO l.length (crcMore 0 l : Nat) e (partsN l.length e : Nat)).toArray, .slice ba l.length m, .int .i64 1, .int .i64 (partsN l.length e : Nat)] w
      (Ret fun v w' => v = .tuple #[.int .i64 1, .int .i64 (partsN l.length e : Nat), .bool true, errV ad 0] ∧ Mem g w' (clientC q p 1 (c + 1 : Nat) :: StoreC p (tw [(nO, l)] [] [] (c + 1) 0) :: M)) := by
  exact step_complete (t := 1) (id := 1) hE (upO_small (fun _ _ h => by simp at h) h3 [] _ 0) ⟨by omega, by omega⟩ (by decide) hs (by simp [tw]; omega) (by simp [tw]) (fairN h1 h2 h3) (by decide) (up_fullT l h1 h3 _) (up_head l 0 _ 0) (r := 0) (N := 1) (if_neg (by simp)) (if_neg (by simp)) (if_neg (by simp))
set_option maxHeartbeats 2000000 in
set_option maxRecDepth 10000 in
theorem partTwice_sl (hE : ErrG ad g) (hs : Mem g w []) {a : Option Addr} {n c : Nat} {l : List UInt8} {ea : Int} (hb : Came g (.slice a n c) (bytesL l)) (hn : n = l.length) {ab : Option Addr} {nb cb : Nat} {lb : List Bool} (hbb : Came g (.slice ab nb cb) (boolsL lb)) (hnb : nb = lb.length) :
    Calls Tryd.prog 9 #[.slice a n c, .int .i64 ea, .slice ab nb cb] w (Ret fun v w' => v = .bool true ∧ Mem g w' []) := by
  subst hn hnb
  refine calls_cw Tryd.func9 rfl rfl ?_
  skip
  refine cw_seq ?_
  refine cw_region ?_
  first | refine lw_val rfl (run_assign (v := .bool _) rfl) ?_
  refine lw_nil ?_
  refine cw_seq ?_
  refine cw_region ?_
  refine lw_call rfl en28 (first13_sl hE hs) ?_
  clear hs
  rintro _ w ⟨rfl, hs⟩
  first | refine lw_val rfl (run_assign (v := .bool _) rfl) ?_
  refine lw_nil ?_
  refine cw_seq ?_
  refine cw_seq ?_
  refine cw_region ?_
  first | refine lw_val rfl (run_move (v := .bool _) rfl) ?_
  refine lw_val rfl (run_not rfl) ?_
  refine lw_nil ?_
  refine cw_iff rfl (not_f (rfl)) ?_
  refine cw_skip ?_
  refine cw_seq ?_
  refine cw_region ?_
  first | refine lw_val rfl (run_move (v := .int .i64 _) rfl) ?_
  refine lw_call rfl en34 (number_sl hs _ _ (by decide)) ?_
  clear hs
  rintro _ w ⟨e0, he0, rfl, hs⟩
  refine lw_val rfl (run_add64 rfl rfl rfl (inI (by omega) (by omega))) ?_
  first | refine lw_val rfl (run_assign (v := .int .i64 _) rfl) ?_
  refine lw_nil ?_
  refine cw_seq ?_
  refine cw_seq ?_
  refine cw_region ?_
  first | refine lw_val rfl (run_move (v := .slice _ _ _) rfl) ?_
  refine lw_val rfl (run_lenS Tryd.underlying27 rfl) ?_
  refine lw_val rfl (run_gtr rfl rfl) ?_
  first | refine lw_val rfl (run_move (v := .bool _) rfl) ?_
  refine lw_split (t := _) (d := 41) rfl ?_ ?_
  · intro h40
    have g40 := of_decide_eq_true h40
    refine lw_off rfl rfl rfl h40 ?_
    refine lw_off rfl rfl rfl h40 ?_
    first | refine lw_val rfl (run_pickT (v := .bool _) rfl h40 rfl) ?_
    refine lw_nil ?_
    refine cw_ift rfl rfl ?_
    refine cw_seq ?_
    refine cw_region ?_
    first | refine lw_val rfl (run_move (v := .bool _) rfl) ?_
    first | refine lw_val rfl (run_assign (v := .bool _) rfl) ?_
    refine lw_nil ?_
    refine cw_ret ?_
    refine res1 (v := .bool _) rfl rfl ?_
    exact ⟨_, rfl, rfl, hs.nil⟩
  · intro h40
    have g40 := of_decide_eq_false h40
    have hp := partsN_le (n := l.length) (e := e0 + 1) (by omega)
    refine lw_on rfl rfl h40 ?_
    first | refine lw_val rfl (run_move (v := .bool _) rfl) ?_
    refine lw_on rfl rfl h40 ?_
    refine lw_val rfl (run_not rfl) ?_
    first | refine lw_val rfl (run_pickF (v := .bool _) rfl h40 rfl) ?_
    refine lw_nil ?_
    refine cw_iff rfl (not_f (rfl)) ?_
    refine cw_skip ?_
    refine cw_seq ?_
    refine cw_region ?_
    refine lw_call rfl en21 (new_sl hs) ?_
    clear hs
    rintro _ w ⟨p, rfl, hs⟩
    first | refine lw_val rfl (run_assign (v := .pointer (some _)) rfl) ?_ | refine lw_val rfl (run_assign (v := .pointer none) rfl) ?_
    refine lw_nil ?_
    refine cw_seq ?_
    refine cw_region ?_
    first | refine lw_val rfl (run_move (v := .pointer (some _)) rfl) ?_ | refine lw_val rfl (run_move (v := .pointer none) rfl) ?_
    refine lw_call rfl en35 (clnew_sl (t := 1) hE hs (by omega)) ?_
    clear hs
    rintro _ w ⟨q, rfl, hs⟩
    first | refine lw_val rfl (run_move (v := .tuple _) rfl) ?_
    first | refine lw_val rfl (run_extract (v := .pointer (some _)) rfl rfl) ?_ | refine lw_val rfl (run_extract (v := .pointer none) rfl rfl) ?_
    first | refine lw_val rfl (run_extract (v := errV ad _) rfl rfl) ?_ | refine lw_val rfl (run_extract (v := .nilIface) rfl rfl) ?_
    first | refine lw_val rfl (run_assign (v := .pointer (some _)) rfl) ?_ | refine lw_val rfl (run_assign (v := .pointer none) rfl) ?_
    first | refine lw_val rfl (run_assign (v := errV ad _) rfl) ?_ | refine lw_val rfl (run_assign (v := .nilIface) rfl) ?_
    refine lw_nil ?_
    refine cw_seq ?_
    refine cw_region ?_
    first | refine lw_val rfl (run_move (v := .slice _ _ _) rfl) ?_
    first | refine lw_val rfl (run_move (v := .int .i64 _) rfl) ?_
    refine lw_call rfl en29 (make_sl (each := ((e0 + 1 : Nat) : Int)) hE hs (hb.rd _) rfl (by omega) (inI (by omega) (by omega))) ?_
    clear hs
    rintro _ w ⟨c6, nm, sz, sm, e2, pa, hm, rfl, hs⟩
    rw [show mkR ⟨#[111]⟩ l ((e0 + 1 : Nat) : Int) = _ from mk_ok (by omega) (by omega) (by omega)] at hm; simp only [Prod.mk.injEq] at hm; obtain ⟨hc, rfl, rfl, rfl, rfl, rfl⟩ := hm
    first | refine lw_val rfl (run_move (v := .tuple _) rfl) ?_
    first | refine lw_val rfl (run_extract (v := .agg _) rfl rfl) ?_
    first | refine lw_val rfl (run_extract (v := errV ad _) rfl rfl) ?_ | refine lw_val rfl (run_extract (v := .nilIface) rfl rfl) ?_
    refine lw_alloc hs rfl ze38 ?_
    clear hs
    intro b11 w hs
    try simp only [List.set_cons_succ, List.set_cons_zero] at hs
    first | refine lw_storeRow hs 0 rfl rfl rfl sz38 rfl rfl ?_ | refine lw_storeRow hs 1 rfl rfl rfl sz38 rfl rfl ?_ | refine lw_storeRow hs 2 rfl rfl rfl sz38 rfl rfl ?_ | refine lw_storeRow hs 3 rfl rfl rfl sz38 rfl rfl ?_ | refine lw_storeRow hs 4 rfl rfl rfl sz38 rfl rfl ?_ | refine lw_storeRow hs 5 rfl rfl rfl sz38 rfl rfl ?_ | refine lw_storeRow hs 6 rfl rfl rfl sz38 rfl rfl ?_ | refine lw_storeRow hs 7 rfl rfl rfl sz38 rfl rfl ?_ | refine lw_storeRow hs 8 rfl rfl rfl sz38 rfl rfl ?_ | refine lw_storeRow hs 9 rfl rfl rfl sz38 rfl rfl ?_ | refine lw_storeRow hs 10 rfl rfl rfl sz38 rfl rfl ?_ | refine lw_storeRow hs 11 rfl rfl rfl sz38 rfl rfl ?_ | refine lw_storeRow hs 12 rfl rfl rfl sz38 rfl rfl ?_ | refine lw_storeRow hs 13 rfl rfl rfl sz38 rfl rfl ?_
    clear hs
    intro w hs
    try simp only [List.set_cons_succ, List.set_cons_zero] at hs
    first | refine lw_val rfl (run_assign (v := errV ad _) rfl) ?_ | refine lw_val rfl (run_assign (v := .nilIface) rfl) ?_
    refine lw_nil ?_
    refine cw_seq ?_
    refine cw_seq ?_
    refine cw_region ?_
    first | refine lw_val rfl (run_move (v := .pointer (some _)) rfl) ?_ | refine lw_val rfl (run_move (v := .pointer none) rfl) ?_
    refine lw_val rfl (run_eqpn Tryd.underlying47 rfl rfl) ?_
    first | refine lw_val rfl (run_move (v := .bool _) rfl) ?_
    refine lw_on rfl rfl rfl ?_
    first | refine lw_val rfl (run_move (v := errV ad _) rfl) ?_ | refine lw_val rfl (run_move (v := .nilIface) rfl) ?_
    refine lw_on rfl rfl rfl ?_
    first | refine lw_val rfl (run_neerrn (ad := ad) rfl) ?_ | refine lw_val rfl (run_nenn rfl) ?_
    first | refine lw_val rfl (run_pickF (v := .bool _) rfl rfl rfl) ?_
    first | refine lw_val rfl (run_move (v := .bool _) rfl) ?_
    refine lw_on rfl rfl (rfl) ?_
    first | refine lw_val rfl (run_move (v := errV ad _) rfl) ?_ | refine lw_val rfl (run_move (v := .nilIface) rfl) ?_
    refine lw_on rfl rfl (rfl) ?_
    first | refine lw_val rfl (run_neerrn (ad := ad) rfl) ?_ | refine lw_val rfl (run_nenn rfl) ?_
    first | refine lw_val rfl (run_pickF (v := .bool _) rfl (rfl) rfl) ?_
    refine lw_nil ?_
    refine cw_iff rfl (not_f (decide_eq_true hc.symm)) ?_
    refine cw_skip ?_
    refine cw_seq ?_
    refine cw_region ?_
    first | refine lw_val rfl (run_move (v := .pointer (some _)) rfl) ?_ | refine lw_val rfl (run_move (v := .pointer none) rfl) ?_
    first | refine lw_val rfl (run_loadRow hs 0 rfl Tryd.underlying38 sz38 rfl) ?_ | refine lw_val rfl (run_loadRow hs 1 rfl Tryd.underlying38 sz38 rfl) ?_ | refine lw_val rfl (run_loadRow hs 2 rfl Tryd.underlying38 sz38 rfl) ?_ | refine lw_val rfl (run_loadRow hs 3 rfl Tryd.underlying38 sz38 rfl) ?_ | refine lw_val rfl (run_loadRow hs 4 rfl Tryd.underlying38 sz38 rfl) ?_ | refine lw_val rfl (run_loadRow hs 5 rfl Tryd.underlying38 sz38 rfl) ?_ | refine lw_val rfl (run_loadRow hs 6 rfl Tryd.underlying38 sz38 rfl) ?_ | refine lw_val rfl (run_loadRow hs 7 rfl Tryd.underlying38 sz38 rfl) ?_ | refine lw_val rfl (run_loadRow hs 8 rfl Tryd.underlying38 sz38 rfl) ?_ | refine lw_val rfl (run_loadRow hs 9 rfl Tryd.underlying38 sz38 rfl) ?_ | refine lw_val rfl (run_loadRow hs 10 rfl Tryd.underlying38 sz38 rfl) ?_ | refine lw_val rfl (run_loadRow hs 11 rfl Tryd.underlying38 sz38 rfl) ?_ | refine lw_val rfl (run_loadRow hs 12 rfl Tryd.underlying38 sz38 rfl) ?_ | refine lw_val rfl (run_loadRow hs 13 rfl Tryd.underlying38 sz38 rfl) ?_
    first | refine lw_val rfl (run_move (v := .slice _ _ _) rfl) ?_
    refine lw_call rfl en46 (step_start (st := St.empty) (t := 1) (i := 1) (n := 1) (x := 0) hE ⟨by decide, by decide⟩ (by decide) (hs.arr [1, 2, 0] 3 (by decide)) (by simp [St.empty]) (by simp [St.empty]) (by simp [St.empty]) (fairN (by omega) (by omega) (by omega)) ⟨by decide, by omega⟩ (up_start l (e0 + 1) 0)) ?_
    clear hs
    rintro _ w ⟨rfl, hs⟩
    first | refine lw_val rfl (run_move (v := .tuple _) rfl) ?_
    first | refine lw_val rfl (run_extract (v := .int .i64 _) rfl rfl) ?_
    first | refine lw_val rfl (run_extract (v := .int .i64 _) rfl rfl) ?_
    first | refine lw_val rfl (run_extract (v := .bool _) rfl rfl) ?_
    first | refine lw_val rfl (run_extract (v := errV ad _) rfl rfl) ?_ | refine lw_val rfl (run_extract (v := .nilIface) rfl rfl) ?_
    first | refine lw_val rfl (run_assign (v := .int .i64 _) rfl) ?_
    first | refine lw_val rfl (run_assign (v := .int .i64 _) rfl) ?_
    first | refine lw_val rfl (run_assign (v := .bool _) rfl) ?_
    first | refine lw_val rfl (run_assign (v := errV ad _) rfl) ?_ | refine lw_val rfl (run_assign (v := .nilIface) rfl) ?_
    refine lw_nil ?_
    refine cw_seq ?_
    refine cw_seq ?_
    refine cw_region ?_
    first | refine lw_val rfl (run_move (v := errV ad _) rfl) ?_ | refine lw_val rfl (run_move (v := .nilIface) rfl) ?_
    first | refine lw_val rfl (run_neerrn (ad := ad) rfl) ?_ | refine lw_val rfl (run_nenn rfl) ?_
    refine lw_nil ?_
    refine cw_iff rfl (not_f (decide_eq_true rfl)) ?_
    refine cw_skip ?_
    refine cw_seq ?_
    refine cw_seq ?_
    refine cw_region ?_
    first | refine lw_val rfl (run_assign (v := .int .i64 _) rfl) ?_
    refine lw_nil ?_
    refine cw_block ?_
    refine cw_loop (X := Nat × Nat) [6, 17, 18, 19, 20, 21, 22, 23, 24, 25, 79, 80, 81, 82, 83, 84, 85, 86, 87, 88, 89, 90, 91, 92, 93, 94, 95, 96, 97, 98, 99, 100, 101, 102, 103, 104, 105, 106, 107, 108, 109, 110, 111, 112, 113, 114, 115, 116, 117, 118, 119, 120, 121, 122, 123, 124, 125, 126, 127, 128, 129, 130, 131, 132, 133, 134, 135, 136, 137, 138, 139, 140, 141, 142, 143, 144, 145, 146, 147, 148] (fun x => [(17, .int .i64 (x.1 : Nat))]) (fun x w => x.1 ≤ partsN l.length (e0 + 1) ∧ x.2 ≤ 1 + 2 * x.1 ∧ Mem g w [clientC q p 1 (x.2 : Nat), StoreC p (tw [] (upO l (e0 + 1) x.1) [] x.2 0), cells b11 (planC nO l.length (crcMore 0 l : Nat) (e0 + 1 : Nat) (partsN l.length (e0 + 1) : Nat)) 38]) (fun x => partsN l.length (e0 + 1) - x.1) ((0, 1)) ?_ ?_ ?_
    · exact ⟨rfl, trivial⟩
    · exact ⟨Nat.zero_le _, by decide, hs⟩
    clear hs
    rintro x ξ w hI
    obtain ⟨x, k⟩ := x
    obtain ⟨hk, hk2, hs⟩ := hI
    simp only at hk hk2 hs
    refine cw_seq ?_
    refine cw_seq ?_
    refine cw_region ?_
    first | refine lw_val rfl (run_move (v := .int .i64 _) rfl) ?_
    first | refine lw_val rfl (run_fieldAddr (o' := 4) Tryd.underlying38 rfl sz3 rfl rfl rfl) ?_ | refine lw_val rfl (run_fieldAddr Tryd.underlying38 rfl sz3 rfl rfl rfl) ?_
    first | refine lw_val rfl (run_load Tryd.underlying3 rfl rfl (hs.cellAt 0 rfl rfl)) ?_ | refine lw_val rfl (run_load Tryd.underlying3 rfl rfl (hs.cellAt 1 rfl rfl)) ?_ | refine lw_val rfl (run_load Tryd.underlying3 rfl rfl (hs.cellAt 2 rfl rfl)) ?_ | refine lw_val rfl (run_load Tryd.underlying3 rfl rfl (hs.cellAt 3 rfl rfl)) ?_ | refine lw_val rfl (run_load Tryd.underlying3 rfl rfl (hs.cellAt 4 rfl rfl)) ?_ | refine lw_val rfl (run_load Tryd.underlying3 rfl rfl (hs.cellAt 5 rfl rfl)) ?_ | refine lw_val rfl (run_load Tryd.underlying3 rfl rfl (hs.cellAt 6 rfl rfl)) ?_ | refine lw_val rfl (run_load Tryd.underlying3 rfl rfl (hs.cellAt 7 rfl rfl)) ?_ | refine lw_val rfl (run_load Tryd.underlying3 rfl rfl (hs.cellAt 8 rfl rfl)) ?_ | refine lw_val rfl (run_load Tryd.underlying3 rfl rfl (hs.cellAt 9 rfl rfl)) ?_ | refine lw_val rfl (run_load Tryd.underlying3 rfl rfl (hs.cellAt 10 rfl rfl)) ?_ | refine lw_val rfl (run_load Tryd.underlying3 rfl rfl (hs.cellAt 11 rfl rfl)) ?_ | refine lw_val rfl (run_load Tryd.underlying3 rfl rfl (hs.cellAt 12 rfl rfl)) ?_ | refine lw_val rfl (run_load Tryd.underlying3 rfl rfl (hs.cellAt 13 rfl rfl)) ?_
    refine lw_val rfl (run_lss rfl rfl) ?_
    refine lw_nil ?_
    refine cw_if rfl ?_ ?_
    · intro h82
      have g82 := of_decide_eq_true h82
      refine cw_skip ?_
      refine cw_seq ?_
      refine cw_block ?_
      refine cw_seq ?_
      refine cw_region ?_
      first | refine lw_val rfl (run_move (v := .pointer (some _)) rfl) ?_ | refine lw_val rfl (run_move (v := .pointer none) rfl) ?_
      first | refine lw_val rfl (run_loadRow hs 0 rfl Tryd.underlying38 sz38 rfl) ?_ | refine lw_val rfl (run_loadRow hs 1 rfl Tryd.underlying38 sz38 rfl) ?_ | refine lw_val rfl (run_loadRow hs 2 rfl Tryd.underlying38 sz38 rfl) ?_ | refine lw_val rfl (run_loadRow hs 3 rfl Tryd.underlying38 sz38 rfl) ?_ | refine lw_val rfl (run_loadRow hs 4 rfl Tryd.underlying38 sz38 rfl) ?_ | refine lw_val rfl (run_loadRow hs 5 rfl Tryd.underlying38 sz38 rfl) ?_ | refine lw_val rfl (run_loadRow hs 6 rfl Tryd.underlying38 sz38 rfl) ?_ | refine lw_val rfl (run_loadRow hs 7 rfl Tryd.underlying38 sz38 rfl) ?_ | refine lw_val rfl (run_loadRow hs 8 rfl Tryd.underlying38 sz38 rfl) ?_ | refine lw_val rfl (run_loadRow hs 9 rfl Tryd.underlying38 sz38 rfl) ?_ | refine lw_val rfl (run_loadRow hs 10 rfl Tryd.underlying38 sz38 rfl) ?_ | refine lw_val rfl (run_loadRow hs 11 rfl Tryd.underlying38 sz38 rfl) ?_ | refine lw_val rfl (run_loadRow hs 12 rfl Tryd.underlying38 sz38 rfl) ?_ | refine lw_val rfl (run_loadRow hs 13 rfl Tryd.underlying38 sz38 rfl) ?_
      first | refine lw_val rfl (run_move (v := .slice _ _ _) rfl) ?_
      first | refine lw_val rfl (run_move (v := .int .i64 _) rfl) ?_
      first | refine lw_val rfl (run_move (v := .int .i64 _) rfl) ?_
      refine lw_call rfl en46 (tw_step hE (by omega) (by omega) (by omega) (by omega) (by omega) hs (hb.rd _)) ?_
      clear hs
      rintro _ w ⟨rfl, hs⟩
      first | refine lw_val rfl (run_move (v := .tuple _) rfl) ?_
      first | refine lw_val rfl (run_extract (v := .int .i64 _) rfl rfl) ?_
      first | refine lw_val rfl (run_extract (v := .int .i64 _) rfl rfl) ?_
      first | refine lw_val rfl (run_extract (v := .bool _) rfl rfl) ?_
      first | refine lw_val rfl (run_extract (v := errV ad _) rfl rfl) ?_ | refine lw_val rfl (run_extract (v := .nilIface) rfl rfl) ?_
      first | refine lw_val rfl (run_assign (v := .int .i64 _) rfl) ?_
      first | refine lw_val rfl (run_assign (v := .int .i64 _) rfl) ?_
      first | refine lw_val rfl (run_assign (v := .bool _) rfl) ?_
      first | refine lw_val rfl (run_assign (v := errV ad _) rfl) ?_ | refine lw_val rfl (run_assign (v := .nilIface) rfl) ?_
      refine lw_nil ?_
      refine cw_seq ?_
      refine cw_seq ?_
      refine cw_region ?_
      first | refine lw_val rfl (run_move (v := errV ad _) rfl) ?_ | refine lw_val rfl (run_move (v := .nilIface) rfl) ?_
      first | refine lw_val rfl (run_neerrn (ad := ad) rfl) ?_ | refine lw_val rfl (run_nenn rfl) ?_
      first | refine lw_val rfl (run_move (v := .bool _) rfl) ?_
      refine lw_on rfl rfl (not_f (decide_eq_true rfl)) ?_
      first | refine lw_val rfl (run_move (v := .int .i64 _) rfl) ?_
      refine lw_on rfl rfl (not_f (decide_eq_true rfl)) ?_
      first | refine lw_val rfl (run_move (v := .int .i64 _) rfl) ?_
      refine lw_on rfl rfl (not_f (decide_eq_true rfl)) ?_
      refine lw_val rfl (run_nei rfl rfl) ?_
      first | refine lw_val rfl (run_pickF (v := .bool _) rfl (not_f (decide_eq_true rfl)) rfl) ?_
      first | refine lw_val rfl (run_move (v := .bool _) rfl) ?_
      refine lw_on rfl rfl (not_f (decide_eq_true rfl)) ?_
      first | refine lw_val rfl (run_move (v := .int .i64 _) rfl) ?_
      refine lw_on rfl rfl (not_f (decide_eq_true rfl)) ?_
      first | refine lw_val rfl (run_move (v := .int .i64 _) rfl) ?_
      refine lw_on rfl rfl (not_f (decide_eq_true rfl)) ?_
      refine lw_val rfl (run_add64 rfl rfl rfl (inI (by omega) (by omega))) ?_
      refine lw_on rfl rfl (not_f (decide_eq_true rfl)) ?_
      refine lw_val rfl (run_nei rfl rfl) ?_
      first | refine lw_val rfl (run_pickF (v := .bool _) rfl (not_f (decide_eq_true rfl)) rfl) ?_
      first | refine lw_val rfl (run_move (v := .bool _) rfl) ?_
      refine lw_on rfl rfl (not_f (decide_eq_true rfl)) ?_
      first | refine lw_val rfl (run_move (v := .bool _) rfl) ?_
      first | refine lw_val rfl (run_pickF (v := .bool _) rfl (not_f (decide_eq_true rfl)) rfl) ?_
      refine lw_nil ?_
      refine cw_iff rfl (rfl) ?_
      refine cw_skip ?_
      refine cw_seq ?_
      refine cw_region ?_
      first | refine lw_val rfl (run_move (v := .int .i64 _) rfl) ?_
      first | refine lw_val rfl (run_move (v := .slice _ _ _) rfl) ?_
      refine lw_val rfl (run_lenS Tryd.underlying65 rfl) ?_
      refine lw_val rfl (run_lss rfl rfl) ?_
      first | refine lw_val rfl (run_move (v := .bool _) rfl) ?_
      refine lw_split (t := _) (d := 116) rfl ?_ ?_
      · intro h115
        have g115 := of_decide_eq_true h115
        obtain ⟨xb, hxb⟩ : ∃ xb, lb[x]? = some xb := ⟨lb[x]'(by omega), List.getElem?_eq_getElem _⟩
        obtain ⟨b1, o1, rfl, _⟩ := (hbb.rd []).cells' hs.nil (by rw [boolsL_len]; omega)
        refine lw_on rfl rfl h115 ?_
        first | refine lw_val rfl (run_move (v := .slice _ _ _) rfl) ?_
        refine lw_on rfl rfl h115 ?_
        first | refine lw_val rfl (run_move (v := .int .i64 _) rfl) ?_
        refine lw_on rfl rfl h115 ?_
        refine lw_val rfl (run_indexAddr Tryd.underlying65 sz4 rfl rfl rfl (by omega) rfl) ?_
        refine lw_on rfl rfl h115 ?_
        refine lw_val rfl (run_load Tryd.underlying4 rfl rfl ((hbb.rd _).cellAt hs (boolsL_at hxb))) ?_
        first | refine lw_val rfl (run_pickT (v := .bool _) rfl h115 rfl) ?_
        refine lw_nil ?_
        refine cw_if rfl ?_ ?_
        · intro h120
          refine cw_seq ?_
          refine cw_region ?_
          first | refine lw_val rfl (run_move (v := .pointer (some _)) rfl) ?_ | refine lw_val rfl (run_move (v := .pointer none) rfl) ?_
          first | refine lw_val rfl (run_loadRow hs 0 rfl Tryd.underlying38 sz38 rfl) ?_ | refine lw_val rfl (run_loadRow hs 1 rfl Tryd.underlying38 sz38 rfl) ?_ | refine lw_val rfl (run_loadRow hs 2 rfl Tryd.underlying38 sz38 rfl) ?_ | refine lw_val rfl (run_loadRow hs 3 rfl Tryd.underlying38 sz38 rfl) ?_ | refine lw_val rfl (run_loadRow hs 4 rfl Tryd.underlying38 sz38 rfl) ?_ | refine lw_val rfl (run_loadRow hs 5 rfl Tryd.underlying38 sz38 rfl) ?_ | refine lw_val rfl (run_loadRow hs 6 rfl Tryd.underlying38 sz38 rfl) ?_ | refine lw_val rfl (run_loadRow hs 7 rfl Tryd.underlying38 sz38 rfl) ?_ | refine lw_val rfl (run_loadRow hs 8 rfl Tryd.underlying38 sz38 rfl) ?_ | refine lw_val rfl (run_loadRow hs 9 rfl Tryd.underlying38 sz38 rfl) ?_ | refine lw_val rfl (run_loadRow hs 10 rfl Tryd.underlying38 sz38 rfl) ?_ | refine lw_val rfl (run_loadRow hs 11 rfl Tryd.underlying38 sz38 rfl) ?_ | refine lw_val rfl (run_loadRow hs 12 rfl Tryd.underlying38 sz38 rfl) ?_ | refine lw_val rfl (run_loadRow hs 13 rfl Tryd.underlying38 sz38 rfl) ?_
          first | refine lw_val rfl (run_move (v := .slice _ _ _) rfl) ?_
          first | refine lw_val rfl (run_move (v := .int .i64 _) rfl) ?_
          first | refine lw_val rfl (run_move (v := .int .i64 _) rfl) ?_
          refine lw_call rfl en46 (tw_step2 hE (by omega) (by omega) (by omega) (by omega) (by omega) hs (hb.rd _)) ?_
          clear hs
          rintro _ w ⟨rfl, hs⟩
          first | refine lw_val rfl (run_move (v := .tuple _) rfl) ?_
          first | refine lw_val rfl (run_extract (v := .int .i64 _) rfl rfl) ?_
          first | refine lw_val rfl (run_extract (v := .int .i64 _) rfl rfl) ?_
          first | refine lw_val rfl (run_extract (v := .bool _) rfl rfl) ?_
          first | refine lw_val rfl (run_extract (v := errV ad _) rfl rfl) ?_ | refine lw_val rfl (run_extract (v := .nilIface) rfl rfl) ?_
          first | refine lw_val rfl (run_assign (v := .int .i64 _) rfl) ?_
          first | refine lw_val rfl (run_assign (v := .int .i64 _) rfl) ?_
          first | refine lw_val rfl (run_assign (v := .bool _) rfl) ?_
          first | refine lw_val rfl (run_assign (v := errV ad _) rfl) ?_ | refine lw_val rfl (run_assign (v := .nilIface) rfl) ?_
          refine lw_nil ?_
          refine cw_seq ?_
          refine cw_region ?_
          first | refine lw_val rfl (run_move (v := errV ad _) rfl) ?_ | refine lw_val rfl (run_move (v := .nilIface) rfl) ?_
          first | refine lw_val rfl (run_neerrn (ad := ad) rfl) ?_ | refine lw_val rfl (run_nenn rfl) ?_
          first | refine lw_val rfl (run_move (v := .bool _) rfl) ?_
          refine lw_on rfl rfl (not_f (decide_eq_true rfl)) ?_
          first | refine lw_val rfl (run_move (v := .int .i64 _) rfl) ?_
          refine lw_on rfl rfl (not_f (decide_eq_true rfl)) ?_
          first | refine lw_val rfl (run_move (v := .int .i64 _) rfl) ?_
          refine lw_on rfl rfl (not_f (decide_eq_true rfl)) ?_
          refine lw_val rfl (run_nei rfl rfl) ?_
          first | refine lw_val rfl (run_pickF (v := .bool _) rfl (not_f (decide_eq_true rfl)) rfl) ?_
          first | refine lw_val rfl (run_move (v := .bool _) rfl) ?_
          refine lw_on rfl rfl (not_f (decide_eq_true rfl)) ?_
          first | refine lw_val rfl (run_move (v := .int .i64 _) rfl) ?_
          refine lw_on rfl rfl (not_f (decide_eq_true rfl)) ?_
          first | refine lw_val rfl (run_move (v := .int .i64 _) rfl) ?_
          refine lw_on rfl rfl (not_f (decide_eq_true rfl)) ?_
          refine lw_val rfl (run_add64 rfl rfl rfl (inI (by omega) (by omega))) ?_
          refine lw_on rfl rfl (not_f (decide_eq_true rfl)) ?_
          refine lw_val rfl (run_nei rfl rfl) ?_
          first | refine lw_val rfl (run_pickF (v := .bool _) rfl (not_f (decide_eq_true rfl)) rfl) ?_
          first | refine lw_val rfl (run_move (v := .bool _) rfl) ?_
          refine lw_on rfl rfl (not_f (decide_eq_true rfl)) ?_
          first | refine lw_val rfl (run_move (v := .bool _) rfl) ?_
          first | refine lw_val rfl (run_pickF (v := .bool _) rfl (not_f (decide_eq_true rfl)) rfl) ?_
          refine lw_nil ?_
          refine cw_iff rfl (rfl) ?_
          refine cw_skip ?_
          refine cw_region ?_
          first | refine lw_val rfl (run_move (v := .int .i64 _) rfl) ?_
          refine lw_val rfl (run_add64 rfl rfl rfl (inI (by omega) (by omega))) ?_
          first | refine lw_val rfl (run_assign (v := .int .i64 _) rfl) ?_
          refine lw_nil ?_
          exact ⟨(x + 1, k + 2), by simp only; omega, ⟨by simp only; omega, by simp only; omega, hs⟩, ⟨rfl, trivial⟩, by repeat (first | exact Out.mix _ _ _ | refine Out.updo rfl ?_ | refine Out.upd rfl ?_)⟩
        · intro h120
          refine cw_skip ?_
          refine cw_region ?_
          first | refine lw_val rfl (run_move (v := .int .i64 _) rfl) ?_
          refine lw_val rfl (run_add64 rfl rfl rfl (inI (by omega) (by omega))) ?_
          first | refine lw_val rfl (run_assign (v := .int .i64 _) rfl) ?_
          refine lw_nil ?_
          exact ⟨(x + 1, k + 1), by simp only; omega, ⟨by simp only; omega, by simp only; omega, hs⟩, ⟨rfl, trivial⟩, by repeat (first | exact Out.mix _ _ _ | refine Out.updo rfl ?_ | refine Out.upd rfl ?_)⟩
      · intro h115
        have g115 := of_decide_eq_false h115
        refine lw_off rfl rfl rfl h115 ?_
        refine lw_off rfl rfl rfl h115 ?_
        refine lw_off rfl rfl rfl h115 ?_
        refine lw_off rfl rfl rfl h115 ?_
        first | refine lw_val rfl (run_pickF (v := .bool _) rfl h115 rfl) ?_
        refine lw_nil ?_
        refine cw_iff rfl rfl ?_
        refine cw_skip ?_
        refine cw_region ?_
        first | refine lw_val rfl (run_move (v := .int .i64 _) rfl) ?_
        refine lw_val rfl (run_add64 rfl rfl rfl (inI (by omega) (by omega))) ?_
        first | refine lw_val rfl (run_assign (v := .int .i64 _) rfl) ?_
        refine lw_nil ?_
        exact ⟨(x + 1, k + 1), by simp only; omega, ⟨by simp only; omega, by simp only; omega, hs⟩, ⟨rfl, trivial⟩, by repeat (first | exact Out.mix _ _ _ | refine Out.updo rfl ?_ | refine Out.upd rfl ?_)⟩
    · intro h82
      have g82 := of_decide_eq_false h82
      have e1 : x = partsN l.length (e0 + 1) := by omega
      subst e1
      refine cw_exit rfl ?_
      refine cw_seq ?_
      refine cw_region ?_
      first | refine lw_val rfl (run_move (v := .pointer (some _)) rfl) ?_ | refine lw_val rfl (run_move (v := .pointer none) rfl) ?_
      first | refine lw_val rfl (run_loadRow hs 0 rfl Tryd.underlying38 sz38 rfl) ?_ | refine lw_val rfl (run_loadRow hs 1 rfl Tryd.underlying38 sz38 rfl) ?_ | refine lw_val rfl (run_loadRow hs 2 rfl Tryd.underlying38 sz38 rfl) ?_ | refine lw_val rfl (run_loadRow hs 3 rfl Tryd.underlying38 sz38 rfl) ?_ | refine lw_val rfl (run_loadRow hs 4 rfl Tryd.underlying38 sz38 rfl) ?_ | refine lw_val rfl (run_loadRow hs 5 rfl Tryd.underlying38 sz38 rfl) ?_ | refine lw_val rfl (run_loadRow hs 6 rfl Tryd.underlying38 sz38 rfl) ?_ | refine lw_val rfl (run_loadRow hs 7 rfl Tryd.underlying38 sz38 rfl) ?_ | refine lw_val rfl (run_loadRow hs 8 rfl Tryd.underlying38 sz38 rfl) ?_ | refine lw_val rfl (run_loadRow hs 9 rfl Tryd.underlying38 sz38 rfl) ?_ | refine lw_val rfl (run_loadRow hs 10 rfl Tryd.underlying38 sz38 rfl) ?_ | refine lw_val rfl (run_loadRow hs 11 rfl Tryd.underlying38 sz38 rfl) ?_ | refine lw_val rfl (run_loadRow hs 12 rfl Tryd.underlying38 sz38 rfl) ?_ | refine lw_val rfl (run_loadRow hs 13 rfl Tryd.underlying38 sz38 rfl) ?_
      first | refine lw_val rfl (run_move (v := .slice _ _ _) rfl) ?_
      first | refine lw_val rfl (run_move (v := .int .i64 _) rfl) ?_
      first | refine lw_val rfl (run_fieldAddr (o' := 4) Tryd.underlying38 rfl sz3 rfl rfl rfl) ?_ | refine lw_val rfl (run_fieldAddr Tryd.underlying38 rfl sz3 rfl rfl rfl) ?_
      first | refine lw_val rfl (run_load Tryd.underlying3 rfl rfl (hs.cellAt 0 rfl rfl)) ?_ | refine lw_val rfl (run_load Tryd.underlying3 rfl rfl (hs.cellAt 1 rfl rfl)) ?_ | refine lw_val rfl (run_load Tryd.underlying3 rfl rfl (hs.cellAt 2 rfl rfl)) ?_ | refine lw_val rfl (run_load Tryd.underlying3 rfl rfl (hs.cellAt 3 rfl rfl)) ?_ | refine lw_val rfl (run_load Tryd.underlying3 rfl rfl (hs.cellAt 4 rfl rfl)) ?_ | refine lw_val rfl (run_load Tryd.underlying3 rfl rfl (hs.cellAt 5 rfl rfl)) ?_ | refine lw_val rfl (run_load Tryd.underlying3 rfl rfl (hs.cellAt 6 rfl rfl)) ?_ | refine lw_val rfl (run_load Tryd.underlying3 rfl rfl (hs.cellAt 7 rfl rfl)) ?_ | refine lw_val rfl (run_load Tryd.underlying3 rfl rfl (hs.cellAt 8 rfl rfl)) ?_ | refine lw_val rfl (run_load Tryd.underlying3 rfl rfl (hs.cellAt 9 rfl rfl)) ?_ | refine lw_val rfl (run_load Tryd.underlying3 rfl rfl (hs.cellAt 10 rfl rfl)) ?_ | refine lw_val rfl (run_load Tryd.underlying3 rfl rfl (hs.cellAt 11 rfl rfl)) ?_ | refine lw_val rfl (run_load Tryd.underlying3 rfl rfl (hs.cellAt 12 rfl rfl)) ?_ | refine lw_val rfl (run_load Tryd.underlying3 rfl rfl (hs.cellAt 13 rfl rfl)) ?_
      refine lw_call rfl en46 (tw_last hE (by omega) (by omega) (by omega) (by omega) hs) ?_
      clear hs
      rintro _ w ⟨rfl, hs⟩
      first | refine lw_val rfl (run_move (v := .tuple _) rfl) ?_
      first | refine lw_val rfl (run_extract (v := .int .i64 _) rfl rfl) ?_
      first | refine lw_val rfl (run_extract (v := .int .i64 _) rfl rfl) ?_
      first | refine lw_val rfl (run_extract (v := .bool _) rfl rfl) ?_
      first | refine lw_val rfl (run_extract (v := errV ad _) rfl rfl) ?_ | refine lw_val rfl (run_extract (v := .nilIface) rfl rfl) ?_
      first | refine lw_val rfl (run_assign (v := .int .i64 _) rfl) ?_
      first | refine lw_val rfl (run_assign (v := .int .i64 _) rfl) ?_
      first | refine lw_val rfl (run_assign (v := .bool _) rfl) ?_
      first | refine lw_val rfl (run_assign (v := errV ad _) rfl) ?_ | refine lw_val rfl (run_assign (v := .nilIface) rfl) ?_
      refine lw_nil ?_
      refine cw_seq ?_
      refine cw_region ?_
      first | refine lw_val rfl (run_move (v := .pointer (some _)) rfl) ?_ | refine lw_val rfl (run_move (v := .pointer none) rfl) ?_
      refine lw_call rfl en24 (bytes_sl (hs.pick 1 rfl) (oneO_small (by omega) _ _ _) nO (o := some l) rfl) ?_
      clear hs
      rintro _ w ⟨a163, c163, rfl, hs⟩
      first | refine lw_val rfl (run_move (v := .tuple _) rfl) ?_
      first | refine lw_val rfl (run_extract (v := .slice _ _ _) rfl rfl) ?_
      first | refine lw_val rfl (run_extract (v := .bool _) rfl rfl) ?_
      first | refine lw_val rfl (run_assign (v := .slice _ _ _) rfl) ?_
      first | refine lw_val rfl (run_assign (v := .bool _) rfl) ?_
      refine lw_nil ?_
      refine cw_seq ?_
      refine cw_region ?_
      first | refine lw_val rfl (run_move (v := .bool _) rfl) ?_
      first | refine lw_val rfl (run_move (v := .bool _) rfl) ?_
      refine lw_on rfl rfl (rfl) ?_
      first | refine lw_val rfl (run_move (v := errV ad _) rfl) ?_ | refine lw_val rfl (run_move (v := .nilIface) rfl) ?_
      refine lw_on rfl rfl (rfl) ?_
      first | refine lw_val rfl (run_eqerrn (ad := ad) rfl) ?_ | refine lw_val rfl (run_eqnn rfl) ?_
      first | refine lw_val rfl (run_pickT (v := .bool _) rfl (rfl) rfl) ?_
      first | refine lw_val rfl (run_move (v := .bool _) rfl) ?_
      refine lw_on rfl rfl (decide_eq_true rfl) ?_
      first | refine lw_val rfl (run_move (v := .bool _) rfl) ?_
      first | refine lw_val rfl (run_pickT (v := .bool _) rfl (decide_eq_true rfl) rfl) ?_
      first | refine lw_val rfl (run_move (v := .bool _) rfl) ?_
      refine lw_on rfl rfl (rfl) ?_
      first | refine lw_val rfl (run_move (v := .slice _ _ _) rfl) ?_
      refine lw_on rfl rfl (rfl) ?_
      first | refine lw_val rfl (run_move (v := .slice _ _ _) rfl) ?_
      refine lw_on rfl rfl (rfl) ?_
      refine lw_call rfl en38 (sameB_sl (la := l) (lb := l) hs (Rd.own 0 rfl) (hb.rd _) rfl rfl (by omega)) ?_
      clear hs
      rintro _ w ⟨rfl, hs⟩
      first | refine lw_val rfl (run_pickT (v := .bool _) rfl (rfl) rfl) ?_
      first | refine lw_val rfl (run_assign (v := .bool _) rfl) ?_
      refine lw_nil ?_
      refine cw_ret ?_
      refine res1 (v := .bool _) rfl rfl ?_
      exact ⟨_, rfl, ret_b (decide_eq_true rfl), hs.nil⟩
end Go.Proofs.YtjiigajekminaaaDoor
