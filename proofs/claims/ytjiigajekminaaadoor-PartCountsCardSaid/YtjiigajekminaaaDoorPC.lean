/- PartCounts: the walk. -/
import Derived.Test.YtjiigajekminaaaDoorOp
import Derived.Test.YtjiigajekminaaaDoorPL
namespace Go.Proofs.YtjiigajekminaaaDoor
set_option linter.all false
open Go.RowKit
attribute [local irreducible] errV
variable {g w : World} {L M : List HP} {ad : Nat → Addr} {p q : Nat} {st : St}

theorem open_none (hs : Mem g w (StoreC p st :: L)) (h : st.ups = []) : Calls Tryd.prog 54 #[.pointer (some ⟨p, 0, none⟩)] w
    (Ret fun v w' => ∃ a c, v = .slice a 0 c ∧ Mem g w' (own (.slice a 0 c) [] :: StoreC p st :: L)) := by
  have := open_sl hs (fun x hx => by rw [h] at hx; simp [keysOf] at hx) (by rw [h]; simp)
  rw [h] at this
  simpa [keysOf, sortI, intsL] using this
/-- The store after i steps, the last one too. -/
def pcSt (l : List UInt8) (e i : Nat) : St := if i ≤ partsN l.length e + 1 then plSt l e i else tw [(nO, l)] [] [] i 0
theorem up_full (l : List UInt8) {e : Nat} (h1 : 1 ≤ e) (h3 : l.length ≤ 256) (c : Nat) : againR (fun s => s.run (St.complete1 1 (partsN l.length e : Nat))) 1 (tw [] (upO l e (partsN l.length e)) [] c 0) = (false, 0, 1, tw [(nO, l)] [] [] (c + 1) 0) := by
  refine again_ok ?_ (by decide)
  rw [run_ok rfl]
  exact up_complete1 l h1 h3 [] (c + 1) 0
theorem counts_step (hE : ErrG ad g) {i : Nat} {l : List UInt8} {e : Nat} (h1 : 1 ≤ e) (h2 : e ≤ 1000) (h3 : l.length ≤ 256) (hi : i ≤ partsN l.length e + 1) {ba : Option Addr} {c : Nat} (hs : Mem g w (clientC q p 1 i :: StoreC p (pcSt l e i) :: M)) (hr : Rd g M (.slice ba l.length c) (bytesL l)) :
    Calls Tryd.prog 46 #[.pointer (some ⟨q, 0, none⟩), .agg (planC nO l.length (crcMore 0 l : Nat) e (partsN l.length e : Nat)).toArray, .slice ba l.length c, .int .i64 (if i = 0 then 0 else 1), .int .i64 (min (i - 1) (partsN l.length e) : Nat)] w
      (Ret fun v w' => v = .tuple #[.int .i64 1, .int .i64 (min i (partsN l.length e) : Nat), .bool (decide (i = partsN l.length e + 1)), errV ad 0] ∧ Mem g w' (clientC q p 1 (i + 1 : Nat) :: StoreC p (pcSt l e (i + 1)) :: M)) := by
  have hp := partsN_le (n := l.length) h1
  by_cases hlt : i ≤ partsN l.length e
  · rw [show pcSt l e i = plSt l e i from if_pos (by omega)] at hs
    rw [Nat.min_eq_left (by omega), Nat.min_eq_left hlt, decide_eq_false (by omega), show pcSt l e (i + 1) = plSt l e (i + 1) from if_pos (by omega)]
    exact lost_step (t := 0) hE (by decide) h1 h2 h3 hlt hs hr
  · obtain rfl : i = partsN l.length e + 1 := by omega
    rw [show pcSt l e (partsN l.length e + 1) = tw [] (upO l e (partsN l.length e)) [] (partsN l.length e + 1) 0 from if_pos (by omega)] at hs
    rw [Nat.min_eq_left (by omega), Nat.min_eq_right (by omega), decide_eq_true rfl, if_neg (by omega), show pcSt l e (partsN l.length e + 1 + 1) = tw [(nO, l)] [] [] (partsN l.length e + 1 + 1) 0 from if_neg (by omega)]
    exact step_complete (t := 1) (id := 1) hE (upO_small (fun _ _ h => by simp at h) h3 [] _ 0) ⟨by omega, by omega⟩ (by decide) hs (by simp [tw]; omega) (by simp [tw]) (fairN h1 h2 h3) (by decide) (up_full l h1 h3 _) (up_head l 0 _ 0) (r := 0) (N := 1) (if_neg (by simp)) (if_neg (by simp)) (if_neg (by simp))
theorem pc_small {l : List UInt8} {e i : Nat} (h3 : l.length ≤ 256) : (pcSt l e i).small := by
  unfold pcSt
  split
  · cases i with
    | zero => exact ⟨fun n b h => by simp [plSt, St.empty] at h, fun n b h => by simp [plSt, St.empty] at h⟩
    | succ k => exact upO_small (fun _ _ h => by simp at h) h3 _ _ _
  · exact oneO_small h3 _ _ _
theorem pc_none {l : List UInt8} {e i : Nat} (hi : i ≤ partsN l.length e + 1) : aget (pcSt l e i).objs nO = none := by
  unfold pcSt
  rw [if_pos hi]
  cases i <;> rfl
theorem bne_dec {x P : Nat} : (!(decide (x = P + 1) == decide ((x : Int) = (P : Int) + 1))) = false := by
  have : (x = P + 1) ↔ ((x : Int) = (P : Int) + 1) := by omega
  simp [this]
set_option maxHeartbeats 2000000 in
set_option maxRecDepth 10000 in
theorem partCounts_sl (hE : ErrG ad g) (hs : Mem g w []) {a : Option Addr} {n c : Nat} {l : List UInt8} {ea : Int} (hb : Came g (.slice a n c) (bytesL l)) (hn : n = l.length) :
    Calls Tryd.prog 19 #[.slice a n c, .int .i64 ea] w (Ret fun v w' => v = .bool true ∧ Mem g w' []) := by
  subst hn
  refine calls_cw Tryd.func19 rfl rfl ?_
  skip
  refine cw_seq ?_
  refine cw_region ?_
  first | refine lw_val rfl (run_assign (v := .bool _) rfl) ?_
  refine lw_nil ?_
  refine cw_seq ?_
  refine cw_region ?_
  refine lw_call rfl en28 (first13_sl hE hs) ?_
  clear hs
  rintro _ w ⟨rfl, hs⟩
  first | refine lw_val rfl (run_assign (v := .bool _) rfl) ?_
  refine lw_nil ?_
  refine cw_seq ?_
  refine cw_seq ?_
  refine cw_region ?_
  first | refine lw_val rfl (run_move (v := .bool _) rfl) ?_
  refine lw_val rfl (run_not rfl) ?_
  refine lw_nil ?_
  refine cw_iff rfl (not_f (rfl)) ?_
  refine cw_skip ?_
  refine cw_seq ?_
  refine cw_region ?_
  first | refine lw_val rfl (run_move (v := .int .i64 _) rfl) ?_
  refine lw_call rfl en34 (number_sl hs _ _ (by decide)) ?_
  clear hs
  rintro _ w ⟨e0, he0, rfl, hs⟩
  refine lw_val rfl (run_add64 rfl rfl rfl (inI (by omega) (by omega))) ?_
  first | refine lw_val rfl (run_assign (v := .int .i64 _) rfl) ?_
  refine lw_nil ?_
  refine cw_seq ?_
  refine cw_seq ?_
  refine cw_region ?_
  first | refine lw_val rfl (run_move (v := .slice _ _ _) rfl) ?_
  refine lw_val rfl (run_lenS Tryd.underlying27 rfl) ?_
  refine lw_val rfl (run_gtr rfl rfl) ?_
  first | refine lw_val rfl (run_move (v := .bool _) rfl) ?_
  refine lw_split (t := _) (d := 31) rfl ?_ ?_
  · intro h30
    have g30 := of_decide_eq_true h30
    refine lw_off rfl rfl rfl h30 ?_
    refine lw_off rfl rfl rfl h30 ?_
    first | refine lw_val rfl (run_pickT (v := .bool _) rfl h30 rfl) ?_
    refine lw_nil ?_
    refine cw_ift rfl rfl ?_
    refine cw_seq ?_
    refine cw_region ?_
    first | refine lw_val rfl (run_move (v := .bool _) rfl) ?_
    first | refine lw_val rfl (run_assign (v := .bool _) rfl) ?_
    refine lw_nil ?_
    refine cw_ret ?_
    refine res1 (v := .bool _) rfl rfl ?_
    exact ⟨_, rfl, rfl, hs.nil⟩
  · intro h30
    have g30 := of_decide_eq_false h30
    have hp := partsN_le (n := l.length) (e := e0 + 1) (by omega)
    refine lw_on rfl rfl h30 ?_
    first | refine lw_val rfl (run_move (v := .bool _) rfl) ?_
    refine lw_on rfl rfl h30 ?_
    refine lw_val rfl (run_not rfl) ?_
    first | refine lw_val rfl (run_pickF (v := .bool _) rfl h30 rfl) ?_
    refine lw_nil ?_
    refine cw_iff rfl (not_f (rfl)) ?_
    refine cw_skip ?_
    refine cw_seq ?_
    refine cw_region ?_
    refine lw_call rfl en21 (new_sl hs) ?_
    clear hs
    rintro _ w ⟨p, rfl, hs⟩
    first | refine lw_val rfl (run_assign (v := .pointer (some _)) rfl) ?_ | refine lw_val rfl (run_assign (v := .pointer none) rfl) ?_
    refine lw_nil ?_
    refine cw_seq ?_
    refine cw_region ?_
    first | refine lw_val rfl (run_move (v := .pointer (some _)) rfl) ?_ | refine lw_val rfl (run_move (v := .pointer none) rfl) ?_
    refine lw_call rfl en35 (clnew_sl (t := 1) hE hs (by omega)) ?_
    clear hs
    rintro _ w ⟨q, rfl, hs⟩
    first | refine lw_val rfl (run_move (v := .tuple _) rfl) ?_
    first | refine lw_val rfl (run_extract (v := .pointer (some _)) rfl rfl) ?_ | refine lw_val rfl (run_extract (v := .pointer none) rfl rfl) ?_
    first | refine lw_val rfl (run_extract (v := errV ad _) rfl rfl) ?_ | refine lw_val rfl (run_extract (v := .nilIface) rfl rfl) ?_
    first | refine lw_val rfl (run_assign (v := .pointer (some _)) rfl) ?_ | refine lw_val rfl (run_assign (v := .pointer none) rfl) ?_
    first | refine lw_val rfl (run_assign (v := errV ad _) rfl) ?_ | refine lw_val rfl (run_assign (v := .nilIface) rfl) ?_
    refine lw_nil ?_
    refine cw_seq ?_
    refine cw_region ?_
    first | refine lw_val rfl (run_move (v := .slice _ _ _) rfl) ?_
    first | refine lw_val rfl (run_move (v := .int .i64 _) rfl) ?_
    refine lw_call rfl en29 (make_sl (each := ((e0 + 1 : Nat) : Int)) hE hs (hb.rd _) rfl (by omega) (inI (by omega) (by omega))) ?_
    clear hs
    rintro _ w ⟨c6, nm, sz, sm, e2, pa, hm, rfl, hs⟩
    rw [show mkR ⟨#[111]⟩ l ((e0 + 1 : Nat) : Int) = _ from mk_ok (by omega) (by omega) (by omega)] at hm; simp only [Prod.mk.injEq] at hm; obtain ⟨hc, rfl, rfl, rfl, rfl, rfl⟩ := hm
    first | refine lw_val rfl (run_move (v := .tuple _) rfl) ?_
    first | refine lw_val rfl (run_extract (v := .agg _) rfl rfl) ?_
    first | refine lw_val rfl (run_extract (v := errV ad _) rfl rfl) ?_ | refine lw_val rfl (run_extract (v := .nilIface) rfl rfl) ?_
    refine lw_alloc hs rfl ze38 ?_
    clear hs
    intro b9 w hs
    try simp only [List.set_cons_succ, List.set_cons_zero] at hs
    first | refine lw_storeRow hs 0 rfl rfl rfl sz38 rfl rfl ?_ | refine lw_storeRow hs 1 rfl rfl rfl sz38 rfl rfl ?_ | refine lw_storeRow hs 2 rfl rfl rfl sz38 rfl rfl ?_ | refine lw_storeRow hs 3 rfl rfl rfl sz38 rfl rfl ?_ | refine lw_storeRow hs 4 rfl rfl rfl sz38 rfl rfl ?_ | refine lw_storeRow hs 5 rfl rfl rfl sz38 rfl rfl ?_ | refine lw_storeRow hs 6 rfl rfl rfl sz38 rfl rfl ?_ | refine lw_storeRow hs 7 rfl rfl rfl sz38 rfl rfl ?_ | refine lw_storeRow hs 8 rfl rfl rfl sz38 rfl rfl ?_ | refine lw_storeRow hs 9 rfl rfl rfl sz38 rfl rfl ?_ | refine lw_storeRow hs 10 rfl rfl rfl sz38 rfl rfl ?_ | refine lw_storeRow hs 11 rfl rfl rfl sz38 rfl rfl ?_ | refine lw_storeRow hs 12 rfl rfl rfl sz38 rfl rfl ?_ | refine lw_storeRow hs 13 rfl rfl rfl sz38 rfl rfl ?_
    clear hs
    intro w hs
    try simp only [List.set_cons_succ, List.set_cons_zero] at hs
    first | refine lw_val rfl (run_assign (v := errV ad _) rfl) ?_ | refine lw_val rfl (run_assign (v := .nilIface) rfl) ?_
    refine lw_nil ?_
    refine cw_seq ?_
    refine cw_seq ?_
    refine cw_region ?_
    first | refine lw_val rfl (run_move (v := .pointer (some _)) rfl) ?_ | refine lw_val rfl (run_move (v := .pointer none) rfl) ?_
    refine lw_val rfl (run_eqpn Tryd.underlying47 rfl rfl) ?_
    first | refine lw_val rfl (run_move (v := .bool _) rfl) ?_
    refine lw_on rfl rfl rfl ?_
    first | refine lw_val rfl (run_move (v := errV ad _) rfl) ?_ | refine lw_val rfl (run_move (v := .nilIface) rfl) ?_
    refine lw_on rfl rfl rfl ?_
    first | refine lw_val rfl (run_neerrn (ad := ad) rfl) ?_ | refine lw_val rfl (run_nenn rfl) ?_
    first | refine lw_val rfl (run_pickF (v := .bool _) rfl rfl rfl) ?_
    first | refine lw_val rfl (run_move (v := .bool _) rfl) ?_
    refine lw_on rfl rfl (rfl) ?_
    first | refine lw_val rfl (run_move (v := errV ad _) rfl) ?_ | refine lw_val rfl (run_move (v := .nilIface) rfl) ?_
    refine lw_on rfl rfl (rfl) ?_
    first | refine lw_val rfl (run_neerrn (ad := ad) rfl) ?_ | refine lw_val rfl (run_nenn rfl) ?_
    first | refine lw_val rfl (run_pickF (v := .bool _) rfl (rfl) rfl) ?_
    refine lw_nil ?_
    refine cw_iff rfl (not_f (decide_eq_true hc.symm)) ?_
    refine cw_skip ?_
    refine cw_seq ?_
    refine cw_region ?_
    first | refine lw_val rfl (run_assign (v := .int .i64 _) rfl) ?_
    refine lw_nil ?_
    refine cw_seq ?_
    refine cw_region ?_
    first | refine lw_val rfl (run_assign (v := .int .i64 _) rfl) ?_
    refine lw_nil ?_
    refine cw_seq ?_
    refine cw_seq ?_
    refine cw_region ?_
    first | refine lw_val rfl (run_assign (v := .int .i64 _) rfl) ?_
    refine lw_nil ?_
    refine cw_block ?_
    refine cw_loop (X := Nat) [4, 11, 12, 13, 14, 15, 16, 17, 18, 19, 58, 59, 60, 61, 62, 63, 64, 65, 66, 67, 68, 69, 70, 71, 72, 73, 74, 75, 76, 77, 78, 79, 80, 81, 82, 83, 84, 85, 86, 87, 88, 89, 90, 91, 92, 93, 94, 95, 96, 97, 98, 99, 100, 101, 102, 103, 104, 105, 106, 107, 108, 109, 110, 111, 112, 113, 114, 115, 116, 117, 118] (fun x => [(11, .int .i64 (if x = 0 then 0 else 1)), (12, .int .i64 (min (x - 1) (partsN l.length (e0 + 1)) : Nat)), (13, .int .i64 (x : Nat))]) (fun x w => x ≤ partsN l.length (e0 + 1) + 2 ∧ Mem g w [clientC q p 1 (x : Nat), StoreC p (pcSt l (e0 + 1) x), cells b9 (planC nO l.length (crcMore 0 l : Nat) (e0 + 1 : Nat) (partsN l.length (e0 + 1) : Nat)) 38]) (fun x => partsN l.length (e0 + 1) + 2 - x) (0) ?_ ?_ ?_
    · exact ⟨rfl, show Value.int .i64 0 = Value.int .i64 (((min (0 - 1) (partsN l.length (e0 + 1))) : Nat) : Int) from by simp, rfl, trivial⟩
    · exact ⟨Nat.zero_le _, hs.arr [1, 2, 0] 3 (by decide)⟩
    clear hs
    rintro x ξ w hI
    obtain ⟨hk, hs⟩ := hI
    refine cw_seq ?_
    refine cw_seq ?_
    refine cw_region ?_
    first | refine lw_val rfl (run_move (v := .int .i64 _) rfl) ?_
    first | refine lw_val rfl (run_fieldAddr (o' := 4) Tryd.underlying38 rfl sz3 rfl rfl rfl) ?_ | refine lw_val rfl (run_fieldAddr Tryd.underlying38 rfl sz3 rfl rfl rfl) ?_
    first | refine lw_val rfl (run_load Tryd.underlying3 rfl rfl (hs.cellAt 0 rfl rfl)) ?_ | refine lw_val rfl (run_load Tryd.underlying3 rfl rfl (hs.cellAt 1 rfl rfl)) ?_ | refine lw_val rfl (run_load Tryd.underlying3 rfl rfl (hs.cellAt 2 rfl rfl)) ?_ | refine lw_val rfl (run_load Tryd.underlying3 rfl rfl (hs.cellAt 3 rfl rfl)) ?_ | refine lw_val rfl (run_load Tryd.underlying3 rfl rfl (hs.cellAt 4 rfl rfl)) ?_ | refine lw_val rfl (run_load Tryd.underlying3 rfl rfl (hs.cellAt 5 rfl rfl)) ?_ | refine lw_val rfl (run_load Tryd.underlying3 rfl rfl (hs.cellAt 6 rfl rfl)) ?_ | refine lw_val rfl (run_load Tryd.underlying3 rfl rfl (hs.cellAt 7 rfl rfl)) ?_ | refine lw_val rfl (run_load Tryd.underlying3 rfl rfl (hs.cellAt 8 rfl rfl)) ?_ | refine lw_val rfl (run_load Tryd.underlying3 rfl rfl (hs.cellAt 9 rfl rfl)) ?_ | refine lw_val rfl (run_load Tryd.underlying3 rfl rfl (hs.cellAt 10 rfl rfl)) ?_ | refine lw_val rfl (run_load Tryd.underlying3 rfl rfl (hs.cellAt 11 rfl rfl)) ?_ | refine lw_val rfl (run_load Tryd.underlying3 rfl rfl (hs.cellAt 12 rfl rfl)) ?_ | refine lw_val rfl (run_load Tryd.underlying3 rfl rfl (hs.cellAt 13 rfl rfl)) ?_
    refine lw_val rfl (run_add64 rfl rfl rfl (inI (by omega) (by omega))) ?_
    refine lw_val rfl (run_leq rfl rfl) ?_
    refine lw_nil ?_
    refine cw_if rfl ?_ ?_
    · intro h62
      have g62 := of_decide_eq_true h62
      refine cw_skip ?_
      refine cw_seq ?_
      refine cw_block ?_
      refine cw_seq ?_
      refine cw_region ?_
      first | refine lw_val rfl (run_move (v := .pointer (some _)) rfl) ?_ | refine lw_val rfl (run_move (v := .pointer none) rfl) ?_
      refine lw_call rfl en24 (bytes_sl (hs.pick 1 rfl) (pc_small (by omega)) nO (pc_none (by omega))) ?_
      clear hs
      rintro _ w ⟨a67, c67, rfl, hs⟩
      replace hs := hs.arr [2, 1, 3] 4 (by decide)
      first | refine lw_val rfl (run_move (v := .tuple _) rfl) ?_
      first | refine lw_val rfl (run_extract (v := .slice _ _ _) rfl rfl) ?_
      first | refine lw_val rfl (run_extract (v := .bool _) rfl rfl) ?_
      first | refine lw_val rfl (run_assign (v := .slice _ _ _) rfl) ?_
      first | refine lw_val rfl (run_assign (v := .bool _) rfl) ?_
      refine lw_nil ?_
      refine cw_seq ?_
      refine cw_seq ?_
      refine cw_region ?_
      first | refine lw_val rfl (run_move (v := .bool _) rfl) ?_
      refine lw_nil ?_
      refine cw_iff rfl (rfl) ?_
      refine cw_skip ?_
      refine cw_seq ?_
      refine cw_region ?_
      first | refine lw_val rfl (run_move (v := .pointer (some _)) rfl) ?_ | refine lw_val rfl (run_move (v := .pointer none) rfl) ?_
      first | refine lw_val rfl (run_loadRow hs 0 rfl Tryd.underlying38 sz38 rfl) ?_ | refine lw_val rfl (run_loadRow hs 1 rfl Tryd.underlying38 sz38 rfl) ?_ | refine lw_val rfl (run_loadRow hs 2 rfl Tryd.underlying38 sz38 rfl) ?_ | refine lw_val rfl (run_loadRow hs 3 rfl Tryd.underlying38 sz38 rfl) ?_ | refine lw_val rfl (run_loadRow hs 4 rfl Tryd.underlying38 sz38 rfl) ?_ | refine lw_val rfl (run_loadRow hs 5 rfl Tryd.underlying38 sz38 rfl) ?_ | refine lw_val rfl (run_loadRow hs 6 rfl Tryd.underlying38 sz38 rfl) ?_ | refine lw_val rfl (run_loadRow hs 7 rfl Tryd.underlying38 sz38 rfl) ?_ | refine lw_val rfl (run_loadRow hs 8 rfl Tryd.underlying38 sz38 rfl) ?_ | refine lw_val rfl (run_loadRow hs 9 rfl Tryd.underlying38 sz38 rfl) ?_ | refine lw_val rfl (run_loadRow hs 10 rfl Tryd.underlying38 sz38 rfl) ?_ | refine lw_val rfl (run_loadRow hs 11 rfl Tryd.underlying38 sz38 rfl) ?_ | refine lw_val rfl (run_loadRow hs 12 rfl Tryd.underlying38 sz38 rfl) ?_ | refine lw_val rfl (run_loadRow hs 13 rfl Tryd.underlying38 sz38 rfl) ?_
      first | refine lw_val rfl (run_move (v := .slice _ _ _) rfl) ?_
      first | refine lw_val rfl (run_move (v := .int .i64 _) rfl) ?_
      first | refine lw_val rfl (run_move (v := .int .i64 _) rfl) ?_
      refine lw_call rfl en46 (counts_step hE (by omega) (by omega) (by omega) (by omega) hs (hb.rd _)) ?_
      clear hs
      rintro _ w ⟨rfl, hs⟩
      first | refine lw_val rfl (run_move (v := .tuple _) rfl) ?_
      first | refine lw_val rfl (run_extract (v := .int .i64 _) rfl rfl) ?_
      first | refine lw_val rfl (run_extract (v := .int .i64 _) rfl rfl) ?_
      first | refine lw_val rfl (run_extract (v := .bool _) rfl rfl) ?_
      first | refine lw_val rfl (run_extract (v := errV ad _) rfl rfl) ?_ | refine lw_val rfl (run_extract (v := .nilIface) rfl rfl) ?_
      first | refine lw_val rfl (run_assign (v := .int .i64 _) rfl) ?_
      first | refine lw_val rfl (run_assign (v := .int .i64 _) rfl) ?_
      first | refine lw_val rfl (run_assign (v := .bool _) rfl) ?_
      first | refine lw_val rfl (run_assign (v := errV ad _) rfl) ?_ | refine lw_val rfl (run_assign (v := .nilIface) rfl) ?_
      refine lw_nil ?_
      refine cw_seq ?_
      refine cw_seq ?_
      refine cw_region ?_
      first | refine lw_val rfl (run_move (v := errV ad _) rfl) ?_ | refine lw_val rfl (run_move (v := .nilIface) rfl) ?_
      first | refine lw_val rfl (run_neerrn (ad := ad) rfl) ?_ | refine lw_val rfl (run_nenn rfl) ?_
      first | refine lw_val rfl (run_move (v := .bool _) rfl) ?_
      refine lw_on rfl rfl (not_f (decide_eq_true rfl)) ?_
      first | refine lw_val rfl (run_move (v := .bool _) rfl) ?_
      refine lw_on rfl rfl (not_f (decide_eq_true rfl)) ?_
      first | refine lw_val rfl (run_move (v := .int .i64 _) rfl) ?_
      refine lw_on rfl rfl (not_f (decide_eq_true rfl)) ?_
      first | refine lw_val rfl (run_fieldAddr (o' := 4) Tryd.underlying38 rfl sz3 rfl rfl rfl) ?_ | refine lw_val rfl (run_fieldAddr Tryd.underlying38 rfl sz3 rfl rfl rfl) ?_
      refine lw_on rfl rfl (not_f (decide_eq_true rfl)) ?_
      first | refine lw_val rfl (run_load Tryd.underlying3 rfl rfl (hs.cellAt 0 rfl rfl)) ?_ | refine lw_val rfl (run_load Tryd.underlying3 rfl rfl (hs.cellAt 1 rfl rfl)) ?_ | refine lw_val rfl (run_load Tryd.underlying3 rfl rfl (hs.cellAt 2 rfl rfl)) ?_ | refine lw_val rfl (run_load Tryd.underlying3 rfl rfl (hs.cellAt 3 rfl rfl)) ?_ | refine lw_val rfl (run_load Tryd.underlying3 rfl rfl (hs.cellAt 4 rfl rfl)) ?_ | refine lw_val rfl (run_load Tryd.underlying3 rfl rfl (hs.cellAt 5 rfl rfl)) ?_ | refine lw_val rfl (run_load Tryd.underlying3 rfl rfl (hs.cellAt 6 rfl rfl)) ?_ | refine lw_val rfl (run_load Tryd.underlying3 rfl rfl (hs.cellAt 7 rfl rfl)) ?_ | refine lw_val rfl (run_load Tryd.underlying3 rfl rfl (hs.cellAt 8 rfl rfl)) ?_ | refine lw_val rfl (run_load Tryd.underlying3 rfl rfl (hs.cellAt 9 rfl rfl)) ?_ | refine lw_val rfl (run_load Tryd.underlying3 rfl rfl (hs.cellAt 10 rfl rfl)) ?_ | refine lw_val rfl (run_load Tryd.underlying3 rfl rfl (hs.cellAt 11 rfl rfl)) ?_ | refine lw_val rfl (run_load Tryd.underlying3 rfl rfl (hs.cellAt 12 rfl rfl)) ?_ | refine lw_val rfl (run_load Tryd.underlying3 rfl rfl (hs.cellAt 13 rfl rfl)) ?_
      refine lw_on rfl rfl (not_f (decide_eq_true rfl)) ?_
      refine lw_val rfl (run_add64 rfl rfl rfl (inI (by omega) (by omega))) ?_
      refine lw_on rfl rfl (not_f (decide_eq_true rfl)) ?_
      refine lw_val rfl (run_eqi rfl rfl) ?_
      refine lw_on rfl rfl (not_f (decide_eq_true rfl)) ?_
      refine lw_val rfl (run_neb Tryd.underlying4 rfl rfl) ?_
      first | refine lw_val rfl (run_pickF (v := .bool _) rfl (not_f (decide_eq_true rfl)) rfl) ?_
      first | refine lw_val rfl (run_move (v := .bool _) rfl) ?_
      refine lw_on rfl rfl (bne_dec) ?_
      first | refine lw_val rfl (run_move (v := .int .i64 _) rfl) ?_
      refine lw_on rfl rfl (bne_dec) ?_
      refine lw_val rfl (run_eqi rfl rfl) ?_
      first | refine lw_val rfl (run_pickF (v := .bool _) rfl (bne_dec) rfl) ?_
      first | refine lw_val rfl (run_move (v := .bool _) rfl) ?_
      refine lw_on rfl rfl (decide_eq_false (by decide)) ?_
      first | refine lw_val rfl (run_move (v := .int .i64 _) rfl) ?_
      refine lw_on rfl rfl (decide_eq_false (by decide)) ?_
      refine lw_val rfl (run_eqi rfl rfl) ?_
      refine lw_on rfl rfl (decide_eq_false (by decide)) ?_
      first | refine lw_val rfl (run_move (v := .bool _) rfl) ?_
      refine lw_split (t := _) (d := 100) rfl ?_ ?_
      · intro h99
        have g99 := of_decide_eq_true h99
        refine lw_on rfl rfl h99 ?_
        first | refine lw_val rfl (run_move (v := .int .i64 _) rfl) ?_
        refine lw_on rfl rfl h99 ?_
        refine lw_val rfl (run_nei rfl rfl) ?_
        refine lw_on rfl rfl (decide_eq_false (by decide)) ?_
        first | refine lw_val rfl (run_pickT (v := .bool _) rfl h99 rfl) ?_
        first | refine lw_val rfl (run_pickF (v := .bool _) rfl (decide_eq_false (by decide)) rfl) ?_
        first | refine lw_val rfl (run_move (v := .bool _) rfl) ?_
        refine lw_on rfl rfl (not_f (decide_eq_true (by omega))) ?_
        first | refine lw_val rfl (run_move (v := .int .i64 _) rfl) ?_
        refine lw_on rfl rfl (not_f (decide_eq_true (by omega))) ?_
        refine lw_val rfl (run_gtr rfl rfl) ?_
        refine lw_on rfl rfl (not_f (decide_eq_true (by omega))) ?_
        first | refine lw_val rfl (run_move (v := .bool _) rfl) ?_
        refine lw_split (t := _) (d := 108) rfl ?_ ?_
        · intro h107
          have g107 := of_decide_eq_true h107
          refine lw_on rfl rfl h107 ?_
          first | refine lw_val rfl (run_move (v := .int .i64 _) rfl) ?_
          refine lw_on rfl rfl h107 ?_
          first | refine lw_val rfl (run_move (v := .int .i64 _) rfl) ?_
          refine lw_on rfl rfl h107 ?_
          first | refine lw_val rfl (run_fieldAddr (o' := 4) Tryd.underlying38 rfl sz3 rfl rfl rfl) ?_ | refine lw_val rfl (run_fieldAddr Tryd.underlying38 rfl sz3 rfl rfl rfl) ?_
          refine lw_on rfl rfl h107 ?_
          first | refine lw_val rfl (run_load Tryd.underlying3 rfl rfl (hs.cellAt 0 rfl rfl)) ?_ | refine lw_val rfl (run_load Tryd.underlying3 rfl rfl (hs.cellAt 1 rfl rfl)) ?_ | refine lw_val rfl (run_load Tryd.underlying3 rfl rfl (hs.cellAt 2 rfl rfl)) ?_ | refine lw_val rfl (run_load Tryd.underlying3 rfl rfl (hs.cellAt 3 rfl rfl)) ?_ | refine lw_val rfl (run_load Tryd.underlying3 rfl rfl (hs.cellAt 4 rfl rfl)) ?_ | refine lw_val rfl (run_load Tryd.underlying3 rfl rfl (hs.cellAt 5 rfl rfl)) ?_ | refine lw_val rfl (run_load Tryd.underlying3 rfl rfl (hs.cellAt 6 rfl rfl)) ?_ | refine lw_val rfl (run_load Tryd.underlying3 rfl rfl (hs.cellAt 7 rfl rfl)) ?_ | refine lw_val rfl (run_load Tryd.underlying3 rfl rfl (hs.cellAt 8 rfl rfl)) ?_ | refine lw_val rfl (run_load Tryd.underlying3 rfl rfl (hs.cellAt 9 rfl rfl)) ?_ | refine lw_val rfl (run_load Tryd.underlying3 rfl rfl (hs.cellAt 10 rfl rfl)) ?_ | refine lw_val rfl (run_load Tryd.underlying3 rfl rfl (hs.cellAt 11 rfl rfl)) ?_ | refine lw_val rfl (run_load Tryd.underlying3 rfl rfl (hs.cellAt 12 rfl rfl)) ?_ | refine lw_val rfl (run_load Tryd.underlying3 rfl rfl (hs.cellAt 13 rfl rfl)) ?_
          refine lw_on rfl rfl h107 ?_
          refine lw_val rfl (run_min rfl rfl) ?_
          refine lw_on rfl rfl h107 ?_
          refine lw_val rfl (run_nei rfl rfl) ?_
          refine lw_on rfl rfl (not_f (decide_eq_true (by omega))) ?_
          first | refine lw_val rfl (run_pickT (v := .bool _) rfl h107 rfl) ?_
          first | refine lw_val rfl (run_pickF (v := .bool _) rfl (not_f (decide_eq_true (by omega))) rfl) ?_
          refine lw_nil ?_
          refine cw_iff rfl (not_f (decide_eq_true (by omega))) ?_
          refine cw_skip ?_
          refine cw_seq ?_
          refine cw_region ?_
          first | refine lw_val rfl (run_move (v := .int .i64 _) rfl) ?_
          first | refine lw_val rfl (run_assign (v := .int .i64 _) rfl) ?_
          refine lw_nil ?_
          refine cw_region ?_
          first | refine lw_val rfl (run_move (v := .int .i64 _) rfl) ?_
          first | refine lw_val rfl (run_assign (v := .int .i64 _) rfl) ?_
          refine lw_nil ?_
          refine cw_region ?_
          first | refine lw_val rfl (run_move (v := .int .i64 _) rfl) ?_
          refine lw_val rfl (run_add64 rfl rfl rfl (inI (by omega) (by omega))) ?_
          first | refine lw_val rfl (run_assign (v := .int .i64 _) rfl) ?_
          refine lw_nil ?_
          exact ⟨x + 1, by omega, ⟨by omega, hs⟩, ⟨rfl, rfl, rfl, trivial⟩, by repeat (first | exact Out.mix _ _ _ | refine Out.updo rfl ?_ | refine Out.upd rfl ?_)⟩
        · intro h107
          have g107 := of_decide_eq_false h107
          refine lw_off rfl rfl rfl h107 ?_
          refine lw_off rfl rfl rfl h107 ?_
          refine lw_off rfl rfl rfl h107 ?_
          refine lw_off rfl rfl rfl h107 ?_
          refine lw_off rfl rfl rfl h107 ?_
          refine lw_off rfl rfl rfl h107 ?_
          refine lw_on rfl rfl (not_f (decide_eq_true (by omega))) ?_
          first | refine lw_val rfl (run_pickF (v := .bool _) rfl h107 rfl) ?_
          first | refine lw_val rfl (run_pickF (v := .bool _) rfl (not_f (decide_eq_true (by omega))) rfl) ?_
          refine lw_nil ?_
          refine cw_iff rfl rfl ?_
          refine cw_skip ?_
          refine cw_seq ?_
          refine cw_region ?_
          first | refine lw_val rfl (run_move (v := .int .i64 _) rfl) ?_
          first | refine lw_val rfl (run_assign (v := .int .i64 _) rfl) ?_
          refine lw_nil ?_
          refine cw_region ?_
          first | refine lw_val rfl (run_move (v := .int .i64 _) rfl) ?_
          first | refine lw_val rfl (run_assign (v := .int .i64 _) rfl) ?_
          refine lw_nil ?_
          refine cw_region ?_
          first | refine lw_val rfl (run_move (v := .int .i64 _) rfl) ?_
          refine lw_val rfl (run_add64 rfl rfl rfl (inI (by omega) (by omega))) ?_
          first | refine lw_val rfl (run_assign (v := .int .i64 _) rfl) ?_
          refine lw_nil ?_
          exact ⟨x + 1, by omega, ⟨by omega, hs⟩, ⟨rfl, rfl, rfl, trivial⟩, by repeat (first | exact Out.mix _ _ _ | refine Out.updo rfl ?_ | refine Out.upd rfl ?_)⟩
      · intro h99
        have g99 := of_decide_eq_false h99
        refine lw_off rfl rfl rfl h99 ?_
        refine lw_off rfl rfl rfl h99 ?_
        refine lw_on rfl rfl (decide_eq_false (by decide)) ?_
        first | refine lw_val rfl (run_pickF (v := .bool _) rfl h99 rfl) ?_
        first | refine lw_val rfl (run_pickF (v := .bool _) rfl (decide_eq_false (by decide)) rfl) ?_
        first | refine lw_val rfl (run_move (v := .bool _) rfl) ?_
        refine lw_on rfl rfl rfl ?_
        first | refine lw_val rfl (run_move (v := .int .i64 _) rfl) ?_
        refine lw_on rfl rfl rfl ?_
        refine lw_val rfl (run_gtr rfl rfl) ?_
        refine lw_on rfl rfl rfl ?_
        first | refine lw_val rfl (run_move (v := .bool _) rfl) ?_
        refine lw_split (t := _) (d := 108) rfl ?_ ?_
        · intro h107
          have g107 := of_decide_eq_true h107
          refine lw_on rfl rfl h107 ?_
          first | refine lw_val rfl (run_move (v := .int .i64 _) rfl) ?_
          refine lw_on rfl rfl h107 ?_
          first | refine lw_val rfl (run_move (v := .int .i64 _) rfl) ?_
          refine lw_on rfl rfl h107 ?_
          first | refine lw_val rfl (run_fieldAddr (o' := 4) Tryd.underlying38 rfl sz3 rfl rfl rfl) ?_ | refine lw_val rfl (run_fieldAddr Tryd.underlying38 rfl sz3 rfl rfl rfl) ?_
          refine lw_on rfl rfl h107 ?_
          first | refine lw_val rfl (run_load Tryd.underlying3 rfl rfl (hs.cellAt 0 rfl rfl)) ?_ | refine lw_val rfl (run_load Tryd.underlying3 rfl rfl (hs.cellAt 1 rfl rfl)) ?_ | refine lw_val rfl (run_load Tryd.underlying3 rfl rfl (hs.cellAt 2 rfl rfl)) ?_ | refine lw_val rfl (run_load Tryd.underlying3 rfl rfl (hs.cellAt 3 rfl rfl)) ?_ | refine lw_val rfl (run_load Tryd.underlying3 rfl rfl (hs.cellAt 4 rfl rfl)) ?_ | refine lw_val rfl (run_load Tryd.underlying3 rfl rfl (hs.cellAt 5 rfl rfl)) ?_ | refine lw_val rfl (run_load Tryd.underlying3 rfl rfl (hs.cellAt 6 rfl rfl)) ?_ | refine lw_val rfl (run_load Tryd.underlying3 rfl rfl (hs.cellAt 7 rfl rfl)) ?_ | refine lw_val rfl (run_load Tryd.underlying3 rfl rfl (hs.cellAt 8 rfl rfl)) ?_ | refine lw_val rfl (run_load Tryd.underlying3 rfl rfl (hs.cellAt 9 rfl rfl)) ?_ | refine lw_val rfl (run_load Tryd.underlying3 rfl rfl (hs.cellAt 10 rfl rfl)) ?_ | refine lw_val rfl (run_load Tryd.underlying3 rfl rfl (hs.cellAt 11 rfl rfl)) ?_ | refine lw_val rfl (run_load Tryd.underlying3 rfl rfl (hs.cellAt 12 rfl rfl)) ?_ | refine lw_val rfl (run_load Tryd.underlying3 rfl rfl (hs.cellAt 13 rfl rfl)) ?_
          refine lw_on rfl rfl h107 ?_
          refine lw_val rfl (run_min rfl rfl) ?_
          refine lw_on rfl rfl h107 ?_
          refine lw_val rfl (run_nei rfl rfl) ?_
          refine lw_on rfl rfl rfl ?_
          first | refine lw_val rfl (run_pickT (v := .bool _) rfl h107 rfl) ?_
          first | refine lw_val rfl (run_pickF (v := .bool _) rfl rfl rfl) ?_
          refine lw_nil ?_
          refine cw_iff rfl (not_f (decide_eq_true (by omega))) ?_
          refine cw_skip ?_
          refine cw_seq ?_
          refine cw_region ?_
          first | refine lw_val rfl (run_move (v := .int .i64 _) rfl) ?_
          first | refine lw_val rfl (run_assign (v := .int .i64 _) rfl) ?_
          refine lw_nil ?_
          refine cw_region ?_
          first | refine lw_val rfl (run_move (v := .int .i64 _) rfl) ?_
          first | refine lw_val rfl (run_assign (v := .int .i64 _) rfl) ?_
          refine lw_nil ?_
          refine cw_region ?_
          first | refine lw_val rfl (run_move (v := .int .i64 _) rfl) ?_
          refine lw_val rfl (run_add64 rfl rfl rfl (inI (by omega) (by omega))) ?_
          first | refine lw_val rfl (run_assign (v := .int .i64 _) rfl) ?_
          refine lw_nil ?_
          exact ⟨x + 1, by omega, ⟨by omega, hs⟩, ⟨rfl, rfl, rfl, trivial⟩, by repeat (first | exact Out.mix _ _ _ | refine Out.updo rfl ?_ | refine Out.upd rfl ?_)⟩
        · intro h107
          have g107 := of_decide_eq_false h107
          refine lw_off rfl rfl rfl h107 ?_
          refine lw_off rfl rfl rfl h107 ?_
          refine lw_off rfl rfl rfl h107 ?_
          refine lw_off rfl rfl rfl h107 ?_
          refine lw_off rfl rfl rfl h107 ?_
          refine lw_off rfl rfl rfl h107 ?_
          refine lw_on rfl rfl rfl ?_
          first | refine lw_val rfl (run_pickF (v := .bool _) rfl h107 rfl) ?_
          first | refine lw_val rfl (run_pickF (v := .bool _) rfl rfl rfl) ?_
          refine lw_nil ?_
          refine cw_iff rfl rfl ?_
          refine cw_skip ?_
          refine cw_seq ?_
          refine cw_region ?_
          first | refine lw_val rfl (run_move (v := .int .i64 _) rfl) ?_
          first | refine lw_val rfl (run_assign (v := .int .i64 _) rfl) ?_
          refine lw_nil ?_
          refine cw_region ?_
          first | refine lw_val rfl (run_move (v := .int .i64 _) rfl) ?_
          first | refine lw_val rfl (run_assign (v := .int .i64 _) rfl) ?_
          refine lw_nil ?_
          refine cw_region ?_
          first | refine lw_val rfl (run_move (v := .int .i64 _) rfl) ?_
          refine lw_val rfl (run_add64 rfl rfl rfl (inI (by omega) (by omega))) ?_
          first | refine lw_val rfl (run_assign (v := .int .i64 _) rfl) ?_
          refine lw_nil ?_
          exact ⟨x + 1, by omega, ⟨by omega, hs⟩, ⟨rfl, rfl, rfl, trivial⟩, by repeat (first | exact Out.mix _ _ _ | refine Out.updo rfl ?_ | refine Out.upd rfl ?_)⟩
    · intro h62
      have g62 := of_decide_eq_false h62
      have e1 : x = partsN l.length (e0 + 1) + 2 := by omega
      subst e1
      rw [show pcSt l (e0 + 1) (partsN l.length (e0 + 1) + 2) = tw [(nO, l)] [] [] (partsN l.length (e0 + 1) + 2) 0 from if_neg (by omega)] at hs
      refine cw_exit rfl ?_
      refine cw_seq ?_
      refine cw_region ?_
      first | refine lw_val rfl (run_move (v := .pointer (some _)) rfl) ?_ | refine lw_val rfl (run_move (v := .pointer none) rfl) ?_
      refine lw_call rfl en24 (bytes_sl (hs.pick 1 rfl) (oneO_small (by omega) _ _ _) nO (o := some l) rfl) ?_
      clear hs
      rintro _ w ⟨a121, c121, rfl, hs⟩
      first | refine lw_val rfl (run_move (v := .tuple _) rfl) ?_
      first | refine lw_val rfl (run_extract (v := .slice _ _ _) rfl rfl) ?_
      first | refine lw_val rfl (run_extract (v := .bool _) rfl rfl) ?_
      first | refine lw_val rfl (run_assign (v := .slice _ _ _) rfl) ?_
      first | refine lw_val rfl (run_assign (v := .bool _) rfl) ?_
      refine lw_nil ?_
      replace hs : Mem g w [own (.slice a121 l.length c121) (bytesL l), StoreC p (tw [(nO, l)] [] [] (partsN l.length (e0 + 1) + 2) 0), clientC q p 1 (partsN l.length (e0 + 1) + 2 : Nat), cells b9 (planC nO l.length (crcMore 0 l : Nat) (e0 + 1 : Nat) (partsN l.length (e0 + 1) : Nat)) 38] := hs
      refine cw_seq ?_
      refine cw_drawS mixes hs ?_
      intro w tr hK
      replace hs := tr _ hs
      clear tr
      first | refine aw_take 0 rfl (by kernel_rfl) (by kernel_rfl) (by kernel_rfl) rfl (fun w hs => run_move (v := .bool _) rfl) hK ?_
      first | refine aw_take 1 rfl (by kernel_rfl) (by kernel_rfl) (by kernel_rfl) rfl (fun w hs => run_move (v := .bool _) rfl) hK ?_
      first | refine aw_takeOn 2 rfl (by kernel_rfl) (by kernel_rfl) (by kernel_rfl) rfl rfl rfl (rfl) (fun w hs => run_move (v := .slice _ _ _) rfl) hK ?_
      first | refine aw_takeOn 3 rfl (by kernel_rfl) (by kernel_rfl) (by kernel_rfl) rfl rfl rfl (rfl) (fun w hs => run_move (v := .slice _ _ _) rfl) hK ?_
      refine aw_ready [4] (by kernel_rfl) (by simp) ?_
      refine ⟨⟨_, rfl, ?_⟩, trivial⟩
      refine lw_on rfl rfl (rfl) ?_
      refine lw_call rfl en38 (sameB_sl (la := l) (lb := l) hs (Rd.own 0 rfl) (hb.rd _) rfl rfl (by omega)) ?_
      clear hs
      rintro _ w ⟨rfl, hs⟩
      clear hK
      have hK := hs
      refine lw_nil ⟨hK, ?_⟩
      first | refine aw_take 5 rfl (by kernel_rfl) (by kernel_rfl) (by kernel_rfl) rfl (fun w hs => run_pickT (v := .bool _) rfl (rfl) rfl) hK ?_
      first | refine aw_take 6 rfl (by kernel_rfl) (by kernel_rfl) (by kernel_rfl) rfl (fun w hs => run_move (v := .bool _) rfl) hK ?_
      first | refine aw_takeOn 7 rfl (by kernel_rfl) (by kernel_rfl) (by kernel_rfl) rfl rfl rfl (decide_eq_true rfl) (fun w hs => run_move (v := .pointer (some _)) rfl) hK ?_ | refine aw_takeOn 7 rfl (by kernel_rfl) (by kernel_rfl) (by kernel_rfl) rfl rfl rfl (decide_eq_true rfl) (fun w hs => run_move (v := .pointer none) rfl) hK ?_
      refine aw_ready [8] (by kernel_rfl) (by simp) ?_
      refine ⟨⟨_, rfl, ?_⟩, trivial⟩
      refine lw_on rfl rfl (decide_eq_true rfl) ?_
      refine lw_call rfl en54 (open_none (hs.pick 1 rfl) rfl) ?_
      clear hs
      rintro _ w ⟨a132, c132, rfl, hs⟩
      clear hK
      have hK := hs.arr [2, 1, 3, 4] 5 (by decide)
      refine lw_nil ⟨hK, ?_⟩
      refine aw_takeOn 9 rfl (by kernel_rfl) (by kernel_rfl) (by kernel_rfl) rfl rfl rfl (decide_eq_true rfl) (fun w hs => run_lenS Tryd.underlying22 rfl) hK ?_
      refine aw_takeOn 10 rfl (by kernel_rfl) (by kernel_rfl) (by kernel_rfl) rfl rfl rfl (decide_eq_true rfl) (fun w hs => run_eqi rfl rfl) hK ?_
      first | refine aw_take 11 rfl (by kernel_rfl) (by kernel_rfl) (by kernel_rfl) rfl (fun w hs => run_pickT (v := .bool _) rfl (decide_eq_true rfl) rfl) hK ?_
      first | refine aw_take 12 rfl (by kernel_rfl) (by kernel_rfl) (by kernel_rfl) rfl (fun w hs => run_move (v := .bool _) rfl) hK ?_
      first | refine aw_takeOn 13 rfl (by kernel_rfl) (by kernel_rfl) (by kernel_rfl) rfl rfl rfl (decide_eq_true rfl) (fun w hs => run_move (v := .pointer (some _)) rfl) hK ?_ | refine aw_takeOn 13 rfl (by kernel_rfl) (by kernel_rfl) (by kernel_rfl) rfl rfl rfl (decide_eq_true rfl) (fun w hs => run_move (v := .pointer none) rfl) hK ?_
      first | refine aw_takeOn 15 rfl (by kernel_rfl) (by kernel_rfl) (by kernel_rfl) rfl rfl rfl (decide_eq_true rfl) (fun w hs => run_fieldAddr (o' := 4) Tryd.underlying38 rfl sz3 rfl rfl rfl) hK ?_ | refine aw_takeOn 15 rfl (by kernel_rfl) (by kernel_rfl) (by kernel_rfl) rfl rfl rfl (decide_eq_true rfl) (fun w hs => run_fieldAddr Tryd.underlying38 rfl sz3 rfl rfl rfl) hK ?_
      first | refine aw_takeOn 16 rfl (by kernel_rfl) (by kernel_rfl) (by kernel_rfl) rfl rfl rfl (decide_eq_true rfl) (fun w hs => run_load Tryd.underlying3 rfl rfl (hs.cellAt 0 rfl rfl)) hK ?_ | refine aw_takeOn 16 rfl (by kernel_rfl) (by kernel_rfl) (by kernel_rfl) rfl rfl rfl (decide_eq_true rfl) (fun w hs => run_load Tryd.underlying3 rfl rfl (hs.cellAt 1 rfl rfl)) hK ?_ | refine aw_takeOn 16 rfl (by kernel_rfl) (by kernel_rfl) (by kernel_rfl) rfl rfl rfl (decide_eq_true rfl) (fun w hs => run_load Tryd.underlying3 rfl rfl (hs.cellAt 2 rfl rfl)) hK ?_ | refine aw_takeOn 16 rfl (by kernel_rfl) (by kernel_rfl) (by kernel_rfl) rfl rfl rfl (decide_eq_true rfl) (fun w hs => run_load Tryd.underlying3 rfl rfl (hs.cellAt 3 rfl rfl)) hK ?_ | refine aw_takeOn 16 rfl (by kernel_rfl) (by kernel_rfl) (by kernel_rfl) rfl rfl rfl (decide_eq_true rfl) (fun w hs => run_load Tryd.underlying3 rfl rfl (hs.cellAt 4 rfl rfl)) hK ?_ | refine aw_takeOn 16 rfl (by kernel_rfl) (by kernel_rfl) (by kernel_rfl) rfl rfl rfl (decide_eq_true rfl) (fun w hs => run_load Tryd.underlying3 rfl rfl (hs.cellAt 5 rfl rfl)) hK ?_ | refine aw_takeOn 16 rfl (by kernel_rfl) (by kernel_rfl) (by kernel_rfl) rfl rfl rfl (decide_eq_true rfl) (fun w hs => run_load Tryd.underlying3 rfl rfl (hs.cellAt 6 rfl rfl)) hK ?_ | refine aw_takeOn 16 rfl (by kernel_rfl) (by kernel_rfl) (by kernel_rfl) rfl rfl rfl (decide_eq_true rfl) (fun w hs => run_load Tryd.underlying3 rfl rfl (hs.cellAt 7 rfl rfl)) hK ?_ | refine aw_takeOn 16 rfl (by kernel_rfl) (by kernel_rfl) (by kernel_rfl) rfl rfl rfl (decide_eq_true rfl) (fun w hs => run_load Tryd.underlying3 rfl rfl (hs.cellAt 8 rfl rfl)) hK ?_ | refine aw_takeOn 16 rfl (by kernel_rfl) (by kernel_rfl) (by kernel_rfl) rfl rfl rfl (decide_eq_true rfl) (fun w hs => run_load Tryd.underlying3 rfl rfl (hs.cellAt 9 rfl rfl)) hK ?_ | refine aw_takeOn 16 rfl (by kernel_rfl) (by kernel_rfl) (by kernel_rfl) rfl rfl rfl (decide_eq_true rfl) (fun w hs => run_load Tryd.underlying3 rfl rfl (hs.cellAt 10 rfl rfl)) hK ?_ | refine aw_takeOn 16 rfl (by kernel_rfl) (by kernel_rfl) (by kernel_rfl) rfl rfl rfl (decide_eq_true rfl) (fun w hs => run_load Tryd.underlying3 rfl rfl (hs.cellAt 11 rfl rfl)) hK ?_ | refine aw_takeOn 16 rfl (by kernel_rfl) (by kernel_rfl) (by kernel_rfl) rfl rfl rfl (decide_eq_true rfl) (fun w hs => run_load Tryd.underlying3 rfl rfl (hs.cellAt 12 rfl rfl)) hK ?_ | refine aw_takeOn 16 rfl (by kernel_rfl) (by kernel_rfl) (by kernel_rfl) rfl rfl rfl (decide_eq_true rfl) (fun w hs => run_load Tryd.underlying3 rfl rfl (hs.cellAt 13 rfl rfl)) hK ?_
      refine aw_takeOn 17 rfl (by kernel_rfl) (by kernel_rfl) (by kernel_rfl) rfl rfl rfl (decide_eq_true rfl) (fun w hs => run_add64 rfl rfl rfl (inI (by omega) (by omega))) hK ?_
      refine aw_ready [14] (by kernel_rfl) (by simp) ?_
      refine ⟨⟨_, rfl, ?_⟩, trivial⟩
      refine lw_on rfl rfl (decide_eq_true rfl) ?_
      refine lw_call rfl en26 (calls_sl (hs.pick 1 rfl)) ?_
      clear hs
      rintro _ w ⟨rfl, hs⟩
      clear hK
      have hK := hs.arr [2, 0, 3, 4] 5 (by decide)
      refine lw_nil ⟨hK, ?_⟩
      refine aw_takeOn 18 rfl (by kernel_rfl) (by kernel_rfl) (by kernel_rfl) rfl rfl rfl (decide_eq_true rfl) (fun w hs => run_eqi rfl rfl) hK ?_
      first | refine aw_take 19 rfl (by kernel_rfl) (by kernel_rfl) (by kernel_rfl) rfl (fun w hs => run_pickT (v := .bool _) rfl (decide_eq_true rfl) rfl) hK ?_
      first | refine aw_take 20 rfl (by kernel_rfl) (by kernel_rfl) (by kernel_rfl) rfl (fun w hs => run_assign (v := .bool _) rfl) hK ?_
      refine aw_done (by kernel_rfl) ?_
      clear hK
      refine cw_ret ?_
      refine res1 (v := .bool _) rfl rfl ?_
      exact ⟨_, rfl, ret_b (decide_eq_true rfl), hs.nil⟩
end Go.Proofs.YtjiigajekminaaaDoor
