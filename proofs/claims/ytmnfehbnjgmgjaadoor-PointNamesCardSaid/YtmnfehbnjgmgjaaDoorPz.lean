/- The law PointNames. -/
import Derived.Test.YtmnfehbnjgmgjaaDoorPx
import Derived.Test.YtmnfehbnjgmgjaaDoorPf
import Derived.Test.YtmnfehbnjgmgjaaDoorCx
import Derived.Test.YtmnfehbnjgmgjaaDoorDl
import Derived.Test.YtmnfehbnjgmgjaaDoorRefSum
import Derived.Test.YtmnfehbnjgmgjaaDoorRefName
namespace Go.Proofs.YtmnfehbnjgmgjaaDoor
set_option linter.all false
open Go.RowKit
attribute [local irreducible] errV
variable {g w : World} {L M : List HP} {ad : Nat → Addr} {p : Nat} {d e : Dk}

theorem wrapU64 (n : Int) : IntKind.u64.wrap n = n % 18446744073709551616 := by simp [IntKind.wrap, IntKind.bits, IntKind.signed]
theorem le4_range (s : Nat) : (List.range 4).map (fun i => UInt8.ofNat (s / 2 ^ (8 * i))) = le4 s := by
  simp [List.range, List.range.loop, le4]
theorem little4_sl (hs : Mem g w L) {s : Nat} (hs32 : s < 4294967296) : Calls Tryd.prog 94 #[.int .u64 s, .int .i64 4] w (Ret fun v w' => ∃ a c, v = .slice a (le4 s).length c ∧ Mem g w' (own (.slice a (le4 s).length c) (bytesL (le4 s)) :: L)) := by
  refine calls_cw Tryd.func94 rfl rfl ?_
  skip
  refine cw_seq ?_
  refine cw_region ?_
  first | refine lw_val rfl (run_assign (v := .slice _ _ _) rfl) ?_
  refine lw_nil ?_
  refine cw_seq ?_
  refine cw_region ?_
  first | refine lw_val rfl (run_assign (v := .slice _ _ _) rfl) ?_
  refine lw_nil ?_
  refine cw_seq ?_
  refine cw_seq ?_
  replace hs := hs.addE (own_nil _)
  refine cw_region ?_
  first | refine lw_val rfl (run_assign (v := .int .i64 _) rfl) ?_
  refine lw_nil ?_
  refine cw_block ?_
  refine cw_loop (X := Nat × Option Addr × Nat) [5, 6, 7, 8, 9, 10, 11, 12, 13, 14, 15, 16, 17, 18, 19, 20] (fun x => [(5, .slice x.2.1 ((List.range x.1).map fun i => UInt8.ofNat (s / 2 ^ (8 * i))).length x.2.2), (6, .int .i64 (x.1 : Nat))]) (fun x w => x.1 ≤ 4 ∧ Mem g w (own (.slice x.2.1 ((List.range x.1).map fun i => UInt8.ofNat (s / 2 ^ (8 * i))).length x.2.2) (bytesL ((List.range x.1).map fun i => UInt8.ofNat (s / 2 ^ (8 * i)))) :: L)) (fun x => 4 - x.1) ((0, none, 0)) ?_ ?_ ?_
  · exact ⟨rfl, rfl, trivial⟩
  · exact ⟨Nat.zero_le _, hs⟩
  clear hs
  rintro x ξ w hI
  obtain ⟨i, oa, oc⟩ := x
  obtain ⟨hi, hs⟩ := hI
  simp only at hi hs
  show cw _ _ _ _ _ _ (updL (mix _ ξ _) [(5, .slice oa ((List.range i).map fun i => UInt8.ofNat (s / 2 ^ (8 * i))).length oc), (6, .int .i64 (i : Nat))]) w
  refine cw_seq ?_
  refine cw_seq ?_
  refine cw_region ?_
  first | refine lw_val rfl (run_move (v := .int .i64 _) rfl) ?_
  first | refine lw_val rfl (run_move (v := .int .i64 _) rfl) ?_
  refine lw_val rfl (run_lss rfl rfl) ?_
  refine lw_nil ?_
  refine cw_if rfl ?_ ?_
  · intro h9
    have g9 := of_decide_eq_true h9
    have hi3 : i < 4 := by omega
    have e1 : (List.range (i + 1)).map (fun i => UInt8.ofNat (s / 2 ^ (8 * i))) = (List.range i).map (fun i => UInt8.ofNat (s / 2 ^ (8 * i))) ++ [UInt8.ofNat (s / 2 ^ (8 * i))] := by rw [List.range_succ, List.map_append]; rfl
    refine cw_skip ?_
    refine cw_seq ?_
    refine cw_block ?_
    refine cw_region ?_
    first | refine lw_val rfl (run_move (v := .slice _ _ _) rfl) ?_
    first | refine lw_val rfl (run_move (v := .int .u64 _) rfl) ?_
    first | refine lw_val rfl (run_move (v := .int .i64 _) rfl) ?_
    refine lw_val rfl (run_mul64 rfl rfl (c := ((8 * i : Nat) : Int)) (by omega) (inI (by omega) (by omega))) ?_
    refine lw_val rfl (run_convIn Tryd.underlying3 Tryd.underlying95 rfl (c := ((8 * i : Nat) : Int)) (by rw [wrapU64]; omega)) ?_
    refine lw_val rfl (run_shr rfl rfl (n := 8 * i) (c := ((s / 2 ^ (8 * i) : Nat) : Int)) rfl (by show 8 * i ≤ 64; omega) (by push_cast; rfl)) ?_
    refine lw_val rfl (run_convIn Tryd.underlying27 Tryd.underlying5 rfl (c := (((UInt8.ofNat (s / 2 ^ (8 * i))).toNat : Nat) : Int)) (wrapB _)) ?_
    refine lw_buildSlice hs rfl ((bytesL [UInt8.ofNat (s / 2 ^ (8 * i))])) Tryd.underlying23 zs5 rfl (cells_one (bytesL_one _)) rfl rfl rfl ?_
    clear hs
    intro b19 w hs
    try simp only [List.set_cons_succ, List.set_cons_zero] at hs
    refine lw_append hs rfl 1 rfl Tryd.underlying23 in5 rfl rfl rfl (src_of_seq (P := Tryd.prog) Tryd.underlying23 ((Rd.cells (n := 1) (cs := bytesL [UInt8.ofNat (s / 2 ^ (8 * i))]) 0 rfl rfl).seq hs) (bytesL_one _)) (by simp only [bytesL_len, List.length_map, List.length_range, List.length_cons, List.length_nil]; omega) (by simp only [bytesL_len, List.length_map, List.length_range, List.length_cons, List.length_nil]; omega) ?_
    clear hs
    intro a20 c20 w hs
    simp only [List.set_cons_succ, List.set_cons_zero] at hs
    first | refine lw_val rfl (run_assign (v := .slice _ _ _) rfl) ?_
    refine lw_nil ?_
    refine cw_region ?_
    first | refine lw_val rfl (run_move (v := .int .i64 _) rfl) ?_
    refine lw_val rfl (run_add64 rfl rfl rfl (inI (by omega) (by omega))) ?_
    first | refine lw_val rfl (run_assign (v := .int .i64 _) rfl) ?_
    refine lw_nil ?_
    have e2 : (bytesL ((List.range i).map fun i => UInt8.ofNat (s / 2 ^ (8 * i)))).length + (bytesL [UInt8.ofNat (s / 2 ^ (8 * i))]).length = ((List.range (i + 1)).map fun i => UInt8.ofNat (s / 2 ^ (8 * i))).length := by rw [e1]; simp [bytesL_len]
    have e3 : bytesL ((List.range i).map fun i => UInt8.ofNat (s / 2 ^ (8 * i))) ++ bytesL [UInt8.ofNat (s / 2 ^ (8 * i))] = bytesL ((List.range (i + 1)).map fun i => UInt8.ofNat (s / 2 ^ (8 * i))) := by rw [e1, bytesL_app]
    rw [e2, e3] at hs
    exact ⟨(i + 1, a20, c20), by simp only; omega, ⟨by simp only; omega, hs.tail⟩, ⟨by rw [← e2]; rfl, rfl, trivial⟩, by repeat (first | exact Out.mix _ _ _ | refine Out.updo rfl ?_ | refine Out.upd rfl ?_ | refine Out.mixIn rfl ?_)⟩
  · intro h9
    have g9 := of_decide_eq_false h9
    refine cw_exit rfl ?_
    refine cw_seq ?_
    refine cw_region ?_
    first | refine lw_val rfl (run_move (v := .slice _ _ _) rfl) ?_
    first | refine lw_val rfl (run_assign (v := .slice _ _ _) rfl) ?_
    refine lw_nil ?_
    refine cw_ret ?_
    refine res1 (v := .slice _ _ _) rfl rfl ?_
    obtain rfl : i = 4 := by omega
    rw [le4_range] at hs ⊢
    exact ⟨_, rfl, oa, oc, rfl, hs⟩
theorem rseal_sl (hs : Mem g w L) {a : Option Addr} {n c : Nat} {l : List UInt8} (hr : Rd g L (.slice a n c) (bytesL l)) (hn : n = l.length) (hlen : l.length ≤ 1000000) : Calls Tryd.prog 46 #[.slice a n c] w (Ret fun v w' => ∃ a' c', v = .slice a' (sealL l).length c' ∧ Mem g w' (own (.slice a' (sealL l).length c') (bytesL (sealL l)) :: L)) := by
  subst hn
  obtain ⟨s, hS⟩ : ∃ s, crcMore 0 l = s := ⟨_, rfl⟩
  have hs32 : s < 4294967296 := hS ▸ crcMore_lt (by decide) l
  refine calls_cw Tryd.func46 rfl rfl ?_
  skip
  refine cw_seq ?_
  refine cw_region ?_
  first | refine lw_val rfl (run_assign (v := .slice _ _ _) rfl) ?_
  refine lw_nil ?_
  refine cw_seq ?_
  refine cw_region ?_
  first | refine lw_val rfl (run_move (v := .slice _ _ _) rfl) ?_
  refine lw_call rfl en93 (bcopy_sl hs hr rfl hlen) ?_
  clear hs
  rintro _ w ⟨a4, c4, rfl, hs⟩
  first | refine lw_val rfl (run_move (v := .slice _ _ _) rfl) ?_
  refine lw_call rfl en95 (hs.callsE (refSum_any (hr.cons.seq hs) (by omega))) ?_
  clear hs
  rintro _ w ⟨rfl, hs⟩
  rw [hS]
  refine lw_val rfl (run_convIn Tryd.underlying134 Tryd.underlying27 rfl (c := ((s : Nat) : Int)) (by rw [wrapU64]; omega)) ?_
  refine lw_call rfl en94 (little4_sl hs hs32) ?_
  clear hs
  rintro _ w ⟨a8, c8, rfl, hs⟩
  refine lw_append hs rfl 1 rfl Tryd.underlying23 in5 rfl rfl rfl (src_of_seq (P := Tryd.prog) Tryd.underlying23 ((hs.rdOwn 0 rfl).seq hs) (bytesL_one _)) (by simp only [bytesL_len, le4, List.length_cons, List.length_nil]; omega) (by simp only [bytesL_len, le4, List.length_cons, List.length_nil]; omega) ?_
  clear hs
  intro a9 c9 w hs
  simp only [List.set_cons_succ, List.set_cons_zero] at hs
  first | refine lw_val rfl (run_assign (v := .slice _ _ _) rfl) ?_
  refine lw_nil ?_
  refine cw_ret ?_
  refine res1 (v := .slice _ _ _) rfl rfl ?_
  have e : bytesL l ++ bytesL (le4 s) = bytesL (sealL l) := by rw [← bytesL_app, sealL, hS]
  have e2 : (bytesL l).length + (bytesL (le4 s)).length = (sealL l).length := by rw [bytesL_len, bytesL_len, sealL_len]; rfl
  rw [e, e2] at hs
  exact ⟨_, rfl, a9, c9, by rw [e2], hs.tail⟩
theorem sortT_one (n : ByteArray) : sortT [n] = [n] := by
  simp [sortT, sortB, bytesOf]
theorem sortT_none : sortT [] = [] := by
  simp [sortT, sortB, bytesOf]
/-- One file; its bytes are cut away, others laid. -/
theorem pz_facts {n : ByteArray} {F : Fl} (h1 : e.down = false) (h2 : e.armed = 0) (hr : e.room = 1000) (hn : e.names = [(n, 1)]) (hf : aget e.fs 1 = some F) {x : List UInt8} (hx : x.length ≤ 1000) :
    ∃ e2 e3, e.cut n 0 = (0, e2) ∧ e2.append n x = (0, e3) ∧ e3.pread n = openL x ∧ e2.calls = e.calls + 1 ∧ e3.calls = e.calls + 2 := by
  have hna : aget e.names n = some 1 := by simp [hn, aget]
  have hfl : e.fl 1 = F := by simp [Dk.fl, hf]
  have hc : e.cut n 0 = (0, { e.setF 1 { e.fl 1 with b := [], syn := 0 } with calls := e.calls + 1 }) := by
    simp only [Dk.cut, Dk.find_up h1 h2 hna]
    rw [if_neg (by omega)]
    simp
  refine ⟨_, { ({ e.setF 1 { e.fl 1 with b := [], syn := 0 } with calls := e.calls + 1 } : Dk).setF 1 { ({ e.setF 1 { e.fl 1 with b := [], syn := 0 } with calls := e.calls + 1 } : Dk).fl 1 with b := (({ e.setF 1 { e.fl 1 with b := [], syn := 0 } with calls := e.calls + 1 } : Dk).fl 1).b ++ x } with calls := e.calls + 2 }, hc, ?_, ?_, rfl, rfl⟩
  · refine Dk.append_up (i := 1) h1 h2 hna ?_
    have : ({ e.setF 1 { e.fl 1 with b := [], syn := 0 } with calls := e.calls + 1 } : Dk).used = 0 := by
      simp [Dk.used, Dk.setF, hn, Dk.len, aget_put_same]
    rw [this]
    show 0 + x.length ≤ e.room
    omega
  · have hfl2 : (({ e.setF 1 { e.fl 1 with b := [], syn := 0 } with calls := e.calls + 1 } : Dk).fl 1).b = [] := by simp [Dk.fl, Dk.setF, aget_put_same]
    generalize hE3 : ({ ({ e.setF 1 { e.fl 1 with b := [], syn := 0 } with calls := e.calls + 1 } : Dk).setF 1 { ({ e.setF 1 { e.fl 1 with b := [], syn := 0 } with calls := e.calls + 1 } : Dk).fl 1 with b := (({ e.setF 1 { e.fl 1 with b := [], syn := 0 } with calls := e.calls + 1 } : Dk).fl 1).b ++ x } with calls := e.calls + 2 } : Dk) = E3
    have g1 : E3.down = false := by rw [← hE3]; exact h1
    have g2 : aget E3.names n = some 1 := by rw [← hE3]; exact hna
    obtain ⟨q, s, g3⟩ : ∃ q s, aget E3.fs 1 = some ⟨q, x, s⟩ := ⟨_, _, by rw [← hE3, hfl2]; exact aget_put_same _ _ _⟩
    have hl : E3.lenR n = (0, x.length) := by simp [Dk.lenR, Dk.file, g1, g2, Dk.fl, g3]
    have hr : E3.readR n 0 (x.length : Int) = (0, x) := (Dk.readR_at (i := 1) (F := ⟨q, x, s⟩) (o := 0) (m := x.length) g1 g2 g3 (by show 0 + x.length ≤ x.length; omega)).trans (by simp)
    simp only [Dk.pread, hl, hr]
    simp
theorem xor1 (u : UInt8) : ∃ u2 : UInt8, u2 ≠ u ∧ bits .xor .u8 ((u.toNat : Nat) : Int) 1 = ((u2.toNat : Nat) : Int) := by
  have h : ∀ m : Nat, m < 256 → bits .xor .u8 (m : Int) 1 = (((UInt8.ofNat (m ^^^ 1)).toNat : Nat) : Int) ∧ UInt8.ofNat (m ^^^ 1) ≠ UInt8.ofNat m := by decide +kernel
  obtain ⟨h1, h2⟩ := h u.toNat (UInt8.toNat_lt u)
  exact ⟨_, by simpa using h2, h1⟩
set_option maxRecDepth 100000 in
theorem pointNames_sl (hA : ErrA ad g) (hs : Mem g w []) {n : ByteArray} {a1 : Option Addr} {n1 c1 : Nat} {b : List UInt8} {at_ : Int} (h1 : Came g (.slice a1 n1 c1) (bytesL b)) (e1 : n1 = b.length) :
    Calls Tryd.prog 8 #[.string n, .slice a1 n1 c1, .int .i64 at_] w (Ret fun v w' => v = .bool true ∧ Mem g w' []) := by
  subst e1
  have hE := hA.disk
  have hP := hA.point
  obtain ⟨k, e, hw⟩ : ∃ k e, (Dk.empty 1000).write n b = (k, e) := ⟨_, _, rfl⟩
  have hbad : ¬ (validB n.data.toList = true ∧ validB (newN n).data.toList = true) → k = 106 ∧ e = Dk.empty 1000 := fun h => by
    unfold Dk.write at hw; rw [if_neg h] at hw; cases hw; exact ⟨rfl, rfl⟩
  have hcw := Dk.write_calls hw
  simp only [Dk.empty] at hcw
  refine calls_cw Tryd.func8 rfl rfl ?_
  skip
  refine cw_seq ?_
  refine cw_region ?_
  first | refine lw_val rfl (run_assign (v := .bool _) rfl) ?_
  refine lw_nil ?_
  refine cw_seq ?_
  refine cw_region ?_
  refine lw_call rfl en13 (first8_sl hs) ?_
  clear hs
  rintro _ w ⟨rfl, hs⟩
  first | refine lw_val rfl (run_assign (v := .bool _) rfl) ?_
  refine lw_nil ?_
  refine cw_seq ?_
  refine cw_seq ?_
  refine cw_region ?_
  first | refine lw_val rfl (run_move (v := .bool _) rfl) ?_
  refine lw_val rfl (run_not rfl) ?_
  refine lw_nil ?_
  refine cw_iff rfl (not_f (rfl)) ?_
  refine cw_skip ?_
  refine cw_seq ?_
  refine cw_seq ?_
  refine cw_region ?_
  first | refine lw_val rfl (run_move (v := .string _) rfl) ?_
  refine lw_val rfl (run_lenT Tryd.underlying9 rfl) ?_
  refine lw_val rfl (run_gtr rfl rfl) ?_
  first | refine lw_val rfl (run_move (v := .bool _) rfl) ?_
  refine lw_split (t := _) (d := 21) rfl ?_ ?_
  · intro h20
    have g20 := of_decide_eq_true h20
    refine lw_off rfl rfl rfl h20 ?_
    refine lw_off rfl rfl rfl h20 ?_
    refine lw_off rfl rfl rfl h20 ?_
    first | refine lw_val rfl (run_pickT (v := .bool _) rfl h20 rfl) ?_
    first | refine lw_val rfl (run_move (v := .bool _) rfl) ?_
    refine lw_off rfl rfl rfl rfl ?_
    refine lw_off rfl rfl rfl rfl ?_
    first | refine lw_val rfl (run_pickT (v := .bool _) rfl rfl rfl) ?_
    refine lw_nil ?_
    refine cw_ift rfl rfl ?_
    refine cw_seq ?_
    refine cw_region ?_
    first | refine lw_val rfl (run_move (v := .bool _) rfl) ?_
    first | refine lw_val rfl (run_assign (v := .bool _) rfl) ?_
    refine lw_nil ?_
    refine cw_ret ?_
    refine res1 (v := .bool _) rfl rfl ?_
    exact ⟨_, rfl, rfl, hs⟩
  · intro h20
    have g20 := of_decide_eq_false h20
    refine lw_on rfl rfl h20 ?_
    first | refine lw_val rfl (run_move (v := .slice _ _ _) rfl) ?_
    refine lw_on rfl rfl h20 ?_
    refine lw_val rfl (run_lenS Tryd.underlying23 rfl) ?_
    refine lw_on rfl rfl h20 ?_
    refine lw_val rfl (run_gtr rfl rfl) ?_
    first | refine lw_val rfl (run_pickF (v := .bool _) rfl h20 rfl) ?_
    first | refine lw_val rfl (run_move (v := .bool _) rfl) ?_
    refine lw_split (t := _) (d := 26) rfl ?_ ?_
    · intro h24
      have g24 := of_decide_eq_true h24
      refine lw_off rfl rfl rfl h24 ?_
      refine lw_off rfl rfl rfl h24 ?_
      first | refine lw_val rfl (run_pickT (v := .bool _) rfl h24 rfl) ?_
      refine lw_nil ?_
      refine cw_ift rfl rfl ?_
      refine cw_seq ?_
      refine cw_region ?_
      first | refine lw_val rfl (run_move (v := .bool _) rfl) ?_
      first | refine lw_val rfl (run_assign (v := .bool _) rfl) ?_
      refine lw_nil ?_
      refine cw_ret ?_
      refine res1 (v := .bool _) rfl rfl ?_
      exact ⟨_, rfl, rfl, hs⟩
    · intro h24
      have g24 := of_decide_eq_false h24
      refine lw_on rfl rfl h24 ?_
      first | refine lw_val rfl (run_move (v := .bool _) rfl) ?_
      refine lw_on rfl rfl h24 ?_
      refine lw_val rfl (run_not rfl) ?_
      first | refine lw_val rfl (run_pickF (v := .bool _) rfl h24 rfl) ?_
      refine lw_nil ?_
      refine cw_iff rfl (not_f (rfl)) ?_
      refine cw_skip ?_
      refine cw_seq ?_
      refine cw_region ?_
      refine lw_call rfl en26 (newd_sl hs (r := 1000) (by decide) (by decide)) ?_
      clear hs
      rintro _ w ⟨p, rfl, hs⟩
      first | refine lw_val rfl (run_move (v := .tuple _) rfl) ?_
      first | refine lw_val rfl (run_extract (v := .pointer (some _)) rfl rfl) ?_ | refine lw_val rfl (run_extract (v := .pointer none) rfl rfl) ?_
      first | refine lw_val rfl (run_extract (v := errV ad _) rfl rfl) ?_ | refine lw_val rfl (run_extract (v := .nilIface) rfl rfl) ?_ | refine lw_val rfl (run_extract (v := eV ad _ _) rfl rfl) ?_ | refine lw_val rfl (run_extract (v := .iface _ (.pointer (some _))) rfl rfl) ?_
      first | refine lw_val rfl (run_assign (v := .pointer (some _)) rfl) ?_ | refine lw_val rfl (run_assign (v := .pointer none) rfl) ?_
      first | refine lw_val rfl (run_assign (v := errV ad _) rfl) ?_ | refine lw_val rfl (run_assign (v := .nilIface) rfl) ?_ | refine lw_val rfl (run_assign (v := eV ad _ _) rfl) ?_ | refine lw_val rfl (run_assign (v := .iface _ (.pointer (some _))) rfl) ?_
      refine lw_nil ?_
      refine cw_seq ?_
      refine cw_seq ?_
      refine cw_region ?_
      first | refine lw_val rfl (run_move (v := .pointer (some _)) rfl) ?_ | refine lw_val rfl (run_move (v := .pointer none) rfl) ?_
      refine lw_val rfl (run_eqpn Tryd.underlying45 rfl rfl) ?_
      first | refine lw_val rfl (run_move (v := .bool _) rfl) ?_
      refine lw_on rfl rfl rfl ?_
      first | refine lw_val rfl (run_move (v := errV ad _) rfl) ?_ | refine lw_val rfl (run_move (v := .nilIface) rfl) ?_ | refine lw_val rfl (run_move (v := eV ad _ _) rfl) ?_ | refine lw_val rfl (run_move (v := .iface _ (.pointer (some _))) rfl) ?_
      refine lw_on rfl rfl rfl ?_
      first | refine lw_val rfl (run_neerrn (ad := ad) rfl) ?_ | refine lw_val rfl (run_nenn rfl) ?_ | refine lw_val rfl (run_neE (ad := ad) rfl) ?_
      first | refine lw_val rfl (run_pickF (v := .bool _) rfl rfl rfl) ?_
      refine lw_nil ?_
      refine cw_iff rfl (rfl) ?_
      refine cw_skip ?_
      refine cw_seq ?_
      refine cw_region ?_
      first | refine lw_val rfl (run_move (v := .pointer (some _)) rfl) ?_ | refine lw_val rfl (run_move (v := .pointer none) rfl) ?_
      first | refine lw_val rfl (run_move (v := .string _) rfl) ?_
      first | refine lw_val rfl (run_move (v := .slice _ _ _) rfl) ?_
      refine lw_call rfl en27 (write_sl hE (show 0 < 900000 by decide) hs n (by omega) (h1.rd _) rfl (by omega) hw) ?_
      clear hs
      rintro _ w ⟨rfl, hs⟩
      first | refine lw_val rfl (run_assign (v := errV ad _) rfl) ?_ | refine lw_val rfl (run_assign (v := .nilIface) rfl) ?_ | refine lw_val rfl (run_assign (v := eV ad _ _) rfl) ?_ | refine lw_val rfl (run_assign (v := .iface _ (.pointer (some _))) rfl) ?_
      refine lw_nil ?_
      refine cw_seq ?_
      refine cw_seq ?_
      refine cw_region ?_
      first | refine lw_val rfl (run_move (v := .string _) rfl) ?_
      refine lw_call rfl en43 (hs.callsE (refValid_any n w)) ?_
      clear hs
      rintro _ w ⟨rfl, hs⟩
      refine lw_val rfl (run_not rfl) ?_
      first | refine lw_val rfl (run_move (v := .bool _) rfl) ?_
      refine lw_split (t := _) (d := 48) rfl ?_ ?_
      · intro h46
        replace h46 := not_b h46
        obtain ⟨rfl, rfl⟩ := hbad (fun h => by rw [h46] at h; cases h.1)
        refine lw_off rfl rfl rfl (not_t h46) ?_
        refine lw_off rfl rfl rfl (not_t h46) ?_
        refine lw_off rfl rfl rfl (not_t h46) ?_
        refine lw_off rfl rfl rfl (not_t h46) ?_
        first | refine lw_val rfl (run_pickT (v := .bool _) rfl (not_t h46) rfl) ?_
        refine lw_nil ?_
        refine cw_ift rfl rfl ?_
        refine cw_seq ?_
        refine cw_region ?_
        first | refine lw_val rfl (run_move (v := errV ad _) rfl) ?_ | refine lw_val rfl (run_move (v := .nilIface) rfl) ?_ | refine lw_val rfl (run_move (v := eV ad _ _) rfl) ?_ | refine lw_val rfl (run_move (v := .iface _ (.pointer (some _))) rfl) ?_
        refine lw_call rfl en34 (isA_sl hA hs (d := 106) (by decide) 106) ?_
        clear hs
        rintro _ w ⟨rfl, hs⟩
        first | refine lw_val rfl (run_move (v := .bool _) rfl) ?_
        refine lw_on rfl rfl (rfl) ?_
        first | refine lw_val rfl (run_move (v := .pointer (some _)) rfl) ?_ | refine lw_val rfl (run_move (v := .pointer none) rfl) ?_
        refine lw_on rfl rfl (rfl) ?_
        refine lw_call rfl en44 (list_sl hs (fun x hx => by simp [Dk.empty, keysOf] at hx) (by decide)) ?_
        clear hs
        rintro _ w ⟨a58, c58, rfl, hs⟩
        refine lw_on rfl rfl (rfl) ?_
        refine lw_val rfl (run_lenS Tryd.underlying69 rfl) ?_
        refine lw_on rfl rfl (rfl) ?_
        refine lw_val rfl (run_eqi rfl rfl) ?_
        first | refine lw_val rfl (run_pickT (v := .bool _) rfl (rfl) rfl) ?_
        first | refine lw_val rfl (run_assign (v := .bool _) rfl) ?_
        refine lw_nil ?_
        refine cw_ret ?_
        refine res1 (v := .bool _) rfl rfl ?_
        exact ⟨_, rfl, ret_b (by rw [show (Dk.empty 1000).names = [] from rfl, show keysOf ([] : List (ByteArray × Nat)) = [] from rfl, sortT_none]; rfl), hs.nil⟩
      · intro h46
        replace h46 := not_c h46
        refine lw_on rfl rfl (not_f h46) ?_
        first | refine lw_val rfl (run_move (v := .string _) rfl) ?_
        refine lw_on rfl rfl (not_f h46) ?_
        refine lw_val rfl (run_cats (a := n) (b := ⟨#[46, 110, 101, 119]⟩) rfl rfl (by show n.size + 4 ≤ _; omega)) ?_
        refine lw_on rfl rfl (not_f h46) ?_
        refine lw_call rfl en43 (hs.callsE (refValid_any (newN n) w)) ?_
        clear hs
        rintro _ w ⟨rfl, hs⟩
        refine lw_on rfl rfl (not_f h46) ?_
        refine lw_val rfl (run_not rfl) ?_
        first | refine lw_val rfl (run_pickF (v := .bool _) rfl (not_f h46) rfl) ?_
        refine lw_nil ?_
        refine cw_if rfl ?_ ?_
        · intro h51
          replace h51 := not_b h51
          obtain ⟨rfl, rfl⟩ := hbad (fun h => by rw [h51] at h; cases h.2)
          refine cw_seq ?_
          refine cw_region ?_
          first | refine lw_val rfl (run_move (v := errV ad _) rfl) ?_ | refine lw_val rfl (run_move (v := .nilIface) rfl) ?_ | refine lw_val rfl (run_move (v := eV ad _ _) rfl) ?_ | refine lw_val rfl (run_move (v := .iface _ (.pointer (some _))) rfl) ?_
          refine lw_call rfl en34 (isA_sl hA hs (d := 106) (by decide) 106) ?_
          clear hs
          rintro _ w ⟨rfl, hs⟩
          first | refine lw_val rfl (run_move (v := .bool _) rfl) ?_
          refine lw_on rfl rfl (rfl) ?_
          first | refine lw_val rfl (run_move (v := .pointer (some _)) rfl) ?_ | refine lw_val rfl (run_move (v := .pointer none) rfl) ?_
          refine lw_on rfl rfl (rfl) ?_
          refine lw_call rfl en44 (list_sl hs (fun x hx => by simp [Dk.empty, keysOf] at hx) (by decide)) ?_
          clear hs
          rintro _ w ⟨a58, c58, rfl, hs⟩
          refine lw_on rfl rfl (rfl) ?_
          refine lw_val rfl (run_lenS Tryd.underlying69 rfl) ?_
          refine lw_on rfl rfl (rfl) ?_
          refine lw_val rfl (run_eqi rfl rfl) ?_
          first | refine lw_val rfl (run_pickT (v := .bool _) rfl (rfl) rfl) ?_
          first | refine lw_val rfl (run_assign (v := .bool _) rfl) ?_
          refine lw_nil ?_
          refine cw_ret ?_
          refine res1 (v := .bool _) rfl rfl ?_
          exact ⟨_, rfl, ret_b (by rw [show (Dk.empty 1000).names = [] from rfl, show keysOf ([] : List (ByteArray × Nat)) = [] from rfl, sortT_none]; rfl), hs.nil⟩
        · intro h51
          replace h51 := not_c h51
          obtain ⟨k2, e2, hw2, hd⟩ := UpD.write (d := Dk.empty 1000) (s := n) (b := b) ⟨Dk.empty_ok (by decide), rfl⟩ h46 h51 (by show useL [] (adel [] _) + (b.length + 4) ≤ 1000; simp [useL, adel]; omega)
          rw [hw] at hw2
          cases hw2
          obtain ⟨rfl, hm⟩ := hd.resolve_right (fun h => h.2.2.1 rfl)
          have hnm : e.names = [(n, 1)] := by rw [hm.names]; rfl
          have hfs : aget e.fs 1 = some ⟨1, sealL b, (sealL b).length⟩ := hm.new
          have hkn : keysOf e.names = [n] := by rw [hnm]; rfl
          have hsl := sealL_len b
          have hrd : e.readR n 0 ((b.length + 4 : Nat) : Int) = (0, sealL b) := (Dk.readR_at (i := 1) (F := ⟨1, sealL b, (sealL b).length⟩) (o := 0) (m := b.length + 4) hm.up (by simp [hnm, aget]) hfs (by show 0 + (b.length + 4) ≤ (sealL b).length; omega)).trans (by rw [show (0 : Nat) + (b.length + 4) = (sealL b).length by omega]; simp)
          refine cw_skip ?_
          refine cw_seq ?_
          refine cw_seq ?_
          refine cw_region ?_
          first | refine lw_val rfl (run_move (v := errV ad _) rfl) ?_ | refine lw_val rfl (run_move (v := .nilIface) rfl) ?_ | refine lw_val rfl (run_move (v := eV ad _ _) rfl) ?_ | refine lw_val rfl (run_move (v := .iface _ (.pointer (some _))) rfl) ?_
          first | refine lw_val rfl (run_neerrn (ad := ad) rfl) ?_ | refine lw_val rfl (run_nenn rfl) ?_ | refine lw_val rfl (run_neE (ad := ad) rfl) ?_
          first | refine lw_val rfl (run_move (v := .bool _) rfl) ?_
          refine lw_on rfl rfl (rfl) ?_
          first | refine lw_val rfl (run_move (v := .pointer (some _)) rfl) ?_ | refine lw_val rfl (run_move (v := .pointer none) rfl) ?_
          refine lw_on rfl rfl (rfl) ?_
          refine lw_call rfl en44 (list_sl hs (fun x hx => by rw [hkn] at hx; simp at hx; rw [hx]; omega) (by rw [hnm]; simp)) ?_
          clear hs
          rintro _ w ⟨a66, c66, rfl, hs⟩
          rw [hkn, sortT_one] at hs ⊢
          refine lw_on rfl rfl (rfl) ?_
          first | refine lw_val rfl (run_move (v := .string _) rfl) ?_
          refine lw_on rfl rfl (rfl) ?_
          refine lw_buildSlice hs rfl ([Value.string n]) Tryd.underlying69 zs9 rfl (by simp [Value.cells]) rfl rfl rfl ?_
          clear hs
          intro b68 w hs
          try simp only [List.set_cons_succ, List.set_cons_zero] at hs
          refine lw_on rfl rfl (rfl) ?_
          refine lw_call rfl en45 (sameT_sl hs (la := [n]) (lb := [n]) (hs.rdOwn 1 rfl) (Rd.cells (n := 1) 0 rfl rfl) rfl rfl (by simp)) ?_
          clear hs
          rintro _ w ⟨rfl, hs⟩
          refine lw_on rfl rfl (rfl) ?_
          refine lw_val rfl (run_not rfl) ?_
          first | refine lw_val rfl (run_pickF (v := .bool _) rfl (rfl) rfl) ?_
          refine lw_nil ?_
          refine cw_iff rfl (not_f (decide_eq_true rfl)) ?_
          refine cw_skip ?_
          refine cw_seq ?_
          refine cw_region ?_
          first | refine lw_val rfl (run_move (v := .pointer (some _)) rfl) ?_ | refine lw_val rfl (run_move (v := .pointer none) rfl) ?_
          first | refine lw_val rfl (run_move (v := .string _) rfl) ?_
          first | refine lw_val rfl (run_move (v := .slice _ _ _) rfl) ?_
          refine lw_val rfl (run_lenS Tryd.underlying23 rfl) ?_
          refine lw_val rfl (run_add64 rfl rfl (c := ((b.length + 4 : Nat) : Int)) (by omega) (inI (by omega) (by omega))) ?_
          refine lw_call rfl en37 (read_sl (d := e) (L := cells _ _ _ :: own _ _ :: []) hE (hs.arr [2, 0, 1] 3 (by decide)) n (off := 0) (m := ((b.length + 4 : Nat) : Int)) (inI (by decide) (by decide)) (inI (by omega) (by omega)) hrd) ?_
          clear hs
          rintro _ w ⟨ar, cr, rfl, hs⟩
          first | refine lw_val rfl (run_move (v := .tuple _) rfl) ?_
          first | refine lw_val rfl (run_extract (v := .slice _ _ _) rfl rfl) ?_
          first | refine lw_val rfl (run_extract (v := errV ad _) rfl rfl) ?_ | refine lw_val rfl (run_extract (v := .nilIface) rfl rfl) ?_ | refine lw_val rfl (run_extract (v := eV ad _ _) rfl rfl) ?_ | refine lw_val rfl (run_extract (v := .iface _ (.pointer (some _))) rfl rfl) ?_
          first | refine lw_val rfl (run_assign (v := .slice _ _ _) rfl) ?_
          first | refine lw_val rfl (run_assign (v := errV ad _) rfl) ?_ | refine lw_val rfl (run_assign (v := .nilIface) rfl) ?_ | refine lw_val rfl (run_assign (v := eV ad _ _) rfl) ?_ | refine lw_val rfl (run_assign (v := .iface _ (.pointer (some _))) rfl) ?_
          refine lw_nil ?_
          refine cw_seq ?_
          refine cw_seq ?_
          refine cw_region ?_
          first | refine lw_val rfl (run_move (v := errV ad _) rfl) ?_ | refine lw_val rfl (run_move (v := .nilIface) rfl) ?_ | refine lw_val rfl (run_move (v := eV ad _ _) rfl) ?_ | refine lw_val rfl (run_move (v := .iface _ (.pointer (some _))) rfl) ?_
          first | refine lw_val rfl (run_neerrn (ad := ad) rfl) ?_ | refine lw_val rfl (run_nenn rfl) ?_ | refine lw_val rfl (run_neE (ad := ad) rfl) ?_
          first | refine lw_val rfl (run_move (v := .bool _) rfl) ?_
          refine lw_on rfl rfl (rfl) ?_
          first | refine lw_val rfl (run_move (v := .slice _ _ _) rfl) ?_
          refine lw_on rfl rfl (rfl) ?_
          first | refine lw_val rfl (run_move (v := .slice _ _ _) rfl) ?_
          refine lw_on rfl rfl (rfl) ?_
          refine lw_call rfl en46 (rseal_sl hs (h1.rd _) rfl (by omega)) ?_
          clear hs
          rintro _ w ⟨a86, c86, rfl, hs⟩
          refine lw_on rfl rfl (rfl) ?_
          refine lw_call rfl en22 (sameB_sl hs (la := sealL b) (lb := sealL b) (hs.rdOwn 1 rfl) (hs.rdOwn 0 rfl) rfl rfl (by omega)) ?_
          clear hs
          rintro _ w ⟨rfl, hs⟩
          refine lw_on rfl rfl (rfl) ?_
          refine lw_val rfl (run_not rfl) ?_
          first | refine lw_val rfl (run_pickF (v := .bool _) rfl (rfl) rfl) ?_
          refine lw_nil ?_
          refine cw_iff rfl (not_f (decide_eq_true rfl)) ?_
          refine cw_skip ?_
          refine cw_seq ?_
          obtain ⟨br, or_, rfl, _⟩ := hs.ownCells 1 rfl (by rw [bytesL_len]; omega)
          refine cw_region ?_
          first | refine lw_val rfl (run_move (v := .slice _ _ _) rfl) ?_
          first | refine lw_val rfl (run_move (v := .int .i64 _) rfl) ?_
          first | refine lw_val rfl (run_move (v := .slice _ _ _) rfl) ?_
          refine lw_val rfl (run_lenS Tryd.underlying23 rfl) ?_
          refine lw_call rfl en40 (number_sl hs at_ ((sealL b).length : Nat) (by omega)) ?_
          clear hs
          rintro _ w ⟨r, hr, rfl, hs⟩
          obtain ⟨u, hu⟩ : ∃ u, (sealL b)[r]? = some u := ⟨_, List.getElem?_eq_getElem (by omega)⟩
          obtain ⟨u2, hu2, hux⟩ := xor1 u
          obtain ⟨e2, e3, hcut, happ, hpr, hc2, hc3⟩ := pz_facts (x := (sealL b).set r u2) hm.up (hm.arm rfl) hm.room hnm hfs (by rw [List.length_set]; omega)
          refine lw_val rfl (run_indexAddr Tryd.underlying23 sz5 rfl rfl rfl (by omega) rfl) ?_
          refine lw_val rfl (run_load Tryd.underlying5 rfl rfl (hs.ownAt 1 rfl (bytesL_at hu))) ?_
          refine lw_val rfl (run_bits (by simp) rfl rfl (v := .int .u8 ((u2.toNat : Nat) : Int)) (by rw [← hux]; rfl)) ?_
          refine lw_val rfl (run_indexAddr Tryd.underlying23 sz5 rfl rfl rfl (by omega) rfl) ?_
          refine lw_storeOwn (j := r) (v := .int .u8 ((u2.toNat : Nat) : Int)) hs 1 rfl sz5 rfl rfl (by rw [bytesL_len]; omega) rfl rfl ?_
          clear hs
          intro w hs
          simp only [List.set_cons_succ, List.set_cons_zero] at hs
          rw [show (bytesL (sealL b)).set r (.int .u8 ((u2.toNat : Nat) : Int)) = bytesL ((sealL b).set r u2) by rw [bytesL, bytesL, List.map_set]; rfl] at hs
          refine lw_nil ?_
          refine cw_seq ?_
          refine cw_seq ?_
          refine cw_region ?_
          first | refine lw_val rfl (run_move (v := .pointer (some _)) rfl) ?_ | refine lw_val rfl (run_move (v := .pointer none) rfl) ?_
          first | refine lw_val rfl (run_move (v := .string _) rfl) ?_
          refine lw_call rfl en47 (cut_sl (d := e) (L := own _ _ :: own _ _ :: _) hE (hs.arr [2, 0, 1] 3 (by decide)) (by omega) n (m := 0) (inI (by decide) (by decide)) hcut) ?_
          clear hs
          rintro _ w ⟨rfl, hs⟩
          first | refine lw_val rfl (run_neerrn (ad := ad) rfl) ?_ | refine lw_val rfl (run_nenn rfl) ?_ | refine lw_val rfl (run_neE (ad := ad) rfl) ?_
          first | refine lw_val rfl (run_move (v := .bool _) rfl) ?_
          refine lw_on rfl rfl (rfl) ?_
          first | refine lw_val rfl (run_move (v := .pointer (some _)) rfl) ?_ | refine lw_val rfl (run_move (v := .pointer none) rfl) ?_
          refine lw_on rfl rfl (rfl) ?_
          first | refine lw_val rfl (run_move (v := .string _) rfl) ?_
          refine lw_on rfl rfl (rfl) ?_
          first | refine lw_val rfl (run_move (v := .slice _ _ _) rfl) ?_
          refine lw_on rfl rfl (rfl) ?_
          refine lw_call rfl en30 (append_sl hE hs (by omega) n (x := (sealL b).set r u2) (Rd.own 1 rfl) (by rw [List.length_set]) (by rw [List.length_set]; omega) happ) ?_
          clear hs
          rintro _ w ⟨rfl, hs⟩
          refine lw_on rfl rfl (rfl) ?_
          first | refine lw_val rfl (run_neerrn (ad := ad) rfl) ?_ | refine lw_val rfl (run_nenn rfl) ?_ | refine lw_val rfl (run_neE (ad := ad) rfl) ?_
          first | refine lw_val rfl (run_pickF (v := .bool _) rfl (rfl) rfl) ?_
          refine lw_nil ?_
          refine cw_iff rfl (rfl) ?_
          refine cw_skip ?_
          refine cw_seq ?_
          refine cw_region ?_
          first | refine lw_val rfl (run_move (v := .pointer (some _)) rfl) ?_ | refine lw_val rfl (run_move (v := .pointer none) rfl) ?_
          first | refine lw_val rfl (run_move (v := .string _) rfl) ?_
          refine lw_call rfl en31 (pread_sl hP hs n (hpr.trans (open_spoilt (by omega) (by rw [hu]; simp; exact fun h => hu2 h.symm)))) ?_
          clear hs
          rintro _ w ⟨a113, c113, rfl, hs⟩
          first | refine lw_val rfl (run_move (v := .tuple _) rfl) ?_
          first | refine lw_val rfl (run_extract (v := .slice _ _ _) rfl rfl) ?_
          first | refine lw_val rfl (run_extract (v := errV ad _) rfl rfl) ?_ | refine lw_val rfl (run_extract (v := .nilIface) rfl rfl) ?_ | refine lw_val rfl (run_extract (v := eV ad _ _) rfl rfl) ?_ | refine lw_val rfl (run_extract (v := .iface _ (.pointer (some _))) rfl rfl) ?_
          first | refine lw_val rfl (run_assign (v := .slice _ _ _) rfl) ?_
          first | refine lw_val rfl (run_assign (v := errV ad _) rfl) ?_ | refine lw_val rfl (run_assign (v := .nilIface) rfl) ?_ | refine lw_val rfl (run_assign (v := eV ad _ _) rfl) ?_ | refine lw_val rfl (run_assign (v := .iface _ (.pointer (some _))) rfl) ?_
          refine lw_nil ?_
          refine cw_seq ?_
          refine cw_region ?_
          first | refine lw_val rfl (run_move (v := errV ad _) rfl) ?_ | refine lw_val rfl (run_move (v := .nilIface) rfl) ?_ | refine lw_val rfl (run_move (v := eV ad _ _) rfl) ?_ | refine lw_val rfl (run_move (v := .iface _ (.pointer (some _))) rfl) ?_
          refine lw_call rfl en34 (isA_sl hA hs (d := 102) (by decide) 102) ?_
          clear hs
          rintro _ w ⟨rfl, hs⟩
          first | refine lw_val rfl (run_assign (v := .bool _) rfl) ?_
          refine lw_nil ?_
          refine cw_ret ?_
          refine res1 (v := .bool _) rfl rfl ?_
          exact ⟨_, rfl, ret_b (by rfl), hs.nil⟩
end Go.Proofs.YtmnfehbnjgmgjaaDoor
