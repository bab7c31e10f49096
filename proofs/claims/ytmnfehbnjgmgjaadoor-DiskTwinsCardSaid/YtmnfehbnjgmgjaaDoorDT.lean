/- The law DiskTwins: two disks that are asked the same are the same, whatever is asked of a copy. -/
import Derived.Test.YtmnfehbnjgmgjaaDoorDq
import Derived.Test.YtmnfehbnjgmgjaaDoorDf
import Derived.Test.YtmnfehbnjgmgjaaDoorDl
import Derived.Test.YtmnfehbnjgmgjaaDoorZd
namespace Go.Proofs.YtmnfehbnjgmgjaaDoor
set_option linter.all false
open Go.RowKit
attribute [local irreducible] errV
variable {g w : World} {L M : List HP} {ad : Nat → Addr} {p : Nat} {d e : Dk}

theorem twApp_keys {c : Chg} {l : List (ByteArray × Nat)} {n : ByteArray} (h : n ∈ keysOf (c.app l)) : n ∈ keysOf l ∨ n = c.name := by
  obtain ⟨v, hv⟩ := aget_of_key h
  have hm := aget_mem hv
  have h1 : ∀ x ∈ (if c.gone = ByteArray.empty then l else adel l c.gone), x.1 ∈ keysOf l := by
    split
    · exact fun x hx => List.mem_map_of_mem hx
    · exact fun x hx => List.mem_map_of_mem (adel_in hx)
  unfold Chg.app at hm
  cases hf : c.f with
  | none => rw [hf] at hm; exact .inl (h1 _ hm)
  | some i =>
    rw [hf] at hm
    rcases aput_in hm with e1 | hm
    · exact .inr (congrArg Prod.fst e1)
    · exact .inl (h1 _ hm)
theorem twAll_keys : ∀ {cs : List Chg} {l : List (ByteArray × Nat)} {n : ByteArray}, n ∈ keysOf (applyAll l cs) → n ∈ keysOf l ∨ ∃ c ∈ cs, n = c.name
  | [], _, _, h => .inl h
  | c :: cs, l, n, h => by
    rcases twAll_keys (cs := cs) (l := c.app l) h with h | ⟨c', hc, e1⟩
    · rcases twApp_keys h with h | h
      · exact .inl h
      · exact .inr ⟨c, List.mem_cons_self .., h⟩
    · exact .inr ⟨c', List.mem_cons_of_mem _ hc, e1⟩
structure TwI (k : Nat) (d : Dk) : Prop where
  calls : d.calls ≤ k
  nm : ∀ x ∈ keysOf d.names, x.size ≤ 10
  kp : ∀ x ∈ keysOf d.kept, x.size ≤ 10
  ch : ∀ c ∈ d.changes, c.name.size ≤ 10
variable {k : Nat}
theorem TwI.more (h : TwI k d) : TwI (k + 1) d := ⟨by have := h.calls; omega, h.nm, h.kp, h.ch⟩
theorem TwI.begin (h : TwI k d) : TwI k d.begin.2 := by
  obtain ⟨h1, h2, h3, h4, h5, h6, h7, h8⟩ := d.begin_same
  exact ⟨by rw [h7]; exact h.calls, by rw [h2]; exact h.nm, by rw [h3]; exact h.kp, by rw [h4]; exact h.ch⟩
theorem TwI.change (h : TwI k d) {c : Chg} (hc : c.name.size ≤ 10) : TwI (k + 1) (d.change c) := by
  refine ⟨?_, fun x hx => ?_, h.kp, fun x hx => ?_⟩
  · show d.calls + 1 ≤ k + 1
    have := h.calls; omega
  · have hx : x ∈ keysOf (c.app d.names) := hx
    rcases twApp_keys hx with hx | rfl
    · exact h.nm x hx
    · exact hc
  · have hx : x ∈ d.changes ++ [c] := hx
    rcases List.mem_append.1 hx with hx | hx
    · exact h.ch x hx
    · simp only [List.mem_cons, List.not_mem_nil, or_false] at hx; subst hx; exact hc
theorem find_begin (n : ByteArray) (d : Dk) : (d.find n).2.2 = d.begin.2 := by unfold Dk.find; split <;> rfl
theorem TwI.same (h : TwI k d) (h1 : e.calls ≤ d.calls + 1) (h2 : e.names = d.names) (h3 : e.kept = d.kept) (h4 : e.changes = d.changes) : TwI (k + 1) e := ⟨by have := h.calls; omega, by rw [h2]; exact h.nm, by rw [h3]; exact h.kp, by rw [h4]; exact h.ch⟩
theorem TwI.create (h : TwI k d) {n : ByteArray} (hn : n.size ≤ 10) : TwI (k + 1) (d.create n).2 := by
  unfold Dk.create
  have hb := h.begin
  split
  · exact hb.more
  · simp only
    split
    · exact hb.more
    · split
      · exact hb.more
      · exact TwI.change (d := { d.begin.2 with files := d.begin.2.files + 1, fs := d.begin.2.fs ++ [(d.begin.2.files + 1, ⟨d.begin.2.files + 1, [], 0⟩)] }) ⟨hb.calls, hb.nm, hb.kp, hb.ch⟩ hn
theorem TwI.append (h : TwI k d) (n : ByteArray) (b : List UInt8) : TwI (k + 1) (d.append n b).2 := by
  have hb := h.begin
  rw [← find_begin n d] at hb
  unfold Dk.append
  split
  · rename_i c i d1 he
    rw [he] at hb
    split
    · exact hb.more
    · exact hb.same (Nat.le_refl _) rfl rfl rfl
  · rename_i c d1 he
    rw [he] at hb
    exact hb.more
theorem TwI.sync (h : TwI k d) (n : ByteArray) : TwI (k + 1) (d.sync n).2 := by
  have hb := h.begin
  rw [← find_begin n d] at hb
  unfold Dk.sync
  split
  · rename_i c i d1 he
    rw [he] at hb
    exact hb.same (Nat.le_refl _) rfl rfl rfl
  · rename_i c d1 he
    rw [he] at hb
    exact hb.more
theorem TwI.syncDir (h : TwI k d) : TwI (k + 1) d.syncDir.2 := by
  have hb := h.begin
  unfold Dk.syncDir
  split
  · exact hb.more
  · exact ⟨by show d.begin.2.calls + 1 ≤ k + 1; have := hb.calls; omega, hb.nm, hb.nm, fun c hc => by cases hc⟩
theorem TwI.crash (h : TwI k d) (picks : List Int) : TwI k (d.crash picks) := by
  have h1 : ∀ x ∈ keysOf (applyAll d.kept (d.changes.take (pickN picks 0 d.changes.length))), x.size ≤ 10 := fun x hx => by
    rcases twAll_keys hx with hx | ⟨c, hc, rfl⟩
    · exact h.kp x hx
    · exact h.ch c (List.mem_of_mem_take hc)
  exact ⟨h.calls, h1, h1, fun c hc => by simp [Dk.crash] at hc⟩
theorem remove_calls (n : ByteArray) (d : Dk) : (d.remove n).2.calls ≤ d.calls + 1 := by
  have h1 := find_begin n d
  have h2 := d.begin_same.2.2.2.2.2.2.1
  unfold Dk.remove
  split
  · rename_i c i d1 he
    rw [he] at h1
    show d1.calls + 1 ≤ _
    rw [show d1 = d.begin.2 from h1, h2]
    exact Nat.le_refl _
  · rename_i c d1 he
    rw [he] at h1
    show d1.calls ≤ _
    rw [show d1 = d.begin.2 from h1, h2]
    exact Nat.le_succ _
theorem tw_letter : ∀ r < 3, (nm1 (UInt8.ofNat (97 + r))).size ≤ 10 := by decide +kernel
/-- What a number asks of a disk. -/
def twN (z : Int) : ByteArray := nm1 (UInt8.ofNat (97 + (z % (3 : Nat)).toNat))
def twD (q : Nat) (z : Int) (d : Dk) : Dk := if q = 0 then (d.create (twN z)).2 else if q = 1 ∨ q = 2 then (d.append (twN z) (List.replicate (z % (40 : Nat)).toNat 0)).2 else if q = 3 then (d.sync (twN z)).2 else d.syncDir.2
theorem TwI.twD (h : TwI k d) (q : Nat) (z : Int) : TwI (k + 1) (twD q z d) := by
  have h3 := Int.emod_lt_of_pos z (show (0 : Int) < (3 : Nat) by decide)
  have h4 := Int.emod_nonneg z (show ((3 : Nat) : Int) ≠ 0 by decide)
  unfold Go.Proofs.YtmnfehbnjgmgjaaDoor.twD
  split
  · exact h.create (tw_letter _ (by omega))
  · split
    · exact h.append _ _
    · split
      · exact h.sync _
      · exact h.syncDir
theorem numT_sl (hs : Mem g w L) (n : Int) (b : Nat) (hb : 0 < b ∧ b < 1000) : Calls Tryd.prog 40 #[.int .i64 n, .int .i64 b] w (Ret fun v w' => v = .int .i64 (((n % (b : Int)).toNat : Nat) : Int) ∧ Mem g w' L) := by
  have h0 : (b : Int) ≠ 0 := by omega
  have h1 := Int.emod_nonneg n h0
  have h3 := Int.emod_lt_of_pos n (show (0 : Int) < b by omega)
  have h4 := Int.tmod_lt_of_pos n (show (0 : Int) < b by omega)
  have h5 : -(b : Int) < n.tmod b := by have h3 := Int.natAbs_tmod n (b : Int); have h4 := Nat.mod_lt n.natAbs (y := (b : Int).natAbs) (by omega); omega
  have he : n.tmod b < 0 → n.tmod b + b = n % (b : Int) := fun h => by
    have e1 : (n.tmod b + (b : Int) * 1) % b = n % b := by
      rw [Int.add_mul_emod_self_left]
      conv => rhs; rw [← Int.tmod_add_mul_tdiv n (b : Int)]
      rw [Int.add_mul_emod_self_left]
    rw [Int.mul_one, Int.emod_eq_of_lt (by omega) (by omega)] at e1
    exact e1
  have hp : ¬ n.tmod b < 0 → n.tmod b = n % (b : Int) := fun h => by
    have e1 : n.tmod b % b = n % b := by
      conv => rhs; rw [← Int.tmod_add_mul_tdiv n (b : Int)]
      rw [Int.add_mul_emod_self_left]
    rw [Int.emod_eq_of_lt (by omega) (by omega)] at e1
    exact e1
  refine calls_cw Tryd.func40 rfl rfl ?_
  skip
  refine cw_seq ?_
  refine cw_region ?_
  first | refine lw_val rfl (run_assign (v := .int .i64 _) rfl) ?_
  refine lw_nil ?_
  refine cw_seq ?_
  refine cw_region ?_
  first | refine lw_val rfl (run_move (v := .int .i64 _) rfl) ?_
  first | refine lw_val rfl (run_move (v := .int .i64 _) rfl) ?_
  refine lw_val rfl (run_rem rfl rfl (by omega)) ?_
  first | refine lw_val rfl (run_assign (v := .int .i64 _) rfl) ?_
  refine lw_nil ?_
  refine cw_seq ?_
  refine cw_seq ?_
  refine cw_region ?_
  first | refine lw_val rfl (run_move (v := .int .i64 _) rfl) ?_
  refine lw_val rfl (run_lss rfl rfl) ?_
  refine lw_nil ?_
  refine cw_if rfl ?_ ?_
  · intro h10
    have g10 := of_decide_eq_true h10
    refine cw_region ?_
    first | refine lw_val rfl (run_move (v := .int .i64 _) rfl) ?_
    first | refine lw_val rfl (run_move (v := .int .i64 _) rfl) ?_
    refine lw_val rfl (run_add64 rfl rfl (c := n.tmod b + b) rfl (inI (by omega) (by omega))) ?_
    first | refine lw_val rfl (run_assign (v := .int .i64 _) rfl) ?_
    refine lw_nil ?_
    refine cw_seq ?_
    refine cw_region ?_
    first | refine lw_val rfl (run_move (v := .int .i64 _) rfl) ?_
    first | refine lw_val rfl (run_assign (v := .int .i64 _) rfl) ?_
    refine lw_nil ?_
    refine cw_ret ?_
    refine res1 (v := .int .i64 _) rfl rfl ?_
    exact ⟨_, rfl, by show Value.int .i64 (n.tmod b + b) = _; rw [he g10]; congr 1; omega, hs⟩
  · intro h10
    have g10 := of_decide_eq_false h10
    refine cw_skip ?_
    refine cw_seq ?_
    refine cw_region ?_
    first | refine lw_val rfl (run_move (v := .int .i64 _) rfl) ?_
    first | refine lw_val rfl (run_assign (v := .int .i64 _) rfl) ?_
    refine lw_nil ?_
    refine cw_ret ?_
    refine res1 (v := .int .i64 _) rfl rfl ?_
    exact ⟨_, rfl, by show Value.int .i64 (n.tmod b) = _; rw [hp g10]; congr 1; omega, hs⟩
set_option maxRecDepth 100000 in
set_option maxHeartbeats 8000000 in
theorem diskTwins_sl (hE : ErrK ad g) (hs : Mem g w []) {a0 a1 : Option Addr} {n0 n1 c0 c1 : Nat} {l picks : List Int} (h0 : Came g (.slice a0 n0 c0) (intsL l)) (e0 : n0 = l.length) (h1 : Came g (.slice a1 n1 c1) (intsL picks)) (e1 : n1 = picks.length) : Calls Tryd.prog 12 #[.slice a0 n0 c0, .slice a1 n1 c1] w (Ret fun v w' => v = .bool true ∧ Mem g w' []) := by
  subst e0 e1
  refine calls_cw Tryd.func12 rfl rfl ?_
  skip
  refine cw_seq ?_
  refine cw_region ?_
  first | refine lw_val rfl (run_assign (v := .bool _) rfl) ?_
  refine lw_nil ?_
  refine cw_seq ?_
  refine cw_region ?_
  refine lw_call rfl en48 (first4_sl hE hs) ?_
  clear hs
  rintro _ w ⟨rfl, hs⟩
  first | refine lw_val rfl (run_assign (v := .bool _) rfl) ?_
  refine lw_nil ?_
  refine cw_seq ?_
  refine cw_seq ?_
  refine cw_region ?_
  first | refine lw_val rfl (run_move (v := .bool _) rfl) ?_
  refine lw_val rfl (run_not rfl) ?_
  refine lw_nil ?_
  refine cw_iff rfl (not_f (rfl)) ?_
  refine cw_skip ?_
  refine cw_seq ?_
  refine cw_seq ?_
  refine cw_region ?_
  first | refine lw_val rfl (run_move (v := .slice _ _ _) rfl) ?_
  refine lw_val rfl (run_lenS Tryd.underlying63 rfl) ?_
  refine lw_val rfl (run_gtr rfl rfl) ?_
  first | refine lw_val rfl (run_move (v := .bool _) rfl) ?_
  refine lw_split (t := _) (d := 21) rfl ?_ ?_
  · intro h20
    have g20 := of_decide_eq_true h20
    refine lw_off rfl rfl rfl h20 ?_
    refine lw_off rfl rfl rfl h20 ?_
    refine lw_off rfl rfl rfl h20 ?_
    first | refine lw_val rfl (run_pickT (v := .bool _) rfl h20 rfl) ?_
    first | refine lw_val rfl (run_move (v := .bool _) rfl) ?_
    refine lw_off rfl rfl rfl rfl ?_
    refine lw_off rfl rfl rfl rfl ?_
    first | refine lw_val rfl (run_pickT (v := .bool _) rfl rfl rfl) ?_
    refine lw_nil ?_
    refine cw_ift rfl rfl ?_
    refine cw_seq ?_
    refine cw_region ?_
    first | refine lw_val rfl (run_move (v := .bool _) rfl) ?_
    first | refine lw_val rfl (run_assign (v := .bool _) rfl) ?_
    refine lw_nil ?_
    refine cw_ret ?_
    refine res1 (v := .bool _) rfl rfl ?_
    exact ⟨_, rfl, rfl, hs⟩
  · intro h20
    have g20 := of_decide_eq_false h20
    refine lw_on rfl rfl h20 ?_
    first | refine lw_val rfl (run_move (v := .slice _ _ _) rfl) ?_
    refine lw_on rfl rfl h20 ?_
    refine lw_val rfl (run_lenS Tryd.underlying63 rfl) ?_
    refine lw_on rfl rfl h20 ?_
    refine lw_val rfl (run_gtr rfl rfl) ?_
    first | refine lw_val rfl (run_pickF (v := .bool _) rfl h20 rfl) ?_
    first | refine lw_val rfl (run_move (v := .bool _) rfl) ?_
    refine lw_split (t := _) (d := 26) rfl ?_ ?_
    · intro h24
      have g24 := of_decide_eq_true h24
      refine lw_off rfl rfl rfl h24 ?_
      refine lw_off rfl rfl rfl h24 ?_
      first | refine lw_val rfl (run_pickT (v := .bool _) rfl h24 rfl) ?_
      refine lw_nil ?_
      refine cw_ift rfl rfl ?_
      refine cw_seq ?_
      refine cw_region ?_
      first | refine lw_val rfl (run_move (v := .bool _) rfl) ?_
      first | refine lw_val rfl (run_assign (v := .bool _) rfl) ?_
      refine lw_nil ?_
      refine cw_ret ?_
      refine res1 (v := .bool _) rfl rfl ?_
      exact ⟨_, rfl, rfl, hs⟩
    · intro h24
      have g24 := of_decide_eq_false h24
      refine lw_on rfl rfl h24 ?_
      first | refine lw_val rfl (run_move (v := .bool _) rfl) ?_
      refine lw_on rfl rfl h24 ?_
      refine lw_val rfl (run_not rfl) ?_
      first | refine lw_val rfl (run_pickF (v := .bool _) rfl h24 rfl) ?_
      refine lw_nil ?_
      refine cw_iff rfl (not_f (rfl)) ?_
      refine cw_skip ?_
      refine cw_seq ?_
      refine cw_region ?_
      refine lw_call rfl en26 (newd_sl hs (r := 300) (by decide) (by decide)) ?_
      clear hs
      rintro _ w ⟨pa, rfl, hs⟩
      first | refine lw_val rfl (run_move (v := .tuple _) rfl) ?_
      first | refine lw_val rfl (run_extract (v := .pointer (some _)) rfl rfl) ?_ | refine lw_val rfl (run_extract (v := .pointer none) rfl rfl) ?_
      first | refine lw_val rfl (run_extract (v := errV ad _) rfl rfl) ?_ | refine lw_val rfl (run_extract (v := .nilIface) rfl rfl) ?_ | refine lw_val rfl (run_extract (v := eV ad _ _) rfl rfl) ?_ | refine lw_val rfl (run_extract (v := .iface _ (.pointer (some _))) rfl rfl) ?_
      first | refine lw_val rfl (run_assign (v := .pointer (some _)) rfl) ?_ | refine lw_val rfl (run_assign (v := .pointer none) rfl) ?_
      first | refine lw_val rfl (run_assign (v := errV ad _) rfl) ?_ | refine lw_val rfl (run_assign (v := .nilIface) rfl) ?_ | refine lw_val rfl (run_assign (v := eV ad _ _) rfl) ?_ | refine lw_val rfl (run_assign (v := .iface _ (.pointer (some _))) rfl) ?_
      refine lw_nil ?_
      refine cw_seq ?_
      refine cw_region ?_
      refine lw_call rfl en26 (newd_sl hs (r := 300) (by decide) (by decide)) ?_
      clear hs
      rintro _ w ⟨pb, rfl, hs⟩
      replace hs := hs.arr [1, 0] 2 (by decide)
      first | refine lw_val rfl (run_move (v := .tuple _) rfl) ?_
      first | refine lw_val rfl (run_extract (v := .pointer (some _)) rfl rfl) ?_ | refine lw_val rfl (run_extract (v := .pointer none) rfl rfl) ?_
      first | refine lw_val rfl (run_extract (v := errV ad _) rfl rfl) ?_ | refine lw_val rfl (run_extract (v := .nilIface) rfl rfl) ?_ | refine lw_val rfl (run_extract (v := eV ad _ _) rfl rfl) ?_ | refine lw_val rfl (run_extract (v := .iface _ (.pointer (some _))) rfl rfl) ?_
      first | refine lw_val rfl (run_assign (v := .pointer (some _)) rfl) ?_ | refine lw_val rfl (run_assign (v := .pointer none) rfl) ?_
      first | refine lw_val rfl (run_assign (v := errV ad _) rfl) ?_ | refine lw_val rfl (run_assign (v := .nilIface) rfl) ?_ | refine lw_val rfl (run_assign (v := eV ad _ _) rfl) ?_ | refine lw_val rfl (run_assign (v := .iface _ (.pointer (some _))) rfl) ?_
      refine lw_nil ?_
      refine cw_seq ?_
      refine cw_seq ?_
      refine cw_region ?_
      first | refine lw_val rfl (run_move (v := .pointer (some _)) rfl) ?_ | refine lw_val rfl (run_move (v := .pointer none) rfl) ?_
      refine lw_val rfl (run_eqpn Tryd.underlying45 rfl rfl) ?_
      first | refine lw_val rfl (run_move (v := .bool _) rfl) ?_
      refine lw_on rfl rfl rfl ?_
      first | refine lw_val rfl (run_move (v := .pointer (some _)) rfl) ?_ | refine lw_val rfl (run_move (v := .pointer none) rfl) ?_
      refine lw_on rfl rfl rfl ?_
      refine lw_val rfl (run_eqpn Tryd.underlying45 rfl rfl) ?_
      first | refine lw_val rfl (run_pickF (v := .bool _) rfl rfl rfl) ?_
      first | refine lw_val rfl (run_move (v := .bool _) rfl) ?_
      refine lw_on rfl rfl rfl ?_
      first | refine lw_val rfl (run_move (v := errV ad _) rfl) ?_ | refine lw_val rfl (run_move (v := .nilIface) rfl) ?_ | refine lw_val rfl (run_move (v := eV ad _ _) rfl) ?_ | refine lw_val rfl (run_move (v := .iface _ (.pointer (some _))) rfl) ?_
      refine lw_on rfl rfl rfl ?_
      first | refine lw_val rfl (run_neerrn (ad := ad) rfl) ?_ | refine lw_val rfl (run_nenn rfl) ?_ | refine lw_val rfl (run_neE (ad := ad) rfl) ?_
      first | refine lw_val rfl (run_pickF (v := .bool _) rfl rfl rfl) ?_
      first | refine lw_val rfl (run_move (v := .bool _) rfl) ?_
      refine lw_on rfl rfl (rfl) ?_
      first | refine lw_val rfl (run_move (v := errV ad _) rfl) ?_ | refine lw_val rfl (run_move (v := .nilIface) rfl) ?_ | refine lw_val rfl (run_move (v := eV ad _ _) rfl) ?_ | refine lw_val rfl (run_move (v := .iface _ (.pointer (some _))) rfl) ?_
      refine lw_on rfl rfl (rfl) ?_
      first | refine lw_val rfl (run_neerrn (ad := ad) rfl) ?_ | refine lw_val rfl (run_nenn rfl) ?_ | refine lw_val rfl (run_neE (ad := ad) rfl) ?_
      first | refine lw_val rfl (run_pickF (v := .bool _) rfl (rfl) rfl) ?_
      refine lw_nil ?_
      refine cw_iff rfl (rfl) ?_
      refine cw_skip ?_
      refine cw_seq ?_
      refine cw_seq ?_
      refine cw_region ?_
      first | refine lw_val rfl (run_assign (v := .int .i64 _) rfl) ?_
      refine lw_nil ?_
      refine cw_block ?_
      refine cw_loop (X := Nat × Dk) [10, 11, 12, 13, 14, 53, 54, 55, 56, 57, 58, 59, 60, 61, 62, 63, 64, 65, 66, 67, 68, 69, 70, 71, 72, 73, 74, 75, 76, 77, 78, 79, 80, 81, 82, 83, 84, 85, 86, 87, 88, 89, 90, 91, 92, 93, 94, 95, 96, 97, 98, 99, 100, 101, 102, 103, 104, 105, 106, 107, 108, 109, 110, 111, 112, 113, 114, 115] (fun x => [(10, .int .i64 (x.1 : Nat))]) (fun x w => x.1 ≤ l.length ∧ TwI x.1 x.2 ∧ Mem g w [DiskC pa x.2, DiskC pb x.2]) (fun x => l.length - x.1) ((0, Dk.empty 300)) ?_ ?_ ?_
      · exact ⟨rfl, trivial⟩
      · exact ⟨Nat.zero_le _, ⟨Nat.le_refl _, fun x hx => by simp [Dk.empty, keysOf] at hx, fun x hx => by simp [Dk.empty, keysOf] at hx, fun c hc => by simp [Dk.empty] at hc⟩, hs⟩
      clear hs
      rintro x ξ w hI
      obtain ⟨i, d⟩ := x
      obtain ⟨hi, hI, hs⟩ := hI
      simp only at hi hI hs
      have hcl := hI.calls
      show cw _ _ _ _ _ _ (updL (mix _ ξ _) [(10, .int .i64 (i : Nat))]) w
      refine cw_seq ?_
      refine cw_seq ?_
      refine cw_region ?_
      first | refine lw_val rfl (run_move (v := .int .i64 _) rfl) ?_
      first | refine lw_val rfl (run_move (v := .slice _ _ _) rfl) ?_
      refine lw_val rfl (run_lenS Tryd.underlying63 rfl) ?_
      refine lw_val rfl (run_lss rfl rfl) ?_
      refine lw_nil ?_
      refine cw_if rfl ?_ ?_
      · intro h56
        have g56 := of_decide_eq_true h56
        obtain ⟨z, hz⟩ : ∃ z, l[i]? = some z := ⟨_, List.getElem?_eq_getElem (by omega)⟩
        obtain ⟨b1, o1, rfl, _⟩ := (h0.rd _).cells' hs (by rw [intsL_len]; omega)
        have hz3 := Int.emod_lt_of_pos z (show (0 : Int) < (3 : Nat) by decide)
        have hz4 := Int.emod_nonneg z (show ((3 : Nat) : Int) ≠ 0 by decide)
        have hz5 := Int.emod_lt_of_pos z (show (0 : Int) < (40 : Nat) by decide)
        have hz6 := Int.emod_nonneg z (show ((40 : Nat) : Int) ≠ 0 by decide)
        obtain ⟨q, hq⟩ : ∃ q, q = (IntKind.i64.wrap (z.tdiv 3) % ((5 : Nat) : Int)).toNat := ⟨_, rfl⟩
        obtain ⟨e, he⟩ : ∃ e, e = twD q z d := ⟨_, rfl⟩
        have hIe : TwI (i + 1) e := he ▸ hI.twD q z
        have hce := hIe.calls
        refine cw_skip ?_
        refine cw_seq ?_
        refine cw_block ?_
        refine cw_seq ?_
        refine cw_region ?_
        first | refine lw_val rfl (run_move (v := .slice _ _ _) rfl) ?_
        first | refine lw_val rfl (run_move (v := .int .i64 _) rfl) ?_
        refine lw_val rfl (run_indexAddr Tryd.underlying63 sz3 rfl rfl rfl (by omega) rfl) ?_
        refine lw_val rfl (run_load Tryd.underlying3 rfl rfl ((h0.rd _).cellAt hs (intsL_at hz))) ?_
        refine lw_call rfl en40 (numT_sl hs z 3 (by decide)) ?_
        clear hs
        rintro _ w ⟨rfl, hs⟩
        refine lw_val rfl (run_add64 rfl rfl (c := ((97 + (z % (3 : Nat)).toNat : Nat) : Int)) (by omega) (inI (by omega) (by omega))) ?_
        refine lw_val rfl (run_convIn Tryd.underlying3 Tryd.underlying5 rfl (c := (((UInt8.ofNat (97 + (z % (3 : Nat)).toNat)).toNat : Nat) : Int)) (wrapU8 (by omega))) ?_
        refine lw_buildSlice hs rfl ((bytesL [UInt8.ofNat (97 + (z % (3 : Nat)).toNat)])) Tryd.underlying23 zs5 rfl (cells_one (bytesL_one _)) rfl rfl rfl ?_
        clear hs
        intro b66 w hs
        try simp only [List.set_cons_succ, List.set_cons_zero] at hs
        refine lw_val rfl (run_bytesStr Tryd.underlying23 Tryd.underlying5 Tryd.underlying9 rfl (l := [UInt8.ofNat (97 + (z % (3 : Nat)).toNat)]) rfl (fun j v hj => by rw [Nat.zero_add]; exact hs.cellAt 0 rfl hj)) ?_
        replace hs := hs.tail
        first | refine lw_val rfl (run_assign (v := .string _) rfl) ?_
        refine lw_nil ?_
        refine cw_seq ?_
        refine cw_seq ?_
        refine cw_region ?_
        first | refine lw_val rfl (run_assign (v := .int .i64 _) rfl) ?_
        refine lw_nil ?_
        refine cw_block ?_
        refine cw_loop (X := Nat) [12, 13, 68, 69, 70, 71, 72, 73, 74, 75, 76, 77, 78, 79, 80, 81, 82, 83, 84, 85, 86, 87, 88, 89, 90, 91, 92, 93, 94, 95, 96, 97, 98, 99, 100, 101, 102, 103, 104, 105, 106, 107] (fun k => [(12, .int .i64 (k : Nat))]) (fun k w => k ≤ 2 ∧ Mem g w [DiskC pa (if 1 ≤ k then e else d), DiskC pb (if 2 ≤ k then e else d)]) (fun k => 2 - k) (0) ?_ ?_ ?_
        · exact ⟨rfl, trivial⟩
        · exact ⟨Nat.zero_le _, hs⟩
        clear hs
        rintro x ξ w hI
        obtain ⟨hk, hs⟩ := hI
        refine cw_seq ?_
        refine cw_seq ?_
        refine cw_region ?_
        first | refine lw_val rfl (run_move (v := .int .i64 _) rfl) ?_
        refine lw_val rfl (run_lss rfl rfl) ?_
        refine lw_nil ?_
        refine cw_if rfl ?_ ?_
        · intro h69
          have g69 := of_decide_eq_true h69
          refine cw_skip ?_
          refine cw_seq ?_
          refine cw_block ?_
          refine cw_seq ?_
          obtain rfl | rfl : x = 0 ∨ x = 1 := by omega
          · skip
            refine cw_region ?_
            first | refine lw_val rfl (run_move (v := .pointer (some _)) rfl) ?_ | refine lw_val rfl (run_move (v := .pointer none) rfl) ?_
            first | refine lw_val rfl (run_move (v := .pointer (some _)) rfl) ?_ | refine lw_val rfl (run_move (v := .pointer none) rfl) ?_
            refine lw_buildSlice hs rfl ([.pointer (some ⟨pa, 0, none⟩), .pointer (some ⟨pb, 0, none⟩)]) Tryd.underlying90 zs45 rfl (by simp [Value.cells]) rfl rfl rfl ?_
            clear hs
            intro b74 w hs
            try simp only [List.set_cons_succ, List.set_cons_zero] at hs
            first | refine lw_val rfl (run_move (v := .int .i64 _) rfl) ?_
            refine lw_val rfl (run_indexAddr Tryd.underlying90 sz45 rfl rfl rfl (by omega) rfl) ?_
            first | refine lw_val rfl (run_load Tryd.underlying45 rfl rfl (hs.cellAt 0 rfl rfl)) ?_ | refine lw_val rfl (run_load Tryd.underlying45 rfl rfl (hs.cellAt 1 rfl rfl)) ?_ | refine lw_val rfl (run_load Tryd.underlying45 rfl rfl (hs.cellAt 2 rfl rfl)) ?_ | refine lw_val rfl (run_load Tryd.underlying45 rfl rfl (hs.cellAt 3 rfl rfl)) ?_ | refine lw_val rfl (run_load Tryd.underlying45 rfl rfl (hs.cellAt 4 rfl rfl)) ?_ | refine lw_val rfl (run_load Tryd.underlying45 rfl rfl (hs.cellAt 5 rfl rfl)) ?_ | refine lw_val rfl (run_load Tryd.underlying45 rfl rfl (hs.cellAt 6 rfl rfl)) ?_ | refine lw_val rfl (run_load Tryd.underlying45 rfl rfl (hs.cellAt 7 rfl rfl)) ?_ | refine lw_val rfl (run_load Tryd.underlying45 rfl rfl (hs.cellAt 8 rfl rfl)) ?_ | refine lw_val rfl (run_load Tryd.underlying45 rfl rfl (hs.cellAt 9 rfl rfl)) ?_ | refine lw_val rfl (run_load Tryd.underlying45 rfl rfl (hs.cellAt 10 rfl rfl)) ?_ | refine lw_val rfl (run_load Tryd.underlying45 rfl rfl (hs.cellAt 11 rfl rfl)) ?_ | refine lw_val rfl (run_load Tryd.underlying45 rfl rfl (hs.cellAt 12 rfl rfl)) ?_ | refine lw_val rfl (run_load Tryd.underlying45 rfl rfl (hs.cellAt 13 rfl rfl)) ?_
            first | refine lw_val rfl (run_assign (v := .pointer (some _)) rfl) ?_ | refine lw_val rfl (run_assign (v := .pointer none) rfl) ?_
            refine lw_nil ?_
            have hs : Mem g w [DiskC pa d, DiskC pb d] := hs.tail
            refine cw_seq ?_
            refine cw_region ?_
            first | refine lw_val rfl (run_move (v := .slice _ _ _) rfl) ?_
            first | refine lw_val rfl (run_move (v := .int .i64 _) rfl) ?_
            refine lw_val rfl (run_indexAddr Tryd.underlying63 sz3 rfl rfl rfl (by omega) rfl) ?_
            refine lw_val rfl (run_load Tryd.underlying3 rfl rfl ((h0.rd _).cellAt hs (intsL_at hz))) ?_
            refine lw_val rfl (run_quo rfl rfl (by decide)) ?_
            refine lw_call rfl en40 (numT_sl hs (IntKind.i64.wrap (z.tdiv 3)) 5 (by decide)) ?_
            clear hs
            rintro _ w ⟨rfl, hs⟩
            rw [← hq]
            refine lw_nil ?_
            refine cw_block ?_
            refine cw_seq ?_
            refine cw_region ?_
            refine lw_val rfl (run_eqi rfl rfl) ?_
            first | refine lw_val rfl (run_assign (v := .bool _) rfl) ?_
            refine lw_nil ?_
            refine cw_if rfl ?_ ?_
            · intro h87
              have g87 := of_decide_eq_true h87
              refine cw_region ?_
              first | refine lw_val rfl (run_move (v := .pointer (some _)) rfl) ?_ | refine lw_val rfl (run_move (v := .pointer none) rfl) ?_
              first | refine lw_val rfl (run_move (v := .string _) rfl) ?_
              refine lw_call rfl en29 (create_sl hE hs (by omega) (twN z) (k := (d.create (twN z)).1) (d2 := (d.create (twN z)).2) rfl) ?_
              clear hs
              rintro _ w ⟨rfl, hs⟩
              rw [show (d.create (twN z)).2 = e by rw [he, twD, if_pos (by omega)]] at hs
              refine lw_nil ?_
              refine cw_region ?_
              first | refine lw_val rfl (run_move (v := .int .i64 _) rfl) ?_
              refine lw_val rfl (run_add64 rfl rfl rfl (inI (by omega) (by omega))) ?_
              first | refine lw_val rfl (run_assign (v := .int .i64 _) rfl) ?_
              refine lw_nil ?_
              exact ⟨1, by omega, ⟨by omega, hs⟩, ⟨rfl, trivial⟩, by repeat (first | exact Out.mix _ _ _ | refine Out.updo rfl ?_ | refine Out.upd rfl ?_ | refine Out.mixIn rfl ?_)⟩
            · intro h87
              have g87 := of_decide_eq_false h87
              refine cw_seq ?_
              refine cw_seq ?_
              refine cw_region ?_
              refine lw_val rfl (run_eqi rfl rfl) ?_
              first | refine lw_val rfl (run_assign (v := .bool _) rfl) ?_
              refine lw_nil ?_
              refine cw_if rfl ?_ ?_
              · intro h92
                have g92 := of_decide_eq_true h92
                refine cw_skip ?_
                refine cw_ift rfl h92 ?_
                refine cw_region ?_
                first | refine lw_val rfl (run_move (v := .pointer (some _)) rfl) ?_ | refine lw_val rfl (run_move (v := .pointer none) rfl) ?_
                first | refine lw_val rfl (run_move (v := .string _) rfl) ?_
                first | refine lw_val rfl (run_move (v := .slice _ _ _) rfl) ?_
                first | refine lw_val rfl (run_move (v := .int .i64 _) rfl) ?_
                refine lw_val rfl (run_indexAddr Tryd.underlying63 sz3 rfl rfl rfl (by omega) rfl) ?_
                refine lw_val rfl (run_load Tryd.underlying3 rfl rfl ((h0.rd _).cellAt hs (intsL_at hz))) ?_
                refine lw_call rfl en40 (numT_sl hs z 40 (by decide)) ?_
                clear hs
                rintro _ w ⟨rfl, hs⟩
                refine lw_makeSlice hs rfl Tryd.underlying23 in5 rfl rfl rfl (l := (z % (40 : Nat)).toNat) (c := (z % (40 : Nat)).toNat) rfl rfl (by omega) (by omega) (by omega) ?_
                clear hs
                intro b101 w hs
                try simp only [List.set_cons_succ, List.set_cons_zero] at hs
                refine lw_call rfl en30 (append_sl (L := own _ _ :: [_]) hE (hs.arr [1, 0, 2] 3 (by decide)) (by omega) (twN z) (x := List.replicate (z % (40 : Nat)).toNat 0) (by have h := hs.rdOwn 0 rfl; exact Rd.own 0 (by simp [bytesL, u8v])) (by simp) (by simp; omega) (k := (d.append (twN z) (List.replicate (z % (40 : Nat)).toNat 0)).1) (d2 := (d.append (twN z) (List.replicate (z % (40 : Nat)).toNat 0)).2) rfl) ?_
                clear hs
                rintro _ w ⟨rfl, hs⟩
                replace hs := hs.drop 1
                rw [show (d.append (twN z) (List.replicate (z % (40 : Nat)).toNat 0)).2 = e by rw [he, twD, if_neg (by omega), if_pos (by omega)]] at hs
                refine lw_nil ?_
                refine cw_region ?_
                first | refine lw_val rfl (run_move (v := .int .i64 _) rfl) ?_
                refine lw_val rfl (run_add64 rfl rfl rfl (inI (by omega) (by omega))) ?_
                first | refine lw_val rfl (run_assign (v := .int .i64 _) rfl) ?_
                refine lw_nil ?_
                exact ⟨1, by omega, ⟨by omega, hs⟩, ⟨rfl, trivial⟩, by repeat (first | exact Out.mix _ _ _ | refine Out.updo rfl ?_ | refine Out.upd rfl ?_ | refine Out.mixIn rfl ?_)⟩
              · intro h92
                have g92 := of_decide_eq_false h92
                refine cw_region ?_
                refine lw_val rfl (run_eqi rfl rfl) ?_
                first | refine lw_val rfl (run_assign (v := .bool _) rfl) ?_
                refine lw_nil ?_
                refine cw_if rfl ?_ ?_
                · intro h93
                  have g93 := of_decide_eq_true h93
                  refine cw_region ?_
                  first | refine lw_val rfl (run_move (v := .pointer (some _)) rfl) ?_ | refine lw_val rfl (run_move (v := .pointer none) rfl) ?_
                  first | refine lw_val rfl (run_move (v := .string _) rfl) ?_
                  first | refine lw_val rfl (run_move (v := .slice _ _ _) rfl) ?_
                  first | refine lw_val rfl (run_move (v := .int .i64 _) rfl) ?_
                  refine lw_val rfl (run_indexAddr Tryd.underlying63 sz3 rfl rfl rfl (by omega) rfl) ?_
                  refine lw_val rfl (run_load Tryd.underlying3 rfl rfl ((h0.rd _).cellAt hs (intsL_at hz))) ?_
                  refine lw_call rfl en40 (numT_sl hs z 40 (by decide)) ?_
                  clear hs
                  rintro _ w ⟨rfl, hs⟩
                  refine lw_makeSlice hs rfl Tryd.underlying23 in5 rfl rfl rfl (l := (z % (40 : Nat)).toNat) (c := (z % (40 : Nat)).toNat) rfl rfl (by omega) (by omega) (by omega) ?_
                  clear hs
                  intro b101 w hs
                  try simp only [List.set_cons_succ, List.set_cons_zero] at hs
                  refine lw_call rfl en30 (append_sl (L := own _ _ :: [_]) hE (hs.arr [1, 0, 2] 3 (by decide)) (by omega) (twN z) (x := List.replicate (z % (40 : Nat)).toNat 0) (by have h := hs.rdOwn 0 rfl; exact Rd.own 0 (by simp [bytesL, u8v])) (by simp) (by simp; omega) (k := (d.append (twN z) (List.replicate (z % (40 : Nat)).toNat 0)).1) (d2 := (d.append (twN z) (List.replicate (z % (40 : Nat)).toNat 0)).2) rfl) ?_
                  clear hs
                  rintro _ w ⟨rfl, hs⟩
                  replace hs := hs.drop 1
                  rw [show (d.append (twN z) (List.replicate (z % (40 : Nat)).toNat 0)).2 = e by rw [he, twD, if_neg (by omega), if_pos (by omega)]] at hs
                  refine lw_nil ?_
                  refine cw_region ?_
                  first | refine lw_val rfl (run_move (v := .int .i64 _) rfl) ?_
                  refine lw_val rfl (run_add64 rfl rfl rfl (inI (by omega) (by omega))) ?_
                  first | refine lw_val rfl (run_assign (v := .int .i64 _) rfl) ?_
                  refine lw_nil ?_
                  exact ⟨1, by omega, ⟨by omega, hs⟩, ⟨rfl, trivial⟩, by repeat (first | exact Out.mix _ _ _ | refine Out.updo rfl ?_ | refine Out.upd rfl ?_ | refine Out.mixIn rfl ?_)⟩
                · intro h93
                  have g93 := of_decide_eq_false h93
                  refine cw_seq ?_
                  refine cw_region ?_
                  refine lw_val rfl (run_eqi rfl rfl) ?_
                  first | refine lw_val rfl (run_assign (v := .bool _) rfl) ?_
                  refine lw_nil ?_
                  refine cw_if rfl ?_ ?_
                  · intro h104
                    have g104 := of_decide_eq_true h104
                    refine cw_region ?_
                    first | refine lw_val rfl (run_move (v := .pointer (some _)) rfl) ?_ | refine lw_val rfl (run_move (v := .pointer none) rfl) ?_
                    first | refine lw_val rfl (run_move (v := .string _) rfl) ?_
                    refine lw_call rfl en51 (sync_sl hE hs (by omega) (twN z) (k := (d.sync (twN z)).1) (d2 := (d.sync (twN z)).2) rfl) ?_
                    clear hs
                    rintro _ w ⟨rfl, hs⟩
                    rw [show (d.sync (twN z)).2 = e by rw [he, twD, if_neg (by omega), if_neg (by omega), if_pos (by omega)]] at hs
                    refine lw_nil ?_
                    refine cw_region ?_
                    first | refine lw_val rfl (run_move (v := .int .i64 _) rfl) ?_
                    refine lw_val rfl (run_add64 rfl rfl rfl (inI (by omega) (by omega))) ?_
                    first | refine lw_val rfl (run_assign (v := .int .i64 _) rfl) ?_
                    refine lw_nil ?_
                    exact ⟨1, by omega, ⟨by omega, hs⟩, ⟨rfl, trivial⟩, by repeat (first | exact Out.mix _ _ _ | refine Out.updo rfl ?_ | refine Out.upd rfl ?_ | refine Out.mixIn rfl ?_)⟩
                  · intro h104
                    have g104 := of_decide_eq_false h104
                    refine cw_region ?_
                    first | refine lw_val rfl (run_move (v := .pointer (some _)) rfl) ?_ | refine lw_val rfl (run_move (v := .pointer none) rfl) ?_
                    refine lw_call rfl en52 (syncDir_sl hE hs (by omega) (k := d.syncDir.1) (d2 := d.syncDir.2) rfl) ?_
                    clear hs
                    rintro _ w ⟨rfl, hs⟩
                    rw [show d.syncDir.2 = e by rw [he, twD, if_neg (by omega), if_neg (by omega), if_neg (by omega)]] at hs
                    refine lw_nil ?_
                    refine cw_region ?_
                    first | refine lw_val rfl (run_move (v := .int .i64 _) rfl) ?_
                    refine lw_val rfl (run_add64 rfl rfl rfl (inI (by omega) (by omega))) ?_
                    first | refine lw_val rfl (run_assign (v := .int .i64 _) rfl) ?_
                    refine lw_nil ?_
                    exact ⟨1, by omega, ⟨by omega, hs⟩, ⟨rfl, trivial⟩, by repeat (first | exact Out.mix _ _ _ | refine Out.updo rfl ?_ | refine Out.upd rfl ?_ | refine Out.mixIn rfl ?_)⟩
          · skip
            refine cw_region ?_
            first | refine lw_val rfl (run_move (v := .pointer (some _)) rfl) ?_ | refine lw_val rfl (run_move (v := .pointer none) rfl) ?_
            first | refine lw_val rfl (run_move (v := .pointer (some _)) rfl) ?_ | refine lw_val rfl (run_move (v := .pointer none) rfl) ?_
            refine lw_buildSlice hs rfl ([.pointer (some ⟨pa, 0, none⟩), .pointer (some ⟨pb, 0, none⟩)]) Tryd.underlying90 zs45 rfl (by simp [Value.cells]) rfl rfl rfl ?_
            clear hs
            intro b74 w hs
            try simp only [List.set_cons_succ, List.set_cons_zero] at hs
            first | refine lw_val rfl (run_move (v := .int .i64 _) rfl) ?_
            refine lw_val rfl (run_indexAddr Tryd.underlying90 sz45 rfl rfl rfl (by omega) rfl) ?_
            first | refine lw_val rfl (run_load Tryd.underlying45 rfl rfl (hs.cellAt 0 rfl rfl)) ?_ | refine lw_val rfl (run_load Tryd.underlying45 rfl rfl (hs.cellAt 1 rfl rfl)) ?_ | refine lw_val rfl (run_load Tryd.underlying45 rfl rfl (hs.cellAt 2 rfl rfl)) ?_ | refine lw_val rfl (run_load Tryd.underlying45 rfl rfl (hs.cellAt 3 rfl rfl)) ?_ | refine lw_val rfl (run_load Tryd.underlying45 rfl rfl (hs.cellAt 4 rfl rfl)) ?_ | refine lw_val rfl (run_load Tryd.underlying45 rfl rfl (hs.cellAt 5 rfl rfl)) ?_ | refine lw_val rfl (run_load Tryd.underlying45 rfl rfl (hs.cellAt 6 rfl rfl)) ?_ | refine lw_val rfl (run_load Tryd.underlying45 rfl rfl (hs.cellAt 7 rfl rfl)) ?_ | refine lw_val rfl (run_load Tryd.underlying45 rfl rfl (hs.cellAt 8 rfl rfl)) ?_ | refine lw_val rfl (run_load Tryd.underlying45 rfl rfl (hs.cellAt 9 rfl rfl)) ?_ | refine lw_val rfl (run_load Tryd.underlying45 rfl rfl (hs.cellAt 10 rfl rfl)) ?_ | refine lw_val rfl (run_load Tryd.underlying45 rfl rfl (hs.cellAt 11 rfl rfl)) ?_ | refine lw_val rfl (run_load Tryd.underlying45 rfl rfl (hs.cellAt 12 rfl rfl)) ?_ | refine lw_val rfl (run_load Tryd.underlying45 rfl rfl (hs.cellAt 13 rfl rfl)) ?_
            first | refine lw_val rfl (run_assign (v := .pointer (some _)) rfl) ?_ | refine lw_val rfl (run_assign (v := .pointer none) rfl) ?_
            refine lw_nil ?_
            have hs : Mem g w [DiskC pb d, DiskC pa e] := hs.tail.arr [1, 0] 2 (by decide)
            refine cw_seq ?_
            refine cw_region ?_
            first | refine lw_val rfl (run_move (v := .slice _ _ _) rfl) ?_
            first | refine lw_val rfl (run_move (v := .int .i64 _) rfl) ?_
            refine lw_val rfl (run_indexAddr Tryd.underlying63 sz3 rfl rfl rfl (by omega) rfl) ?_
            refine lw_val rfl (run_load Tryd.underlying3 rfl rfl ((h0.rd _).cellAt hs (intsL_at hz))) ?_
            refine lw_val rfl (run_quo rfl rfl (by decide)) ?_
            refine lw_call rfl en40 (numT_sl hs (IntKind.i64.wrap (z.tdiv 3)) 5 (by decide)) ?_
            clear hs
            rintro _ w ⟨rfl, hs⟩
            rw [← hq]
            refine lw_nil ?_
            refine cw_block ?_
            refine cw_seq ?_
            refine cw_region ?_
            refine lw_val rfl (run_eqi rfl rfl) ?_
            first | refine lw_val rfl (run_assign (v := .bool _) rfl) ?_
            refine lw_nil ?_
            refine cw_if rfl ?_ ?_
            · intro h87
              have g87 := of_decide_eq_true h87
              refine cw_region ?_
              first | refine lw_val rfl (run_move (v := .pointer (some _)) rfl) ?_ | refine lw_val rfl (run_move (v := .pointer none) rfl) ?_
              first | refine lw_val rfl (run_move (v := .string _) rfl) ?_
              refine lw_call rfl en29 (create_sl hE hs (by omega) (twN z) (k := (d.create (twN z)).1) (d2 := (d.create (twN z)).2) rfl) ?_
              clear hs
              rintro _ w ⟨rfl, hs⟩
              rw [show (d.create (twN z)).2 = e by rw [he, twD, if_pos (by omega)]] at hs
              refine lw_nil ?_
              refine cw_region ?_
              first | refine lw_val rfl (run_move (v := .int .i64 _) rfl) ?_
              refine lw_val rfl (run_add64 rfl rfl rfl (inI (by omega) (by omega))) ?_
              first | refine lw_val rfl (run_assign (v := .int .i64 _) rfl) ?_
              refine lw_nil ?_
              exact ⟨2, by omega, ⟨by omega, hs.arr [1, 0] 2 (by decide)⟩, ⟨rfl, trivial⟩, by repeat (first | exact Out.mix _ _ _ | refine Out.updo rfl ?_ | refine Out.upd rfl ?_ | refine Out.mixIn rfl ?_)⟩
            · intro h87
              have g87 := of_decide_eq_false h87
              refine cw_seq ?_
              refine cw_seq ?_
              refine cw_region ?_
              refine lw_val rfl (run_eqi rfl rfl) ?_
              first | refine lw_val rfl (run_assign (v := .bool _) rfl) ?_
              refine lw_nil ?_
              refine cw_if rfl ?_ ?_
              · intro h92
                have g92 := of_decide_eq_true h92
                refine cw_skip ?_
                refine cw_ift rfl h92 ?_
                refine cw_region ?_
                first | refine lw_val rfl (run_move (v := .pointer (some _)) rfl) ?_ | refine lw_val rfl (run_move (v := .pointer none) rfl) ?_
                first | refine lw_val rfl (run_move (v := .string _) rfl) ?_
                first | refine lw_val rfl (run_move (v := .slice _ _ _) rfl) ?_
                first | refine lw_val rfl (run_move (v := .int .i64 _) rfl) ?_
                refine lw_val rfl (run_indexAddr Tryd.underlying63 sz3 rfl rfl rfl (by omega) rfl) ?_
                refine lw_val rfl (run_load Tryd.underlying3 rfl rfl ((h0.rd _).cellAt hs (intsL_at hz))) ?_
                refine lw_call rfl en40 (numT_sl hs z 40 (by decide)) ?_
                clear hs
                rintro _ w ⟨rfl, hs⟩
                refine lw_makeSlice hs rfl Tryd.underlying23 in5 rfl rfl rfl (l := (z % (40 : Nat)).toNat) (c := (z % (40 : Nat)).toNat) rfl rfl (by omega) (by omega) (by omega) ?_
                clear hs
                intro b101 w hs
                try simp only [List.set_cons_succ, List.set_cons_zero] at hs
                refine lw_call rfl en30 (append_sl (L := own _ _ :: [_]) hE (hs.arr [1, 0, 2] 3 (by decide)) (by omega) (twN z) (x := List.replicate (z % (40 : Nat)).toNat 0) (by have h := hs.rdOwn 0 rfl; exact Rd.own 0 (by simp [bytesL, u8v])) (by simp) (by simp; omega) (k := (d.append (twN z) (List.replicate (z % (40 : Nat)).toNat 0)).1) (d2 := (d.append (twN z) (List.replicate (z % (40 : Nat)).toNat 0)).2) rfl) ?_
                clear hs
                rintro _ w ⟨rfl, hs⟩
                replace hs := hs.drop 1
                rw [show (d.append (twN z) (List.replicate (z % (40 : Nat)).toNat 0)).2 = e by rw [he, twD, if_neg (by omega), if_pos (by omega)]] at hs
                refine lw_nil ?_
                refine cw_region ?_
                first | refine lw_val rfl (run_move (v := .int .i64 _) rfl) ?_
                refine lw_val rfl (run_add64 rfl rfl rfl (inI (by omega) (by omega))) ?_
                first | refine lw_val rfl (run_assign (v := .int .i64 _) rfl) ?_
                refine lw_nil ?_
                exact ⟨2, by omega, ⟨by omega, hs.arr [1, 0] 2 (by decide)⟩, ⟨rfl, trivial⟩, by repeat (first | exact Out.mix _ _ _ | refine Out.updo rfl ?_ | refine Out.upd rfl ?_ | refine Out.mixIn rfl ?_)⟩
              · intro h92
                have g92 := of_decide_eq_false h92
                refine cw_region ?_
                refine lw_val rfl (run_eqi rfl rfl) ?_
                first | refine lw_val rfl (run_assign (v := .bool _) rfl) ?_
                refine lw_nil ?_
                refine cw_if rfl ?_ ?_
                · intro h93
                  have g93 := of_decide_eq_true h93
                  refine cw_region ?_
                  first | refine lw_val rfl (run_move (v := .pointer (some _)) rfl) ?_ | refine lw_val rfl (run_move (v := .pointer none) rfl) ?_
                  first | refine lw_val rfl (run_move (v := .string _) rfl) ?_
                  first | refine lw_val rfl (run_move (v := .slice _ _ _) rfl) ?_
                  first | refine lw_val rfl (run_move (v := .int .i64 _) rfl) ?_
                  refine lw_val rfl (run_indexAddr Tryd.underlying63 sz3 rfl rfl rfl (by omega) rfl) ?_
                  refine lw_val rfl (run_load Tryd.underlying3 rfl rfl ((h0.rd _).cellAt hs (intsL_at hz))) ?_
                  refine lw_call rfl en40 (numT_sl hs z 40 (by decide)) ?_
                  clear hs
                  rintro _ w ⟨rfl, hs⟩
                  refine lw_makeSlice hs rfl Tryd.underlying23 in5 rfl rfl rfl (l := (z % (40 : Nat)).toNat) (c := (z % (40 : Nat)).toNat) rfl rfl (by omega) (by omega) (by omega) ?_
                  clear hs
                  intro b101 w hs
                  try simp only [List.set_cons_succ, List.set_cons_zero] at hs
                  refine lw_call rfl en30 (append_sl (L := own _ _ :: [_]) hE (hs.arr [1, 0, 2] 3 (by decide)) (by omega) (twN z) (x := List.replicate (z % (40 : Nat)).toNat 0) (by have h := hs.rdOwn 0 rfl; exact Rd.own 0 (by simp [bytesL, u8v])) (by simp) (by simp; omega) (k := (d.append (twN z) (List.replicate (z % (40 : Nat)).toNat 0)).1) (d2 := (d.append (twN z) (List.replicate (z % (40 : Nat)).toNat 0)).2) rfl) ?_
                  clear hs
                  rintro _ w ⟨rfl, hs⟩
                  replace hs := hs.drop 1
                  rw [show (d.append (twN z) (List.replicate (z % (40 : Nat)).toNat 0)).2 = e by rw [he, twD, if_neg (by omega), if_pos (by omega)]] at hs
                  refine lw_nil ?_
                  refine cw_region ?_
                  first | refine lw_val rfl (run_move (v := .int .i64 _) rfl) ?_
                  refine lw_val rfl (run_add64 rfl rfl rfl (inI (by omega) (by omega))) ?_
                  first | refine lw_val rfl (run_assign (v := .int .i64 _) rfl) ?_
                  refine lw_nil ?_
                  exact ⟨2, by omega, ⟨by omega, hs.arr [1, 0] 2 (by decide)⟩, ⟨rfl, trivial⟩, by repeat (first | exact Out.mix _ _ _ | refine Out.updo rfl ?_ | refine Out.upd rfl ?_ | refine Out.mixIn rfl ?_)⟩
                · intro h93
                  have g93 := of_decide_eq_false h93
                  refine cw_seq ?_
                  refine cw_region ?_
                  refine lw_val rfl (run_eqi rfl rfl) ?_
                  first | refine lw_val rfl (run_assign (v := .bool _) rfl) ?_
                  refine lw_nil ?_
                  refine cw_if rfl ?_ ?_
                  · intro h104
                    have g104 := of_decide_eq_true h104
                    refine cw_region ?_
                    first | refine lw_val rfl (run_move (v := .pointer (some _)) rfl) ?_ | refine lw_val rfl (run_move (v := .pointer none) rfl) ?_
                    first | refine lw_val rfl (run_move (v := .string _) rfl) ?_
                    refine lw_call rfl en51 (sync_sl hE hs (by omega) (twN z) (k := (d.sync (twN z)).1) (d2 := (d.sync (twN z)).2) rfl) ?_
                    clear hs
                    rintro _ w ⟨rfl, hs⟩
                    rw [show (d.sync (twN z)).2 = e by rw [he, twD, if_neg (by omega), if_neg (by omega), if_pos (by omega)]] at hs
                    refine lw_nil ?_
                    refine cw_region ?_
                    first | refine lw_val rfl (run_move (v := .int .i64 _) rfl) ?_
                    refine lw_val rfl (run_add64 rfl rfl rfl (inI (by omega) (by omega))) ?_
                    first | refine lw_val rfl (run_assign (v := .int .i64 _) rfl) ?_
                    refine lw_nil ?_
                    exact ⟨2, by omega, ⟨by omega, hs.arr [1, 0] 2 (by decide)⟩, ⟨rfl, trivial⟩, by repeat (first | exact Out.mix _ _ _ | refine Out.updo rfl ?_ | refine Out.upd rfl ?_ | refine Out.mixIn rfl ?_)⟩
                  · intro h104
                    have g104 := of_decide_eq_false h104
                    refine cw_region ?_
                    first | refine lw_val rfl (run_move (v := .pointer (some _)) rfl) ?_ | refine lw_val rfl (run_move (v := .pointer none) rfl) ?_
                    refine lw_call rfl en52 (syncDir_sl hE hs (by omega) (k := d.syncDir.1) (d2 := d.syncDir.2) rfl) ?_
                    clear hs
                    rintro _ w ⟨rfl, hs⟩
                    rw [show d.syncDir.2 = e by rw [he, twD, if_neg (by omega), if_neg (by omega), if_neg (by omega)]] at hs
                    refine lw_nil ?_
                    refine cw_region ?_
                    first | refine lw_val rfl (run_move (v := .int .i64 _) rfl) ?_
                    refine lw_val rfl (run_add64 rfl rfl rfl (inI (by omega) (by omega))) ?_
                    first | refine lw_val rfl (run_assign (v := .int .i64 _) rfl) ?_
                    refine lw_nil ?_
                    exact ⟨2, by omega, ⟨by omega, hs.arr [1, 0] 2 (by decide)⟩, ⟨rfl, trivial⟩, by repeat (first | exact Out.mix _ _ _ | refine Out.updo rfl ?_ | refine Out.upd rfl ?_ | refine Out.mixIn rfl ?_)⟩
        · intro h69
          have g69 := of_decide_eq_false h69
          obtain rfl : x = 2 := by omega
          replace hs : Mem g w [DiskC pa e, DiskC pb e] := hs
          refine cw_exit rfl ?_
          refine cw_seq ?_
          refine cw_region ?_
          first | refine lw_val rfl (run_move (v := .pointer (some _)) rfl) ?_ | refine lw_val rfl (run_move (v := .pointer none) rfl) ?_
          refine lw_call rfl en55 (dclone_sl (by omega) hs) ?_
          clear hs
          rintro _ w ⟨pc, c, rfl, hlk, hs⟩
          have hcc := hlk.calls
          have hrc := remove_calls (twN z) c
          first | refine lw_val rfl (run_assign (v := .pointer (some _)) rfl) ?_ | refine lw_val rfl (run_assign (v := .pointer none) rfl) ?_
          refine lw_nil ?_
          refine cw_seq ?_
          refine cw_region ?_
          first | refine lw_val rfl (run_move (v := .pointer (some _)) rfl) ?_ | refine lw_val rfl (run_move (v := .pointer none) rfl) ?_
          first | refine lw_val rfl (run_move (v := .string _) rfl) ?_
          refine lw_call rfl en49 (remove_sl hE hs (by omega) (twN z) (k := (c.remove (twN z)).1) (d2 := (c.remove (twN z)).2) rfl) ?_
          clear hs
          rintro _ w ⟨rfl, hs⟩
          refine lw_nil ?_
          refine cw_region ?_
          first | refine lw_val rfl (run_move (v := .pointer (some _)) rfl) ?_ | refine lw_val rfl (run_move (v := .pointer none) rfl) ?_
          first | refine lw_val rfl (run_move (v := .slice _ _ _) rfl) ?_
          refine lw_call rfl en42 (crash_sl hs (by omega) (picks := picks) (h1.rd _) rfl (by omega)) ?_
          clear hs
          rintro _ w ⟨rfl, hs⟩
          refine lw_nil ?_
          refine cw_region ?_
          first | refine lw_val rfl (run_move (v := .int .i64 _) rfl) ?_
          refine lw_val rfl (run_add64 rfl rfl rfl (inI (by omega) (by omega))) ?_
          first | refine lw_val rfl (run_assign (v := .int .i64 _) rfl) ?_
          refine lw_nil ?_
          exact ⟨(i + 1, e), by simp only; omega, ⟨by simp only; omega, hIe, hs.tail⟩, ⟨by simp only; rfl, trivial⟩, by repeat (first | exact Out.mix _ _ _ | refine Out.updo rfl ?_ | refine Out.upd rfl ?_ | refine Out.mixIn rfl ?_)⟩
      · intro h56
        have g56 := of_decide_eq_false h56
        have hIc := hI.crash picks
        have hcd := hIc.calls
        refine cw_exit rfl ?_
        refine cw_seq ?_
        refine cw_region ?_
        first | refine lw_val rfl (run_move (v := .pointer (some _)) rfl) ?_ | refine lw_val rfl (run_move (v := .pointer none) rfl) ?_
        first | refine lw_val rfl (run_move (v := .slice _ _ _) rfl) ?_
        refine lw_call rfl en42 (crash_sl hs (by omega) (picks := picks) (h1.rd _) rfl (by omega)) ?_
        clear hs
        rintro _ w ⟨rfl, hs⟩
        replace hs := hs.arr [1, 0] 2 (by decide)
        refine lw_nil ?_
        refine cw_seq ?_
        refine cw_region ?_
        first | refine lw_val rfl (run_move (v := .pointer (some _)) rfl) ?_ | refine lw_val rfl (run_move (v := .pointer none) rfl) ?_
        first | refine lw_val rfl (run_move (v := .slice _ _ _) rfl) ?_
        refine lw_call rfl en42 (crash_sl hs (by omega) (picks := picks) (h1.rd _) rfl (by omega)) ?_
        clear hs
        rintro _ w ⟨rfl, hs⟩
        replace hs := hs.arr [1, 0] 2 (by decide)
        obtain ⟨E, hE2⟩ : ∃ E, E = d.crash picks := ⟨_, rfl⟩
        rw [← hE2] at hs hIc hcd
        have hnl := hs.openD.1.nl
        refine lw_nil ?_
        refine cw_seq ?_
        refine cw_region ?_
        first | refine lw_val rfl (run_move (v := .pointer (some _)) rfl) ?_ | refine lw_val rfl (run_move (v := .pointer none) rfl) ?_
        refine lw_call rfl en44 (list_sl hs (fun x hx => by have := hIc.nm x hx; omega) (by omega)) ?_
        clear hs
        rintro _ w ⟨a123, c123, rfl, hs⟩
        replace hs := hs.arr [2, 0, 1] 3 (by decide)
        first | refine lw_val rfl (run_move (v := .pointer (some _)) rfl) ?_ | refine lw_val rfl (run_move (v := .pointer none) rfl) ?_
        refine lw_call rfl en44 (list_sl hs (fun x hx => by have := hIc.nm x hx; omega) (by omega)) ?_
        clear hs
        rintro _ w ⟨a125, c125, rfl, hs⟩
        refine lw_call rfl en45 (sameT_sl hs (la := sortT (keysOf E.names)) (lb := sortT (keysOf E.names)) (hs.rdOwn 2 rfl) (hs.rdOwn 0 rfl) rfl rfl (by rw [sortT_len]; simp [keysOf]; omega)) ?_
        clear hs
        rintro _ w ⟨rfl, hs⟩
        first | refine lw_val rfl (run_move (v := .bool _) rfl) ?_
        refine lw_on rfl rfl (decide_eq_true rfl) ?_
        first | refine lw_val rfl (run_move (v := .pointer (some _)) rfl) ?_ | refine lw_val rfl (run_move (v := .pointer none) rfl) ?_
        refine lw_on rfl rfl (decide_eq_true rfl) ?_
        refine lw_call rfl en53 (used_sl (d := E) (hs.arr [3, 0, 1, 2] 4 (by decide)) (by omega)) ?_
        clear hs
        rintro _ w ⟨rfl, hs⟩
        refine lw_on rfl rfl (decide_eq_true rfl) ?_
        first | refine lw_val rfl (run_move (v := .pointer (some _)) rfl) ?_ | refine lw_val rfl (run_move (v := .pointer none) rfl) ?_
        refine lw_on rfl rfl (decide_eq_true rfl) ?_
        refine lw_call rfl en53 (used_sl (d := E) (hs.arr [2, 0, 1, 3] 4 (by decide)) (by omega)) ?_
        clear hs
        rintro _ w ⟨rfl, hs⟩
        refine lw_on rfl rfl (decide_eq_true rfl) ?_
        refine lw_val rfl (run_eqi rfl rfl) ?_
        first | refine lw_val rfl (run_pickT (v := .bool _) rfl (decide_eq_true rfl) rfl) ?_
        first | refine lw_val rfl (run_move (v := .bool _) rfl) ?_
        refine lw_on rfl rfl (decide_eq_true rfl) ?_
        first | refine lw_val rfl (run_move (v := .pointer (some _)) rfl) ?_ | refine lw_val rfl (run_move (v := .pointer none) rfl) ?_
        refine lw_on rfl rfl (decide_eq_true rfl) ?_
        refine lw_call rfl en56 (dcalls_sl (d := E) (hs.arr [1, 0, 2, 3] 4 (by decide))) ?_
        clear hs
        rintro _ w ⟨rfl, hs⟩
        refine lw_on rfl rfl (decide_eq_true rfl) ?_
        first | refine lw_val rfl (run_move (v := .pointer (some _)) rfl) ?_ | refine lw_val rfl (run_move (v := .pointer none) rfl) ?_
        refine lw_on rfl rfl (decide_eq_true rfl) ?_
        refine lw_call rfl en56 (dcalls_sl (d := E) (hs.arr [1, 0, 2, 3] 4 (by decide))) ?_
        clear hs
        rintro _ w ⟨rfl, hs⟩
        refine lw_on rfl rfl (decide_eq_true rfl) ?_
        refine lw_val rfl (run_eqi rfl rfl) ?_
        first | refine lw_val rfl (run_pickT (v := .bool _) rfl (decide_eq_true rfl) rfl) ?_
        first | refine lw_val rfl (run_assign (v := .bool _) rfl) ?_
        refine lw_nil ?_
        refine cw_ret ?_
        refine res1 (v := .bool _) rfl rfl ?_
        exact ⟨_, rfl, ret_b (decide_eq_true rfl), hs.nil⟩
end Go.Proofs.YtmnfehbnjgmgjaaDoor
