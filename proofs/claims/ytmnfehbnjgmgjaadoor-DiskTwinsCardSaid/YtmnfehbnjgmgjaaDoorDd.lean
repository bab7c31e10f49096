/- The disk, over chunks: SyncDir, Crash. -/
import Derived.Test.YtmnfehbnjgmgjaaDoorSh
import Derived.Test.YtmnfehbnjgmgjaaDoorZc
namespace Go.Proofs.YtmnfehbnjgmgjaaDoor
set_option linter.all false
open Go.RowKit
attribute [local irreducible] errV
variable {g w : World} {L M : List HP} {ad : Nat → Addr} {p mn mk sc : Nat} {sa : Option Addr} {d : Dk} {ptr : List (Nat × Nat)}

/-! ### small words -/
section
variable {P : Program} {ρ : Env} {dst : Option Tmp} {ty : TypeId} {pos : String} {aft : Array Edge}
/-- Two pointers that are there. -/
theorem run_eqpp {x y : Operand} {t e u : TypeId} {a b q : Nat} (ht : P.underlying t = some (.pointer e)) (hsz : (P.info? e).map (·.size) = some q) (hq : q ≠ 0) (hx : ev ρ x = .pointer (some ⟨a, 0, none⟩)) (hy : ev ρ y = .pointer (some ⟨b, 0, none⟩))
    {ca cb : Array Value} {ta tb : TypeId} (ha : w.heap[a]? = some (.cells ca ta (0, 0))) (hb : w.heap[b]? = some (.cells cb tb (0, 0))) :
    (execOp (ev ρ) ⟨dst, .binOp .eql t x y u, ty, pos, aft, none⟩).run P w = .ok (.value (.bool (decide (a = b)))) w := by
  obtain ⟨inf, hinf, hz⟩ := Option.map_eq_some_iff.1 hsz
  have hs : (sizeOf e).run P w = .ok q w := by simp [sizeOf, typeInfo, hinf, hz]
  have he : (Op.equal t (.pointer (some ⟨a, 0, none⟩)) (.pointer (some ⟨b, 0, none⟩))).run P w = .ok (decide (a = b)) w := by
    show (Op.equalIn 10000 _ _ _).run P w = _
    rw [Op.equalIn]
    by_cases h : a = b
    · subst h
      simp [run_underlying ht, hs, hq, run_sameAddr_same]
    · have hne : (⟨a, 0, none⟩ : Addr) ≠ ⟨b, 0, none⟩ := fun e => h (by cases e; rfl)
      have hq2 := run_sameAddr_other (P := P) w hne ha hb
      simp [run_underlying ht, hs, hq, h, hq2]
  simp only [execOp, hx, hy, binOp_eqp]
  simp [guard_ptr, he]
/-- s[:n] at elements of several cells. -/
theorem run_sliceToK {x z : Operand} {t e : TypeId} {a : Option Addr} {len c hi q : Nat} {k2 : IntKind} {j : Int} (ht : P.underlying t = some (.slice e)) (hsz : (P.info? e).map (·.size) = some q) (hx : ev ρ x = .slice a len c) (hz : ev ρ z = .int k2 j) (hj : j = hi) (h2 : hi ≤ c) (ha : c = 0 ∨ ∃ b off, a = some ⟨b, off, none⟩) :
    (execOp (ev ρ) ⟨dst, .slice t x none (some z) none, ty, pos, aft, none⟩).run P w = .ok (.value (.slice a hi c)) w := by
  obtain ⟨inf, hinf, hs⟩ := Option.map_eq_some_iff.1 hsz
  have h0 : (if c = 0 then a else a.map (·.add (0 * q))) = a := by
    rcases ha with h | ⟨b, off, rfl⟩
    · rw [if_pos h]
    · split
      · rfl
      · simp [Addr.add_lit]
  simp only [execOp, Option.map_some, Option.map_none, hx, hz, Instr.sliceAt, Sem.run_bind, run_underlying ht, Result.andThen_ok, Instr.slice, Instr.sliceBounds, Option.isSome_none, if_true, Bool.false_eq_true, if_false, run_bound hj h2, Sem.run_pure, sizeOf, typeInfo, program, Sem.run, hinf, hs, Nat.sub_zero, h0]
end
theorem Mem.rowForm (hs : Mem g w L) (i : Nat) {k m c : Nat} {a : Option Addr} {rows : List (List Value)} (hi : L[i]? = some (rowK k (.slice a m c) rows)) : m = rows.length ∧ m ≤ c ∧ (c = 0 ∨ ∃ b off, a = some ⟨b, off, none⟩) := by
  obtain ⟨F, ⟨⟨a', n, c', hv, hn, hc, ha, hr, h⟩, _⟩⟩ := hs.read hi
  simp only [Value.slice.injEq] at hv
  obtain ⟨rfl, rfl, rfl⟩ := hv
  refine ⟨hn, hc, ?_⟩
  rcases h with h | ⟨b, off, cs, E, rfl, hb, r⟩
  · exact .inl h
  · exact .inr ⟨b, off, rfl⟩
/-- One cell of a block. -/
def hold (b o : Nat) (v : Value) : HP where
  ok F w := w.cell? ⟨b, o, none⟩ = some v ∧ b < w.heap.size ∧ ∀ x, F x ↔ x = b
  loc := fun {F w w'} ⟨h1, h2, h3⟩ k => by
    have hk := k b ((h3 b).2 rfl)
    refine ⟨?_, lt_keep h2 hk, h3⟩
    simp only [World.cell?] at h1 ⊢
    rw [hk]; exact h1
  lt := fun ⟨_, h2, h3⟩ hb => by rw [(h3 _).1 hb]; exact h2
theorem Mem.hold2 {b : Nat} {x y z : Value} {T : TypeId} (hs : Mem g w (cells b [x, y, z] T :: L)) : Mem g w (hold b 2 z :: L) := by
  have h1 := hs.cellAt 0 rfl (o := 2) rfl
  obtain ⟨F, ⟨g1, g2⟩, g3⟩ := hs.turn (i := 0) rfl
  exact g3 w _ F ⟨h1, lt_of_block g1, g2⟩ (fun _ h => .inl h) (Keeps.refl _ _)
theorem Mem.holdAt (hs : Mem g w L) (i : Nat) {b o : Nat} {v : Value} (hi : L[i]? = some (hold b o v)) : w.cell? ⟨b, o, none⟩ = some v := by
  obtain ⟨F, h, _⟩ := hs.read hi
  exact h
theorem Mem.flBlock (hs : Mem g w L) (k : Nat) {fs : List (Nat × Fl)} (hk : L[k]? = some (famC flC ptr fs)) {i b : Nat} {f : Fl} (hb : aget ptr i = some b) (hf : aget fs i = some f) : ∃ cs T, w.heap[b]? = some (.cells cs T (0, 0)) := by
  have h1 := hs.famTake (R := flC) k hk hb hf
  obtain ⟨a, c, h2⟩ := h1.openF
  obtain ⟨F, h3, _⟩ := h2.read (i := 0) rfl
  exact ⟨_, _, h3⟩
theorem Mem.fl_inj (hs : Mem g w L) (k : Nat) {fs : List (Nat × Fl)} (hk : L[k]? = some (famC flC ptr fs)) {i j b : Nat} (hi : aget ptr i = some b) (hj : aget ptr j = some b) : i = j := fam_inj (d := { Dk.empty 0 with fs := fs }) hs k hk hi hj

theorem picked_sl (hs : Mem g w L) {a : Option Addr} {m c : Nat} {picks : List Int} (hr : Rd g L (.slice a m c) (intsL picks)) (hm : m = picks.length) (k n : Nat) (hn : n ≤ 1000000000000) : Calls Tryd.prog 85 #[.slice a m c, .int .i64 k, .int .i64 n] w (Ret fun v w' => v = .int .i64 (pickN picks k n) ∧ Mem g w' L) := by
  subst hm
  by_cases h : picks.length ≤ k
  · have e : pickN picks k n = 0 := by simp [pickN, List.getElem?_eq_none h]
    refine calls_cw Tryd.func85 rfl rfl ?_
    skip
    refine cw_seq ?_
    refine cw_region ?_
    first | refine lw_val rfl (run_assign (v := .int .i64 _) rfl) ?_
    refine lw_nil ?_
    refine cw_seq ?_
    refine cw_seq ?_
    refine cw_region ?_
    first | refine lw_val rfl (run_move (v := .int .i64 _) rfl) ?_
    first | refine lw_val rfl (run_move (v := .slice _ _ _) rfl) ?_
    refine lw_val rfl (run_lenS Tryd.underlying63 rfl) ?_
    refine lw_val rfl (run_geq rfl rfl) ?_
    refine lw_nil ?_
    refine cw_ift rfl (decide_eq_true (by omega)) ?_
    refine cw_seq ?_
    refine cw_region ?_
    first | refine lw_val rfl (run_assign (v := .int .i64 _) rfl) ?_
    refine lw_nil ?_
    refine cw_ret ?_
    refine res1 (v := .int .i64 _) rfl rfl ?_
    exact ⟨_, rfl, by rw [e]; rfl, hs⟩
  · obtain ⟨x, hx⟩ : ∃ x, picks[k]? = some x := ⟨_, List.getElem?_eq_getElem (by omega)⟩
    have h1 := Int.tmod_lt_of_pos x (b := (n : Int) + 1) (by omega)
    have h2 : -((n : Int) + 1) < x.tmod (n + 1) := by have h3 := Int.natAbs_tmod x ((n : Int) + 1); have h4 := Nat.mod_lt x.natAbs (y := ((n : Int) + 1).natAbs) (by omega); omega
    have h5 : (x.tmod (n + 1) + n + 1).tmod (n + 1) = x % ((n : Int) + 1) := by
      rw [Int.tmod_eq_emod_of_nonneg (by omega), show x.tmod (n + 1) + n + 1 = x.tmod (n + 1) + (n + 1) * 1 by omega, Int.add_mul_emod_self_left]
      conv => rhs; rw [← Int.tmod_add_mul_tdiv x ((n : Int) + 1)]
      rw [Int.add_mul_emod_self_left]
    have h6 := Int.emod_nonneg x (b := (n : Int) + 1) (by omega)
    have e : ((pickN picks k n : Nat) : Int) = x % ((n : Int) + 1) := by simp only [pickN, hx]; omega
    obtain ⟨b, off, rfl, _⟩ := hr.cells' hs (by rw [intsL_len]; omega)
    refine calls_cw Tryd.func85 rfl rfl ?_
    skip
    refine cw_seq ?_
    refine cw_region ?_
    first | refine lw_val rfl (run_assign (v := .int .i64 _) rfl) ?_
    refine lw_nil ?_
    refine cw_seq ?_
    refine cw_seq ?_
    refine cw_region ?_
    first | refine lw_val rfl (run_move (v := .int .i64 _) rfl) ?_
    first | refine lw_val rfl (run_move (v := .slice _ _ _) rfl) ?_
    refine lw_val rfl (run_lenS Tryd.underlying63 rfl) ?_
    refine lw_val rfl (run_geq rfl rfl) ?_
    refine lw_nil ?_
    refine cw_iff rfl (decide_eq_false (by omega)) ?_
    refine cw_skip ?_
    refine cw_seq ?_
    refine cw_region ?_
    first | refine lw_val rfl (run_move (v := .slice _ _ _) rfl) ?_
    first | refine lw_val rfl (run_move (v := .int .i64 _) rfl) ?_
    refine lw_val rfl (run_indexAddr Tryd.underlying63 sz3 rfl rfl rfl (by omega) rfl) ?_
    refine lw_val rfl (run_load Tryd.underlying3 rfl rfl (hr.cellAt hs (intsL_at hx))) ?_
    first | refine lw_val rfl (run_move (v := .int .i64 _) rfl) ?_
    refine lw_val rfl (run_add64 rfl rfl rfl (inI (by omega) (by omega))) ?_
    refine lw_val rfl (run_rem rfl rfl (by omega)) ?_
    first | refine lw_val rfl (run_move (v := .int .i64 _) rfl) ?_
    refine lw_val rfl (run_add64 rfl rfl rfl (inI (by omega) (by omega))) ?_
    refine lw_val rfl (run_add64 rfl rfl rfl (inI (by omega) (by omega))) ?_
    first | refine lw_val rfl (run_move (v := .int .i64 _) rfl) ?_
    refine lw_val rfl (run_add64 rfl rfl rfl (inI (by omega) (by omega))) ?_
    refine lw_val rfl (run_rem rfl rfl (by omega)) ?_
    first | refine lw_val rfl (run_assign (v := .int .i64 _) rfl) ?_
    refine lw_nil ?_
    refine cw_ret ?_
    refine res1 (v := .int .i64 _) rfl rfl ?_
    exact ⟨_, rfl, by rw [e, ← h5], hs⟩
theorem index_sl (ho : d.okB) {fs : List (Nat × Fl)} (hs : Mem g w L) (k : Nat) (hk : L[k]? = some (famC flC ptr fs)) {a : Option Addr} {n c : Nat} {ids : List Nat} (hr : Rd g L (.slice a n c) (ids.map (fptr ptr))) (hn : n = ids.length) (hil : ids.length ≤ 1000000000) (hid : ∀ x ∈ ids, x ∈ keysOf fs) {i b : Nat} (hi : i ∈ keysOf fs) (hb : aget ptr i = some b) :
    Calls Tryd.prog 106 #[.slice a n c, .pointer (some ⟨b, 0, none⟩)] w (Ret fun v w' => ∃ z : Int, v = .int .i64 z ∧ (0 ≤ z ↔ i ∈ ids) ∧ Mem g w' L) := by
  subst hn
  have hptr : ∀ j ∈ keysOf fs, ∃ bj fj, aget ptr j = some bj ∧ aget fs j = some fj := fun j hj => by
    obtain ⟨fj, hfj⟩ := aget_of_key hj
    obtain ⟨bj, hbj⟩ := aget_of_key ((hs.famKeys k hk) ▸ hj : j ∈ keysOf ptr)
    exact ⟨bj, fj, hbj, hfj⟩
  refine calls_cw Tryd.func106 rfl rfl ?_
  skip
  refine cw_seq ?_
  refine cw_region ?_
  first | refine lw_val rfl (run_assign (v := .int .i64 _) rfl) ?_
  refine lw_nil ?_
  refine cw_seq ?_
  refine cw_seq ?_
  refine cw_region ?_
  first | refine lw_val rfl (run_move (v := .slice _ _ _) rfl) ?_
  refine lw_val rfl (run_lenS Tryd.underlying124 rfl) ?_
  first | refine lw_val rfl (run_move (v := .int .i64 _) rfl) ?_
  refine lw_nil ?_
  refine cw_block ?_
  refine cw_loop (X := Nat) [4, 5, 8, 9, 10, 11, 12, 13, 14, 15, 16, 17, 18] (fun q => [(8, .int .i64 (q : Nat))]) (fun q w => q ≤ ids.length ∧ i ∉ ids.take q ∧ Mem g w L) (fun q => ids.length - q) (0) ?_ ?_ ?_
  · exact ⟨rfl, trivial⟩
  · exact ⟨Nat.zero_le _, by simp, hs⟩
  clear hs
  rintro x ξ w hI
  obtain ⟨hq, hni, hs⟩ := hI
  refine cw_seq ?_
  refine cw_region ?_
  refine lw_val rfl (run_lss rfl rfl) ?_
  refine lw_nil ?_
  refine cw_seq ?_
  refine cw_if rfl ?_ ?_
  · intro h9
    have g9 := of_decide_eq_true h9
    obtain ⟨xi, hxi⟩ : ∃ xi, ids[x]? = some xi := ⟨_, List.getElem?_eq_getElem (by omega)⟩
    obtain ⟨bj, fj, hbj, hfj⟩ := hptr xi (hid xi (List.mem_of_getElem? hxi))
    obtain ⟨_, fi, _, hfi⟩ := hptr i hi
    obtain ⟨b1, o1, rfl, _⟩ := hr.cells' hs (by rw [List.length_map]; omega)
    obtain ⟨c1, T1, hc1⟩ := hs.flBlock k hk hb hfi
    obtain ⟨c2, T2, hc2⟩ := hs.flBlock k hk hbj hfj
    refine cw_skip ?_
    refine cw_seq ?_
    refine cw_block ?_
    refine cw_seq ?_
    refine cw_region ?_
    first | refine lw_val rfl (run_move (v := .int .i64 _) rfl) ?_
    first | refine lw_val rfl (run_assign (v := .int .i64 _) rfl) ?_
    refine lw_nil ?_
    refine cw_seq ?_
    refine cw_region ?_
    first | refine lw_val rfl (run_move (v := .pointer (some _)) rfl) ?_ | refine lw_val rfl (run_move (v := .pointer none) rfl) ?_
    first | refine lw_val rfl (run_move (v := .slice _ _ _) rfl) ?_
    first | refine lw_val rfl (run_move (v := .int .i64 _) rfl) ?_
    refine lw_val rfl (run_indexAddr Tryd.underlying124 sz112 rfl rfl rfl (by omega) rfl) ?_
    refine lw_val rfl (run_load (v := .pointer (some ⟨bj, 0, none⟩)) Tryd.underlying112 rfl rfl (hr.cellAt hs (by rw [List.getElem?_map, hxi, Option.map_some, fptr_some hbj]))) ?_
    refine lw_val rfl (run_eqpp Tryd.underlying112 sz115 (by decide) rfl rfl hc1 hc2) ?_
    refine lw_nil ?_
    refine cw_if rfl ?_ ?_
    · intro h16
      refine cw_seq ?_
      refine cw_region ?_
      first | refine lw_val rfl (run_move (v := .int .i64 _) rfl) ?_
      first | refine lw_val rfl (run_assign (v := .int .i64 _) rfl) ?_
      refine lw_nil ?_
      refine cw_ret ?_
      refine res1 (v := .int .i64 _) rfl rfl ?_
      have e := of_decide_eq_true h16
      subst e
      have e2 := hs.fl_inj k hk hb hbj
      subst e2
      exact ⟨_, rfl, _, rfl, ⟨fun _ => List.mem_of_getElem? hxi, fun _ => by omega⟩, hs⟩
    · intro h16
      refine cw_skip ?_
      refine cw_region ?_
      refine lw_val rfl (run_add64 rfl rfl rfl (inI (by omega) (by omega))) ?_
      first | refine lw_val rfl (run_move (v := .int .i64 _) rfl) ?_
      refine lw_nil ?_
      refine ⟨x + 1, by omega, ⟨by omega, ?_, hs⟩, ⟨rfl, trivial⟩, by repeat (first | exact Out.mix _ _ _ | refine Out.updo rfl ?_ | refine Out.upd rfl ?_ | refine Out.mixIn rfl ?_)⟩
      rw [List.take_add_one, hxi]
      simp only [Option.toList_some, List.mem_append, List.mem_cons, List.not_mem_nil, or_false, not_or]
      exact ⟨hni, fun e => (of_decide_eq_false h16) (by subst e; rw [hb] at hbj; cases hbj; rfl)⟩
  · intro h9
    have g9 := of_decide_eq_false h9
    refine cw_exit rfl ?_
    refine cw_seq ?_
    refine cw_region ?_
    first | refine lw_val rfl (run_assign (v := .int .i64 _) rfl) ?_
    refine lw_nil ?_
    refine cw_ret ?_
    refine res1 (v := .int .i64 _) rfl rfl ?_
    have e : x = ids.length := by omega
    subst e
    rw [List.take_of_length_le (Nat.le_refl _)] at hni
    exact ⟨_, rfl, _, rfl, ⟨fun h => absurd h (by omega), fun h => absurd h hni⟩, hs⟩
theorem contains_sl (ho : d.okB) {fs : List (Nat × Fl)} (hs : Mem g w L) (k : Nat) (hk : L[k]? = some (famC flC ptr fs)) {a : Option Addr} {n c : Nat} {ids : List Nat} (hr : Rd g L (.slice a n c) (ids.map (fptr ptr))) (hn : n = ids.length) (hil : ids.length ≤ 1000000000) (hid : ∀ x ∈ ids, x ∈ keysOf fs) {i b : Nat} (hi : i ∈ keysOf fs) (hb : aget ptr i = some b) :
    Calls Tryd.prog 87 #[.slice a n c, .pointer (some ⟨b, 0, none⟩)] w (Ret fun v w' => v = .bool (decide (i ∈ ids)) ∧ Mem g w' L) := by
  refine calls_cw Tryd.func87 rfl rfl ?_
  skip
  refine cw_seq ?_
  refine cw_region ?_
  first | refine lw_val rfl (run_assign (v := .bool _) rfl) ?_
  refine lw_nil ?_
  refine cw_seq ?_
  refine cw_region ?_
  first | refine lw_val rfl (run_move (v := .slice _ _ _) rfl) ?_
  first | refine lw_val rfl (run_move (v := .pointer (some _)) rfl) ?_ | refine lw_val rfl (run_move (v := .pointer none) rfl) ?_
  refine lw_call rfl en106 (index_sl ho hs k hk hr hn hil hid hi hb) ?_
  clear hs
  rintro _ w ⟨z, rfl, hz, hs⟩
  refine lw_val rfl (run_geq rfl rfl) ?_
  first | refine lw_val rfl (run_assign (v := .bool _) rfl) ?_
  refine lw_nil ?_
  refine cw_ret ?_
  refine res1 (v := .bool _) rfl rfl ?_
  refine ⟨_, rfl, ret_b ?_, hs⟩
  by_cases hm : i ∈ ids
  · rw [decide_eq_true hm]; exact decide_eq_true (hz.2 hm)
  · rw [decide_eq_false hm]; exact decide_eq_false (fun h => hm (hz.1 h))
theorem syncDir_sl (hE : ErrK ad g) (hs : Mem g w (DiskC p d :: L)) (hcl : d.calls < 1000000) {k : Nat} {d2 : Dk} (hk : d.syncDir = (k, d2)) : Calls Tryd.prog 52 #[.pointer (some ⟨p, 0, none⟩)] w (Ret fun v w' => v = errV ad k ∧ Mem g w' (DiskC p d2 :: L)) := by
  obtain ⟨ho, mn, mk, sa, sc, ptr, hs⟩ := hs.openD
  have hb := d.begin_same
  have hbc := d.begin_code
  have ho1 := ho.begin
  refine calls_cw Tryd.func52 rfl rfl ?_
  skip
  refine cw_seq ?_
  refine cw_region ?_
  first | refine lw_val rfl (run_assign (v := errV ad _) rfl) ?_ | refine lw_val rfl (run_assign (v := .nilIface) rfl) ?_ | refine lw_val rfl (run_assign (v := eV ad _ _) rfl) ?_ | refine lw_val rfl (run_assign (v := .iface _ (.pointer (some _))) rfl) ?_
  refine lw_nil ?_
  refine cw_seq ?_
  refine cw_seq ?_
  refine cw_region ?_
  first | refine lw_val rfl (run_move (v := .pointer (some _)) rfl) ?_ | refine lw_val rfl (run_move (v := .pointer none) rfl) ?_
  refine lw_call rfl en77 (begin_sl hE ho hs) ?_
  clear hs
  rintro _ w ⟨rfl, hs⟩
  first | refine lw_val rfl (run_assign (v := errV ad _) rfl) ?_ | refine lw_val rfl (run_assign (v := .nilIface) rfl) ?_ | refine lw_val rfl (run_assign (v := eV ad _ _) rfl) ?_ | refine lw_val rfl (run_assign (v := .iface _ (.pointer (some _))) rfl) ?_
  refine lw_nil ?_
  refine cw_seq ?_
  refine cw_region ?_
  first | refine lw_val rfl (run_move (v := errV ad _) rfl) ?_ | refine lw_val rfl (run_move (v := .nilIface) rfl) ?_ | refine lw_val rfl (run_move (v := eV ad _ _) rfl) ?_ | refine lw_val rfl (run_move (v := .iface _ (.pointer (some _))) rfl) ?_
  first | refine lw_val rfl (run_neerrn (ad := ad) rfl) ?_ | refine lw_val rfl (run_nenn rfl) ?_ | refine lw_val rfl (run_neE (ad := ad) rfl) ?_
  refine lw_nil ?_
  refine cw_if rfl ?_ ?_
  · intro h7
    have g7 := ne_t h7
    refine cw_seq ?_
    refine cw_region ?_
    first | refine lw_val rfl (run_move (v := errV ad _) rfl) ?_ | refine lw_val rfl (run_move (v := .nilIface) rfl) ?_ | refine lw_val rfl (run_move (v := eV ad _ _) rfl) ?_ | refine lw_val rfl (run_move (v := .iface _ (.pointer (some _))) rfl) ?_
    first | refine lw_val rfl (run_assign (v := errV ad _) rfl) ?_ | refine lw_val rfl (run_assign (v := .nilIface) rfl) ?_ | refine lw_val rfl (run_assign (v := eV ad _ _) rfl) ?_ | refine lw_val rfl (run_assign (v := .iface _ (.pointer (some _))) rfl) ?_
    refine lw_nil ?_
    refine cw_ret ?_
    first | refine res1 (v := errV ad _) rfl rfl ?_ | refine res1 (v := .nilIface) rfl rfl ?_ | refine res1 (v := eV ad _ _) rfl rfl ?_ | refine res1 (v := .iface _ (.pointer (some _))) rfl rfl ?_
    have hb1 : d.begin.1 ≠ 0 := by simpa using h7
    have e : d.syncDir = (110, d.begin.2) := by simp [Dk.syncDir, hb1]
    rw [e] at hk
    cases hk
    rw [show d.begin.1 = 110 by omega]
    exact ⟨_, rfl, rfl, Mem.closeD ho1 hs⟩
  · intro h7
    have g7 := ne_f h7
    refine cw_skip ?_
    refine cw_seq ?_
    refine cw_region ?_
    first | refine lw_val rfl (run_move (v := .pointer (some _)) rfl) ?_ | refine lw_val rfl (run_move (v := .pointer none) rfl) ?_
    first | refine lw_val rfl (run_move (v := .pointer (some _)) rfl) ?_ | refine lw_val rfl (run_move (v := .pointer none) rfl) ?_
    first | refine lw_val rfl (run_move (v := .pointer (some _)) rfl) ?_ | refine lw_val rfl (run_move (v := .pointer none) rfl) ?_
    refine lw_val rfl (run_nilCheckP rfl) ?_
    first | refine lw_val rfl (run_fieldAddr (o' := 1) Tryd.underlying110 rfl sz107 rfl rfl rfl) ?_ | refine lw_val rfl (run_fieldAddr Tryd.underlying110 rfl sz107 rfl rfl rfl) ?_
    first | refine lw_val rfl (run_load Tryd.underlying107 rfl rfl (hs.cellAt 0 rfl rfl)) ?_ | refine lw_val rfl (run_load Tryd.underlying107 rfl rfl (hs.cellAt 1 rfl rfl)) ?_ | refine lw_val rfl (run_load Tryd.underlying107 rfl rfl (hs.cellAt 2 rfl rfl)) ?_ | refine lw_val rfl (run_load Tryd.underlying107 rfl rfl (hs.cellAt 3 rfl rfl)) ?_ | refine lw_val rfl (run_load Tryd.underlying107 rfl rfl (hs.cellAt 4 rfl rfl)) ?_ | refine lw_val rfl (run_load Tryd.underlying107 rfl rfl (hs.cellAt 5 rfl rfl)) ?_ | refine lw_val rfl (run_load Tryd.underlying107 rfl rfl (hs.cellAt 6 rfl rfl)) ?_ | refine lw_val rfl (run_load Tryd.underlying107 rfl rfl (hs.cellAt 7 rfl rfl)) ?_ | refine lw_val rfl (run_load Tryd.underlying107 rfl rfl (hs.cellAt 8 rfl rfl)) ?_ | refine lw_val rfl (run_load Tryd.underlying107 rfl rfl (hs.cellAt 9 rfl rfl)) ?_ | refine lw_val rfl (run_load Tryd.underlying107 rfl rfl (hs.cellAt 10 rfl rfl)) ?_ | refine lw_val rfl (run_load Tryd.underlying107 rfl rfl (hs.cellAt 11 rfl rfl)) ?_ | refine lw_val rfl (run_load Tryd.underlying107 rfl rfl (hs.cellAt 12 rfl rfl)) ?_ | refine lw_val rfl (run_load Tryd.underlying107 rfl rfl (hs.cellAt 13 rfl rfl)) ?_
    refine lw_call rfl en90 (mclone_sl hs 1 rfl) ?_
    clear hs
    rintro _ w ⟨m15, rfl, hs⟩
    refine lw_val rfl (run_nilCheckP rfl) ?_
    first | refine lw_val rfl (run_fieldAddr (o' := 2) Tryd.underlying110 rfl sz107 rfl rfl rfl) ?_ | refine lw_val rfl (run_fieldAddr Tryd.underlying110 rfl sz107 rfl rfl rfl) ?_
    first | refine lw_store (v := .map _) hs 0 rfl sz107 rfl rfl rfl rfl ?_ | refine lw_store (v := .map _) hs 1 rfl sz107 rfl rfl rfl rfl ?_ | refine lw_store (v := .map _) hs 2 rfl sz107 rfl rfl rfl rfl ?_ | refine lw_store (v := .map _) hs 3 rfl sz107 rfl rfl rfl rfl ?_ | refine lw_store (v := .map _) hs 4 rfl sz107 rfl rfl rfl rfl ?_ | refine lw_store (v := .map _) hs 5 rfl sz107 rfl rfl rfl rfl ?_ | refine lw_store (v := .map _) hs 6 rfl sz107 rfl rfl rfl rfl ?_ | refine lw_store (v := .map _) hs 7 rfl sz107 rfl rfl rfl rfl ?_ | refine lw_store (v := .map _) hs 8 rfl sz107 rfl rfl rfl rfl ?_ | refine lw_store (v := .map _) hs 9 rfl sz107 rfl rfl rfl rfl ?_ | refine lw_store (v := .map _) hs 10 rfl sz107 rfl rfl rfl rfl ?_ | refine lw_store (v := .map _) hs 11 rfl sz107 rfl rfl rfl rfl ?_ | refine lw_store (v := .map _) hs 12 rfl sz107 rfl rfl rfl rfl ?_ | refine lw_store (v := .map _) hs 13 rfl sz107 rfl rfl rfl rfl ?_
    clear hs
    intro w hs
    try simp only [List.set_cons_succ, List.set_cons_zero] at hs
    refine lw_val rfl (run_nilCheckP rfl) ?_
    first | refine lw_val rfl (run_fieldAddr (o' := 3) Tryd.underlying110 rfl sz108 rfl rfl rfl) ?_ | refine lw_val rfl (run_fieldAddr Tryd.underlying110 rfl sz108 rfl rfl rfl) ?_
    first | refine lw_store (v := .slice _ _ _) hs 0 rfl sz108 rfl rfl rfl rfl ?_ | refine lw_store (v := .slice _ _ _) hs 1 rfl sz108 rfl rfl rfl rfl ?_ | refine lw_store (v := .slice _ _ _) hs 2 rfl sz108 rfl rfl rfl rfl ?_ | refine lw_store (v := .slice _ _ _) hs 3 rfl sz108 rfl rfl rfl rfl ?_ | refine lw_store (v := .slice _ _ _) hs 4 rfl sz108 rfl rfl rfl rfl ?_ | refine lw_store (v := .slice _ _ _) hs 5 rfl sz108 rfl rfl rfl rfl ?_ | refine lw_store (v := .slice _ _ _) hs 6 rfl sz108 rfl rfl rfl rfl ?_ | refine lw_store (v := .slice _ _ _) hs 7 rfl sz108 rfl rfl rfl rfl ?_ | refine lw_store (v := .slice _ _ _) hs 8 rfl sz108 rfl rfl rfl rfl ?_ | refine lw_store (v := .slice _ _ _) hs 9 rfl sz108 rfl rfl rfl rfl ?_ | refine lw_store (v := .slice _ _ _) hs 10 rfl sz108 rfl rfl rfl rfl ?_ | refine lw_store (v := .slice _ _ _) hs 11 rfl sz108 rfl rfl rfl rfl ?_ | refine lw_store (v := .slice _ _ _) hs 12 rfl sz108 rfl rfl rfl rfl ?_ | refine lw_store (v := .slice _ _ _) hs 13 rfl sz108 rfl rfl rfl rfl ?_
    clear hs
    intro w hs
    try simp only [List.set_cons_succ, List.set_cons_zero] at hs
    refine lw_nil ?_
    refine cw_seq ?_
    refine cw_region ?_
    first | refine lw_val rfl (run_move (v := .pointer (some _)) rfl) ?_ | refine lw_val rfl (run_move (v := .pointer none) rfl) ?_
    refine lw_val rfl (run_nilCheckP rfl) ?_
    first | refine lw_val rfl (run_fieldAddr (o' := 7) Tryd.underlying110 rfl sz3 rfl rfl rfl) ?_ | refine lw_val rfl (run_fieldAddr Tryd.underlying110 rfl sz3 rfl rfl rfl) ?_
    first | refine lw_val rfl (run_load Tryd.underlying3 rfl rfl (hs.cellAt 0 rfl rfl)) ?_ | refine lw_val rfl (run_load Tryd.underlying3 rfl rfl (hs.cellAt 1 rfl rfl)) ?_ | refine lw_val rfl (run_load Tryd.underlying3 rfl rfl (hs.cellAt 2 rfl rfl)) ?_ | refine lw_val rfl (run_load Tryd.underlying3 rfl rfl (hs.cellAt 3 rfl rfl)) ?_ | refine lw_val rfl (run_load Tryd.underlying3 rfl rfl (hs.cellAt 4 rfl rfl)) ?_ | refine lw_val rfl (run_load Tryd.underlying3 rfl rfl (hs.cellAt 5 rfl rfl)) ?_ | refine lw_val rfl (run_load Tryd.underlying3 rfl rfl (hs.cellAt 6 rfl rfl)) ?_ | refine lw_val rfl (run_load Tryd.underlying3 rfl rfl (hs.cellAt 7 rfl rfl)) ?_ | refine lw_val rfl (run_load Tryd.underlying3 rfl rfl (hs.cellAt 8 rfl rfl)) ?_ | refine lw_val rfl (run_load Tryd.underlying3 rfl rfl (hs.cellAt 9 rfl rfl)) ?_ | refine lw_val rfl (run_load Tryd.underlying3 rfl rfl (hs.cellAt 10 rfl rfl)) ?_ | refine lw_val rfl (run_load Tryd.underlying3 rfl rfl (hs.cellAt 11 rfl rfl)) ?_ | refine lw_val rfl (run_load Tryd.underlying3 rfl rfl (hs.cellAt 12 rfl rfl)) ?_ | refine lw_val rfl (run_load Tryd.underlying3 rfl rfl (hs.cellAt 13 rfl rfl)) ?_
    refine lw_val rfl (run_add64 rfl rfl rfl (inI (by omega) (by omega))) ?_
    refine lw_val rfl (run_nilCheckP rfl) ?_
    first | refine lw_val rfl (run_fieldAddr (o' := 7) Tryd.underlying110 rfl sz3 rfl rfl rfl) ?_ | refine lw_val rfl (run_fieldAddr Tryd.underlying110 rfl sz3 rfl rfl rfl) ?_
    first | refine lw_store (v := .int .i64 _) hs 0 rfl sz3 rfl rfl rfl rfl ?_ | refine lw_store (v := .int .i64 _) hs 1 rfl sz3 rfl rfl rfl rfl ?_ | refine lw_store (v := .int .i64 _) hs 2 rfl sz3 rfl rfl rfl rfl ?_ | refine lw_store (v := .int .i64 _) hs 3 rfl sz3 rfl rfl rfl rfl ?_ | refine lw_store (v := .int .i64 _) hs 4 rfl sz3 rfl rfl rfl rfl ?_ | refine lw_store (v := .int .i64 _) hs 5 rfl sz3 rfl rfl rfl rfl ?_ | refine lw_store (v := .int .i64 _) hs 6 rfl sz3 rfl rfl rfl rfl ?_ | refine lw_store (v := .int .i64 _) hs 7 rfl sz3 rfl rfl rfl rfl ?_ | refine lw_store (v := .int .i64 _) hs 8 rfl sz3 rfl rfl rfl rfl ?_ | refine lw_store (v := .int .i64 _) hs 9 rfl sz3 rfl rfl rfl rfl ?_ | refine lw_store (v := .int .i64 _) hs 10 rfl sz3 rfl rfl rfl rfl ?_ | refine lw_store (v := .int .i64 _) hs 11 rfl sz3 rfl rfl rfl rfl ?_ | refine lw_store (v := .int .i64 _) hs 12 rfl sz3 rfl rfl rfl rfl ?_ | refine lw_store (v := .int .i64 _) hs 13 rfl sz3 rfl rfl rfl rfl ?_
    clear hs
    intro w hs
    try simp only [List.set_cons_succ, List.set_cons_zero] at hs
    refine lw_nil ?_
    refine cw_seq ?_
    refine cw_region ?_
    first | refine lw_val rfl (run_assign (v := errV ad _) rfl) ?_ | refine lw_val rfl (run_assign (v := .nilIface) rfl) ?_ | refine lw_val rfl (run_assign (v := eV ad _ _) rfl) ?_ | refine lw_val rfl (run_assign (v := .iface _ (.pointer (some _))) rfl) ?_
    refine lw_nil ?_
    refine cw_ret ?_
    first | refine res1 (v := errV ad _) rfl rfl ?_ | refine res1 (v := .nilIface) rfl rfl ?_ | refine res1 (v := eV ad _ _) rfl rfl ?_ | refine res1 (v := .iface _ (.pointer (some _))) rfl rfl ?_
    have hb1 : d.begin.1 = 0 := by simpa using h7
    have e : d.syncDir = (0, { d.begin.2 with kept := d.begin.2.names, changes := [], calls := d.begin.2.calls + 1 }) := by simp [Dk.syncDir, hb1]
    rw [e] at hk
    cases hk
    exact ⟨_, rfl, (errV_zero ad).symm, Mem.closeD (mn := mn) (mk := m15) (sa := none) (sc := 0) (ptr := ptr) ho1.syncDir ((hs.addE (rows_nil _)).arr [2, 3, 1, 0, 6] 7 (by decide))⟩
end Go.Proofs.YtmnfehbnjgmgjaaDoor
