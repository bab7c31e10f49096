/- Bytes: a copy. -/
import Derived.Test.YtkogkokmcmallaaGreatDoorG
import Derived.Test.YtkogkokmcmallaaGreatDoorZb
import Derived.Laws.IdiomStrings
namespace Go.Proofs.YtkogkokmcmallaaGreatDoor
set_option linter.all false
open Go.RowKit
attribute [local irreducible] errV
variable {g w : World} {L M : List HP} {ad : Nat → Addr}

theorem bcopy_sl (hs : Mem g w L) {a : Option Addr} {n c : Nat} {l : List UInt8} (ha : Rd g L (.slice a n c) (bytesL l)) (hn : n = l.length) (hlen : l.length ≤ 1000000) :
    Calls Tryz.prog 32 #[.slice a n c] w (Ret fun v w' => ∃ ao co, v = .slice ao l.length co ∧ Mem g w' (own (.slice ao l.length co) (bytesL l) :: L)) := by
  subst hn
  refine calls_cw Tryz.func32 rfl rfl ?_
  skip
  refine cw_seq ?_
  refine cw_region ?_
  first | refine lw_val rfl (run_assign (v := .slice _ _ _) rfl) ?_
  refine lw_nil ?_
  refine cw_seq ?_
  refine cw_region ?_
  first | refine lw_val rfl (run_move (v := .slice _ _ _) rfl) ?_
  refine lw_val rfl (run_lenS Tryz.underlying64 rfl) ?_
  refine lw_makeSlice hs rfl Tryz.underlying64 in5 rfl rfl rfl (l := 0) (c := l.length) rfl rfl (by omega) (by omega) (by omega) ?_
  clear hs
  intro b7 w hs
  try simp only [List.set_cons_succ, List.set_cons_zero] at hs
  first | refine lw_val rfl (run_assign (v := .slice _ _ _) rfl) ?_
  refine lw_nil ?_
  refine cw_seq ?_
  refine cw_seq ?_
  refine cw_region ?_
  first | refine lw_val rfl (run_assign (v := .int .i64 _) rfl) ?_
  refine lw_nil ?_
  refine cw_block ?_
  refine cw_loop (X := Nat × Option Addr × Nat) [3, 4, 8, 9, 10, 11, 12, 13, 14, 15, 16, 17, 18, 19, 20] (fun x => [(3, .slice x.2.1 (l.take x.1).length x.2.2), (4, .int .i64 (x.1 : Nat))]) (fun x w => x.1 ≤ l.length ∧ Mem g w (own (.slice x.2.1 (l.take x.1).length x.2.2) (bytesL (l.take x.1)) :: L)) (fun x => l.length - x.1) ((0, some ⟨b7, 0, none⟩, l.length)) ?_ ?_ ?_
  · exact ⟨rfl, rfl, trivial⟩
  · exact ⟨Nat.zero_le _, hs⟩
  clear hs
  rintro x ξ w hI
  obtain ⟨i, ra, rc⟩ := x
  obtain ⟨hi, hs⟩ := hI
  simp only at hi hs
  show cw _ _ _ _ _ _ (updL (mix _ ξ _) [(3, .slice ra (l.take i).length rc), (4, .int .i64 (i : Nat))]) w
  refine cw_seq ?_
  refine cw_seq ?_
  refine cw_region ?_
  first | refine lw_val rfl (run_move (v := .int .i64 _) rfl) ?_
  first | refine lw_val rfl (run_move (v := .slice _ _ _) rfl) ?_
  refine lw_val rfl (run_lenS Tryz.underlying64 rfl) ?_
  refine lw_val rfl (run_lss rfl rfl) ?_
  refine lw_nil ?_
  refine cw_if rfl ?_ ?_
  · intro h11
    have g11 := of_decide_eq_true h11
    obtain ⟨u, hu⟩ : ∃ u, l[i]? = some u := ⟨l[i]'(by omega), List.getElem?_eq_getElem _⟩
    obtain ⟨b0, o0, rfl, _⟩ := ha.cons.cells' hs (by rw [bytesL_len]; omega)
    have e1 : l.take (i + 1) = l.take i ++ [u] := by rw [List.take_add_one, hu]; rfl
    refine cw_skip ?_
    refine cw_seq ?_
    refine cw_block ?_
    refine cw_region ?_
    first | refine lw_val rfl (run_move (v := .slice _ _ _) rfl) ?_
    first | refine lw_val rfl (run_move (v := .slice _ _ _) rfl) ?_
    first | refine lw_val rfl (run_move (v := .int .i64 _) rfl) ?_
    refine lw_val rfl (run_indexAddr Tryz.underlying64 sz5 rfl rfl rfl (by omega) rfl) ?_
    refine lw_val rfl (run_load Tryz.underlying5 rfl rfl (ha.cons.cellAt hs (bytesL_at hu))) ?_
    refine lw_buildSlice hs rfl ((bytesL [u])) Tryz.underlying64 zs5 rfl (cells_one (bytesL_one _)) rfl rfl rfl ?_
    clear hs
    intro b19 w hs
    try simp only [List.set_cons_succ, List.set_cons_zero] at hs
    refine lw_append hs rfl 1 rfl Tryz.underlying64 in5 rfl rfl rfl (src_of_seq (P := Tryz.prog) Tryz.underlying64 ((Rd.cells (n := 1) (cs := bytesL [u]) 0 rfl rfl).seq hs) (bytesL_one [u])) (by simp only [bytesL_len, List.length_take, List.length_cons, List.length_nil]; omega) (by simp only [bytesL_len, List.length_take, List.length_cons, List.length_nil]; omega) ?_
    clear hs
    intro a20 c20 w hs
    simp only [List.set_cons_succ, List.set_cons_zero] at hs
    first | refine lw_val rfl (run_assign (v := .slice _ _ _) rfl) ?_
    refine lw_nil ?_
    refine cw_region ?_
    first | refine lw_val rfl (run_move (v := .int .i64 _) rfl) ?_
    refine lw_val rfl (run_add64 rfl rfl rfl (inI (by omega) (by omega))) ?_
    first | refine lw_val rfl (run_assign (v := .int .i64 _) rfl) ?_
    refine lw_nil ?_
    have h2 : Mem g w (own (.slice a20 ((bytesL (l.take i)).length + (bytesL [u]).length) c20) (bytesL (l.take i) ++ bytesL [u]) :: L) := hs.arr [1] 2 (by decide)
    exact ⟨(i + 1, a20, c20), by simp only; omega, ⟨by simp only; omega, by simpa only [e1, bytesL_app, List.length_append, bytesL_len] using h2⟩, ⟨show Value.slice a20 ((bytesL (l.take i)).length + (bytesL [u]).length) c20 = Value.slice a20 (l.take (i + 1)).length c20 from by simp only [e1, List.length_append, bytesL_len], rfl, trivial⟩, by repeat (first | exact Out.mix _ _ _ | refine Out.updo rfl ?_ | refine Out.upd rfl ?_ | refine Out.mixIn rfl ?_)⟩
  · intro h11
    have g11 := of_decide_eq_false h11
    refine cw_exit rfl ?_
    refine cw_seq ?_
    refine cw_region ?_
    first | refine lw_val rfl (run_move (v := .slice _ _ _) rfl) ?_
    first | refine lw_val rfl (run_assign (v := .slice _ _ _) rfl) ?_
    refine lw_nil ?_
    refine cw_ret ?_
    refine res1 (v := .slice _ _ _) rfl rfl ?_
    have e : i = l.length := by omega
    refine ⟨_, rfl, ra, rc, ?_, ?_⟩
    · show Value.slice ra (l.take i).length rc = _; rw [e, List.take_length]
    · rw [e, List.take_length] at hs; exact hs
theorem Came.cap {a : Option Addr} {n c : Nat} {l : List Value} (h : Came g (.slice a n c) l) : n ≤ c := by
  obtain ⟨⟨a', n', c', hv, hn, hc, _⟩, _⟩ := h
  simp only [Value.slice.injEq] at hv
  obtain ⟨_, rfl, rfl⟩ := hv
  exact hc
theorem wrapU8 {i : Nat} (h : i < 256) : IntKind.u8.wrap (i : Int) = (((UInt8.ofNat i).toNat : Nat) : Int) := by
  have h8 : (2 : Int) ^ 8 = 256 := by decide
  simp only [IntKind.wrap, IntKind.bits, IntKind.signed, h8, Bool.false_and, Bool.false_eq_true, if_false]
  rw [UInt8.toNat_ofNat']
  omega
/-- Bytes as a text. -/
theorem run_bytesStr {P : Program} {ρ : Env} {dst : Option Tmp} {ty : TypeId} {pos : String} {aft : Array Edge} {x : Operand} {ts e td : TypeId} {b off n c : Nat} {l : List UInt8} (hs : P.underlying ts = some (.slice e)) (he : P.underlying e = some (.int .u8)) (hd : P.underlying td = some .string) (hx : ev ρ x = .slice (some ⟨b, off, none⟩) n c) (hn : n = l.length) (hc : ∀ (j : Nat) (v : Value), (bytesL l)[j]? = some v → w.cell? ⟨b, off + j, none⟩ = some v) :
    (execOp (ev ρ) ⟨dst, .convert ts td x, ty, pos, aft, none⟩).run P w = .ok (.value (.string ⟨l.toArray⟩)) w := by
  subst hn
  have h := run_convert_bytes_back (P := P) w ts td e ⟨b, off, none⟩ c l hs he hd (fun j hj => by rw [Addr.add_lit]; exact hc j _ (bytesL_at (List.getElem?_eq_getElem hj)))
  simp only [execOp, hx, Sem.run_bind, h, Result.andThen_ok, Sem.run_pure]
end Go.Proofs.YtkogkokmcmallaaGreatDoor
