/- Contracts of the elder shapes, over chunks; part.Make. -/
import Derived.Test.YtjiigajekminaaaDoorEV
import Derived.Test.YtjiigajekminaaaDoorTy
import Derived.Test.YtjiigajekminaaaDoorSee
import Derived.Test.YtjiigajekminaaaDoorPartR
import Derived.Test.YtjiigajekminaaaDoorCrc
namespace Go.Proofs.YtjiigajekminaaaDoor
set_option linter.all false
open Go.RowKit
attribute [local irreducible] errV
variable {g w : World} {L : List HP} {ad : Nat → Addr}

theorem is_sl (hE : ErrA ad g) (hs : Mem g w L) {d : Nat} (hd : d = 0 ∨ d ∈ coreCodes) (c : Int) : Calls Tryd.prog 25 #[errV ad d, .int .i64 c] w (Ret fun v w' => v = .bool (decide ((d : Int) = c)) ∧ Mem g w' L) := by
  have := hs.calls (is_any (hE.atW hs) hs.size (hd.imp id core_all) c)
  rw [int_beq] at this
  exact this
/-- A statement's walk, as its row wants it. -/
theorem law_of {f : FuncId} {args : Array Value} (h : Calls Tryd.prog f args w (Ret fun v w' => v = .bool true ∧ Mem w w' [])) : Calls Tryd.prog f args w (BoolNew true w) :=
  h.mono fun _ _ ⟨v, h1, h2, h3⟩ => ⟨by rw [h1, h2], h3.below0⟩
theorem wfI {a : Int} (h : (Lit.int .i64 a).wf = true) : InI64 a := by
  simp only [Lit.wf, Bool.and_eq_true, decide_eq_true_eq] at h
  exact h
theorem Came.bytes {a : Option Addr} {n c : Nat} {l : List UInt8} (h : seqV w (.slice a n c) (bytesL l)) (hb : ∀ b, blk (.slice a n c) = some b → b < w.heap.size) : Came w (.slice a n c) (bytesL l) ∧ n = l.length := ⟨⟨h, hb⟩, by have := h.len; simpa [bytesL] using this.symm⟩
theorem Came.ints {a : Option Addr} {n c : Nat} {l : List Int} (h : seqV w (.slice a n c) (intsL l)) (hb : ∀ b, blk (.slice a n c) = some b → b < w.heap.size) : Came w (.slice a n c) (intsL l) ∧ n = l.length := ⟨⟨h, hb⟩, by have := h.len; simpa [intsL] using this.symm⟩
theorem valid_sl (hs : Mem g w L) (s : ByteArray) : Calls Tryd.prog 68 #[.string s] w (Ret fun v w' => v = .bool (validB s.data.toList) ∧ Mem g w' L) := hs.callsE (valid_any s w)
theorem of_sl (hs : Mem g w L) {pv b : Value} {l : List UInt8} (hp : Rd g L pv [b]) (hb : Rd g L b (bytesL l)) (hlen : l.length ≤ 1073741824) : Calls Tryd.prog 73 #[pv] w (Ret fun v w' => v = .int .u32 ((crcMore 0 l : Nat) : Int) ∧ Mem g w' L) :=
  hs.calls (of_any (hp w hs).1 (hp w hs).2 (hb w hs).1 (hb w hs).2 hlen)
/-- A new slice. -/
theorem newSeq_sl {f : FuncId} {args : Array Value} {l : List Value} (hs : Mem g w L) (h : Calls Tryd.prog f args w (NewSeq w l)) : Calls Tryd.prog f args w (Ret fun v w' => ∃ a c, v = .slice a l.length c ∧ Mem g w' (own (.slice a l.length c) l :: L)) :=
  h.mono fun _ w' ⟨v, h1, h2, h3, h4⟩ => by
    obtain ⟨a, n, c, rfl, hn, hr⟩ := id h2
    subst hn
    exact ⟨_, h1, a, c, rfl, hs.add (F' := fun b => blk (.slice a l.length c) = some b) ⟨h2, fun _ => Iff.rfl⟩ (fun b hb => (h4 b hb).1) (Keeps.of_below h3 _)⟩
theorem clone_sl (hs : Mem g w L) {v : Value} {l : List UInt8} (h : Rd g L v (bytesL l)) (hl : l.length ≤ 1073741824) : Calls Tryd.prog 69 #[v] w (Ret fun v w' => ∃ a c, v = .slice a (bytesL l).length c ∧ Mem g w' (own (.slice a (bytesL l).length c) (bytesL l) :: L)) :=
  newSeq_sl hs (clone_bytes v _ w (h.seq hs) (bytesL_one l) (by simpa [bytesL] using hl))
theorem resRow1 {n : Nat} {P : Program} {fn : Func} {R : Ending → World → Prop} {ρ : Env} {t u : Tmp} {T : TypeId} (h : fn.results = #[.cell t T, .tmp u]) {b : Nat} {cs : List Value} {T' : TypeId} {v : Value} {fs : Array Field} (hs : Mem g w L) (i : Nat) (hi : L[i]? = some (cells b cs T'))
    (hp : ρ t = .pointer (some ⟨b, 0, none⟩)) (hT : P.underlying T = some (.struct fs)) (hsz : (P.info? T).map (·.size) = some cs.length) (hv : ρ u = v) (hR : R (.returned (.tuple #[.agg cs.toArray, v])) w) : ResE (n := n) P fn R ρ w := fun a ha => by
  obtain ⟨F, h1, _⟩ := hs.read hi
  have hagg : (isAgg T).run P w = .ok true w := by simp [isAgg, run_underlying hT]
  have h3 := run_loadVar_row (P := P) (T := T) (vs := cs.toArray) hagg (by simpa using hsz) h1
  have k1 := ha.get t
  have k2 := ha.get u
  rw [hp, Array.getD_eq_getD_getElem?] at k1
  rw [hv, Array.getD_eq_getD_getElem?] at k2
  exact ⟨_, by simp [results, h, k1, k2, asAddr, h3], hR⟩

/-! ### Make -/
def planC (nm : ByteArray) (sz sm ea pa : Int) : List Value := [.string nm, .int .i64 sz, .int .u32 sm, .int .i64 ea, .int .i64 pa]
/-- The code of Make's error, and the plan's fields. -/
def mkR (name : ByteArray) (l : List UInt8) (each : Int) : Nat × ByteArray × Int × Int × Int × Int :=
  if validB name.data.toList = false then (106, ByteArray.empty, 0, 0, 0, 0) else if each < 1 ∨ 1048576 < each then (105, ByteArray.empty, 0, 0, 0, 0) else if 256 < partsN l.length each.toNat then (104, ByteArray.empty, 0, 0, 0, 0)
  else (0, name, l.length, ((crcMore 0 l : Nat) : Int), each, (partsN l.length each.toNat : Nat))
theorem make_sl (hE : ErrG ad g) (hs : Mem g w L) {name : ByteArray} {a : Option Addr} {n c : Nat} {l : List UInt8} {each : Int} (hb : Rd g L (.slice a n c) (bytesL l)) (hn : n = l.length) (hlen : l.length ≤ 1048576) (heach : InI64 each) :
    Calls Tryd.prog 29 #[.string name, .slice a n c, .int .i64 each] w (Ret fun v w' => ∃ c nm sz sm ea pa, mkR name l each = (c, nm, sz, sm, ea, pa) ∧ v = .tuple #[.agg (planC nm sz sm ea pa).toArray, errV ad c] ∧ Mem g w' L) := by
  subst hn
  obtain ⟨he1, he2⟩ := heach
  refine calls_cw Tryd.func29 rfl rfl ?_
  skip
  refine cw_seq ?_
  refine cw_region ?_
  refine lw_alloc hs rfl ze38 ?_
  clear hs
  intro b6 w hs
  try simp only [List.set_cons_succ, List.set_cons_zero] at hs
  first | refine lw_val rfl (run_assign (v := errV ad _) rfl) ?_ | refine lw_val rfl (run_assign (v := .nilIface) rfl) ?_
  refine lw_nil ?_
  refine cw_seq ?_
  refine cw_seq ?_
  refine cw_region ?_
  first | refine lw_val rfl (run_move (v := .string _) rfl) ?_
  refine lw_call rfl en68 (valid_sl hs name) ?_
  clear hs
  rintro _ w ⟨rfl, hs⟩
  refine lw_val rfl (run_not rfl) ?_
  refine lw_nil ?_
  refine cw_if rfl ?_ ?_
  · intro h10
    replace h10 := not_b h10
    refine cw_seq ?_
    refine cw_drawS mixes hs.tail ?_
    intro w tr hK
    replace hs := tr _ hs
    clear tr
    refine aw_take 0 rfl (by kernel_rfl) (by kernel_rfl) (by kernel_rfl) rfl (fun w hs => run_build Tryd.underlying38 ze38 pl38 rfl) hK ?_
    refine aw_take 1 rfl (by kernel_rfl) (by kernel_rfl) (by kernel_rfl) rfl (fun w hs => run_load Tryd.underlying29 rfl rfl (hE.cellW hs 106 (by decide) rfl)) hK ?_
    refine aw_ready [2] (by kernel_rfl) (by simp) ?_
    refine ⟨⟨_, rfl, ?_⟩, trivial⟩
    first | refine lw_storeRow hs 0 rfl rfl rfl sz38 rfl rfl ?_ | refine lw_storeRow hs 1 rfl rfl rfl sz38 rfl rfl ?_ | refine lw_storeRow hs 2 rfl rfl rfl sz38 rfl rfl ?_ | refine lw_storeRow hs 3 rfl rfl rfl sz38 rfl rfl ?_ | refine lw_storeRow hs 4 rfl rfl rfl sz38 rfl rfl ?_ | refine lw_storeRow hs 5 rfl rfl rfl sz38 rfl rfl ?_ | refine lw_storeRow hs 6 rfl rfl rfl sz38 rfl rfl ?_ | refine lw_storeRow hs 7 rfl rfl rfl sz38 rfl rfl ?_ | refine lw_storeRow hs 8 rfl rfl rfl sz38 rfl rfl ?_ | refine lw_storeRow hs 9 rfl rfl rfl sz38 rfl rfl ?_ | refine lw_storeRow hs 10 rfl rfl rfl sz38 rfl rfl ?_ | refine lw_storeRow hs 11 rfl rfl rfl sz38 rfl rfl ?_ | refine lw_storeRow hs 12 rfl rfl rfl sz38 rfl rfl ?_ | refine lw_storeRow hs 13 rfl rfl rfl sz38 rfl rfl ?_
    clear hs
    intro w hs
    try simp only [List.set_cons_succ, List.set_cons_zero] at hs
    clear hK
    have hK := hs.tail
    refine lw_nil ⟨hK, ?_⟩
    first | refine aw_take 3 rfl (by kernel_rfl) (by kernel_rfl) (by kernel_rfl) rfl (fun w hs => run_assign (v := errV ad _) rfl) hK ?_ | refine aw_take 3 rfl (by kernel_rfl) (by kernel_rfl) (by kernel_rfl) rfl (fun w hs => run_assign (v := .nilIface) rfl) hK ?_
    refine aw_done (by kernel_rfl) ?_
    clear hK
    refine cw_ret ?_
    refine resRow1 rfl hs 0 rfl rfl Tryd.underlying38 sz38 rfl ⟨_, rfl, 106, ByteArray.empty, 0, 0, 0, 0, ?_, rfl, hs.tail⟩
    simp [mkR, h10]
  · intro h10
    replace h10 := not_c h10
    refine cw_skip ?_
    refine cw_seq ?_
    refine cw_seq ?_
    refine cw_region ?_
    first | refine lw_val rfl (run_move (v := .int .i64 _) rfl) ?_
    refine lw_val rfl (run_lss rfl rfl) ?_
    first | refine lw_val rfl (run_move (v := .bool _) rfl) ?_
    refine lw_split (t := _) (d := 16) rfl ?_ ?_
    · intro h15
      have g15 := of_decide_eq_true h15
      refine lw_off rfl rfl rfl h15 ?_
      refine lw_off rfl rfl rfl h15 ?_
      first | refine lw_val rfl (run_pickT (v := .bool _) rfl h15 rfl) ?_
      refine lw_nil ?_
      refine cw_ift rfl rfl ?_
      refine cw_seq ?_
      refine cw_drawS mixes hs.tail ?_
      intro w tr hK
      replace hs := tr _ hs
      clear tr
      refine aw_take 0 rfl (by kernel_rfl) (by kernel_rfl) (by kernel_rfl) rfl (fun w hs => run_build Tryd.underlying38 ze38 pl38 rfl) hK ?_
      refine aw_take 1 rfl (by kernel_rfl) (by kernel_rfl) (by kernel_rfl) rfl (fun w hs => run_load Tryd.underlying29 rfl rfl (hE.cellW hs 105 (by decide) rfl)) hK ?_
      refine aw_ready [2] (by kernel_rfl) (by simp) ?_
      refine ⟨⟨_, rfl, ?_⟩, trivial⟩
      first | refine lw_storeRow hs 0 rfl rfl rfl sz38 rfl rfl ?_ | refine lw_storeRow hs 1 rfl rfl rfl sz38 rfl rfl ?_ | refine lw_storeRow hs 2 rfl rfl rfl sz38 rfl rfl ?_ | refine lw_storeRow hs 3 rfl rfl rfl sz38 rfl rfl ?_ | refine lw_storeRow hs 4 rfl rfl rfl sz38 rfl rfl ?_ | refine lw_storeRow hs 5 rfl rfl rfl sz38 rfl rfl ?_ | refine lw_storeRow hs 6 rfl rfl rfl sz38 rfl rfl ?_ | refine lw_storeRow hs 7 rfl rfl rfl sz38 rfl rfl ?_ | refine lw_storeRow hs 8 rfl rfl rfl sz38 rfl rfl ?_ | refine lw_storeRow hs 9 rfl rfl rfl sz38 rfl rfl ?_ | refine lw_storeRow hs 10 rfl rfl rfl sz38 rfl rfl ?_ | refine lw_storeRow hs 11 rfl rfl rfl sz38 rfl rfl ?_ | refine lw_storeRow hs 12 rfl rfl rfl sz38 rfl rfl ?_ | refine lw_storeRow hs 13 rfl rfl rfl sz38 rfl rfl ?_
      clear hs
      intro w hs
      try simp only [List.set_cons_succ, List.set_cons_zero] at hs
      clear hK
      have hK := hs.tail
      refine lw_nil ⟨hK, ?_⟩
      first | refine aw_take 3 rfl (by kernel_rfl) (by kernel_rfl) (by kernel_rfl) rfl (fun w hs => run_assign (v := errV ad _) rfl) hK ?_ | refine aw_take 3 rfl (by kernel_rfl) (by kernel_rfl) (by kernel_rfl) rfl (fun w hs => run_assign (v := .nilIface) rfl) hK ?_
      refine aw_done (by kernel_rfl) ?_
      clear hK
      refine cw_ret ?_
      refine resRow1 rfl hs 0 rfl rfl Tryd.underlying38 sz38 rfl ⟨_, rfl, 105, ByteArray.empty, 0, 0, 0, 0, ?_, rfl, hs.tail⟩
      simp [mkR, h10, g15]
    · intro h15
      have g15 := of_decide_eq_false h15
      obtain ⟨e, rfl⟩ : ∃ e : Nat, each = e := ⟨each.toNat, by omega⟩
      refine lw_on rfl rfl h15 ?_
      first | refine lw_val rfl (run_move (v := .int .i64 _) rfl) ?_
      refine lw_on rfl rfl h15 ?_
      refine lw_val rfl (run_gtr rfl rfl) ?_
      first | refine lw_val rfl (run_pickF (v := .bool _) rfl h15 rfl) ?_
      refine lw_nil ?_
      refine cw_if rfl ?_ ?_
      · intro h18
        have g18 := of_decide_eq_true h18
        refine cw_seq ?_
        refine cw_drawS mixes hs.tail ?_
        intro w tr hK
        replace hs := tr _ hs
        clear tr
        refine aw_take 0 rfl (by kernel_rfl) (by kernel_rfl) (by kernel_rfl) rfl (fun w hs => run_build Tryd.underlying38 ze38 pl38 rfl) hK ?_
        refine aw_take 1 rfl (by kernel_rfl) (by kernel_rfl) (by kernel_rfl) rfl (fun w hs => run_load Tryd.underlying29 rfl rfl (hE.cellW hs 105 (by decide) rfl)) hK ?_
        refine aw_ready [2] (by kernel_rfl) (by simp) ?_
        refine ⟨⟨_, rfl, ?_⟩, trivial⟩
        first | refine lw_storeRow hs 0 rfl rfl rfl sz38 rfl rfl ?_ | refine lw_storeRow hs 1 rfl rfl rfl sz38 rfl rfl ?_ | refine lw_storeRow hs 2 rfl rfl rfl sz38 rfl rfl ?_ | refine lw_storeRow hs 3 rfl rfl rfl sz38 rfl rfl ?_ | refine lw_storeRow hs 4 rfl rfl rfl sz38 rfl rfl ?_ | refine lw_storeRow hs 5 rfl rfl rfl sz38 rfl rfl ?_ | refine lw_storeRow hs 6 rfl rfl rfl sz38 rfl rfl ?_ | refine lw_storeRow hs 7 rfl rfl rfl sz38 rfl rfl ?_ | refine lw_storeRow hs 8 rfl rfl rfl sz38 rfl rfl ?_ | refine lw_storeRow hs 9 rfl rfl rfl sz38 rfl rfl ?_ | refine lw_storeRow hs 10 rfl rfl rfl sz38 rfl rfl ?_ | refine lw_storeRow hs 11 rfl rfl rfl sz38 rfl rfl ?_ | refine lw_storeRow hs 12 rfl rfl rfl sz38 rfl rfl ?_ | refine lw_storeRow hs 13 rfl rfl rfl sz38 rfl rfl ?_
        clear hs
        intro w hs
        try simp only [List.set_cons_succ, List.set_cons_zero] at hs
        clear hK
        have hK := hs.tail
        refine lw_nil ⟨hK, ?_⟩
        first | refine aw_take 3 rfl (by kernel_rfl) (by kernel_rfl) (by kernel_rfl) rfl (fun w hs => run_assign (v := errV ad _) rfl) hK ?_ | refine aw_take 3 rfl (by kernel_rfl) (by kernel_rfl) (by kernel_rfl) rfl (fun w hs => run_assign (v := .nilIface) rfl) hK ?_
        refine aw_done (by kernel_rfl) ?_
        clear hK
        refine cw_ret ?_
        refine resRow1 rfl hs 0 rfl rfl Tryd.underlying38 sz38 rfl ⟨_, rfl, 105, ByteArray.empty, 0, 0, 0, 0, ?_, rfl, hs.tail⟩
        unfold mkR; rw [if_neg (by simp [h10]), if_pos (by omega)]
      · intro h18
        have g18 := of_decide_eq_false h18
        have hp := parts_any l.length e (by omega) (by omega) hlen
        refine cw_skip ?_
        refine cw_seq ?_
        refine cw_region ?_
        first | refine lw_val rfl (run_move (v := .slice _ _ _) rfl) ?_
        refine lw_val rfl (run_lenS Tryd.underlying27 rfl) ?_
        first | refine lw_val rfl (run_move (v := .int .i64 _) rfl) ?_
        refine lw_call rfl en72 (hs.callsE (hp _)) ?_
        clear hs
        rintro _ w ⟨rfl, hs⟩
        first | refine lw_val rfl (run_assign (v := .int .i64 _) rfl) ?_
        refine lw_nil ?_
        refine cw_seq ?_
        refine cw_seq ?_
        refine cw_region ?_
        first | refine lw_val rfl (run_move (v := .int .i64 _) rfl) ?_
        refine lw_val rfl (run_gtr rfl rfl) ?_
        refine lw_nil ?_
        refine cw_if rfl ?_ ?_
        · intro h27
          have g27 := of_decide_eq_true h27
          refine cw_seq ?_
          refine cw_drawS mixes hs.tail ?_
          intro w tr hK
          replace hs := tr _ hs
          clear tr
          refine aw_take 0 rfl (by kernel_rfl) (by kernel_rfl) (by kernel_rfl) rfl (fun w hs => run_build Tryd.underlying38 ze38 pl38 rfl) hK ?_
          refine aw_take 1 rfl (by kernel_rfl) (by kernel_rfl) (by kernel_rfl) rfl (fun w hs => run_load Tryd.underlying29 rfl rfl (hE.cellW hs 104 (by decide) rfl)) hK ?_
          refine aw_ready [2] (by kernel_rfl) (by simp) ?_
          refine ⟨⟨_, rfl, ?_⟩, trivial⟩
          first | refine lw_storeRow hs 0 rfl rfl rfl sz38 rfl rfl ?_ | refine lw_storeRow hs 1 rfl rfl rfl sz38 rfl rfl ?_ | refine lw_storeRow hs 2 rfl rfl rfl sz38 rfl rfl ?_ | refine lw_storeRow hs 3 rfl rfl rfl sz38 rfl rfl ?_ | refine lw_storeRow hs 4 rfl rfl rfl sz38 rfl rfl ?_ | refine lw_storeRow hs 5 rfl rfl rfl sz38 rfl rfl ?_ | refine lw_storeRow hs 6 rfl rfl rfl sz38 rfl rfl ?_ | refine lw_storeRow hs 7 rfl rfl rfl sz38 rfl rfl ?_ | refine lw_storeRow hs 8 rfl rfl rfl sz38 rfl rfl ?_ | refine lw_storeRow hs 9 rfl rfl rfl sz38 rfl rfl ?_ | refine lw_storeRow hs 10 rfl rfl rfl sz38 rfl rfl ?_ | refine lw_storeRow hs 11 rfl rfl rfl sz38 rfl rfl ?_ | refine lw_storeRow hs 12 rfl rfl rfl sz38 rfl rfl ?_ | refine lw_storeRow hs 13 rfl rfl rfl sz38 rfl rfl ?_
          clear hs
          intro w hs
          try simp only [List.set_cons_succ, List.set_cons_zero] at hs
          clear hK
          have hK := hs.tail
          refine lw_nil ⟨hK, ?_⟩
          first | refine aw_take 3 rfl (by kernel_rfl) (by kernel_rfl) (by kernel_rfl) rfl (fun w hs => run_assign (v := errV ad _) rfl) hK ?_ | refine aw_take 3 rfl (by kernel_rfl) (by kernel_rfl) (by kernel_rfl) rfl (fun w hs => run_assign (v := .nilIface) rfl) hK ?_
          refine aw_done (by kernel_rfl) ?_
          clear hK
          refine cw_ret ?_
          refine resRow1 rfl hs 0 rfl rfl Tryd.underlying38 sz38 rfl ⟨_, rfl, 104, ByteArray.empty, 0, 0, 0, 0, ?_, rfl, hs.tail⟩
          unfold mkR; rw [if_neg (by simp [h10]), if_neg (by omega), if_pos (by simp; omega)]
        · intro h27
          have g27 := of_decide_eq_false h27
          refine cw_skip ?_
          refine cw_seq ?_
          refine cw_region ?_
          first | refine lw_val rfl (run_move (v := .string _) rfl) ?_
          first | refine lw_val rfl (run_move (v := .slice _ _ _) rfl) ?_
          refine lw_val rfl (run_lenS Tryd.underlying27 rfl) ?_
          first | refine lw_val rfl (run_move (v := .slice _ _ _) rfl) ?_
          refine lw_buildSlice hs rfl ([.slice a l.length c]) Tryd.underlying83 zs27 rfl (by simp [Value.cells]) rfl rfl rfl ?_
          clear hs
          intro b34 w hs
          try simp only [List.set_cons_succ, List.set_cons_zero] at hs
          refine lw_call rfl en73 (of_sl hs (Rd.cells 0 rfl rfl) hb.cons.cons (by omega)) ?_
          clear hs
          rintro _ w ⟨rfl, hs⟩
          first | refine lw_val rfl (run_move (v := .int .i64 _) rfl) ?_
          first | refine lw_val rfl (run_move (v := .int .i64 _) rfl) ?_
          refine lw_val rfl (run_buildF ([.string name, .int .i64 l.length, .int .u32 ((crcMore 0 l : Nat) : Int), .int .i64 e, .int .i64 (partsN l.length e : Nat)]) Tryd.underlying38 ze38 pl38 rfl (by simp [Value.cells]) rfl rfl) ?_
          first | refine lw_storeRow hs 0 rfl rfl rfl sz38 rfl rfl ?_ | refine lw_storeRow hs 1 rfl rfl rfl sz38 rfl rfl ?_ | refine lw_storeRow hs 2 rfl rfl rfl sz38 rfl rfl ?_ | refine lw_storeRow hs 3 rfl rfl rfl sz38 rfl rfl ?_ | refine lw_storeRow hs 4 rfl rfl rfl sz38 rfl rfl ?_ | refine lw_storeRow hs 5 rfl rfl rfl sz38 rfl rfl ?_ | refine lw_storeRow hs 6 rfl rfl rfl sz38 rfl rfl ?_ | refine lw_storeRow hs 7 rfl rfl rfl sz38 rfl rfl ?_ | refine lw_storeRow hs 8 rfl rfl rfl sz38 rfl rfl ?_ | refine lw_storeRow hs 9 rfl rfl rfl sz38 rfl rfl ?_ | refine lw_storeRow hs 10 rfl rfl rfl sz38 rfl rfl ?_ | refine lw_storeRow hs 11 rfl rfl rfl sz38 rfl rfl ?_ | refine lw_storeRow hs 12 rfl rfl rfl sz38 rfl rfl ?_ | refine lw_storeRow hs 13 rfl rfl rfl sz38 rfl rfl ?_
          clear hs
          intro w hs
          try simp only [List.set_cons_succ, List.set_cons_zero] at hs
          first | refine lw_val rfl (run_assign (v := errV ad _) rfl) ?_ | refine lw_val rfl (run_assign (v := .nilIface) rfl) ?_
          refine lw_nil ?_
          refine cw_ret ?_
          refine resRow1 rfl hs 1 rfl rfl Tryd.underlying38 sz38 rfl ⟨_, rfl, 0, name, l.length, ((crcMore 0 l : Nat) : Int), e, (partsN l.length e : Nat), ?_, (by rw [errV_zero]; rfl), hs.tail.tail⟩
          unfold mkR; rw [if_neg (by simp [h10]), if_neg (by omega), if_neg (by simp; omega)]; simp
theorem range_sl (hs : Mem g w L) {name : ByteArray} {size sum each parts : Nat} {n : Int} (h1 : 1 ≤ each) (h2 : each ≤ 1048576) (h3 : size ≤ 1048576) (hp : parts = partsN size each) (hm : parts ≤ 256) :
    Calls Tryd.prog 32 #[.agg (planC name size sum each parts).toArray, .int .i64 n] w (Ret fun v w' => ∃ f t : Int, (0 ≤ n → n < parts → f = ((n.toNat * each : Nat) : Int) ∧ t = ((min ((n.toNat + 1) * each) size : Nat) : Int)) ∧ v = .tuple #[.int .i64 f, .int .i64 t, .bool (decide (0 ≤ n ∧ n < parts))] ∧ Mem g w' L) := by
  by_cases h : 0 ≤ n ∧ n < parts
  · obtain ⟨k, rfl⟩ : ∃ k : Nat, n = k := ⟨n.toNat, by omega⟩
    refine (hs.calls (range_in (name := name) (sum := sum) h1 h2 h3 hp hm (n := k) (by omega))).mono ?_
    rintro e w' ⟨v, rfl, rfl, hs⟩
    exact ⟨_, rfl, _, _, fun _ _ => ⟨rfl, rfl⟩, by simp [h], hs⟩
  · refine (hs.calls (range_out (name := name) (sum := sum) h1 h2 h3 hp hm (n := n) (by omega))).mono ?_
    rintro e w' ⟨v, rfl, rfl, hs⟩
    exact ⟨_, rfl, 0, 0, fun a b => absurd ⟨a, b⟩ h, by simp [h], hs⟩
end Go.Proofs.YtjiigajekminaaaDoor
