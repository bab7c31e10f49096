/- The law JourKeeps. -/
import Derived.Test.YtmnfehbnjgmgjaaDoorJc
import Derived.Test.YtmnfehbnjgmgjaaDoorRw
namespace Go.Proofs.YtmnfehbnjgmgjaaDoor
set_option linter.all false
open Go.RowKit
attribute [local irreducible] errV eV
variable {g w : World} {L M : List HP} {ad : Nat → Addr} {p : Nat} {d : Dk}

abbrev S4 := Int × Int × Int × Int
def s4L (s : S4) : List Int := [s.1, s.2.1, s.2.2.1, s.2.2.2]
def s4V (s : S4) : List Value := [.int .i64 s.1, .int .i64 s.2.1, .int .i64 s.2.2.1, .int .i64 s.2.2.2]
def s40 : S4 := (0, 0, 0, 0)
abbrev S4ok (s : S4) : Prop := ∀ x ∈ s4L s, InI64 x
def clrF (f : ByteArray → Option (List UInt8)) (s : ByteArray) : ByteArray → Option (List UInt8) := fun n => if n = s then none else f n
theorem PtI.jgone {f : ByteArray → Option (List UInt8)} (h : PtI nU 100 f d) (ha : d.armed = 0) : ∃ e, d.jremove = (0, e) ∧ e.calls ≤ d.calls + 2 ∧ e.armed = 0 ∧ (e.ok → PtI nU 100 (clrF f nUp) e) := by
  have hu := h.calm.up
  have hun : ∀ (e : Dk), aget e.names nUp = none → ∀ n ∈ nU, Under e n (clrF f nUp n) := fun e he n hn => by
    simp only [List.mem_cons, List.not_mem_nil, or_false] at hn
    subst hn
    simp only [clrF, if_true]
    exact he
  cases hn : aget d.names nUp with
  | none =>
    have hr : d.remove nUp = (107, d) := by simp only [Dk.remove, Dk.find_none hu ha hn]
    have hj : d.jremove = d.syncDir := by simp [Dk.jremove, hr]
    rw [hj, Dk.syncDir_up hu ha]
    exact ⟨_, rfl, by simp only; omega, ha, fun he => ⟨⟨⟨he, hu⟩, rfl, rfl⟩, hun _ hn, h.keys, h.len⟩⟩
  | some i =>
    have hr := Dk.remove_up hu ha hn
    have hj : d.jremove = (d.change ⟨ByteArray.empty, nUp, none⟩).syncDir := by simp [Dk.jremove, hr]
    have hnm : (d.change ⟨ByteArray.empty, nUp, none⟩).names = adel d.names nUp := by
      simp only [Dk.change, Chg.app]
      rw [if_neg (by decide)]
    rw [hj, Dk.syncDir_up (d := d.change ⟨ByteArray.empty, nUp, none⟩) hu ha]
    refine ⟨_, rfl, by simp only [Dk.change]; omega, ha, fun he => ⟨⟨⟨he, hu⟩, rfl, rfl⟩, hun _ ?_, fun n hk => ?_, h.len⟩⟩
    · show aget (d.change ⟨ByteArray.empty, nUp, none⟩).names nUp = none
      rw [hnm]; exact aget_del_same h.calm.ok.nnd nUp
    · have hk : n ∈ keysOf (d.change ⟨ByteArray.empty, nUp, none⟩).names := hk
      rw [hnm] at hk
      obtain ⟨v, hv⟩ := aget_of_key hk
      exact h.keys n (List.mem_map_of_mem (f := Prod.fst) (adel_in (aget_mem hv)))
def JkD (F : ByteArray → Option (List UInt8)) (d : Dk) : Option S4 → Prop
  | none => d.down = false ∧ PtI nU 100 F d
  | some s => d.down = true ∧ (s4L s).all inR = true ∧ ∀ picks, PtI nU 100 F (d.crash picks) ∨ PtI nU 100 (updF F nUp (numsL (s4L s))) (d.crash picks)
structure JkI (F : ByteArray → Option (List UInt8)) (cur : Option S4) : Prop where
  rel : F nUp = cur.map fun s => numsL (s4L s)
  ok : ∀ s, cur = some s → (s4L s).all inR = true
def curJ (cur : Option S4) : Nat × Bool × Int × Int × Int × Int := match cur with
  | none => zS
  | some s => (0, true, s.1, s.2.1, s.2.2.1, s.2.2.2)
theorem curJ_form (cur : Option S4) : curJ cur = (0, cur.isSome, (cur.getD s40).1, (cur.getD s40).2.1, (cur.getD s40).2.2.1, (cur.getD s40).2.2.2) := by cases cur <;> rfl
theorem JkI.read {F : ByteArray → Option (List UInt8)} {cur : Option S4} (h : JkI F cur) (hp : PtI nU 100 F d) : jst (d.pread nUp) = curJ cur := by
  cases cur with
  | none => exact hp.jnone h.rel
  | some s => exact hp.jread (x := s.1) (y := s.2.1) (z := s.2.2.1) (u := s.2.2.2) h.rel (all_I (h.ok s rfl)) (h.ok s rfl)
theorem JkI.upd {F : ByteArray → Option (List UInt8)} {s : S4} (h : (s4L s).all inR = true) : JkI (updF F nUp (numsL (s4L s))) (some s) := ⟨upU _ _, fun t ht => by cases ht; exact h⟩
/-- Behind the crash. -/
theorem JkD.crash {F : ByteArray → Option (List UInt8)} {cur nx : Option S4} (h : JkI F cur) (hd : JkD F d nx) (picks : List Int) : ∃ G c, PtI nU 100 G (d.crash picks) ∧ JkI G c ∧ (c = cur ∨ ∃ s, nx = some s ∧ c = some s) := by
  cases nx with
  | none => exact ⟨F, cur, hd.2.crash picks, h, .inl rfl⟩
  | some s =>
    obtain ⟨_, h1, h2⟩ := hd
    rcases h2 picks with h3 | h3
    · exact ⟨F, cur, h3, h, .inl rfl⟩
    · exact ⟨_, some s, h3, JkI.upd h1, .inr ⟨s, rfl, rfl⟩⟩
theorem s4_bad {s : S4} {x : Int} (hx : x ∈ s4L s) (h : inR x = false) : (s4L s).all inR = false := by
  cases ha : (s4L s).all inR with
  | false => rfl
  | true => have := List.all_eq_true.1 ha x hx; rw [h] at this; cases this
/-- States that came in. -/
def StRows (w : World) (v : Value) (zs : List S4) : Prop := RowsR w 4 v (zs.map s4V) ∧ ∀ s ∈ zs, S4ok s
set_option maxRecDepth 100000 in
theorem open_states {H : Type} {enc : TypeId × Value → H} {w : World} {base : Nat} {spare : Nat → Bool} {held : Bool} {fuel : Nat} {a : Option Addr} {n c : Nat} {x : DataW H × List MemPlace}
    (h : DataW.trod enc Tryd.prog w base spare held fuel 80 [.slice a n c] = some x) : ∃ zs : List S4, StRows w (.slice a n c) zs := by
  have c3 : Tryd.prog.cellsOf 3 = 1 := by kernel_rfl
  have ck : Tryd.prog.cellsOf 50 = 4 := by kernel_rfl
  refine open_structs (P := Tryd.prog) (k := 4) s4V S4ok Tryd.underlying80 Tryd.underlying50 ck (by decide) (fun row m hl hf => ?_) h
  match row, hl with
  | [v0, v1, v2, v3], _ =>
    obtain ⟨y0, g0⟩ := hf 0 _ rfl
    obtain ⟨y1, g1⟩ := hf 1 _ rfl
    obtain ⟨y2, g2⟩ := hf 2 _ rfl
    obtain ⟨y3, g3⟩ := hf 3 _ rfl
    have g0 : DataW.trod enc Tryd.prog w base spare held m 3 (([v0, v1, v2, v3].drop 0).take (Tryd.prog.cellsOf 3)) = some y0 := g0
    rw [c3] at g0
    have g1 : DataW.trod enc Tryd.prog w base spare held m 3 (([v0, v1, v2, v3].drop 1).take (Tryd.prog.cellsOf 3)) = some y1 := g1
    rw [c3] at g1
    have g2 : DataW.trod enc Tryd.prog w base spare held m 3 (([v0, v1, v2, v3].drop 2).take (Tryd.prog.cellsOf 3)) = some y2 := g2
    rw [c3] at g2
    have g3 : DataW.trod enc Tryd.prog w base spare held m 3 (([v0, v1, v2, v3].drop 3).take (Tryd.prog.cellsOf 3)) = some y3 := g3
    rw [c3] at g3
    obtain ⟨z0, e0, _, f0⟩ := DataW.trod_int Tryd.underlying3 g0
    obtain ⟨z1, e1, _, f1⟩ := DataW.trod_int Tryd.underlying3 g1
    obtain ⟨z2, e2, _, f2⟩ := DataW.trod_int Tryd.underlying3 g2
    obtain ⟨z3, e3, _, f3⟩ := DataW.trod_int Tryd.underlying3 g3
    cases e0; cases e1; cases e2; cases e3
    refine ⟨(z0, z1, z2, z3), rfl, fun q hq => ?_⟩
    simp only [s4L, List.mem_cons, List.not_mem_nil, or_false] at hq
    rcases hq with rfl | rfl | rfl | rfl
    · exact wfI f0
    · exact wfI f1
    · exact wfI f2
    · exact wfI f3
set_option maxRecDepth 100000 in
set_option maxHeartbeats 4000000 in
theorem jourKeeps_sl (hA : ErrA ad g) (hs : Mem g w []) {a0 a2 : Option Addr} {n0 n2 c0 c2 : Nat} {l : List S4} {arm : Int} {picks : List Int} (h0 : RowsR g 4 (.slice a0 n0 c0) (l.map s4V)) (hl : ∀ s ∈ l, S4ok s) (h2 : Came g (.slice a2 n2 c2) (intsL picks)) (e2 : n2 = picks.length) :
    Calls Tryd.prog 9 #[.slice a0 n0 c0, .int .i64 arm, .slice a2 n2 c2] w (Ret fun v w' => v = .bool true ∧ Mem g w' []) := by
  have e0 : n0 = l.length := by rw [h0.len, List.length_map]
  subst e0 e2
  have hE : ErrJ ad g := hA.sub (by decide)
  have hK : ErrK ad g := hE.sub (by decide)
  refine calls_cw Tryd.func9 rfl rfl ?_
  skip
  refine cw_seq ?_
  refine cw_region ?_
  first | refine lw_val rfl (run_assign (v := .bool _) rfl) ?_
  refine lw_nil ?_
  refine cw_seq ?_
  refine cw_region ?_
  refine lw_call rfl en25 (first20_sl hE hs) ?_
  clear hs
  rintro _ w ⟨rfl, hs⟩
  first | refine lw_val rfl (run_assign (v := .bool _) rfl) ?_
  refine lw_nil ?_
  refine cw_seq ?_
  refine cw_seq ?_
  refine cw_region ?_
  first | refine lw_val rfl (run_move (v := .bool _) rfl) ?_
  refine lw_val rfl (run_not rfl) ?_
  refine lw_nil ?_
  refine cw_iff rfl (not_f (rfl)) ?_
  refine cw_skip ?_
  refine cw_seq ?_
  refine cw_seq ?_
  refine cw_region ?_
  first | refine lw_val rfl (run_move (v := .slice _ _ _) rfl) ?_
  refine lw_val rfl (run_lenS Tryd.underlying80 rfl) ?_
  refine lw_val rfl (run_gtr rfl rfl) ?_
  first | refine lw_val rfl (run_move (v := .bool _) rfl) ?_
  refine lw_split (t := _) (d := 37) rfl ?_ ?_
  · intro h36
    have g36 := of_decide_eq_true h36
    refine lw_off rfl rfl rfl h36 ?_
    refine lw_off rfl rfl rfl h36 ?_
    refine lw_off rfl rfl rfl h36 ?_
    first | refine lw_val rfl (run_pickT (v := .bool _) rfl h36 rfl) ?_
    first | refine lw_val rfl (run_move (v := .bool _) rfl) ?_
    refine lw_off rfl rfl rfl rfl ?_
    refine lw_off rfl rfl rfl rfl ?_
    first | refine lw_val rfl (run_pickT (v := .bool _) rfl rfl rfl) ?_
    refine lw_nil ?_
    refine cw_ift rfl rfl ?_
    refine cw_seq ?_
    refine cw_region ?_
    first | refine lw_val rfl (run_move (v := .bool _) rfl) ?_
    first | refine lw_val rfl (run_assign (v := .bool _) rfl) ?_
    refine lw_nil ?_
    refine cw_ret ?_
    refine res1 (v := .bool _) rfl rfl ?_
    exact ⟨_, rfl, rfl, hs⟩
  · intro h36
    have g36 := of_decide_eq_false h36
    refine lw_on rfl rfl h36 ?_
    first | refine lw_val rfl (run_move (v := .slice _ _ _) rfl) ?_
    refine lw_on rfl rfl h36 ?_
    refine lw_val rfl (run_lenS Tryd.underlying63 rfl) ?_
    refine lw_on rfl rfl h36 ?_
    refine lw_val rfl (run_gtr rfl rfl) ?_
    first | refine lw_val rfl (run_pickF (v := .bool _) rfl h36 rfl) ?_
    first | refine lw_val rfl (run_move (v := .bool _) rfl) ?_
    refine lw_split (t := _) (d := 42) rfl ?_ ?_
    · intro h40
      have g40 := of_decide_eq_true h40
      refine lw_off rfl rfl rfl h40 ?_
      refine lw_off rfl rfl rfl h40 ?_
      first | refine lw_val rfl (run_pickT (v := .bool _) rfl h40 rfl) ?_
      refine lw_nil ?_
      refine cw_ift rfl rfl ?_
      refine cw_seq ?_
      refine cw_region ?_
      first | refine lw_val rfl (run_move (v := .bool _) rfl) ?_
      first | refine lw_val rfl (run_assign (v := .bool _) rfl) ?_
      refine lw_nil ?_
      refine cw_ret ?_
      refine res1 (v := .bool _) rfl rfl ?_
      exact ⟨_, rfl, rfl, hs⟩
    · intro h40
      have g40 := of_decide_eq_false h40
      refine lw_on rfl rfl h40 ?_
      first | refine lw_val rfl (run_move (v := .bool _) rfl) ?_
      refine lw_on rfl rfl h40 ?_
      refine lw_val rfl (run_not rfl) ?_
      first | refine lw_val rfl (run_pickF (v := .bool _) rfl h40 rfl) ?_
      refine lw_nil ?_
      refine cw_iff rfl (not_f (rfl)) ?_
      refine cw_skip ?_
      refine cw_seq ?_
      refine cw_region ?_
      refine lw_call rfl en26 (newd_sl hs (r := 65536) (by decide) (by decide)) ?_
      clear hs
      rintro _ w ⟨p, rfl, hs⟩
      first | refine lw_val rfl (run_move (v := .tuple _) rfl) ?_
      first | refine lw_val rfl (run_extract (v := .pointer (some _)) rfl rfl) ?_ | refine lw_val rfl (run_extract (v := .pointer none) rfl rfl) ?_
      first | refine lw_val rfl (run_extract (v := errV ad _) rfl rfl) ?_ | refine lw_val rfl (run_extract (v := .nilIface) rfl rfl) ?_ | refine lw_val rfl (run_extract (v := eV ad _ _) rfl rfl) ?_ | refine lw_val rfl (run_extract (v := .iface _ (.pointer (some _))) rfl rfl) ?_
      first | refine lw_val rfl (run_assign (v := .pointer (some _)) rfl) ?_ | refine lw_val rfl (run_assign (v := .pointer none) rfl) ?_
      first | refine lw_val rfl (run_assign (v := errV ad _) rfl) ?_ | refine lw_val rfl (run_assign (v := .nilIface) rfl) ?_ | refine lw_val rfl (run_assign (v := eV ad _ _) rfl) ?_ | refine lw_val rfl (run_assign (v := .iface _ (.pointer (some _))) rfl) ?_
      refine lw_nil ?_
      refine cw_seq ?_
      refine cw_seq ?_
      refine cw_region ?_
      first | refine lw_val rfl (run_move (v := .pointer (some _)) rfl) ?_ | refine lw_val rfl (run_move (v := .pointer none) rfl) ?_
      refine lw_val rfl (run_eqpn Tryd.underlying45 rfl rfl) ?_
      first | refine lw_val rfl (run_move (v := .bool _) rfl) ?_
      refine lw_on rfl rfl rfl ?_
      first | refine lw_val rfl (run_move (v := errV ad _) rfl) ?_ | refine lw_val rfl (run_move (v := .nilIface) rfl) ?_ | refine lw_val rfl (run_move (v := eV ad _ _) rfl) ?_ | refine lw_val rfl (run_move (v := .iface _ (.pointer (some _))) rfl) ?_
      refine lw_on rfl rfl rfl ?_
      first | refine lw_val rfl (run_neerrn (ad := ad) rfl) ?_ | refine lw_val rfl (run_nenn rfl) ?_ | refine lw_val rfl (run_neE (ad := ad) rfl) ?_
      first | refine lw_val rfl (run_pickF (v := .bool _) rfl rfl rfl) ?_
      refine lw_nil ?_
      refine cw_iff rfl (rfl) ?_
      refine cw_skip ?_
      refine cw_seq ?_
      refine cw_region ?_
      first | refine lw_val rfl (run_move (v := .pointer (some _)) rfl) ?_ | refine lw_val rfl (run_move (v := .pointer none) rfl) ?_
      first | refine lw_val rfl (run_move (v := .int .i64 _) rfl) ?_
      refine lw_call rfl en40 (number_sl hs arm 60 (by decide)) ?_
      clear hs
      rintro _ w ⟨r, hr, rfl, hs⟩
      refine lw_call rfl en39 (arm_sl hs r (by omega)) ?_
      clear hs
      rintro _ w ⟨rfl, hs⟩
      obtain ⟨hok1, _⟩ := hs.openD
      have pt1 : PtI nU 100 (fun _ => none) { Dk.empty 65536 with armed := r } := (PtI.start (by decide)).arm hok1
      refine lw_nil ?_
      refine cw_seq ?_
      refine cw_region ?_
      refine lw_alloc hs rfl ze50 ?_
      clear hs
      intro b10 w hs
      try simp only [List.set_cons_succ, List.set_cons_zero] at hs
      refine lw_alloc hs rfl ze50 ?_
      clear hs
      intro b11 w hs
      try simp only [List.set_cons_succ, List.set_cons_zero] at hs
      refine lw_nil ?_
      refine cw_seq ?_
      refine cw_region ?_
      first | refine lw_val rfl (run_assign (v := .bool _) rfl) ?_
      refine lw_nil ?_
      refine cw_seq ?_
      refine cw_region ?_
      first | refine lw_val rfl (run_assign (v := .bool _) rfl) ?_
      refine lw_nil ?_
      refine cw_seq ?_
      refine cw_seq ?_
      refine cw_region ?_
      first | refine lw_val rfl (run_assign (v := .int .i64 _) rfl) ?_
      refine lw_nil ?_
      refine cw_block ?_
      refine cw_loop (X := Nat × Dk × (ByteArray → Option (List UInt8)) × Option S4 × Option S4) [6, 12, 13, 14, 15, 16, 17, 18, 19, 20, 61, 62, 63, 64, 65, 66, 67, 68, 69, 70, 71, 72, 73, 74, 75, 76, 77, 78, 79, 80, 81, 82, 83, 84, 85, 86, 87, 88, 89, 90, 91, 92, 93, 94, 95, 96, 97, 98, 99, 100, 101, 102, 103, 104, 105, 106, 107, 108, 109, 110, 111, 112, 113, 114, 115, 116, 117, 118, 119, 120, 121, 122, 123, 124, 125, 126, 127, 128] (fun x => [(12, .bool x.2.2.2.1.isSome), (13, .bool x.2.2.2.2.isSome), (14, .int .i64 (x.1 : Nat))]) (fun x w => x.1 ≤ l.length ∧ x.2.1.calls ≤ 6 * x.1 ∧ x.2.1.room = 65536 ∧ JkI x.2.2.1 x.2.2.2.1 ∧ JkD x.2.2.1 x.2.1 x.2.2.2.2 ∧ Mem g w (cells b11 (s4V (x.2.2.2.2.getD s40)) 50 :: cells b10 (s4V (x.2.2.2.1.getD s40)) 50 :: DiskC p x.2.1 :: [])) (fun x => l.length - x.1) ((0, { Dk.empty 65536 with armed := r }, fun _ => none, none, none)) ?_ ?_ ?_
      · exact ⟨rfl, rfl, rfl, trivial⟩
      · exact ⟨Nat.zero_le _, Nat.le_refl _, rfl, ⟨rfl, fun s h => by cases h⟩, ⟨rfl, pt1⟩, hs⟩
      clear hs
      rintro x ξ w hI
      obtain ⟨i, d, F, cur, nx⟩ := x
      obtain ⟨hi, hcl, hro, hJ, hD, hs⟩ := hI
      simp only at hi hcl hro hJ hD hs
      show cw _ _ _ _ _ _ (updL (mix _ ξ _) [(12, .bool cur.isSome), (13, .bool nx.isSome), (14, .int .i64 (i : Nat))]) w
      refine cw_seq ?_
      refine cw_seq ?_
      refine cw_region ?_
      first | refine lw_val rfl (run_move (v := .int .i64 _) rfl) ?_
      first | refine lw_val rfl (run_move (v := .slice _ _ _) rfl) ?_
      refine lw_val rfl (run_lenS Tryd.underlying80 rfl) ?_
      refine lw_val rfl (run_lss rfl rfl) ?_
      first | refine lw_val rfl (run_move (v := .bool _) rfl) ?_
      refine lw_split (t := _) (d := 65) rfl ?_ ?_
      · intro h64
        have g64 := of_decide_eq_true h64
        refine lw_on rfl rfl h64 ?_
        first | refine lw_val rfl (run_move (v := .pointer (some _)) rfl) ?_ | refine lw_val rfl (run_move (v := .pointer none) rfl) ?_
        refine lw_on rfl rfl h64 ?_
        refine lw_call rfl en41 (down_sl (hs.arr [2, 0, 1] 3 (by decide))) ?_
        clear hs
        rintro _ w ⟨rfl, hs⟩
        replace hs : Mem g w [cells b11 (s4V (nx.getD s40)) 50, cells b10 (s4V (cur.getD s40)) 50, DiskC p d] := hs.arr [1, 2, 0] 3 (by decide)
        refine lw_on rfl rfl h64 ?_
        refine lw_val rfl (run_not rfl) ?_
        first | refine lw_val rfl (run_pickT (v := .bool _) rfl h64 rfl) ?_
        refine lw_nil ?_
        refine cw_if rfl ?_ ?_
        · intro h67
          replace h67 := not_b h67
          obtain rfl : nx = none := by cases nx; rfl; exact absurd (hD.1.symm.trans h67) (by decide)
          obtain ⟨hup, hpt⟩ := hD
          obtain ⟨s, hls⟩ : ∃ s, l[i]? = some s := ⟨_, List.getElem?_eq_getElem (by omega)⟩
          have hsI := hl s (List.mem_of_getElem? hls)
          obtain ⟨b0, o0, rfl, hat⟩ := h0.at hs (row := s4V s) (q := i) (by rw [List.getElem?_map, hls]; rfl)
          obtain ⟨k, e, hw, hre, hce, hde⟩ := hpt.jwrite (l := s4L s) rfl (by omega)
          have hz0 := hsI s.1 (by simp [s4L])
          have hz1 := hsI s.2.1 (by simp [s4L])
          have hz2 := hsI s.2.2.1 (by simp [s4L])
          have hz3 := hsI s.2.2.2 (by simp [s4L])
          refine cw_skip ?_
          refine cw_seq ?_
          refine cw_block ?_
          refine cw_seq ?_
          refine cw_region ?_
          first | refine lw_val rfl (run_move (v := .slice _ _ _) rfl) ?_
          first | refine lw_val rfl (run_move (v := .int .i64 _) rfl) ?_
          refine lw_val rfl (run_indexAddrK Tryd.underlying80 sz50 rfl rfl rfl (by omega) rfl) ?_
          refine lw_val rfl (run_loadK (cs := s4V s) Tryd.underlying50 sz50 rfl hat) ?_
          refine lw_alloc hs rfl ze50 ?_
          clear hs
          intro b15 w hs
          try simp only [List.set_cons_succ, List.set_cons_zero] at hs
          first | refine lw_storeRow hs 0 rfl rfl rfl sz50 rfl rfl ?_ | refine lw_storeRow hs 1 rfl rfl rfl sz50 rfl rfl ?_ | refine lw_storeRow hs 2 rfl rfl rfl sz50 rfl rfl ?_ | refine lw_storeRow hs 3 rfl rfl rfl sz50 rfl rfl ?_ | refine lw_storeRow hs 4 rfl rfl rfl sz50 rfl rfl ?_ | refine lw_storeRow hs 5 rfl rfl rfl sz50 rfl rfl ?_ | refine lw_storeRow hs 6 rfl rfl rfl sz50 rfl rfl ?_ | refine lw_storeRow hs 7 rfl rfl rfl sz50 rfl rfl ?_ | refine lw_storeRow hs 8 rfl rfl rfl sz50 rfl rfl ?_ | refine lw_storeRow hs 9 rfl rfl rfl sz50 rfl rfl ?_ | refine lw_storeRow hs 10 rfl rfl rfl sz50 rfl rfl ?_ | refine lw_storeRow hs 11 rfl rfl rfl sz50 rfl rfl ?_ | refine lw_storeRow hs 12 rfl rfl rfl sz50 rfl rfl ?_ | refine lw_storeRow hs 13 rfl rfl rfl sz50 rfl rfl ?_
          clear hs
          intro w hs
          try simp only [List.set_cons_succ, List.set_cons_zero] at hs
          refine lw_nil ?_
          refine cw_seq ?_
          refine cw_region ?_
          first | refine lw_val rfl (run_fieldAddr (o' := 0) Tryd.underlying50 rfl sz3 rfl rfl rfl) ?_ | refine lw_val rfl (run_fieldAddr Tryd.underlying50 rfl sz3 rfl rfl rfl) ?_
          first | refine lw_val rfl (run_load Tryd.underlying3 rfl rfl (hs.cellAt 0 rfl rfl)) ?_ | refine lw_val rfl (run_load Tryd.underlying3 rfl rfl (hs.cellAt 1 rfl rfl)) ?_ | refine lw_val rfl (run_load Tryd.underlying3 rfl rfl (hs.cellAt 2 rfl rfl)) ?_ | refine lw_val rfl (run_load Tryd.underlying3 rfl rfl (hs.cellAt 3 rfl rfl)) ?_ | refine lw_val rfl (run_load Tryd.underlying3 rfl rfl (hs.cellAt 4 rfl rfl)) ?_ | refine lw_val rfl (run_load Tryd.underlying3 rfl rfl (hs.cellAt 5 rfl rfl)) ?_ | refine lw_val rfl (run_load Tryd.underlying3 rfl rfl (hs.cellAt 6 rfl rfl)) ?_ | refine lw_val rfl (run_load Tryd.underlying3 rfl rfl (hs.cellAt 7 rfl rfl)) ?_ | refine lw_val rfl (run_load Tryd.underlying3 rfl rfl (hs.cellAt 8 rfl rfl)) ?_ | refine lw_val rfl (run_load Tryd.underlying3 rfl rfl (hs.cellAt 9 rfl rfl)) ?_ | refine lw_val rfl (run_load Tryd.underlying3 rfl rfl (hs.cellAt 10 rfl rfl)) ?_ | refine lw_val rfl (run_load Tryd.underlying3 rfl rfl (hs.cellAt 11 rfl rfl)) ?_ | refine lw_val rfl (run_load Tryd.underlying3 rfl rfl (hs.cellAt 12 rfl rfl)) ?_ | refine lw_val rfl (run_load Tryd.underlying3 rfl rfl (hs.cellAt 13 rfl rfl)) ?_
          refine lw_call rfl en33 (right_sl hs s.1) ?_
          clear hs
          rintro _ w ⟨rfl, hs⟩
          first | refine lw_val rfl (run_move (v := .bool _) rfl) ?_
          refine lw_split (t := _) (d := 79) rfl ?_ ?_
          · intro h78
            refine lw_on rfl rfl h78 ?_
            first | refine lw_val rfl (run_fieldAddr (o' := 1) Tryd.underlying50 rfl sz3 rfl rfl rfl) ?_ | refine lw_val rfl (run_fieldAddr Tryd.underlying50 rfl sz3 rfl rfl rfl) ?_
            refine lw_on rfl rfl h78 ?_
            first | refine lw_val rfl (run_load Tryd.underlying3 rfl rfl (hs.cellAt 0 rfl rfl)) ?_ | refine lw_val rfl (run_load Tryd.underlying3 rfl rfl (hs.cellAt 1 rfl rfl)) ?_ | refine lw_val rfl (run_load Tryd.underlying3 rfl rfl (hs.cellAt 2 rfl rfl)) ?_ | refine lw_val rfl (run_load Tryd.underlying3 rfl rfl (hs.cellAt 3 rfl rfl)) ?_ | refine lw_val rfl (run_load Tryd.underlying3 rfl rfl (hs.cellAt 4 rfl rfl)) ?_ | refine lw_val rfl (run_load Tryd.underlying3 rfl rfl (hs.cellAt 5 rfl rfl)) ?_ | refine lw_val rfl (run_load Tryd.underlying3 rfl rfl (hs.cellAt 6 rfl rfl)) ?_ | refine lw_val rfl (run_load Tryd.underlying3 rfl rfl (hs.cellAt 7 rfl rfl)) ?_ | refine lw_val rfl (run_load Tryd.underlying3 rfl rfl (hs.cellAt 8 rfl rfl)) ?_ | refine lw_val rfl (run_load Tryd.underlying3 rfl rfl (hs.cellAt 9 rfl rfl)) ?_ | refine lw_val rfl (run_load Tryd.underlying3 rfl rfl (hs.cellAt 10 rfl rfl)) ?_ | refine lw_val rfl (run_load Tryd.underlying3 rfl rfl (hs.cellAt 11 rfl rfl)) ?_ | refine lw_val rfl (run_load Tryd.underlying3 rfl rfl (hs.cellAt 12 rfl rfl)) ?_ | refine lw_val rfl (run_load Tryd.underlying3 rfl rfl (hs.cellAt 13 rfl rfl)) ?_
            refine lw_on rfl rfl h78 ?_
            refine lw_call rfl en33 (right_sl hs s.2.1) ?_
            clear hs
            rintro _ w ⟨rfl, hs⟩
            first | refine lw_val rfl (run_pickT (v := .bool _) rfl h78 rfl) ?_
            first | refine lw_val rfl (run_move (v := .bool _) rfl) ?_
            refine lw_split (t := _) (d := 84) rfl ?_ ?_
            · intro h82
              refine lw_on rfl rfl h82 ?_
              first | refine lw_val rfl (run_fieldAddr (o' := 2) Tryd.underlying50 rfl sz3 rfl rfl rfl) ?_ | refine lw_val rfl (run_fieldAddr Tryd.underlying50 rfl sz3 rfl rfl rfl) ?_
              refine lw_on rfl rfl h82 ?_
              first | refine lw_val rfl (run_load Tryd.underlying3 rfl rfl (hs.cellAt 0 rfl rfl)) ?_ | refine lw_val rfl (run_load Tryd.underlying3 rfl rfl (hs.cellAt 1 rfl rfl)) ?_ | refine lw_val rfl (run_load Tryd.underlying3 rfl rfl (hs.cellAt 2 rfl rfl)) ?_ | refine lw_val rfl (run_load Tryd.underlying3 rfl rfl (hs.cellAt 3 rfl rfl)) ?_ | refine lw_val rfl (run_load Tryd.underlying3 rfl rfl (hs.cellAt 4 rfl rfl)) ?_ | refine lw_val rfl (run_load Tryd.underlying3 rfl rfl (hs.cellAt 5 rfl rfl)) ?_ | refine lw_val rfl (run_load Tryd.underlying3 rfl rfl (hs.cellAt 6 rfl rfl)) ?_ | refine lw_val rfl (run_load Tryd.underlying3 rfl rfl (hs.cellAt 7 rfl rfl)) ?_ | refine lw_val rfl (run_load Tryd.underlying3 rfl rfl (hs.cellAt 8 rfl rfl)) ?_ | refine lw_val rfl (run_load Tryd.underlying3 rfl rfl (hs.cellAt 9 rfl rfl)) ?_ | refine lw_val rfl (run_load Tryd.underlying3 rfl rfl (hs.cellAt 10 rfl rfl)) ?_ | refine lw_val rfl (run_load Tryd.underlying3 rfl rfl (hs.cellAt 11 rfl rfl)) ?_ | refine lw_val rfl (run_load Tryd.underlying3 rfl rfl (hs.cellAt 12 rfl rfl)) ?_ | refine lw_val rfl (run_load Tryd.underlying3 rfl rfl (hs.cellAt 13 rfl rfl)) ?_
              refine lw_on rfl rfl h82 ?_
              refine lw_call rfl en33 (right_sl hs s.2.2.1) ?_
              clear hs
              rintro _ w ⟨rfl, hs⟩
              first | refine lw_val rfl (run_pickT (v := .bool _) rfl h82 rfl) ?_
              first | refine lw_val rfl (run_move (v := .bool _) rfl) ?_
              refine lw_split (t := _) (d := 89) rfl ?_ ?_
              · intro h87
                refine lw_on rfl rfl h87 ?_
                first | refine lw_val rfl (run_fieldAddr (o' := 3) Tryd.underlying50 rfl sz3 rfl rfl rfl) ?_ | refine lw_val rfl (run_fieldAddr Tryd.underlying50 rfl sz3 rfl rfl rfl) ?_
                refine lw_on rfl rfl h87 ?_
                first | refine lw_val rfl (run_load Tryd.underlying3 rfl rfl (hs.cellAt 0 rfl rfl)) ?_ | refine lw_val rfl (run_load Tryd.underlying3 rfl rfl (hs.cellAt 1 rfl rfl)) ?_ | refine lw_val rfl (run_load Tryd.underlying3 rfl rfl (hs.cellAt 2 rfl rfl)) ?_ | refine lw_val rfl (run_load Tryd.underlying3 rfl rfl (hs.cellAt 3 rfl rfl)) ?_ | refine lw_val rfl (run_load Tryd.underlying3 rfl rfl (hs.cellAt 4 rfl rfl)) ?_ | refine lw_val rfl (run_load Tryd.underlying3 rfl rfl (hs.cellAt 5 rfl rfl)) ?_ | refine lw_val rfl (run_load Tryd.underlying3 rfl rfl (hs.cellAt 6 rfl rfl)) ?_ | refine lw_val rfl (run_load Tryd.underlying3 rfl rfl (hs.cellAt 7 rfl rfl)) ?_ | refine lw_val rfl (run_load Tryd.underlying3 rfl rfl (hs.cellAt 8 rfl rfl)) ?_ | refine lw_val rfl (run_load Tryd.underlying3 rfl rfl (hs.cellAt 9 rfl rfl)) ?_ | refine lw_val rfl (run_load Tryd.underlying3 rfl rfl (hs.cellAt 10 rfl rfl)) ?_ | refine lw_val rfl (run_load Tryd.underlying3 rfl rfl (hs.cellAt 11 rfl rfl)) ?_ | refine lw_val rfl (run_load Tryd.underlying3 rfl rfl (hs.cellAt 12 rfl rfl)) ?_ | refine lw_val rfl (run_load Tryd.underlying3 rfl rfl (hs.cellAt 13 rfl rfl)) ?_
                refine lw_on rfl rfl h87 ?_
                refine lw_call rfl en33 (right_sl hs s.2.2.2) ?_
                clear hs
                rintro _ w ⟨rfl, hs⟩
                first | refine lw_val rfl (run_pickT (v := .bool _) rfl h87 rfl) ?_
                first | refine lw_val rfl (run_assign (v := .bool _) rfl) ?_
                refine lw_nil ?_
                refine cw_seq ?_
                refine cw_region ?_
                first | refine lw_val rfl (run_move (v := .pointer (some _)) rfl) ?_ | refine lw_val rfl (run_move (v := .pointer none) rfl) ?_
                first | refine lw_val rfl (run_loadRow hs 0 rfl Tryd.underlying50 sz50 rfl) ?_ | refine lw_val rfl (run_loadRow hs 1 rfl Tryd.underlying50 sz50 rfl) ?_ | refine lw_val rfl (run_loadRow hs 2 rfl Tryd.underlying50 sz50 rfl) ?_ | refine lw_val rfl (run_loadRow hs 3 rfl Tryd.underlying50 sz50 rfl) ?_ | refine lw_val rfl (run_loadRow hs 4 rfl Tryd.underlying50 sz50 rfl) ?_ | refine lw_val rfl (run_loadRow hs 5 rfl Tryd.underlying50 sz50 rfl) ?_ | refine lw_val rfl (run_loadRow hs 6 rfl Tryd.underlying50 sz50 rfl) ?_ | refine lw_val rfl (run_loadRow hs 7 rfl Tryd.underlying50 sz50 rfl) ?_ | refine lw_val rfl (run_loadRow hs 8 rfl Tryd.underlying50 sz50 rfl) ?_ | refine lw_val rfl (run_loadRow hs 9 rfl Tryd.underlying50 sz50 rfl) ?_ | refine lw_val rfl (run_loadRow hs 10 rfl Tryd.underlying50 sz50 rfl) ?_ | refine lw_val rfl (run_loadRow hs 11 rfl Tryd.underlying50 sz50 rfl) ?_ | refine lw_val rfl (run_loadRow hs 12 rfl Tryd.underlying50 sz50 rfl) ?_ | refine lw_val rfl (run_loadRow hs 13 rfl Tryd.underlying50 sz50 rfl) ?_
                refine lw_call rfl en32 (jwrite_sl hE (d := d) (L := _ :: _ :: _ :: []) (by omega) (hs.arr [3, 0, 1, 2] 4 (by decide)) hz0 hz1 hz2 hz3 hw) ?_
                clear hs
                rintro _ w ⟨rfl, hs⟩
                replace hs : Mem g w [cells b15 (s4V s) 50, cells b11 (s4V ((none : Option S4).getD s40)) 50, cells b10 (s4V (cur.getD s40)) 50, DiskC p e] := hs.arr [1, 2, 3, 0] 4 (by decide)
                first | refine lw_val rfl (run_assign (v := errV ad _) rfl) ?_ | refine lw_val rfl (run_assign (v := .nilIface) rfl) ?_ | refine lw_val rfl (run_assign (v := eV ad _ _) rfl) ?_ | refine lw_val rfl (run_assign (v := .iface _ (.pointer (some _))) rfl) ?_
                refine lw_nil ?_
                refine cw_block ?_
                refine cw_seq ?_
                refine cw_region ?_
                first | refine lw_val rfl (run_move (v := .bool _) rfl) ?_
                refine lw_val rfl (run_not rfl) ?_
                first | refine lw_val rfl (run_assign (v := .bool _) rfl) ?_
                refine lw_nil ?_
                refine cw_if rfl ?_ ?_
                · intro h92
                  replace h92 := not_b h92
                  have hbad := s4_bad (s := s) (by simp [s4L]) h92
                  obtain ⟨_, rfl, he⟩ := (hde.resolve_left (fun h => by rw [hbad] at h; cases h.1)).resolve_left (fun h => by rw [hbad] at h; cases h.1)
                  refine cw_seq ?_
                  refine cw_region ?_
                  first | refine lw_val rfl (run_move (v := errV ad _) rfl) ?_ | refine lw_val rfl (run_move (v := .nilIface) rfl) ?_ | refine lw_val rfl (run_move (v := eV ad _ _) rfl) ?_ | refine lw_val rfl (run_move (v := .iface _ (.pointer (some _))) rfl) ?_
                  refine lw_call rfl en34 (isA_sl hA hs (d := 105) (by decide) 105) ?_
                  clear hs
                  rintro _ w ⟨rfl, hs⟩
                  refine lw_val rfl (run_not rfl) ?_
                  refine lw_nil ?_
                  refine cw_iff rfl (not_f (rfl)) ?_
                  refine cw_skip ?_
                  refine cw_region ?_
                  first | refine lw_val rfl (run_move (v := .int .i64 _) rfl) ?_
                  refine lw_val rfl (run_add64 rfl rfl rfl (inI (by omega) (by omega))) ?_
                  first | refine lw_val rfl (run_assign (v := .int .i64 _) rfl) ?_
                  refine lw_nil ?_
                  subst he
                  exact ⟨(i + 1, e, F, cur, none), by simp only; omega, ⟨by simp only; omega, by simp only; omega, by simp only; omega, hJ, ⟨hup, hpt⟩, hs.tail⟩, ⟨rfl, rfl, rfl, trivial⟩, by repeat (first | exact Out.mix _ _ _ | refine Out.updo rfl ?_ | refine Out.upd rfl ?_ | refine Out.mixIn rfl ?_)⟩
                · intro h92
                  replace h92 := not_c h92
                  have hgood : (s4L s).all inR = true := by simp [s4L, h78, h82, h87, h92]
                  have hde2 : (k = 0 ∧ e.down = false ∧ (d.armed = 0 → e.armed = 0) ∧ (e.ok → PtI nU 100 (updF F nUp (numsL (s4L s))) e)) ∨ (k = 110 ∧ e.down = true ∧ (e.ok → ∀ picks, PtI nU 100 F (e.crash picks) ∨ PtI nU 100 (updF F nUp (numsL (s4L s))) (e.crash picks))) := by rcases hde with ⟨_, h1, h2, h3, h4⟩ | ⟨_, h1, h2, _, h4⟩ | ⟨h, _⟩; exact .inl ⟨h1, h2, h3, h4⟩; exact .inr ⟨h1, h2, h4⟩; rw [hgood] at h; cases h
                  refine cw_seq ?_
                  refine cw_region ?_
                  first | refine lw_val rfl (run_move (v := .pointer (some _)) rfl) ?_ | refine lw_val rfl (run_move (v := .pointer none) rfl) ?_
                  refine lw_call rfl en41 (down_sl (hs.arr [3, 0, 1, 2] 4 (by decide))) ?_
                  clear hs
                  rintro _ w ⟨rfl, hs⟩
                  replace hs : Mem g w [cells b15 (s4V s) 50, cells b11 (s4V ((none : Option S4).getD s40)) 50, cells b10 (s4V (cur.getD s40)) 50, DiskC p e] := hs.arr [1, 2, 3, 0] 4 (by decide)
                  first | refine lw_val rfl (run_assign (v := .bool _) rfl) ?_
                  refine lw_nil ?_
                  refine cw_if rfl ?_ ?_
                  · intro h124
                    obtain ⟨hk, _, hp2⟩ := hde2.resolve_left (fun h => by rw [h.2.1] at h124; cases h124)
                    obtain ⟨hok2, _⟩ := (hs.arr [3] 4 (by decide)).openD
                    refine cw_seq ?_
                    refine cw_region ?_
                    first | refine lw_val rfl (run_loadRow hs 0 rfl Tryd.underlying50 sz50 rfl) ?_ | refine lw_val rfl (run_loadRow hs 1 rfl Tryd.underlying50 sz50 rfl) ?_ | refine lw_val rfl (run_loadRow hs 2 rfl Tryd.underlying50 sz50 rfl) ?_ | refine lw_val rfl (run_loadRow hs 3 rfl Tryd.underlying50 sz50 rfl) ?_ | refine lw_val rfl (run_loadRow hs 4 rfl Tryd.underlying50 sz50 rfl) ?_ | refine lw_val rfl (run_loadRow hs 5 rfl Tryd.underlying50 sz50 rfl) ?_ | refine lw_val rfl (run_loadRow hs 6 rfl Tryd.underlying50 sz50 rfl) ?_ | refine lw_val rfl (run_loadRow hs 7 rfl Tryd.underlying50 sz50 rfl) ?_ | refine lw_val rfl (run_loadRow hs 8 rfl Tryd.underlying50 sz50 rfl) ?_ | refine lw_val rfl (run_loadRow hs 9 rfl Tryd.underlying50 sz50 rfl) ?_ | refine lw_val rfl (run_loadRow hs 10 rfl Tryd.underlying50 sz50 rfl) ?_ | refine lw_val rfl (run_loadRow hs 11 rfl Tryd.underlying50 sz50 rfl) ?_ | refine lw_val rfl (run_loadRow hs 12 rfl Tryd.underlying50 sz50 rfl) ?_ | refine lw_val rfl (run_loadRow hs 13 rfl Tryd.underlying50 sz50 rfl) ?_
                    first | refine lw_storeRow hs 0 rfl rfl rfl sz50 rfl rfl ?_ | refine lw_storeRow hs 1 rfl rfl rfl sz50 rfl rfl ?_ | refine lw_storeRow hs 2 rfl rfl rfl sz50 rfl rfl ?_ | refine lw_storeRow hs 3 rfl rfl rfl sz50 rfl rfl ?_ | refine lw_storeRow hs 4 rfl rfl rfl sz50 rfl rfl ?_ | refine lw_storeRow hs 5 rfl rfl rfl sz50 rfl rfl ?_ | refine lw_storeRow hs 6 rfl rfl rfl sz50 rfl rfl ?_ | refine lw_storeRow hs 7 rfl rfl rfl sz50 rfl rfl ?_ | refine lw_storeRow hs 8 rfl rfl rfl sz50 rfl rfl ?_ | refine lw_storeRow hs 9 rfl rfl rfl sz50 rfl rfl ?_ | refine lw_storeRow hs 10 rfl rfl rfl sz50 rfl rfl ?_ | refine lw_storeRow hs 11 rfl rfl rfl sz50 rfl rfl ?_ | refine lw_storeRow hs 12 rfl rfl rfl sz50 rfl rfl ?_ | refine lw_storeRow hs 13 rfl rfl rfl sz50 rfl rfl ?_
                    clear hs
                    intro w hs
                    try simp only [List.set_cons_succ, List.set_cons_zero] at hs
                    refine lw_nil ?_
                    refine cw_region ?_
                    first | refine lw_val rfl (run_assign (v := .bool _) rfl) ?_
                    refine lw_nil ?_
                    refine cw_region ?_
                    first | refine lw_val rfl (run_move (v := .int .i64 _) rfl) ?_
                    refine lw_val rfl (run_add64 rfl rfl rfl (inI (by omega) (by omega))) ?_
                    first | refine lw_val rfl (run_assign (v := .int .i64 _) rfl) ?_
                    refine lw_nil ?_
                    exact ⟨(i + 1, e, F, cur, some s), by simp only; omega, ⟨by simp only; omega, by simp only; omega, by simp only; omega, hJ, ⟨h124, hgood, hp2 hok2⟩, hs.tail⟩, ⟨rfl, rfl, rfl, trivial⟩, by repeat (first | exact Out.mix _ _ _ | refine Out.updo rfl ?_ | refine Out.upd rfl ?_ | refine Out.mixIn rfl ?_)⟩
                  · intro h124
                    obtain ⟨hk, _, _, hp2⟩ := hde2.resolve_right (fun h => by rw [h.2.1] at h124; cases h124)
                    obtain ⟨hok2, _⟩ := (hs.arr [3] 4 (by decide)).openD
                    have pt2 := hp2 hok2
                    refine cw_seq ?_
                    refine cw_region ?_
                    first | refine lw_val rfl (run_move (v := errV ad _) rfl) ?_ | refine lw_val rfl (run_move (v := .nilIface) rfl) ?_ | refine lw_val rfl (run_move (v := eV ad _ _) rfl) ?_ | refine lw_val rfl (run_move (v := .iface _ (.pointer (some _))) rfl) ?_
                    first | refine lw_val rfl (run_neerrn (ad := ad) rfl) ?_ | refine lw_val rfl (run_nenn rfl) ?_ | refine lw_val rfl (run_neE (ad := ad) rfl) ?_
                    first | refine lw_val rfl (run_assign (v := .bool _) rfl) ?_
                    refine lw_nil ?_
                    refine cw_iff rfl (by rw [hk]; rfl) ?_
                    refine cw_seq ?_
                    refine cw_region ?_
                    first | refine lw_val rfl (run_loadRow hs 0 rfl Tryd.underlying50 sz50 rfl) ?_ | refine lw_val rfl (run_loadRow hs 1 rfl Tryd.underlying50 sz50 rfl) ?_ | refine lw_val rfl (run_loadRow hs 2 rfl Tryd.underlying50 sz50 rfl) ?_ | refine lw_val rfl (run_loadRow hs 3 rfl Tryd.underlying50 sz50 rfl) ?_ | refine lw_val rfl (run_loadRow hs 4 rfl Tryd.underlying50 sz50 rfl) ?_ | refine lw_val rfl (run_loadRow hs 5 rfl Tryd.underlying50 sz50 rfl) ?_ | refine lw_val rfl (run_loadRow hs 6 rfl Tryd.underlying50 sz50 rfl) ?_ | refine lw_val rfl (run_loadRow hs 7 rfl Tryd.underlying50 sz50 rfl) ?_ | refine lw_val rfl (run_loadRow hs 8 rfl Tryd.underlying50 sz50 rfl) ?_ | refine lw_val rfl (run_loadRow hs 9 rfl Tryd.underlying50 sz50 rfl) ?_ | refine lw_val rfl (run_loadRow hs 10 rfl Tryd.underlying50 sz50 rfl) ?_ | refine lw_val rfl (run_loadRow hs 11 rfl Tryd.underlying50 sz50 rfl) ?_ | refine lw_val rfl (run_loadRow hs 12 rfl Tryd.underlying50 sz50 rfl) ?_ | refine lw_val rfl (run_loadRow hs 13 rfl Tryd.underlying50 sz50 rfl) ?_
                    first | refine lw_storeRow hs 0 rfl rfl rfl sz50 rfl rfl ?_ | refine lw_storeRow hs 1 rfl rfl rfl sz50 rfl rfl ?_ | refine lw_storeRow hs 2 rfl rfl rfl sz50 rfl rfl ?_ | refine lw_storeRow hs 3 rfl rfl rfl sz50 rfl rfl ?_ | refine lw_storeRow hs 4 rfl rfl rfl sz50 rfl rfl ?_ | refine lw_storeRow hs 5 rfl rfl rfl sz50 rfl rfl ?_ | refine lw_storeRow hs 6 rfl rfl rfl sz50 rfl rfl ?_ | refine lw_storeRow hs 7 rfl rfl rfl sz50 rfl rfl ?_ | refine lw_storeRow hs 8 rfl rfl rfl sz50 rfl rfl ?_ | refine lw_storeRow hs 9 rfl rfl rfl sz50 rfl rfl ?_ | refine lw_storeRow hs 10 rfl rfl rfl sz50 rfl rfl ?_ | refine lw_storeRow hs 11 rfl rfl rfl sz50 rfl rfl ?_ | refine lw_storeRow hs 12 rfl rfl rfl sz50 rfl rfl ?_ | refine lw_storeRow hs 13 rfl rfl rfl sz50 rfl rfl ?_
                    clear hs
                    intro w hs
                    try simp only [List.set_cons_succ, List.set_cons_zero] at hs
                    refine lw_nil ?_
                    refine cw_seq ?_
                    refine cw_region ?_
                    first | refine lw_val rfl (run_assign (v := .bool _) rfl) ?_
                    refine lw_nil ?_
                    refine cw_seq ?_
                    refine cw_region ?_
                    first | refine lw_val rfl (run_move (v := .pointer (some _)) rfl) ?_ | refine lw_val rfl (run_move (v := .pointer none) rfl) ?_
                    refine lw_call rfl en28 (jread_sl hE (L := _ :: _ :: _ :: []) (hs.arr [3, 0, 1, 2] 4 (by decide)) (j := (0, true, s.1, s.2.1, s.2.2.1, s.2.2.2)) ((JkI.upd hgood).read pt2)) ?_
                    clear hs
                    rintro _ w ⟨rfl, hs⟩
                    first | refine lw_val rfl (run_move (v := .tuple _) rfl) ?_
                    first | refine lw_val rfl (run_extract (v := .agg _) rfl rfl) ?_
                    first | refine lw_val rfl (run_extract (v := .bool _) rfl rfl) ?_
                    first | refine lw_val rfl (run_extract (v := errV ad _) rfl rfl) ?_ | refine lw_val rfl (run_extract (v := .nilIface) rfl rfl) ?_ | refine lw_val rfl (run_extract (v := eV ad _ _) rfl rfl) ?_ | refine lw_val rfl (run_extract (v := .iface _ (.pointer (some _))) rfl rfl) ?_
                    refine lw_alloc hs rfl ze50 ?_
                    clear hs
                    intro b18 w hs
                    try simp only [List.set_cons_succ, List.set_cons_zero] at hs
                    first | refine lw_storeRow hs 0 rfl rfl rfl sz50 rfl rfl ?_ | refine lw_storeRow hs 1 rfl rfl rfl sz50 rfl rfl ?_ | refine lw_storeRow hs 2 rfl rfl rfl sz50 rfl rfl ?_ | refine lw_storeRow hs 3 rfl rfl rfl sz50 rfl rfl ?_ | refine lw_storeRow hs 4 rfl rfl rfl sz50 rfl rfl ?_ | refine lw_storeRow hs 5 rfl rfl rfl sz50 rfl rfl ?_ | refine lw_storeRow hs 6 rfl rfl rfl sz50 rfl rfl ?_ | refine lw_storeRow hs 7 rfl rfl rfl sz50 rfl rfl ?_ | refine lw_storeRow hs 8 rfl rfl rfl sz50 rfl rfl ?_ | refine lw_storeRow hs 9 rfl rfl rfl sz50 rfl rfl ?_ | refine lw_storeRow hs 10 rfl rfl rfl sz50 rfl rfl ?_ | refine lw_storeRow hs 11 rfl rfl rfl sz50 rfl rfl ?_ | refine lw_storeRow hs 12 rfl rfl rfl sz50 rfl rfl ?_ | refine lw_storeRow hs 13 rfl rfl rfl sz50 rfl rfl ?_
                    clear hs
                    intro w hs
                    try simp only [List.set_cons_succ, List.set_cons_zero] at hs
                    first | refine lw_val rfl (run_assign (v := .bool _) rfl) ?_
                    first | refine lw_val rfl (run_assign (v := errV ad _) rfl) ?_ | refine lw_val rfl (run_assign (v := .nilIface) rfl) ?_ | refine lw_val rfl (run_assign (v := eV ad _ _) rfl) ?_ | refine lw_val rfl (run_assign (v := .iface _ (.pointer (some _))) rfl) ?_
                    refine lw_nil ?_
                    refine cw_seq ?_
                    refine cw_region ?_
                    first | refine lw_val rfl (run_move (v := errV ad _) rfl) ?_ | refine lw_val rfl (run_move (v := .nilIface) rfl) ?_ | refine lw_val rfl (run_move (v := eV ad _ _) rfl) ?_ | refine lw_val rfl (run_move (v := .iface _ (.pointer (some _))) rfl) ?_
                    first | refine lw_val rfl (run_neerrn (ad := ad) rfl) ?_ | refine lw_val rfl (run_nenn rfl) ?_ | refine lw_val rfl (run_neE (ad := ad) rfl) ?_
                    first | refine lw_val rfl (run_move (v := .bool _) rfl) ?_
                    refine lw_on rfl rfl (rfl) ?_
                    first | refine lw_val rfl (run_move (v := .bool _) rfl) ?_
                    refine lw_on rfl rfl (rfl) ?_
                    refine lw_val rfl (run_not rfl) ?_
                    first | refine lw_val rfl (run_pickF (v := .bool _) rfl (rfl) rfl) ?_
                    first | refine lw_val rfl (run_move (v := .bool _) rfl) ?_
                    refine lw_on rfl rfl (not_f (rfl)) ?_
                    first | refine lw_val rfl (run_loadRow hs 0 rfl Tryd.underlying50 sz50 rfl) ?_ | refine lw_val rfl (run_loadRow hs 1 rfl Tryd.underlying50 sz50 rfl) ?_ | refine lw_val rfl (run_loadRow hs 2 rfl Tryd.underlying50 sz50 rfl) ?_ | refine lw_val rfl (run_loadRow hs 3 rfl Tryd.underlying50 sz50 rfl) ?_ | refine lw_val rfl (run_loadRow hs 4 rfl Tryd.underlying50 sz50 rfl) ?_ | refine lw_val rfl (run_loadRow hs 5 rfl Tryd.underlying50 sz50 rfl) ?_ | refine lw_val rfl (run_loadRow hs 6 rfl Tryd.underlying50 sz50 rfl) ?_ | refine lw_val rfl (run_loadRow hs 7 rfl Tryd.underlying50 sz50 rfl) ?_ | refine lw_val rfl (run_loadRow hs 8 rfl Tryd.underlying50 sz50 rfl) ?_ | refine lw_val rfl (run_loadRow hs 9 rfl Tryd.underlying50 sz50 rfl) ?_ | refine lw_val rfl (run_loadRow hs 10 rfl Tryd.underlying50 sz50 rfl) ?_ | refine lw_val rfl (run_loadRow hs 11 rfl Tryd.underlying50 sz50 rfl) ?_ | refine lw_val rfl (run_loadRow hs 12 rfl Tryd.underlying50 sz50 rfl) ?_ | refine lw_val rfl (run_loadRow hs 13 rfl Tryd.underlying50 sz50 rfl) ?_
                    refine lw_on rfl rfl (not_f (rfl)) ?_
                    first | refine lw_val rfl (run_loadRow hs 0 rfl Tryd.underlying50 sz50 rfl) ?_ | refine lw_val rfl (run_loadRow hs 1 rfl Tryd.underlying50 sz50 rfl) ?_ | refine lw_val rfl (run_loadRow hs 2 rfl Tryd.underlying50 sz50 rfl) ?_ | refine lw_val rfl (run_loadRow hs 3 rfl Tryd.underlying50 sz50 rfl) ?_ | refine lw_val rfl (run_loadRow hs 4 rfl Tryd.underlying50 sz50 rfl) ?_ | refine lw_val rfl (run_loadRow hs 5 rfl Tryd.underlying50 sz50 rfl) ?_ | refine lw_val rfl (run_loadRow hs 6 rfl Tryd.underlying50 sz50 rfl) ?_ | refine lw_val rfl (run_loadRow hs 7 rfl Tryd.underlying50 sz50 rfl) ?_ | refine lw_val rfl (run_loadRow hs 8 rfl Tryd.underlying50 sz50 rfl) ?_ | refine lw_val rfl (run_loadRow hs 9 rfl Tryd.underlying50 sz50 rfl) ?_ | refine lw_val rfl (run_loadRow hs 10 rfl Tryd.underlying50 sz50 rfl) ?_ | refine lw_val rfl (run_loadRow hs 11 rfl Tryd.underlying50 sz50 rfl) ?_ | refine lw_val rfl (run_loadRow hs 12 rfl Tryd.underlying50 sz50 rfl) ?_ | refine lw_val rfl (run_loadRow hs 13 rfl Tryd.underlying50 sz50 rfl) ?_
                    refine lw_on rfl rfl (not_f (rfl)) ?_
                    refine lw_call rfl en35 (same20_sl hs s.1 s.2.1 s.2.2.1 s.2.2.2 s.1 s.2.1 s.2.2.1 s.2.2.2) ?_
                    clear hs
                    rintro _ w ⟨rfl, hs⟩
                    refine lw_on rfl rfl (not_f (rfl)) ?_
                    refine lw_val rfl (run_not rfl) ?_
                    first | refine lw_val rfl (run_pickF (v := .bool _) rfl (not_f (rfl)) rfl) ?_
                    refine lw_nil ?_
                    refine cw_iff rfl (not_f (decide_eq_true rfl)) ?_
                    refine cw_skip ?_
                    refine cw_region ?_
                    first | refine lw_val rfl (run_move (v := .int .i64 _) rfl) ?_
                    refine lw_val rfl (run_add64 rfl rfl rfl (inI (by omega) (by omega))) ?_
                    first | refine lw_val rfl (run_assign (v := .int .i64 _) rfl) ?_
                    refine lw_nil ?_
                    exact ⟨(i + 1, e, updF F nUp (numsL (s4L s)), some s, none), by simp only; omega, ⟨by simp only; omega, by simp only; omega, by simp only; omega, JkI.upd hgood, ⟨h124, pt2⟩, hs.arr [3, 4, 1] 5 (by decide)⟩, ⟨rfl, rfl, rfl, trivial⟩, by repeat (first | exact Out.mix _ _ _ | refine Out.updo rfl ?_ | refine Out.upd rfl ?_ | refine Out.mixIn rfl ?_)⟩
              · intro h87
                have hbad := s4_bad (s := s) (by simp [s4L]) h87
                refine lw_off rfl rfl rfl h87 ?_
                refine lw_off rfl rfl rfl h87 ?_
                refine lw_off rfl rfl rfl h87 ?_
                first | refine lw_val rfl (run_pickF (v := .bool _) rfl h87 rfl) ?_
                first | refine lw_val rfl (run_assign (v := .bool _) rfl) ?_
                refine lw_nil ?_
                refine cw_seq ?_
                obtain ⟨_, rfl, he⟩ := (hde.resolve_left (fun h => by rw [hbad] at h; cases h.1)).resolve_left (fun h => by rw [hbad] at h; cases h.1)
                refine cw_region ?_
                first | refine lw_val rfl (run_move (v := .pointer (some _)) rfl) ?_ | refine lw_val rfl (run_move (v := .pointer none) rfl) ?_
                first | refine lw_val rfl (run_loadRow hs 0 rfl Tryd.underlying50 sz50 rfl) ?_ | refine lw_val rfl (run_loadRow hs 1 rfl Tryd.underlying50 sz50 rfl) ?_ | refine lw_val rfl (run_loadRow hs 2 rfl Tryd.underlying50 sz50 rfl) ?_ | refine lw_val rfl (run_loadRow hs 3 rfl Tryd.underlying50 sz50 rfl) ?_ | refine lw_val rfl (run_loadRow hs 4 rfl Tryd.underlying50 sz50 rfl) ?_ | refine lw_val rfl (run_loadRow hs 5 rfl Tryd.underlying50 sz50 rfl) ?_ | refine lw_val rfl (run_loadRow hs 6 rfl Tryd.underlying50 sz50 rfl) ?_ | refine lw_val rfl (run_loadRow hs 7 rfl Tryd.underlying50 sz50 rfl) ?_ | refine lw_val rfl (run_loadRow hs 8 rfl Tryd.underlying50 sz50 rfl) ?_ | refine lw_val rfl (run_loadRow hs 9 rfl Tryd.underlying50 sz50 rfl) ?_ | refine lw_val rfl (run_loadRow hs 10 rfl Tryd.underlying50 sz50 rfl) ?_ | refine lw_val rfl (run_loadRow hs 11 rfl Tryd.underlying50 sz50 rfl) ?_ | refine lw_val rfl (run_loadRow hs 12 rfl Tryd.underlying50 sz50 rfl) ?_ | refine lw_val rfl (run_loadRow hs 13 rfl Tryd.underlying50 sz50 rfl) ?_
                refine lw_call rfl en32 (jwrite_sl hE (d := d) (L := _ :: _ :: _ :: []) (by omega) (hs.arr [3, 0, 1, 2] 4 (by decide)) hz0 hz1 hz2 hz3 hw) ?_
                clear hs
                rintro _ w ⟨rfl, hs⟩
                replace hs : Mem g w [cells b15 (s4V s) 50, cells b11 (s4V ((none : Option S4).getD s40)) 50, cells b10 (s4V (cur.getD s40)) 50, DiskC p e] := hs.arr [1, 2, 3, 0] 4 (by decide)
                first | refine lw_val rfl (run_assign (v := errV ad _) rfl) ?_ | refine lw_val rfl (run_assign (v := .nilIface) rfl) ?_ | refine lw_val rfl (run_assign (v := eV ad _ _) rfl) ?_ | refine lw_val rfl (run_assign (v := .iface _ (.pointer (some _))) rfl) ?_
                refine lw_nil ?_
                refine cw_block ?_
                refine cw_seq ?_
                refine cw_region ?_
                first | refine lw_val rfl (run_move (v := .bool _) rfl) ?_
                refine lw_val rfl (run_not rfl) ?_
                first | refine lw_val rfl (run_assign (v := .bool _) rfl) ?_
                refine lw_nil ?_
                refine cw_ift rfl (not_t rfl) ?_
                refine cw_seq ?_
                refine cw_region ?_
                first | refine lw_val rfl (run_move (v := errV ad _) rfl) ?_ | refine lw_val rfl (run_move (v := .nilIface) rfl) ?_ | refine lw_val rfl (run_move (v := eV ad _ _) rfl) ?_ | refine lw_val rfl (run_move (v := .iface _ (.pointer (some _))) rfl) ?_
                refine lw_call rfl en34 (isA_sl hA hs (d := 105) (by decide) 105) ?_
                clear hs
                rintro _ w ⟨rfl, hs⟩
                refine lw_val rfl (run_not rfl) ?_
                refine lw_nil ?_
                refine cw_iff rfl (not_f (rfl)) ?_
                refine cw_skip ?_
                refine cw_region ?_
                first | refine lw_val rfl (run_move (v := .int .i64 _) rfl) ?_
                refine lw_val rfl (run_add64 rfl rfl rfl (inI (by omega) (by omega))) ?_
                first | refine lw_val rfl (run_assign (v := .int .i64 _) rfl) ?_
                refine lw_nil ?_
                subst he
                exact ⟨(i + 1, e, F, cur, none), by simp only; omega, ⟨by simp only; omega, by simp only; omega, by simp only; omega, hJ, ⟨hup, hpt⟩, hs.tail⟩, ⟨rfl, rfl, rfl, trivial⟩, by repeat (first | exact Out.mix _ _ _ | refine Out.updo rfl ?_ | refine Out.upd rfl ?_ | refine Out.mixIn rfl ?_)⟩
            · intro h82
              have hbad := s4_bad (s := s) (by simp [s4L]) h82
              refine lw_off rfl rfl rfl h82 ?_
              refine lw_off rfl rfl rfl h82 ?_
              refine lw_off rfl rfl rfl h82 ?_
              first | refine lw_val rfl (run_pickF (v := .bool _) rfl h82 rfl) ?_
              first | refine lw_val rfl (run_move (v := .bool _) rfl) ?_
              refine lw_off rfl rfl rfl rfl ?_
              refine lw_off rfl rfl rfl rfl ?_
              refine lw_off rfl rfl rfl rfl ?_
              first | refine lw_val rfl (run_pickF (v := .bool _) rfl rfl rfl) ?_
              first | refine lw_val rfl (run_assign (v := .bool _) rfl) ?_
              refine lw_nil ?_
              refine cw_seq ?_
              obtain ⟨_, rfl, he⟩ := (hde.resolve_left (fun h => by rw [hbad] at h; cases h.1)).resolve_left (fun h => by rw [hbad] at h; cases h.1)
              refine cw_region ?_
              first | refine lw_val rfl (run_move (v := .pointer (some _)) rfl) ?_ | refine lw_val rfl (run_move (v := .pointer none) rfl) ?_
              first | refine lw_val rfl (run_loadRow hs 0 rfl Tryd.underlying50 sz50 rfl) ?_ | refine lw_val rfl (run_loadRow hs 1 rfl Tryd.underlying50 sz50 rfl) ?_ | refine lw_val rfl (run_loadRow hs 2 rfl Tryd.underlying50 sz50 rfl) ?_ | refine lw_val rfl (run_loadRow hs 3 rfl Tryd.underlying50 sz50 rfl) ?_ | refine lw_val rfl (run_loadRow hs 4 rfl Tryd.underlying50 sz50 rfl) ?_ | refine lw_val rfl (run_loadRow hs 5 rfl Tryd.underlying50 sz50 rfl) ?_ | refine lw_val rfl (run_loadRow hs 6 rfl Tryd.underlying50 sz50 rfl) ?_ | refine lw_val rfl (run_loadRow hs 7 rfl Tryd.underlying50 sz50 rfl) ?_ | refine lw_val rfl (run_loadRow hs 8 rfl Tryd.underlying50 sz50 rfl) ?_ | refine lw_val rfl (run_loadRow hs 9 rfl Tryd.underlying50 sz50 rfl) ?_ | refine lw_val rfl (run_loadRow hs 10 rfl Tryd.underlying50 sz50 rfl) ?_ | refine lw_val rfl (run_loadRow hs 11 rfl Tryd.underlying50 sz50 rfl) ?_ | refine lw_val rfl (run_loadRow hs 12 rfl Tryd.underlying50 sz50 rfl) ?_ | refine lw_val rfl (run_loadRow hs 13 rfl Tryd.underlying50 sz50 rfl) ?_
              refine lw_call rfl en32 (jwrite_sl hE (d := d) (L := _ :: _ :: _ :: []) (by omega) (hs.arr [3, 0, 1, 2] 4 (by decide)) hz0 hz1 hz2 hz3 hw) ?_
              clear hs
              rintro _ w ⟨rfl, hs⟩
              replace hs : Mem g w [cells b15 (s4V s) 50, cells b11 (s4V ((none : Option S4).getD s40)) 50, cells b10 (s4V (cur.getD s40)) 50, DiskC p e] := hs.arr [1, 2, 3, 0] 4 (by decide)
              first | refine lw_val rfl (run_assign (v := errV ad _) rfl) ?_ | refine lw_val rfl (run_assign (v := .nilIface) rfl) ?_ | refine lw_val rfl (run_assign (v := eV ad _ _) rfl) ?_ | refine lw_val rfl (run_assign (v := .iface _ (.pointer (some _))) rfl) ?_
              refine lw_nil ?_
              refine cw_block ?_
              refine cw_seq ?_
              refine cw_region ?_
              first | refine lw_val rfl (run_move (v := .bool _) rfl) ?_
              refine lw_val rfl (run_not rfl) ?_
              first | refine lw_val rfl (run_assign (v := .bool _) rfl) ?_
              refine lw_nil ?_
              refine cw_ift rfl (not_t rfl) ?_
              refine cw_seq ?_
              refine cw_region ?_
              first | refine lw_val rfl (run_move (v := errV ad _) rfl) ?_ | refine lw_val rfl (run_move (v := .nilIface) rfl) ?_ | refine lw_val rfl (run_move (v := eV ad _ _) rfl) ?_ | refine lw_val rfl (run_move (v := .iface _ (.pointer (some _))) rfl) ?_
              refine lw_call rfl en34 (isA_sl hA hs (d := 105) (by decide) 105) ?_
              clear hs
              rintro _ w ⟨rfl, hs⟩
              refine lw_val rfl (run_not rfl) ?_
              refine lw_nil ?_
              refine cw_iff rfl (not_f (rfl)) ?_
              refine cw_skip ?_
              refine cw_region ?_
              first | refine lw_val rfl (run_move (v := .int .i64 _) rfl) ?_
              refine lw_val rfl (run_add64 rfl rfl rfl (inI (by omega) (by omega))) ?_
              first | refine lw_val rfl (run_assign (v := .int .i64 _) rfl) ?_
              refine lw_nil ?_
              subst he
              exact ⟨(i + 1, e, F, cur, none), by simp only; omega, ⟨by simp only; omega, by simp only; omega, by simp only; omega, hJ, ⟨hup, hpt⟩, hs.tail⟩, ⟨rfl, rfl, rfl, trivial⟩, by repeat (first | exact Out.mix _ _ _ | refine Out.updo rfl ?_ | refine Out.upd rfl ?_ | refine Out.mixIn rfl ?_)⟩
          · intro h78
            have hbad := s4_bad (s := s) (by simp [s4L]) h78
            refine lw_off rfl rfl rfl h78 ?_
            refine lw_off rfl rfl rfl h78 ?_
            refine lw_off rfl rfl rfl h78 ?_
            first | refine lw_val rfl (run_pickF (v := .bool _) rfl h78 rfl) ?_
            first | refine lw_val rfl (run_move (v := .bool _) rfl) ?_
            refine lw_off rfl rfl rfl rfl ?_
            refine lw_off rfl rfl rfl rfl ?_
            refine lw_off rfl rfl rfl rfl ?_
            first | refine lw_val rfl (run_pickF (v := .bool _) rfl rfl rfl) ?_
            first | refine lw_val rfl (run_move (v := .bool _) rfl) ?_
            refine lw_off rfl rfl rfl rfl ?_
            refine lw_off rfl rfl rfl rfl ?_
            refine lw_off rfl rfl rfl rfl ?_
            first | refine lw_val rfl (run_pickF (v := .bool _) rfl rfl rfl) ?_
            first | refine lw_val rfl (run_assign (v := .bool _) rfl) ?_
            refine lw_nil ?_
            refine cw_seq ?_
            obtain ⟨_, rfl, he⟩ := (hde.resolve_left (fun h => by rw [hbad] at h; cases h.1)).resolve_left (fun h => by rw [hbad] at h; cases h.1)
            refine cw_region ?_
            first | refine lw_val rfl (run_move (v := .pointer (some _)) rfl) ?_ | refine lw_val rfl (run_move (v := .pointer none) rfl) ?_
            first | refine lw_val rfl (run_loadRow hs 0 rfl Tryd.underlying50 sz50 rfl) ?_ | refine lw_val rfl (run_loadRow hs 1 rfl Tryd.underlying50 sz50 rfl) ?_ | refine lw_val rfl (run_loadRow hs 2 rfl Tryd.underlying50 sz50 rfl) ?_ | refine lw_val rfl (run_loadRow hs 3 rfl Tryd.underlying50 sz50 rfl) ?_ | refine lw_val rfl (run_loadRow hs 4 rfl Tryd.underlying50 sz50 rfl) ?_ | refine lw_val rfl (run_loadRow hs 5 rfl Tryd.underlying50 sz50 rfl) ?_ | refine lw_val rfl (run_loadRow hs 6 rfl Tryd.underlying50 sz50 rfl) ?_ | refine lw_val rfl (run_loadRow hs 7 rfl Tryd.underlying50 sz50 rfl) ?_ | refine lw_val rfl (run_loadRow hs 8 rfl Tryd.underlying50 sz50 rfl) ?_ | refine lw_val rfl (run_loadRow hs 9 rfl Tryd.underlying50 sz50 rfl) ?_ | refine lw_val rfl (run_loadRow hs 10 rfl Tryd.underlying50 sz50 rfl) ?_ | refine lw_val rfl (run_loadRow hs 11 rfl Tryd.underlying50 sz50 rfl) ?_ | refine lw_val rfl (run_loadRow hs 12 rfl Tryd.underlying50 sz50 rfl) ?_ | refine lw_val rfl (run_loadRow hs 13 rfl Tryd.underlying50 sz50 rfl) ?_
            refine lw_call rfl en32 (jwrite_sl hE (d := d) (L := _ :: _ :: _ :: []) (by omega) (hs.arr [3, 0, 1, 2] 4 (by decide)) hz0 hz1 hz2 hz3 hw) ?_
            clear hs
            rintro _ w ⟨rfl, hs⟩
            replace hs : Mem g w [cells b15 (s4V s) 50, cells b11 (s4V ((none : Option S4).getD s40)) 50, cells b10 (s4V (cur.getD s40)) 50, DiskC p e] := hs.arr [1, 2, 3, 0] 4 (by decide)
            first | refine lw_val rfl (run_assign (v := errV ad _) rfl) ?_ | refine lw_val rfl (run_assign (v := .nilIface) rfl) ?_ | refine lw_val rfl (run_assign (v := eV ad _ _) rfl) ?_ | refine lw_val rfl (run_assign (v := .iface _ (.pointer (some _))) rfl) ?_
            refine lw_nil ?_
            refine cw_block ?_
            refine cw_seq ?_
            refine cw_region ?_
            first | refine lw_val rfl (run_move (v := .bool _) rfl) ?_
            refine lw_val rfl (run_not rfl) ?_
            first | refine lw_val rfl (run_assign (v := .bool _) rfl) ?_
            refine lw_nil ?_
            refine cw_ift rfl (not_t rfl) ?_
            refine cw_seq ?_
            refine cw_region ?_
            first | refine lw_val rfl (run_move (v := errV ad _) rfl) ?_ | refine lw_val rfl (run_move (v := .nilIface) rfl) ?_ | refine lw_val rfl (run_move (v := eV ad _ _) rfl) ?_ | refine lw_val rfl (run_move (v := .iface _ (.pointer (some _))) rfl) ?_
            refine lw_call rfl en34 (isA_sl hA hs (d := 105) (by decide) 105) ?_
            clear hs
            rintro _ w ⟨rfl, hs⟩
            refine lw_val rfl (run_not rfl) ?_
            refine lw_nil ?_
            refine cw_iff rfl (not_f (rfl)) ?_
            refine cw_skip ?_
            refine cw_region ?_
            first | refine lw_val rfl (run_move (v := .int .i64 _) rfl) ?_
            refine lw_val rfl (run_add64 rfl rfl rfl (inI (by omega) (by omega))) ?_
            first | refine lw_val rfl (run_assign (v := .int .i64 _) rfl) ?_
            refine lw_nil ?_
            subst he
            exact ⟨(i + 1, e, F, cur, none), by simp only; omega, ⟨by simp only; omega, by simp only; omega, by simp only; omega, hJ, ⟨hup, hpt⟩, hs.tail⟩, ⟨rfl, rfl, rfl, trivial⟩, by repeat (first | exact Out.mix _ _ _ | refine Out.updo rfl ?_ | refine Out.upd rfl ?_ | refine Out.mixIn rfl ?_)⟩
        · intro h67
          replace h67 := not_c h67
          refine cw_exit rfl ?_
          refine cw_seq ?_
          refine cw_region ?_
          first | refine lw_val rfl (run_move (v := .pointer (some _)) rfl) ?_ | refine lw_val rfl (run_move (v := .pointer none) rfl) ?_
          first | refine lw_val rfl (run_move (v := .slice _ _ _) rfl) ?_
          refine lw_call rfl en42 (crash_sl (d := d) (L := _ :: _ :: []) (hs.arr [2, 0, 1] 3 (by decide)) (by omega) (picks := picks) (h2.rd _) rfl (by omega)) ?_
          clear hs
          rintro _ w ⟨rfl, hs⟩
          obtain ⟨G, c, hG, hJc, hc⟩ := JkD.crash hJ hD picks
          obtain ⟨e1, hg1, hgc1, hga1, hgp1⟩ := hG.jgone rfl
          have hcc : (d.crash picks).calls = d.calls := rfl
          refine lw_nil ?_
          refine cw_seq ?_
          refine cw_region ?_
          first | refine lw_val rfl (run_move (v := .pointer (some _)) rfl) ?_ | refine lw_val rfl (run_move (v := .pointer none) rfl) ?_
          refine lw_call rfl en28 (jread_sl hE hs (j := (0, c.isSome, (c.getD s40).1, (c.getD s40).2.1, (c.getD s40).2.2.1, (c.getD s40).2.2.2)) ((hJc.read hG).trans (curJ_form c))) ?_
          clear hs
          rintro _ w ⟨rfl, hs⟩
          first | refine lw_val rfl (run_move (v := .tuple _) rfl) ?_
          first | refine lw_val rfl (run_extract (v := .agg _) rfl rfl) ?_
          first | refine lw_val rfl (run_extract (v := .bool _) rfl rfl) ?_
          first | refine lw_val rfl (run_extract (v := errV ad _) rfl rfl) ?_ | refine lw_val rfl (run_extract (v := .nilIface) rfl rfl) ?_ | refine lw_val rfl (run_extract (v := eV ad _ _) rfl rfl) ?_ | refine lw_val rfl (run_extract (v := .iface _ (.pointer (some _))) rfl rfl) ?_
          refine lw_alloc hs rfl ze50 ?_
          clear hs
          intro b21 w hs
          try simp only [List.set_cons_succ, List.set_cons_zero] at hs
          first | refine lw_storeRow hs 0 rfl rfl rfl sz50 rfl rfl ?_ | refine lw_storeRow hs 1 rfl rfl rfl sz50 rfl rfl ?_ | refine lw_storeRow hs 2 rfl rfl rfl sz50 rfl rfl ?_ | refine lw_storeRow hs 3 rfl rfl rfl sz50 rfl rfl ?_ | refine lw_storeRow hs 4 rfl rfl rfl sz50 rfl rfl ?_ | refine lw_storeRow hs 5 rfl rfl rfl sz50 rfl rfl ?_ | refine lw_storeRow hs 6 rfl rfl rfl sz50 rfl rfl ?_ | refine lw_storeRow hs 7 rfl rfl rfl sz50 rfl rfl ?_ | refine lw_storeRow hs 8 rfl rfl rfl sz50 rfl rfl ?_ | refine lw_storeRow hs 9 rfl rfl rfl sz50 rfl rfl ?_ | refine lw_storeRow hs 10 rfl rfl rfl sz50 rfl rfl ?_ | refine lw_storeRow hs 11 rfl rfl rfl sz50 rfl rfl ?_ | refine lw_storeRow hs 12 rfl rfl rfl sz50 rfl rfl ?_ | refine lw_storeRow hs 13 rfl rfl rfl sz50 rfl rfl ?_
          clear hs
          intro w hs
          try simp only [List.set_cons_succ, List.set_cons_zero] at hs
          first | refine lw_val rfl (run_assign (v := .bool _) rfl) ?_
          first | refine lw_val rfl (run_assign (v := errV ad _) rfl) ?_ | refine lw_val rfl (run_assign (v := .nilIface) rfl) ?_ | refine lw_val rfl (run_assign (v := eV ad _ _) rfl) ?_ | refine lw_val rfl (run_assign (v := .iface _ (.pointer (some _))) rfl) ?_
          refine lw_nil ?_
          refine cw_seq ?_
          refine cw_seq ?_
          refine cw_region ?_
          first | refine lw_val rfl (run_move (v := errV ad _) rfl) ?_ | refine lw_val rfl (run_move (v := .nilIface) rfl) ?_ | refine lw_val rfl (run_move (v := eV ad _ _) rfl) ?_ | refine lw_val rfl (run_move (v := .iface _ (.pointer (some _))) rfl) ?_
          first | refine lw_val rfl (run_neerrn (ad := ad) rfl) ?_ | refine lw_val rfl (run_nenn rfl) ?_ | refine lw_val rfl (run_neE (ad := ad) rfl) ?_
          refine lw_nil ?_
          refine cw_iff rfl (rfl) ?_
          refine cw_skip ?_
          refine cw_seq ?_
          rcases hc with rfl | ⟨s, rfl, rfl⟩
          · skip
            refine cw_region ?_
            first | refine lw_val rfl (run_move (v := .bool _) rfl) ?_
            first | refine lw_val rfl (run_move (v := .bool _) rfl) ?_
            refine lw_val rfl (run_eqb Tryd.underlying4 rfl rfl) ?_
            first | refine lw_val rfl (run_move (v := .bool _) rfl) ?_
            refine lw_on rfl rfl (by cases c <;> rfl) ?_
            first | refine lw_val rfl (run_loadRow hs 0 rfl Tryd.underlying50 sz50 rfl) ?_ | refine lw_val rfl (run_loadRow hs 1 rfl Tryd.underlying50 sz50 rfl) ?_ | refine lw_val rfl (run_loadRow hs 2 rfl Tryd.underlying50 sz50 rfl) ?_ | refine lw_val rfl (run_loadRow hs 3 rfl Tryd.underlying50 sz50 rfl) ?_ | refine lw_val rfl (run_loadRow hs 4 rfl Tryd.underlying50 sz50 rfl) ?_ | refine lw_val rfl (run_loadRow hs 5 rfl Tryd.underlying50 sz50 rfl) ?_ | refine lw_val rfl (run_loadRow hs 6 rfl Tryd.underlying50 sz50 rfl) ?_ | refine lw_val rfl (run_loadRow hs 7 rfl Tryd.underlying50 sz50 rfl) ?_ | refine lw_val rfl (run_loadRow hs 8 rfl Tryd.underlying50 sz50 rfl) ?_ | refine lw_val rfl (run_loadRow hs 9 rfl Tryd.underlying50 sz50 rfl) ?_ | refine lw_val rfl (run_loadRow hs 10 rfl Tryd.underlying50 sz50 rfl) ?_ | refine lw_val rfl (run_loadRow hs 11 rfl Tryd.underlying50 sz50 rfl) ?_ | refine lw_val rfl (run_loadRow hs 12 rfl Tryd.underlying50 sz50 rfl) ?_ | refine lw_val rfl (run_loadRow hs 13 rfl Tryd.underlying50 sz50 rfl) ?_
            refine lw_on rfl rfl (by cases c <;> rfl) ?_
            first | refine lw_val rfl (run_loadRow hs 0 rfl Tryd.underlying50 sz50 rfl) ?_ | refine lw_val rfl (run_loadRow hs 1 rfl Tryd.underlying50 sz50 rfl) ?_ | refine lw_val rfl (run_loadRow hs 2 rfl Tryd.underlying50 sz50 rfl) ?_ | refine lw_val rfl (run_loadRow hs 3 rfl Tryd.underlying50 sz50 rfl) ?_ | refine lw_val rfl (run_loadRow hs 4 rfl Tryd.underlying50 sz50 rfl) ?_ | refine lw_val rfl (run_loadRow hs 5 rfl Tryd.underlying50 sz50 rfl) ?_ | refine lw_val rfl (run_loadRow hs 6 rfl Tryd.underlying50 sz50 rfl) ?_ | refine lw_val rfl (run_loadRow hs 7 rfl Tryd.underlying50 sz50 rfl) ?_ | refine lw_val rfl (run_loadRow hs 8 rfl Tryd.underlying50 sz50 rfl) ?_ | refine lw_val rfl (run_loadRow hs 9 rfl Tryd.underlying50 sz50 rfl) ?_ | refine lw_val rfl (run_loadRow hs 10 rfl Tryd.underlying50 sz50 rfl) ?_ | refine lw_val rfl (run_loadRow hs 11 rfl Tryd.underlying50 sz50 rfl) ?_ | refine lw_val rfl (run_loadRow hs 12 rfl Tryd.underlying50 sz50 rfl) ?_ | refine lw_val rfl (run_loadRow hs 13 rfl Tryd.underlying50 sz50 rfl) ?_
            refine lw_on rfl rfl (by cases c <;> rfl) ?_
            refine lw_call rfl en35 (same20_sl hs (c.getD s40).1 (c.getD s40).2.1 (c.getD s40).2.2.1 (c.getD s40).2.2.2 (c.getD s40).1 (c.getD s40).2.1 (c.getD s40).2.2.1 (c.getD s40).2.2.2) ?_
            clear hs
            rintro _ w ⟨rfl, hs⟩
            first | refine lw_val rfl (run_pickT (v := .bool _) rfl (by cases c <;> rfl) rfl) ?_
            first | refine lw_val rfl (run_assign (v := .bool _) rfl) ?_
            refine lw_nil ?_
            refine cw_seq ?_
            refine cw_seq ?_
            refine cw_region ?_
            first | refine lw_val rfl (run_move (v := .bool _) rfl) ?_
            refine lw_val rfl (run_not rfl) ?_
            first | refine lw_val rfl (run_move (v := .bool _) rfl) ?_
            refine lw_off rfl rfl rfl (not_f (decide_eq_true rfl)) ?_
            refine lw_off rfl rfl rfl (not_f (decide_eq_true rfl)) ?_
            refine lw_offU rfl rfl rfl ?_
            refine lw_off rfl rfl rfl (not_f (decide_eq_true rfl)) ?_
            refine lw_off rfl rfl rfl (not_f (decide_eq_true rfl)) ?_
            refine lw_offU rfl rfl rfl ?_
            refine lw_offU rfl rfl rfl ?_
            refine lw_offU rfl rfl rfl ?_
            refine lw_off rfl rfl rfl (not_f (decide_eq_true rfl)) ?_
            refine lw_off rfl rfl rfl (not_f (decide_eq_true rfl)) ?_
            first | refine lw_val rfl (run_pickF (v := .bool _) rfl (not_f (decide_eq_true rfl)) rfl) ?_
            refine lw_nil ?_
            refine cw_iff rfl rfl ?_
            refine cw_skip ?_
            refine cw_seq ?_
            refine cw_seq ?_
            refine cw_region ?_
            first | refine lw_val rfl (run_move (v := .pointer (some _)) rfl) ?_ | refine lw_val rfl (run_move (v := .pointer none) rfl) ?_
            refine lw_call rfl en36 (jremove_sl hK (d := d.crash picks) (L := _ :: _ :: _ :: []) (by omega) (hs.arr [1, 0, 2, 3] 4 (by decide)) hg1) ?_
            clear hs
            rintro _ w ⟨rfl, hs⟩
            obtain ⟨hok3, _⟩ := hs.openD
            have pt3 := hgp1 hok3
            obtain ⟨e2, hg2, hgc2, hga2, hgp2⟩ := pt3.jgone hga1
            first | refine lw_val rfl (run_neerrn (ad := ad) rfl) ?_ | refine lw_val rfl (run_nenn rfl) ?_ | refine lw_val rfl (run_neE (ad := ad) rfl) ?_
            first | refine lw_val rfl (run_move (v := .bool _) rfl) ?_
            refine lw_on rfl rfl (rfl) ?_
            first | refine lw_val rfl (run_move (v := .pointer (some _)) rfl) ?_ | refine lw_val rfl (run_move (v := .pointer none) rfl) ?_
            refine lw_on rfl rfl (rfl) ?_
            refine lw_call rfl en36 (jremove_sl hK (by omega) hs hg2) ?_
            clear hs
            rintro _ w ⟨rfl, hs⟩
            obtain ⟨hok4, _⟩ := hs.openD
            have pt4 := hgp2 hok4
            refine lw_on rfl rfl (rfl) ?_
            first | refine lw_val rfl (run_neerrn (ad := ad) rfl) ?_ | refine lw_val rfl (run_nenn rfl) ?_ | refine lw_val rfl (run_neE (ad := ad) rfl) ?_
            first | refine lw_val rfl (run_pickF (v := .bool _) rfl (rfl) rfl) ?_
            refine lw_nil ?_
            refine cw_iff rfl (rfl) ?_
            refine cw_skip ?_
            refine cw_seq ?_
            refine cw_region ?_
            first | refine lw_val rfl (run_move (v := .pointer (some _)) rfl) ?_ | refine lw_val rfl (run_move (v := .pointer none) rfl) ?_
            refine lw_call rfl en28 (jread_sl hE hs (j := zS) (pt4.jnone (by simp [clrF]))) ?_
            clear hs
            rintro _ w ⟨rfl, hs⟩
            first | refine lw_val rfl (run_move (v := .tuple _) rfl) ?_
            first | refine lw_val rfl (run_extract (v := .agg _) rfl rfl) ?_
            first | refine lw_val rfl (run_extract (v := .bool _) rfl rfl) ?_
            first | refine lw_val rfl (run_extract (v := errV ad _) rfl rfl) ?_ | refine lw_val rfl (run_extract (v := .nilIface) rfl rfl) ?_ | refine lw_val rfl (run_extract (v := eV ad _ _) rfl rfl) ?_ | refine lw_val rfl (run_extract (v := .iface _ (.pointer (some _))) rfl rfl) ?_
            refine lw_alloc hs rfl ze50 ?_
            clear hs
            intro b25 w hs
            try simp only [List.set_cons_succ, List.set_cons_zero] at hs
            first | refine lw_storeRow hs 0 rfl rfl rfl sz50 rfl rfl ?_ | refine lw_storeRow hs 1 rfl rfl rfl sz50 rfl rfl ?_ | refine lw_storeRow hs 2 rfl rfl rfl sz50 rfl rfl ?_ | refine lw_storeRow hs 3 rfl rfl rfl sz50 rfl rfl ?_ | refine lw_storeRow hs 4 rfl rfl rfl sz50 rfl rfl ?_ | refine lw_storeRow hs 5 rfl rfl rfl sz50 rfl rfl ?_ | refine lw_storeRow hs 6 rfl rfl rfl sz50 rfl rfl ?_ | refine lw_storeRow hs 7 rfl rfl rfl sz50 rfl rfl ?_ | refine lw_storeRow hs 8 rfl rfl rfl sz50 rfl rfl ?_ | refine lw_storeRow hs 9 rfl rfl rfl sz50 rfl rfl ?_ | refine lw_storeRow hs 10 rfl rfl rfl sz50 rfl rfl ?_ | refine lw_storeRow hs 11 rfl rfl rfl sz50 rfl rfl ?_ | refine lw_storeRow hs 12 rfl rfl rfl sz50 rfl rfl ?_ | refine lw_storeRow hs 13 rfl rfl rfl sz50 rfl rfl ?_
            clear hs
            intro w hs
            try simp only [List.set_cons_succ, List.set_cons_zero] at hs
            first | refine lw_val rfl (run_assign (v := .bool _) rfl) ?_
            first | refine lw_val rfl (run_assign (v := errV ad _) rfl) ?_ | refine lw_val rfl (run_assign (v := .nilIface) rfl) ?_ | refine lw_val rfl (run_assign (v := eV ad _ _) rfl) ?_ | refine lw_val rfl (run_assign (v := .iface _ (.pointer (some _))) rfl) ?_
            refine lw_nil ?_
            refine cw_seq ?_
            refine cw_region ?_
            first | refine lw_val rfl (run_move (v := .pointer (some _)) rfl) ?_ | refine lw_val rfl (run_move (v := .pointer none) rfl) ?_
            refine lw_buildSlice hs rfl ((intsL [5, 5])) Tryd.underlying63 zs3 rfl (cells_one (intsL_one _)) rfl rfl rfl ?_
            clear hs
            intro b177 w hs
            try simp only [List.set_cons_succ, List.set_cons_zero] at hs
            refine lw_call rfl en42 (crash_sl (d := e2) (L := cells _ _ _ :: _) (hs.arr [2, 0, 1] 3 (by decide)) (by omega) (picks := [5, 5]) (Rd.cells (n := 2) 0 rfl rfl) rfl (by decide)) ?_
            clear hs
            rintro _ w ⟨rfl, hs⟩
            refine lw_nil ?_
            refine cw_seq ?_
            refine cw_region ?_
            first | refine lw_val rfl (run_move (v := .pointer (some _)) rfl) ?_ | refine lw_val rfl (run_move (v := .pointer none) rfl) ?_
            refine lw_call rfl en28 (jread_sl hE hs (j := zS) ((pt4.crash _).jnone (by simp [clrF]))) ?_
            clear hs
            rintro _ w ⟨rfl, hs⟩
            first | refine lw_val rfl (run_move (v := .tuple _) rfl) ?_
            first | refine lw_val rfl (run_extract (v := .agg _) rfl rfl) ?_
            first | refine lw_val rfl (run_extract (v := .bool _) rfl rfl) ?_
            first | refine lw_val rfl (run_extract (v := errV ad _) rfl rfl) ?_ | refine lw_val rfl (run_extract (v := .nilIface) rfl rfl) ?_ | refine lw_val rfl (run_extract (v := eV ad _ _) rfl rfl) ?_ | refine lw_val rfl (run_extract (v := .iface _ (.pointer (some _))) rfl rfl) ?_
            refine lw_alloc hs rfl ze50 ?_
            clear hs
            intro b28 w hs
            try simp only [List.set_cons_succ, List.set_cons_zero] at hs
            first | refine lw_storeRow hs 0 rfl rfl rfl sz50 rfl rfl ?_ | refine lw_storeRow hs 1 rfl rfl rfl sz50 rfl rfl ?_ | refine lw_storeRow hs 2 rfl rfl rfl sz50 rfl rfl ?_ | refine lw_storeRow hs 3 rfl rfl rfl sz50 rfl rfl ?_ | refine lw_storeRow hs 4 rfl rfl rfl sz50 rfl rfl ?_ | refine lw_storeRow hs 5 rfl rfl rfl sz50 rfl rfl ?_ | refine lw_storeRow hs 6 rfl rfl rfl sz50 rfl rfl ?_ | refine lw_storeRow hs 7 rfl rfl rfl sz50 rfl rfl ?_ | refine lw_storeRow hs 8 rfl rfl rfl sz50 rfl rfl ?_ | refine lw_storeRow hs 9 rfl rfl rfl sz50 rfl rfl ?_ | refine lw_storeRow hs 10 rfl rfl rfl sz50 rfl rfl ?_ | refine lw_storeRow hs 11 rfl rfl rfl sz50 rfl rfl ?_ | refine lw_storeRow hs 12 rfl rfl rfl sz50 rfl rfl ?_ | refine lw_storeRow hs 13 rfl rfl rfl sz50 rfl rfl ?_
            clear hs
            intro w hs
            try simp only [List.set_cons_succ, List.set_cons_zero] at hs
            first | refine lw_val rfl (run_assign (v := .bool _) rfl) ?_
            first | refine lw_val rfl (run_assign (v := errV ad _) rfl) ?_ | refine lw_val rfl (run_assign (v := .nilIface) rfl) ?_ | refine lw_val rfl (run_assign (v := eV ad _ _) rfl) ?_ | refine lw_val rfl (run_assign (v := .iface _ (.pointer (some _))) rfl) ?_
            refine lw_nil ?_
            refine cw_seq ?_
            refine cw_region ?_
            first | refine lw_val rfl (run_move (v := .bool _) rfl) ?_
            refine lw_val rfl (run_not rfl) ?_
            first | refine lw_val rfl (run_move (v := .bool _) rfl) ?_
            refine lw_on rfl rfl (not_t (rfl)) ?_
            first | refine lw_val rfl (run_move (v := errV ad _) rfl) ?_ | refine lw_val rfl (run_move (v := .nilIface) rfl) ?_ | refine lw_val rfl (run_move (v := eV ad _ _) rfl) ?_ | refine lw_val rfl (run_move (v := .iface _ (.pointer (some _))) rfl) ?_
            refine lw_on rfl rfl (not_t (rfl)) ?_
            first | refine lw_val rfl (run_eqerrn (ad := ad) rfl) ?_ | refine lw_val rfl (run_eqnn rfl) ?_ | refine lw_val rfl (run_eqE (ad := ad) rfl) ?_
            first | refine lw_val rfl (run_pickT (v := .bool _) rfl (not_t (rfl)) rfl) ?_
            first | refine lw_val rfl (run_move (v := .bool _) rfl) ?_
            refine lw_on rfl rfl (rfl) ?_
            first | refine lw_val rfl (run_move (v := .bool _) rfl) ?_
            refine lw_on rfl rfl (rfl) ?_
            refine lw_val rfl (run_not rfl) ?_
            first | refine lw_val rfl (run_pickT (v := .bool _) rfl (rfl) rfl) ?_
            first | refine lw_val rfl (run_move (v := .bool _) rfl) ?_
            refine lw_on rfl rfl (not_t (rfl)) ?_
            first | refine lw_val rfl (run_move (v := errV ad _) rfl) ?_ | refine lw_val rfl (run_move (v := .nilIface) rfl) ?_ | refine lw_val rfl (run_move (v := eV ad _ _) rfl) ?_ | refine lw_val rfl (run_move (v := .iface _ (.pointer (some _))) rfl) ?_
            refine lw_on rfl rfl (not_t (rfl)) ?_
            first | refine lw_val rfl (run_eqerrn (ad := ad) rfl) ?_ | refine lw_val rfl (run_eqnn rfl) ?_ | refine lw_val rfl (run_eqE (ad := ad) rfl) ?_
            first | refine lw_val rfl (run_pickT (v := .bool _) rfl (not_t (rfl)) rfl) ?_
            first | refine lw_val rfl (run_assign (v := .bool _) rfl) ?_
            refine lw_nil ?_
            refine cw_ret ?_
            refine res1 (v := .bool _) rfl rfl ?_
            exact ⟨_, rfl, rfl, hs.nil⟩
          · skip
            refine cw_region ?_
            first | refine lw_val rfl (run_move (v := .bool _) rfl) ?_
            first | refine lw_val rfl (run_move (v := .bool _) rfl) ?_
            refine lw_val rfl (run_eqb Tryd.underlying4 rfl rfl) ?_
            first | refine lw_val rfl (run_move (v := .bool _) rfl) ?_
            refine lw_split (t := _) (d := 143) rfl ?_ ?_
            · intro h142
              refine lw_on rfl rfl h142 ?_
              first | refine lw_val rfl (run_loadRow hs 0 rfl Tryd.underlying50 sz50 rfl) ?_ | refine lw_val rfl (run_loadRow hs 1 rfl Tryd.underlying50 sz50 rfl) ?_ | refine lw_val rfl (run_loadRow hs 2 rfl Tryd.underlying50 sz50 rfl) ?_ | refine lw_val rfl (run_loadRow hs 3 rfl Tryd.underlying50 sz50 rfl) ?_ | refine lw_val rfl (run_loadRow hs 4 rfl Tryd.underlying50 sz50 rfl) ?_ | refine lw_val rfl (run_loadRow hs 5 rfl Tryd.underlying50 sz50 rfl) ?_ | refine lw_val rfl (run_loadRow hs 6 rfl Tryd.underlying50 sz50 rfl) ?_ | refine lw_val rfl (run_loadRow hs 7 rfl Tryd.underlying50 sz50 rfl) ?_ | refine lw_val rfl (run_loadRow hs 8 rfl Tryd.underlying50 sz50 rfl) ?_ | refine lw_val rfl (run_loadRow hs 9 rfl Tryd.underlying50 sz50 rfl) ?_ | refine lw_val rfl (run_loadRow hs 10 rfl Tryd.underlying50 sz50 rfl) ?_ | refine lw_val rfl (run_loadRow hs 11 rfl Tryd.underlying50 sz50 rfl) ?_ | refine lw_val rfl (run_loadRow hs 12 rfl Tryd.underlying50 sz50 rfl) ?_ | refine lw_val rfl (run_loadRow hs 13 rfl Tryd.underlying50 sz50 rfl) ?_
              refine lw_on rfl rfl h142 ?_
              first | refine lw_val rfl (run_loadRow hs 0 rfl Tryd.underlying50 sz50 rfl) ?_ | refine lw_val rfl (run_loadRow hs 1 rfl Tryd.underlying50 sz50 rfl) ?_ | refine lw_val rfl (run_loadRow hs 2 rfl Tryd.underlying50 sz50 rfl) ?_ | refine lw_val rfl (run_loadRow hs 3 rfl Tryd.underlying50 sz50 rfl) ?_ | refine lw_val rfl (run_loadRow hs 4 rfl Tryd.underlying50 sz50 rfl) ?_ | refine lw_val rfl (run_loadRow hs 5 rfl Tryd.underlying50 sz50 rfl) ?_ | refine lw_val rfl (run_loadRow hs 6 rfl Tryd.underlying50 sz50 rfl) ?_ | refine lw_val rfl (run_loadRow hs 7 rfl Tryd.underlying50 sz50 rfl) ?_ | refine lw_val rfl (run_loadRow hs 8 rfl Tryd.underlying50 sz50 rfl) ?_ | refine lw_val rfl (run_loadRow hs 9 rfl Tryd.underlying50 sz50 rfl) ?_ | refine lw_val rfl (run_loadRow hs 10 rfl Tryd.underlying50 sz50 rfl) ?_ | refine lw_val rfl (run_loadRow hs 11 rfl Tryd.underlying50 sz50 rfl) ?_ | refine lw_val rfl (run_loadRow hs 12 rfl Tryd.underlying50 sz50 rfl) ?_ | refine lw_val rfl (run_loadRow hs 13 rfl Tryd.underlying50 sz50 rfl) ?_
              refine lw_on rfl rfl h142 ?_
              refine lw_call rfl en35 (same20_sl hs s.1 s.2.1 s.2.2.1 s.2.2.2 (cur.getD s40).1 (cur.getD s40).2.1 (cur.getD s40).2.2.1 (cur.getD s40).2.2.2) ?_
              clear hs
              rintro _ w ⟨rfl, hs⟩
              first | refine lw_val rfl (run_pickT (v := .bool _) rfl h142 rfl) ?_
              first | refine lw_val rfl (run_assign (v := .bool _) rfl) ?_
              refine lw_nil ?_
              refine cw_seq ?_
              refine cw_seq ?_
              refine cw_region ?_
              first | refine lw_val rfl (run_move (v := .bool _) rfl) ?_
              refine lw_val rfl (run_not rfl) ?_
              first | refine lw_val rfl (run_move (v := .bool _) rfl) ?_
              refine lw_split (t := _) (d := 150) rfl ?_ ?_
              · intro h146
                replace h146 := not_b h146
                refine lw_on rfl rfl (not_t h146) ?_
                first | refine lw_val rfl (run_move (v := .bool _) rfl) ?_
                refine lw_on rfl rfl (not_t h146) ?_
                first | refine lw_val rfl (run_move (v := .bool _) rfl) ?_
                refine lw_on rfl rfl (rfl) ?_
                first | refine lw_val rfl (run_move (v := .bool _) rfl) ?_
                refine lw_on rfl rfl (not_t h146) ?_
                first | refine lw_val rfl (run_pickT (v := .bool _) rfl (rfl) rfl) ?_
                refine lw_on rfl rfl (not_t h146) ?_
                first | refine lw_val rfl (run_move (v := .bool _) rfl) ?_
                refine lw_split (t := _) (d := 155) rfl ?_ ?_
                · intro h136
                  refine lw_on rfl rfl h136 ?_
                  first | refine lw_val rfl (run_loadRow hs 0 rfl Tryd.underlying50 sz50 rfl) ?_ | refine lw_val rfl (run_loadRow hs 1 rfl Tryd.underlying50 sz50 rfl) ?_ | refine lw_val rfl (run_loadRow hs 2 rfl Tryd.underlying50 sz50 rfl) ?_ | refine lw_val rfl (run_loadRow hs 3 rfl Tryd.underlying50 sz50 rfl) ?_ | refine lw_val rfl (run_loadRow hs 4 rfl Tryd.underlying50 sz50 rfl) ?_ | refine lw_val rfl (run_loadRow hs 5 rfl Tryd.underlying50 sz50 rfl) ?_ | refine lw_val rfl (run_loadRow hs 6 rfl Tryd.underlying50 sz50 rfl) ?_ | refine lw_val rfl (run_loadRow hs 7 rfl Tryd.underlying50 sz50 rfl) ?_ | refine lw_val rfl (run_loadRow hs 8 rfl Tryd.underlying50 sz50 rfl) ?_ | refine lw_val rfl (run_loadRow hs 9 rfl Tryd.underlying50 sz50 rfl) ?_ | refine lw_val rfl (run_loadRow hs 10 rfl Tryd.underlying50 sz50 rfl) ?_ | refine lw_val rfl (run_loadRow hs 11 rfl Tryd.underlying50 sz50 rfl) ?_ | refine lw_val rfl (run_loadRow hs 12 rfl Tryd.underlying50 sz50 rfl) ?_ | refine lw_val rfl (run_loadRow hs 13 rfl Tryd.underlying50 sz50 rfl) ?_
                  refine lw_on rfl rfl h136 ?_
                  first | refine lw_val rfl (run_loadRow hs 0 rfl Tryd.underlying50 sz50 rfl) ?_ | refine lw_val rfl (run_loadRow hs 1 rfl Tryd.underlying50 sz50 rfl) ?_ | refine lw_val rfl (run_loadRow hs 2 rfl Tryd.underlying50 sz50 rfl) ?_ | refine lw_val rfl (run_loadRow hs 3 rfl Tryd.underlying50 sz50 rfl) ?_ | refine lw_val rfl (run_loadRow hs 4 rfl Tryd.underlying50 sz50 rfl) ?_ | refine lw_val rfl (run_loadRow hs 5 rfl Tryd.underlying50 sz50 rfl) ?_ | refine lw_val rfl (run_loadRow hs 6 rfl Tryd.underlying50 sz50 rfl) ?_ | refine lw_val rfl (run_loadRow hs 7 rfl Tryd.underlying50 sz50 rfl) ?_ | refine lw_val rfl (run_loadRow hs 8 rfl Tryd.underlying50 sz50 rfl) ?_ | refine lw_val rfl (run_loadRow hs 9 rfl Tryd.underlying50 sz50 rfl) ?_ | refine lw_val rfl (run_loadRow hs 10 rfl Tryd.underlying50 sz50 rfl) ?_ | refine lw_val rfl (run_loadRow hs 11 rfl Tryd.underlying50 sz50 rfl) ?_ | refine lw_val rfl (run_loadRow hs 12 rfl Tryd.underlying50 sz50 rfl) ?_ | refine lw_val rfl (run_loadRow hs 13 rfl Tryd.underlying50 sz50 rfl) ?_
                  refine lw_on rfl rfl h136 ?_
                  refine lw_call rfl en35 (same20_sl hs s.1 s.2.1 s.2.2.1 s.2.2.2 s.1 s.2.1 s.2.2.1 s.2.2.2) ?_
                  clear hs
                  rintro _ w ⟨rfl, hs⟩
                  refine lw_on rfl rfl (not_t h146) ?_
                  first | refine lw_val rfl (run_pickT (v := .bool _) rfl h136 rfl) ?_
                  refine lw_on rfl rfl (not_t h146) ?_
                  refine lw_val rfl (run_not rfl) ?_
                  first | refine lw_val rfl (run_pickT (v := .bool _) rfl (not_t h146) rfl) ?_
                  refine lw_nil ?_
                  refine cw_iff rfl (not_f (decide_eq_true rfl)) ?_
                  refine cw_skip ?_
                  refine cw_seq ?_
                  refine cw_seq ?_
                  refine cw_region ?_
                  first | refine lw_val rfl (run_move (v := .pointer (some _)) rfl) ?_ | refine lw_val rfl (run_move (v := .pointer none) rfl) ?_
                  refine lw_call rfl en36 (jremove_sl hK (d := d.crash picks) (L := _ :: _ :: _ :: []) (by omega) (hs.arr [1, 0, 2, 3] 4 (by decide)) hg1) ?_
                  clear hs
                  rintro _ w ⟨rfl, hs⟩
                  obtain ⟨hok3, _⟩ := hs.openD
                  have pt3 := hgp1 hok3
                  obtain ⟨e2, hg2, hgc2, hga2, hgp2⟩ := pt3.jgone hga1
                  first | refine lw_val rfl (run_neerrn (ad := ad) rfl) ?_ | refine lw_val rfl (run_nenn rfl) ?_ | refine lw_val rfl (run_neE (ad := ad) rfl) ?_
                  first | refine lw_val rfl (run_move (v := .bool _) rfl) ?_
                  refine lw_on rfl rfl (rfl) ?_
                  first | refine lw_val rfl (run_move (v := .pointer (some _)) rfl) ?_ | refine lw_val rfl (run_move (v := .pointer none) rfl) ?_
                  refine lw_on rfl rfl (rfl) ?_
                  refine lw_call rfl en36 (jremove_sl hK (by omega) hs hg2) ?_
                  clear hs
                  rintro _ w ⟨rfl, hs⟩
                  obtain ⟨hok4, _⟩ := hs.openD
                  have pt4 := hgp2 hok4
                  refine lw_on rfl rfl (rfl) ?_
                  first | refine lw_val rfl (run_neerrn (ad := ad) rfl) ?_ | refine lw_val rfl (run_nenn rfl) ?_ | refine lw_val rfl (run_neE (ad := ad) rfl) ?_
                  first | refine lw_val rfl (run_pickF (v := .bool _) rfl (rfl) rfl) ?_
                  refine lw_nil ?_
                  refine cw_iff rfl (rfl) ?_
                  refine cw_skip ?_
                  refine cw_seq ?_
                  refine cw_region ?_
                  first | refine lw_val rfl (run_move (v := .pointer (some _)) rfl) ?_ | refine lw_val rfl (run_move (v := .pointer none) rfl) ?_
                  refine lw_call rfl en28 (jread_sl hE hs (j := zS) (pt4.jnone (by simp [clrF]))) ?_
                  clear hs
                  rintro _ w ⟨rfl, hs⟩
                  first | refine lw_val rfl (run_move (v := .tuple _) rfl) ?_
                  first | refine lw_val rfl (run_extract (v := .agg _) rfl rfl) ?_
                  first | refine lw_val rfl (run_extract (v := .bool _) rfl rfl) ?_
                  first | refine lw_val rfl (run_extract (v := errV ad _) rfl rfl) ?_ | refine lw_val rfl (run_extract (v := .nilIface) rfl rfl) ?_ | refine lw_val rfl (run_extract (v := eV ad _ _) rfl rfl) ?_ | refine lw_val rfl (run_extract (v := .iface _ (.pointer (some _))) rfl rfl) ?_
                  refine lw_alloc hs rfl ze50 ?_
                  clear hs
                  intro b25 w hs
                  try simp only [List.set_cons_succ, List.set_cons_zero] at hs
                  first | refine lw_storeRow hs 0 rfl rfl rfl sz50 rfl rfl ?_ | refine lw_storeRow hs 1 rfl rfl rfl sz50 rfl rfl ?_ | refine lw_storeRow hs 2 rfl rfl rfl sz50 rfl rfl ?_ | refine lw_storeRow hs 3 rfl rfl rfl sz50 rfl rfl ?_ | refine lw_storeRow hs 4 rfl rfl rfl sz50 rfl rfl ?_ | refine lw_storeRow hs 5 rfl rfl rfl sz50 rfl rfl ?_ | refine lw_storeRow hs 6 rfl rfl rfl sz50 rfl rfl ?_ | refine lw_storeRow hs 7 rfl rfl rfl sz50 rfl rfl ?_ | refine lw_storeRow hs 8 rfl rfl rfl sz50 rfl rfl ?_ | refine lw_storeRow hs 9 rfl rfl rfl sz50 rfl rfl ?_ | refine lw_storeRow hs 10 rfl rfl rfl sz50 rfl rfl ?_ | refine lw_storeRow hs 11 rfl rfl rfl sz50 rfl rfl ?_ | refine lw_storeRow hs 12 rfl rfl rfl sz50 rfl rfl ?_ | refine lw_storeRow hs 13 rfl rfl rfl sz50 rfl rfl ?_
                  clear hs
                  intro w hs
                  try simp only [List.set_cons_succ, List.set_cons_zero] at hs
                  first | refine lw_val rfl (run_assign (v := .bool _) rfl) ?_
                  first | refine lw_val rfl (run_assign (v := errV ad _) rfl) ?_ | refine lw_val rfl (run_assign (v := .nilIface) rfl) ?_ | refine lw_val rfl (run_assign (v := eV ad _ _) rfl) ?_ | refine lw_val rfl (run_assign (v := .iface _ (.pointer (some _))) rfl) ?_
                  refine lw_nil ?_
                  refine cw_seq ?_
                  refine cw_region ?_
                  first | refine lw_val rfl (run_move (v := .pointer (some _)) rfl) ?_ | refine lw_val rfl (run_move (v := .pointer none) rfl) ?_
                  refine lw_buildSlice hs rfl ((intsL [5, 5])) Tryd.underlying63 zs3 rfl (cells_one (intsL_one _)) rfl rfl rfl ?_
                  clear hs
                  intro b177 w hs
                  try simp only [List.set_cons_succ, List.set_cons_zero] at hs
                  refine lw_call rfl en42 (crash_sl (d := e2) (L := cells _ _ _ :: _) (hs.arr [2, 0, 1] 3 (by decide)) (by omega) (picks := [5, 5]) (Rd.cells (n := 2) 0 rfl rfl) rfl (by decide)) ?_
                  clear hs
                  rintro _ w ⟨rfl, hs⟩
                  refine lw_nil ?_
                  refine cw_seq ?_
                  refine cw_region ?_
                  first | refine lw_val rfl (run_move (v := .pointer (some _)) rfl) ?_ | refine lw_val rfl (run_move (v := .pointer none) rfl) ?_
                  refine lw_call rfl en28 (jread_sl hE hs (j := zS) ((pt4.crash _).jnone (by simp [clrF]))) ?_
                  clear hs
                  rintro _ w ⟨rfl, hs⟩
                  first | refine lw_val rfl (run_move (v := .tuple _) rfl) ?_
                  first | refine lw_val rfl (run_extract (v := .agg _) rfl rfl) ?_
                  first | refine lw_val rfl (run_extract (v := .bool _) rfl rfl) ?_
                  first | refine lw_val rfl (run_extract (v := errV ad _) rfl rfl) ?_ | refine lw_val rfl (run_extract (v := .nilIface) rfl rfl) ?_ | refine lw_val rfl (run_extract (v := eV ad _ _) rfl rfl) ?_ | refine lw_val rfl (run_extract (v := .iface _ (.pointer (some _))) rfl rfl) ?_
                  refine lw_alloc hs rfl ze50 ?_
                  clear hs
                  intro b28 w hs
                  try simp only [List.set_cons_succ, List.set_cons_zero] at hs
                  first | refine lw_storeRow hs 0 rfl rfl rfl sz50 rfl rfl ?_ | refine lw_storeRow hs 1 rfl rfl rfl sz50 rfl rfl ?_ | refine lw_storeRow hs 2 rfl rfl rfl sz50 rfl rfl ?_ | refine lw_storeRow hs 3 rfl rfl rfl sz50 rfl rfl ?_ | refine lw_storeRow hs 4 rfl rfl rfl sz50 rfl rfl ?_ | refine lw_storeRow hs 5 rfl rfl rfl sz50 rfl rfl ?_ | refine lw_storeRow hs 6 rfl rfl rfl sz50 rfl rfl ?_ | refine lw_storeRow hs 7 rfl rfl rfl sz50 rfl rfl ?_ | refine lw_storeRow hs 8 rfl rfl rfl sz50 rfl rfl ?_ | refine lw_storeRow hs 9 rfl rfl rfl sz50 rfl rfl ?_ | refine lw_storeRow hs 10 rfl rfl rfl sz50 rfl rfl ?_ | refine lw_storeRow hs 11 rfl rfl rfl sz50 rfl rfl ?_ | refine lw_storeRow hs 12 rfl rfl rfl sz50 rfl rfl ?_ | refine lw_storeRow hs 13 rfl rfl rfl sz50 rfl rfl ?_
                  clear hs
                  intro w hs
                  try simp only [List.set_cons_succ, List.set_cons_zero] at hs
                  first | refine lw_val rfl (run_assign (v := .bool _) rfl) ?_
                  first | refine lw_val rfl (run_assign (v := errV ad _) rfl) ?_ | refine lw_val rfl (run_assign (v := .nilIface) rfl) ?_ | refine lw_val rfl (run_assign (v := eV ad _ _) rfl) ?_ | refine lw_val rfl (run_assign (v := .iface _ (.pointer (some _))) rfl) ?_
                  refine lw_nil ?_
                  refine cw_seq ?_
                  refine cw_region ?_
                  first | refine lw_val rfl (run_move (v := .bool _) rfl) ?_
                  refine lw_val rfl (run_not rfl) ?_
                  first | refine lw_val rfl (run_move (v := .bool _) rfl) ?_
                  refine lw_on rfl rfl (not_t (rfl)) ?_
                  first | refine lw_val rfl (run_move (v := errV ad _) rfl) ?_ | refine lw_val rfl (run_move (v := .nilIface) rfl) ?_ | refine lw_val rfl (run_move (v := eV ad _ _) rfl) ?_ | refine lw_val rfl (run_move (v := .iface _ (.pointer (some _))) rfl) ?_
                  refine lw_on rfl rfl (not_t (rfl)) ?_
                  first | refine lw_val rfl (run_eqerrn (ad := ad) rfl) ?_ | refine lw_val rfl (run_eqnn rfl) ?_ | refine lw_val rfl (run_eqE (ad := ad) rfl) ?_
                  first | refine lw_val rfl (run_pickT (v := .bool _) rfl (not_t (rfl)) rfl) ?_
                  first | refine lw_val rfl (run_move (v := .bool _) rfl) ?_
                  refine lw_on rfl rfl (rfl) ?_
                  first | refine lw_val rfl (run_move (v := .bool _) rfl) ?_
                  refine lw_on rfl rfl (rfl) ?_
                  refine lw_val rfl (run_not rfl) ?_
                  first | refine lw_val rfl (run_pickT (v := .bool _) rfl (rfl) rfl) ?_
                  first | refine lw_val rfl (run_move (v := .bool _) rfl) ?_
                  refine lw_on rfl rfl (not_t (rfl)) ?_
                  first | refine lw_val rfl (run_move (v := errV ad _) rfl) ?_ | refine lw_val rfl (run_move (v := .nilIface) rfl) ?_ | refine lw_val rfl (run_move (v := eV ad _ _) rfl) ?_ | refine lw_val rfl (run_move (v := .iface _ (.pointer (some _))) rfl) ?_
                  refine lw_on rfl rfl (not_t (rfl)) ?_
                  first | refine lw_val rfl (run_eqerrn (ad := ad) rfl) ?_ | refine lw_val rfl (run_eqnn rfl) ?_ | refine lw_val rfl (run_eqE (ad := ad) rfl) ?_
                  first | refine lw_val rfl (run_pickT (v := .bool _) rfl (not_t (rfl)) rfl) ?_
                  first | refine lw_val rfl (run_assign (v := .bool _) rfl) ?_
                  refine lw_nil ?_
                  refine cw_ret ?_
                  refine res1 (v := .bool _) rfl rfl ?_
                  exact ⟨_, rfl, rfl, hs.nil⟩
                · intro h136
                  refine lw_off rfl rfl rfl h136 ?_
                  refine lw_off rfl rfl rfl h136 ?_
                  refine lw_off rfl rfl rfl h136 ?_
                  refine lw_on rfl rfl (not_t h146) ?_
                  first | refine lw_val rfl (run_pickF (v := .bool _) rfl h136 rfl) ?_
                  refine lw_on rfl rfl (not_t h146) ?_
                  refine lw_val rfl (run_not rfl) ?_
                  first | refine lw_val rfl (run_pickT (v := .bool _) rfl (not_t h146) rfl) ?_
                  refine lw_nil ?_
                  refine cw_ift rfl (not_t rfl) ?_
                  refine cw_seq ?_
                  refine cw_region ?_
                  first | refine lw_val rfl (run_assign (v := .bool _) rfl) ?_
                  refine lw_nil ?_
                  refine cw_ret ?_
                  refine res1 (v := .bool _) rfl rfl ?_
                  exact absurd h136 (by simp)
              · intro h146
                replace h146 := not_c h146
                refine lw_off rfl rfl rfl (not_f h146) ?_
                refine lw_off rfl rfl rfl (not_f h146) ?_
                refine lw_offU rfl rfl rfl ?_
                refine lw_off rfl rfl rfl (not_f h146) ?_
                refine lw_off rfl rfl rfl (not_f h146) ?_
                refine lw_offU rfl rfl rfl ?_
                refine lw_offU rfl rfl rfl ?_
                refine lw_offU rfl rfl rfl ?_
                refine lw_off rfl rfl rfl (not_f h146) ?_
                refine lw_off rfl rfl rfl (not_f h146) ?_
                first | refine lw_val rfl (run_pickF (v := .bool _) rfl (not_f h146) rfl) ?_
                refine lw_nil ?_
                refine cw_iff rfl rfl ?_
                refine cw_skip ?_
                refine cw_seq ?_
                refine cw_seq ?_
                refine cw_region ?_
                first | refine lw_val rfl (run_move (v := .pointer (some _)) rfl) ?_ | refine lw_val rfl (run_move (v := .pointer none) rfl) ?_
                refine lw_call rfl en36 (jremove_sl hK (d := d.crash picks) (L := _ :: _ :: _ :: []) (by omega) (hs.arr [1, 0, 2, 3] 4 (by decide)) hg1) ?_
                clear hs
                rintro _ w ⟨rfl, hs⟩
                obtain ⟨hok3, _⟩ := hs.openD
                have pt3 := hgp1 hok3
                obtain ⟨e2, hg2, hgc2, hga2, hgp2⟩ := pt3.jgone hga1
                first | refine lw_val rfl (run_neerrn (ad := ad) rfl) ?_ | refine lw_val rfl (run_nenn rfl) ?_ | refine lw_val rfl (run_neE (ad := ad) rfl) ?_
                first | refine lw_val rfl (run_move (v := .bool _) rfl) ?_
                refine lw_on rfl rfl (rfl) ?_
                first | refine lw_val rfl (run_move (v := .pointer (some _)) rfl) ?_ | refine lw_val rfl (run_move (v := .pointer none) rfl) ?_
                refine lw_on rfl rfl (rfl) ?_
                refine lw_call rfl en36 (jremove_sl hK (by omega) hs hg2) ?_
                clear hs
                rintro _ w ⟨rfl, hs⟩
                obtain ⟨hok4, _⟩ := hs.openD
                have pt4 := hgp2 hok4
                refine lw_on rfl rfl (rfl) ?_
                first | refine lw_val rfl (run_neerrn (ad := ad) rfl) ?_ | refine lw_val rfl (run_nenn rfl) ?_ | refine lw_val rfl (run_neE (ad := ad) rfl) ?_
                first | refine lw_val rfl (run_pickF (v := .bool _) rfl (rfl) rfl) ?_
                refine lw_nil ?_
                refine cw_iff rfl (rfl) ?_
                refine cw_skip ?_
                refine cw_seq ?_
                refine cw_region ?_
                first | refine lw_val rfl (run_move (v := .pointer (some _)) rfl) ?_ | refine lw_val rfl (run_move (v := .pointer none) rfl) ?_
                refine lw_call rfl en28 (jread_sl hE hs (j := zS) (pt4.jnone (by simp [clrF]))) ?_
                clear hs
                rintro _ w ⟨rfl, hs⟩
                first | refine lw_val rfl (run_move (v := .tuple _) rfl) ?_
                first | refine lw_val rfl (run_extract (v := .agg _) rfl rfl) ?_
                first | refine lw_val rfl (run_extract (v := .bool _) rfl rfl) ?_
                first | refine lw_val rfl (run_extract (v := errV ad _) rfl rfl) ?_ | refine lw_val rfl (run_extract (v := .nilIface) rfl rfl) ?_ | refine lw_val rfl (run_extract (v := eV ad _ _) rfl rfl) ?_ | refine lw_val rfl (run_extract (v := .iface _ (.pointer (some _))) rfl rfl) ?_
                refine lw_alloc hs rfl ze50 ?_
                clear hs
                intro b25 w hs
                try simp only [List.set_cons_succ, List.set_cons_zero] at hs
                first | refine lw_storeRow hs 0 rfl rfl rfl sz50 rfl rfl ?_ | refine lw_storeRow hs 1 rfl rfl rfl sz50 rfl rfl ?_ | refine lw_storeRow hs 2 rfl rfl rfl sz50 rfl rfl ?_ | refine lw_storeRow hs 3 rfl rfl rfl sz50 rfl rfl ?_ | refine lw_storeRow hs 4 rfl rfl rfl sz50 rfl rfl ?_ | refine lw_storeRow hs 5 rfl rfl rfl sz50 rfl rfl ?_ | refine lw_storeRow hs 6 rfl rfl rfl sz50 rfl rfl ?_ | refine lw_storeRow hs 7 rfl rfl rfl sz50 rfl rfl ?_ | refine lw_storeRow hs 8 rfl rfl rfl sz50 rfl rfl ?_ | refine lw_storeRow hs 9 rfl rfl rfl sz50 rfl rfl ?_ | refine lw_storeRow hs 10 rfl rfl rfl sz50 rfl rfl ?_ | refine lw_storeRow hs 11 rfl rfl rfl sz50 rfl rfl ?_ | refine lw_storeRow hs 12 rfl rfl rfl sz50 rfl rfl ?_ | refine lw_storeRow hs 13 rfl rfl rfl sz50 rfl rfl ?_
                clear hs
                intro w hs
                try simp only [List.set_cons_succ, List.set_cons_zero] at hs
                first | refine lw_val rfl (run_assign (v := .bool _) rfl) ?_
                first | refine lw_val rfl (run_assign (v := errV ad _) rfl) ?_ | refine lw_val rfl (run_assign (v := .nilIface) rfl) ?_ | refine lw_val rfl (run_assign (v := eV ad _ _) rfl) ?_ | refine lw_val rfl (run_assign (v := .iface _ (.pointer (some _))) rfl) ?_
                refine lw_nil ?_
                refine cw_seq ?_
                refine cw_region ?_
                first | refine lw_val rfl (run_move (v := .pointer (some _)) rfl) ?_ | refine lw_val rfl (run_move (v := .pointer none) rfl) ?_
                refine lw_buildSlice hs rfl ((intsL [5, 5])) Tryd.underlying63 zs3 rfl (cells_one (intsL_one _)) rfl rfl rfl ?_
                clear hs
                intro b177 w hs
                try simp only [List.set_cons_succ, List.set_cons_zero] at hs
                refine lw_call rfl en42 (crash_sl (d := e2) (L := cells _ _ _ :: _) (hs.arr [2, 0, 1] 3 (by decide)) (by omega) (picks := [5, 5]) (Rd.cells (n := 2) 0 rfl rfl) rfl (by decide)) ?_
                clear hs
                rintro _ w ⟨rfl, hs⟩
                refine lw_nil ?_
                refine cw_seq ?_
                refine cw_region ?_
                first | refine lw_val rfl (run_move (v := .pointer (some _)) rfl) ?_ | refine lw_val rfl (run_move (v := .pointer none) rfl) ?_
                refine lw_call rfl en28 (jread_sl hE hs (j := zS) ((pt4.crash _).jnone (by simp [clrF]))) ?_
                clear hs
                rintro _ w ⟨rfl, hs⟩
                first | refine lw_val rfl (run_move (v := .tuple _) rfl) ?_
                first | refine lw_val rfl (run_extract (v := .agg _) rfl rfl) ?_
                first | refine lw_val rfl (run_extract (v := .bool _) rfl rfl) ?_
                first | refine lw_val rfl (run_extract (v := errV ad _) rfl rfl) ?_ | refine lw_val rfl (run_extract (v := .nilIface) rfl rfl) ?_ | refine lw_val rfl (run_extract (v := eV ad _ _) rfl rfl) ?_ | refine lw_val rfl (run_extract (v := .iface _ (.pointer (some _))) rfl rfl) ?_
                refine lw_alloc hs rfl ze50 ?_
                clear hs
                intro b28 w hs
                try simp only [List.set_cons_succ, List.set_cons_zero] at hs
                first | refine lw_storeRow hs 0 rfl rfl rfl sz50 rfl rfl ?_ | refine lw_storeRow hs 1 rfl rfl rfl sz50 rfl rfl ?_ | refine lw_storeRow hs 2 rfl rfl rfl sz50 rfl rfl ?_ | refine lw_storeRow hs 3 rfl rfl rfl sz50 rfl rfl ?_ | refine lw_storeRow hs 4 rfl rfl rfl sz50 rfl rfl ?_ | refine lw_storeRow hs 5 rfl rfl rfl sz50 rfl rfl ?_ | refine lw_storeRow hs 6 rfl rfl rfl sz50 rfl rfl ?_ | refine lw_storeRow hs 7 rfl rfl rfl sz50 rfl rfl ?_ | refine lw_storeRow hs 8 rfl rfl rfl sz50 rfl rfl ?_ | refine lw_storeRow hs 9 rfl rfl rfl sz50 rfl rfl ?_ | refine lw_storeRow hs 10 rfl rfl rfl sz50 rfl rfl ?_ | refine lw_storeRow hs 11 rfl rfl rfl sz50 rfl rfl ?_ | refine lw_storeRow hs 12 rfl rfl rfl sz50 rfl rfl ?_ | refine lw_storeRow hs 13 rfl rfl rfl sz50 rfl rfl ?_
                clear hs
                intro w hs
                try simp only [List.set_cons_succ, List.set_cons_zero] at hs
                first | refine lw_val rfl (run_assign (v := .bool _) rfl) ?_
                first | refine lw_val rfl (run_assign (v := errV ad _) rfl) ?_ | refine lw_val rfl (run_assign (v := .nilIface) rfl) ?_ | refine lw_val rfl (run_assign (v := eV ad _ _) rfl) ?_ | refine lw_val rfl (run_assign (v := .iface _ (.pointer (some _))) rfl) ?_
                refine lw_nil ?_
                refine cw_seq ?_
                refine cw_region ?_
                first | refine lw_val rfl (run_move (v := .bool _) rfl) ?_
                refine lw_val rfl (run_not rfl) ?_
                first | refine lw_val rfl (run_move (v := .bool _) rfl) ?_
                refine lw_on rfl rfl (not_t (rfl)) ?_
                first | refine lw_val rfl (run_move (v := errV ad _) rfl) ?_ | refine lw_val rfl (run_move (v := .nilIface) rfl) ?_ | refine lw_val rfl (run_move (v := eV ad _ _) rfl) ?_ | refine lw_val rfl (run_move (v := .iface _ (.pointer (some _))) rfl) ?_
                refine lw_on rfl rfl (not_t (rfl)) ?_
                first | refine lw_val rfl (run_eqerrn (ad := ad) rfl) ?_ | refine lw_val rfl (run_eqnn rfl) ?_ | refine lw_val rfl (run_eqE (ad := ad) rfl) ?_
                first | refine lw_val rfl (run_pickT (v := .bool _) rfl (not_t (rfl)) rfl) ?_
                first | refine lw_val rfl (run_move (v := .bool _) rfl) ?_
                refine lw_on rfl rfl (rfl) ?_
                first | refine lw_val rfl (run_move (v := .bool _) rfl) ?_
                refine lw_on rfl rfl (rfl) ?_
                refine lw_val rfl (run_not rfl) ?_
                first | refine lw_val rfl (run_pickT (v := .bool _) rfl (rfl) rfl) ?_
                first | refine lw_val rfl (run_move (v := .bool _) rfl) ?_
                refine lw_on rfl rfl (not_t (rfl)) ?_
                first | refine lw_val rfl (run_move (v := errV ad _) rfl) ?_ | refine lw_val rfl (run_move (v := .nilIface) rfl) ?_ | refine lw_val rfl (run_move (v := eV ad _ _) rfl) ?_ | refine lw_val rfl (run_move (v := .iface _ (.pointer (some _))) rfl) ?_
                refine lw_on rfl rfl (not_t (rfl)) ?_
                first | refine lw_val rfl (run_eqerrn (ad := ad) rfl) ?_ | refine lw_val rfl (run_eqnn rfl) ?_ | refine lw_val rfl (run_eqE (ad := ad) rfl) ?_
                first | refine lw_val rfl (run_pickT (v := .bool _) rfl (not_t (rfl)) rfl) ?_
                first | refine lw_val rfl (run_assign (v := .bool _) rfl) ?_
                refine lw_nil ?_
                refine cw_ret ?_
                refine res1 (v := .bool _) rfl rfl ?_
                exact ⟨_, rfl, rfl, hs.nil⟩
            · intro h142
              refine lw_off rfl rfl rfl h142 ?_
              refine lw_off rfl rfl rfl h142 ?_
              refine lw_off rfl rfl rfl h142 ?_
              first | refine lw_val rfl (run_pickF (v := .bool _) rfl h142 rfl) ?_
              first | refine lw_val rfl (run_assign (v := .bool _) rfl) ?_
              refine lw_nil ?_
              refine cw_seq ?_
              refine cw_seq ?_
              refine cw_region ?_
              first | refine lw_val rfl (run_move (v := .bool _) rfl) ?_
              refine lw_val rfl (run_not rfl) ?_
              first | refine lw_val rfl (run_move (v := .bool _) rfl) ?_
              refine lw_on rfl rfl (not_t rfl) ?_
              first | refine lw_val rfl (run_move (v := .bool _) rfl) ?_
              refine lw_on rfl rfl (not_t rfl) ?_
              first | refine lw_val rfl (run_move (v := .bool _) rfl) ?_
              refine lw_on rfl rfl (rfl) ?_
              first | refine lw_val rfl (run_move (v := .bool _) rfl) ?_
              refine lw_on rfl rfl (not_t rfl) ?_
              first | refine lw_val rfl (run_pickT (v := .bool _) rfl (rfl) rfl) ?_
              refine lw_on rfl rfl (not_t rfl) ?_
              first | refine lw_val rfl (run_move (v := .bool _) rfl) ?_
              refine lw_split (t := _) (d := 155) rfl ?_ ?_
              · intro h136
                refine lw_on rfl rfl h136 ?_
                first | refine lw_val rfl (run_loadRow hs 0 rfl Tryd.underlying50 sz50 rfl) ?_ | refine lw_val rfl (run_loadRow hs 1 rfl Tryd.underlying50 sz50 rfl) ?_ | refine lw_val rfl (run_loadRow hs 2 rfl Tryd.underlying50 sz50 rfl) ?_ | refine lw_val rfl (run_loadRow hs 3 rfl Tryd.underlying50 sz50 rfl) ?_ | refine lw_val rfl (run_loadRow hs 4 rfl Tryd.underlying50 sz50 rfl) ?_ | refine lw_val rfl (run_loadRow hs 5 rfl Tryd.underlying50 sz50 rfl) ?_ | refine lw_val rfl (run_loadRow hs 6 rfl Tryd.underlying50 sz50 rfl) ?_ | refine lw_val rfl (run_loadRow hs 7 rfl Tryd.underlying50 sz50 rfl) ?_ | refine lw_val rfl (run_loadRow hs 8 rfl Tryd.underlying50 sz50 rfl) ?_ | refine lw_val rfl (run_loadRow hs 9 rfl Tryd.underlying50 sz50 rfl) ?_ | refine lw_val rfl (run_loadRow hs 10 rfl Tryd.underlying50 sz50 rfl) ?_ | refine lw_val rfl (run_loadRow hs 11 rfl Tryd.underlying50 sz50 rfl) ?_ | refine lw_val rfl (run_loadRow hs 12 rfl Tryd.underlying50 sz50 rfl) ?_ | refine lw_val rfl (run_loadRow hs 13 rfl Tryd.underlying50 sz50 rfl) ?_
                refine lw_on rfl rfl h136 ?_
                first | refine lw_val rfl (run_loadRow hs 0 rfl Tryd.underlying50 sz50 rfl) ?_ | refine lw_val rfl (run_loadRow hs 1 rfl Tryd.underlying50 sz50 rfl) ?_ | refine lw_val rfl (run_loadRow hs 2 rfl Tryd.underlying50 sz50 rfl) ?_ | refine lw_val rfl (run_loadRow hs 3 rfl Tryd.underlying50 sz50 rfl) ?_ | refine lw_val rfl (run_loadRow hs 4 rfl Tryd.underlying50 sz50 rfl) ?_ | refine lw_val rfl (run_loadRow hs 5 rfl Tryd.underlying50 sz50 rfl) ?_ | refine lw_val rfl (run_loadRow hs 6 rfl Tryd.underlying50 sz50 rfl) ?_ | refine lw_val rfl (run_loadRow hs 7 rfl Tryd.underlying50 sz50 rfl) ?_ | refine lw_val rfl (run_loadRow hs 8 rfl Tryd.underlying50 sz50 rfl) ?_ | refine lw_val rfl (run_loadRow hs 9 rfl Tryd.underlying50 sz50 rfl) ?_ | refine lw_val rfl (run_loadRow hs 10 rfl Tryd.underlying50 sz50 rfl) ?_ | refine lw_val rfl (run_loadRow hs 11 rfl Tryd.underlying50 sz50 rfl) ?_ | refine lw_val rfl (run_loadRow hs 12 rfl Tryd.underlying50 sz50 rfl) ?_ | refine lw_val rfl (run_loadRow hs 13 rfl Tryd.underlying50 sz50 rfl) ?_
                refine lw_on rfl rfl h136 ?_
                refine lw_call rfl en35 (same20_sl hs s.1 s.2.1 s.2.2.1 s.2.2.2 s.1 s.2.1 s.2.2.1 s.2.2.2) ?_
                clear hs
                rintro _ w ⟨rfl, hs⟩
                refine lw_on rfl rfl (not_t rfl) ?_
                first | refine lw_val rfl (run_pickT (v := .bool _) rfl h136 rfl) ?_
                refine lw_on rfl rfl (not_t rfl) ?_
                refine lw_val rfl (run_not rfl) ?_
                first | refine lw_val rfl (run_pickT (v := .bool _) rfl (not_t rfl) rfl) ?_
                refine lw_nil ?_
                refine cw_iff rfl (not_f (decide_eq_true rfl)) ?_
                refine cw_skip ?_
                refine cw_seq ?_
                refine cw_seq ?_
                refine cw_region ?_
                first | refine lw_val rfl (run_move (v := .pointer (some _)) rfl) ?_ | refine lw_val rfl (run_move (v := .pointer none) rfl) ?_
                refine lw_call rfl en36 (jremove_sl hK (d := d.crash picks) (L := _ :: _ :: _ :: []) (by omega) (hs.arr [1, 0, 2, 3] 4 (by decide)) hg1) ?_
                clear hs
                rintro _ w ⟨rfl, hs⟩
                obtain ⟨hok3, _⟩ := hs.openD
                have pt3 := hgp1 hok3
                obtain ⟨e2, hg2, hgc2, hga2, hgp2⟩ := pt3.jgone hga1
                first | refine lw_val rfl (run_neerrn (ad := ad) rfl) ?_ | refine lw_val rfl (run_nenn rfl) ?_ | refine lw_val rfl (run_neE (ad := ad) rfl) ?_
                first | refine lw_val rfl (run_move (v := .bool _) rfl) ?_
                refine lw_on rfl rfl (rfl) ?_
                first | refine lw_val rfl (run_move (v := .pointer (some _)) rfl) ?_ | refine lw_val rfl (run_move (v := .pointer none) rfl) ?_
                refine lw_on rfl rfl (rfl) ?_
                refine lw_call rfl en36 (jremove_sl hK (by omega) hs hg2) ?_
                clear hs
                rintro _ w ⟨rfl, hs⟩
                obtain ⟨hok4, _⟩ := hs.openD
                have pt4 := hgp2 hok4
                refine lw_on rfl rfl (rfl) ?_
                first | refine lw_val rfl (run_neerrn (ad := ad) rfl) ?_ | refine lw_val rfl (run_nenn rfl) ?_ | refine lw_val rfl (run_neE (ad := ad) rfl) ?_
                first | refine lw_val rfl (run_pickF (v := .bool _) rfl (rfl) rfl) ?_
                refine lw_nil ?_
                refine cw_iff rfl (rfl) ?_
                refine cw_skip ?_
                refine cw_seq ?_
                refine cw_region ?_
                first | refine lw_val rfl (run_move (v := .pointer (some _)) rfl) ?_ | refine lw_val rfl (run_move (v := .pointer none) rfl) ?_
                refine lw_call rfl en28 (jread_sl hE hs (j := zS) (pt4.jnone (by simp [clrF]))) ?_
                clear hs
                rintro _ w ⟨rfl, hs⟩
                first | refine lw_val rfl (run_move (v := .tuple _) rfl) ?_
                first | refine lw_val rfl (run_extract (v := .agg _) rfl rfl) ?_
                first | refine lw_val rfl (run_extract (v := .bool _) rfl rfl) ?_
                first | refine lw_val rfl (run_extract (v := errV ad _) rfl rfl) ?_ | refine lw_val rfl (run_extract (v := .nilIface) rfl rfl) ?_ | refine lw_val rfl (run_extract (v := eV ad _ _) rfl rfl) ?_ | refine lw_val rfl (run_extract (v := .iface _ (.pointer (some _))) rfl rfl) ?_
                refine lw_alloc hs rfl ze50 ?_
                clear hs
                intro b25 w hs
                try simp only [List.set_cons_succ, List.set_cons_zero] at hs
                first | refine lw_storeRow hs 0 rfl rfl rfl sz50 rfl rfl ?_ | refine lw_storeRow hs 1 rfl rfl rfl sz50 rfl rfl ?_ | refine lw_storeRow hs 2 rfl rfl rfl sz50 rfl rfl ?_ | refine lw_storeRow hs 3 rfl rfl rfl sz50 rfl rfl ?_ | refine lw_storeRow hs 4 rfl rfl rfl sz50 rfl rfl ?_ | refine lw_storeRow hs 5 rfl rfl rfl sz50 rfl rfl ?_ | refine lw_storeRow hs 6 rfl rfl rfl sz50 rfl rfl ?_ | refine lw_storeRow hs 7 rfl rfl rfl sz50 rfl rfl ?_ | refine lw_storeRow hs 8 rfl rfl rfl sz50 rfl rfl ?_ | refine lw_storeRow hs 9 rfl rfl rfl sz50 rfl rfl ?_ | refine lw_storeRow hs 10 rfl rfl rfl sz50 rfl rfl ?_ | refine lw_storeRow hs 11 rfl rfl rfl sz50 rfl rfl ?_ | refine lw_storeRow hs 12 rfl rfl rfl sz50 rfl rfl ?_ | refine lw_storeRow hs 13 rfl rfl rfl sz50 rfl rfl ?_
                clear hs
                intro w hs
                try simp only [List.set_cons_succ, List.set_cons_zero] at hs
                first | refine lw_val rfl (run_assign (v := .bool _) rfl) ?_
                first | refine lw_val rfl (run_assign (v := errV ad _) rfl) ?_ | refine lw_val rfl (run_assign (v := .nilIface) rfl) ?_ | refine lw_val rfl (run_assign (v := eV ad _ _) rfl) ?_ | refine lw_val rfl (run_assign (v := .iface _ (.pointer (some _))) rfl) ?_
                refine lw_nil ?_
                refine cw_seq ?_
                refine cw_region ?_
                first | refine lw_val rfl (run_move (v := .pointer (some _)) rfl) ?_ | refine lw_val rfl (run_move (v := .pointer none) rfl) ?_
                refine lw_buildSlice hs rfl ((intsL [5, 5])) Tryd.underlying63 zs3 rfl (cells_one (intsL_one _)) rfl rfl rfl ?_
                clear hs
                intro b177 w hs
                try simp only [List.set_cons_succ, List.set_cons_zero] at hs
                refine lw_call rfl en42 (crash_sl (d := e2) (L := cells _ _ _ :: _) (hs.arr [2, 0, 1] 3 (by decide)) (by omega) (picks := [5, 5]) (Rd.cells (n := 2) 0 rfl rfl) rfl (by decide)) ?_
                clear hs
                rintro _ w ⟨rfl, hs⟩
                refine lw_nil ?_
                refine cw_seq ?_
                refine cw_region ?_
                first | refine lw_val rfl (run_move (v := .pointer (some _)) rfl) ?_ | refine lw_val rfl (run_move (v := .pointer none) rfl) ?_
                refine lw_call rfl en28 (jread_sl hE hs (j := zS) ((pt4.crash _).jnone (by simp [clrF]))) ?_
                clear hs
                rintro _ w ⟨rfl, hs⟩
                first | refine lw_val rfl (run_move (v := .tuple _) rfl) ?_
                first | refine lw_val rfl (run_extract (v := .agg _) rfl rfl) ?_
                first | refine lw_val rfl (run_extract (v := .bool _) rfl rfl) ?_
                first | refine lw_val rfl (run_extract (v := errV ad _) rfl rfl) ?_ | refine lw_val rfl (run_extract (v := .nilIface) rfl rfl) ?_ | refine lw_val rfl (run_extract (v := eV ad _ _) rfl rfl) ?_ | refine lw_val rfl (run_extract (v := .iface _ (.pointer (some _))) rfl rfl) ?_
                refine lw_alloc hs rfl ze50 ?_
                clear hs
                intro b28 w hs
                try simp only [List.set_cons_succ, List.set_cons_zero] at hs
                first | refine lw_storeRow hs 0 rfl rfl rfl sz50 rfl rfl ?_ | refine lw_storeRow hs 1 rfl rfl rfl sz50 rfl rfl ?_ | refine lw_storeRow hs 2 rfl rfl rfl sz50 rfl rfl ?_ | refine lw_storeRow hs 3 rfl rfl rfl sz50 rfl rfl ?_ | refine lw_storeRow hs 4 rfl rfl rfl sz50 rfl rfl ?_ | refine lw_storeRow hs 5 rfl rfl rfl sz50 rfl rfl ?_ | refine lw_storeRow hs 6 rfl rfl rfl sz50 rfl rfl ?_ | refine lw_storeRow hs 7 rfl rfl rfl sz50 rfl rfl ?_ | refine lw_storeRow hs 8 rfl rfl rfl sz50 rfl rfl ?_ | refine lw_storeRow hs 9 rfl rfl rfl sz50 rfl rfl ?_ | refine lw_storeRow hs 10 rfl rfl rfl sz50 rfl rfl ?_ | refine lw_storeRow hs 11 rfl rfl rfl sz50 rfl rfl ?_ | refine lw_storeRow hs 12 rfl rfl rfl sz50 rfl rfl ?_ | refine lw_storeRow hs 13 rfl rfl rfl sz50 rfl rfl ?_
                clear hs
                intro w hs
                try simp only [List.set_cons_succ, List.set_cons_zero] at hs
                first | refine lw_val rfl (run_assign (v := .bool _) rfl) ?_
                first | refine lw_val rfl (run_assign (v := errV ad _) rfl) ?_ | refine lw_val rfl (run_assign (v := .nilIface) rfl) ?_ | refine lw_val rfl (run_assign (v := eV ad _ _) rfl) ?_ | refine lw_val rfl (run_assign (v := .iface _ (.pointer (some _))) rfl) ?_
                refine lw_nil ?_
                refine cw_seq ?_
                refine cw_region ?_
                first | refine lw_val rfl (run_move (v := .bool _) rfl) ?_
                refine lw_val rfl (run_not rfl) ?_
                first | refine lw_val rfl (run_move (v := .bool _) rfl) ?_
                refine lw_on rfl rfl (not_t (rfl)) ?_
                first | refine lw_val rfl (run_move (v := errV ad _) rfl) ?_ | refine lw_val rfl (run_move (v := .nilIface) rfl) ?_ | refine lw_val rfl (run_move (v := eV ad _ _) rfl) ?_ | refine lw_val rfl (run_move (v := .iface _ (.pointer (some _))) rfl) ?_
                refine lw_on rfl rfl (not_t (rfl)) ?_
                first | refine lw_val rfl (run_eqerrn (ad := ad) rfl) ?_ | refine lw_val rfl (run_eqnn rfl) ?_ | refine lw_val rfl (run_eqE (ad := ad) rfl) ?_
                first | refine lw_val rfl (run_pickT (v := .bool _) rfl (not_t (rfl)) rfl) ?_
                first | refine lw_val rfl (run_move (v := .bool _) rfl) ?_
                refine lw_on rfl rfl (rfl) ?_
                first | refine lw_val rfl (run_move (v := .bool _) rfl) ?_
                refine lw_on rfl rfl (rfl) ?_
                refine lw_val rfl (run_not rfl) ?_
                first | refine lw_val rfl (run_pickT (v := .bool _) rfl (rfl) rfl) ?_
                first | refine lw_val rfl (run_move (v := .bool _) rfl) ?_
                refine lw_on rfl rfl (not_t (rfl)) ?_
                first | refine lw_val rfl (run_move (v := errV ad _) rfl) ?_ | refine lw_val rfl (run_move (v := .nilIface) rfl) ?_ | refine lw_val rfl (run_move (v := eV ad _ _) rfl) ?_ | refine lw_val rfl (run_move (v := .iface _ (.pointer (some _))) rfl) ?_
                refine lw_on rfl rfl (not_t (rfl)) ?_
                first | refine lw_val rfl (run_eqerrn (ad := ad) rfl) ?_ | refine lw_val rfl (run_eqnn rfl) ?_ | refine lw_val rfl (run_eqE (ad := ad) rfl) ?_
                first | refine lw_val rfl (run_pickT (v := .bool _) rfl (not_t (rfl)) rfl) ?_
                first | refine lw_val rfl (run_assign (v := .bool _) rfl) ?_
                refine lw_nil ?_
                refine cw_ret ?_
                refine res1 (v := .bool _) rfl rfl ?_
                exact ⟨_, rfl, rfl, hs.nil⟩
              · intro h136
                refine lw_off rfl rfl rfl h136 ?_
                refine lw_off rfl rfl rfl h136 ?_
                refine lw_off rfl rfl rfl h136 ?_
                refine lw_on rfl rfl (not_t rfl) ?_
                first | refine lw_val rfl (run_pickF (v := .bool _) rfl h136 rfl) ?_
                refine lw_on rfl rfl (not_t rfl) ?_
                refine lw_val rfl (run_not rfl) ?_
                first | refine lw_val rfl (run_pickT (v := .bool _) rfl (not_t rfl) rfl) ?_
                refine lw_nil ?_
                refine cw_ift rfl (not_t rfl) ?_
                refine cw_seq ?_
                refine cw_region ?_
                first | refine lw_val rfl (run_assign (v := .bool _) rfl) ?_
                refine lw_nil ?_
                refine cw_ret ?_
                refine res1 (v := .bool _) rfl rfl ?_
                exact absurd h136 (by simp)
      · intro h64
        have g64 := of_decide_eq_false h64
        refine lw_off rfl rfl rfl h64 ?_
        refine lw_off rfl rfl rfl h64 ?_
        refine lw_off rfl rfl rfl h64 ?_
        first | refine lw_val rfl (run_pickF (v := .bool _) rfl h64 rfl) ?_
        refine lw_nil ?_
        refine cw_iff rfl rfl ?_
        refine cw_exit rfl ?_
        refine cw_seq ?_
        refine cw_region ?_
        first | refine lw_val rfl (run_move (v := .pointer (some _)) rfl) ?_ | refine lw_val rfl (run_move (v := .pointer none) rfl) ?_
        first | refine lw_val rfl (run_move (v := .slice _ _ _) rfl) ?_
        refine lw_call rfl en42 (crash_sl (d := d) (L := _ :: _ :: []) (hs.arr [2, 0, 1] 3 (by decide)) (by omega) (picks := picks) (h2.rd _) rfl (by omega)) ?_
        clear hs
        rintro _ w ⟨rfl, hs⟩
        obtain ⟨G, c, hG, hJc, hc⟩ := JkD.crash hJ hD picks
        obtain ⟨e1, hg1, hgc1, hga1, hgp1⟩ := hG.jgone rfl
        have hcc : (d.crash picks).calls = d.calls := rfl
        refine lw_nil ?_
        refine cw_seq ?_
        refine cw_region ?_
        first | refine lw_val rfl (run_move (v := .pointer (some _)) rfl) ?_ | refine lw_val rfl (run_move (v := .pointer none) rfl) ?_
        refine lw_call rfl en28 (jread_sl hE hs (j := (0, c.isSome, (c.getD s40).1, (c.getD s40).2.1, (c.getD s40).2.2.1, (c.getD s40).2.2.2)) ((hJc.read hG).trans (curJ_form c))) ?_
        clear hs
        rintro _ w ⟨rfl, hs⟩
        first | refine lw_val rfl (run_move (v := .tuple _) rfl) ?_
        first | refine lw_val rfl (run_extract (v := .agg _) rfl rfl) ?_
        first | refine lw_val rfl (run_extract (v := .bool _) rfl rfl) ?_
        first | refine lw_val rfl (run_extract (v := errV ad _) rfl rfl) ?_ | refine lw_val rfl (run_extract (v := .nilIface) rfl rfl) ?_ | refine lw_val rfl (run_extract (v := eV ad _ _) rfl rfl) ?_ | refine lw_val rfl (run_extract (v := .iface _ (.pointer (some _))) rfl rfl) ?_
        refine lw_alloc hs rfl ze50 ?_
        clear hs
        intro b21 w hs
        try simp only [List.set_cons_succ, List.set_cons_zero] at hs
        first | refine lw_storeRow hs 0 rfl rfl rfl sz50 rfl rfl ?_ | refine lw_storeRow hs 1 rfl rfl rfl sz50 rfl rfl ?_ | refine lw_storeRow hs 2 rfl rfl rfl sz50 rfl rfl ?_ | refine lw_storeRow hs 3 rfl rfl rfl sz50 rfl rfl ?_ | refine lw_storeRow hs 4 rfl rfl rfl sz50 rfl rfl ?_ | refine lw_storeRow hs 5 rfl rfl rfl sz50 rfl rfl ?_ | refine lw_storeRow hs 6 rfl rfl rfl sz50 rfl rfl ?_ | refine lw_storeRow hs 7 rfl rfl rfl sz50 rfl rfl ?_ | refine lw_storeRow hs 8 rfl rfl rfl sz50 rfl rfl ?_ | refine lw_storeRow hs 9 rfl rfl rfl sz50 rfl rfl ?_ | refine lw_storeRow hs 10 rfl rfl rfl sz50 rfl rfl ?_ | refine lw_storeRow hs 11 rfl rfl rfl sz50 rfl rfl ?_ | refine lw_storeRow hs 12 rfl rfl rfl sz50 rfl rfl ?_ | refine lw_storeRow hs 13 rfl rfl rfl sz50 rfl rfl ?_
        clear hs
        intro w hs
        try simp only [List.set_cons_succ, List.set_cons_zero] at hs
        first | refine lw_val rfl (run_assign (v := .bool _) rfl) ?_
        first | refine lw_val rfl (run_assign (v := errV ad _) rfl) ?_ | refine lw_val rfl (run_assign (v := .nilIface) rfl) ?_ | refine lw_val rfl (run_assign (v := eV ad _ _) rfl) ?_ | refine lw_val rfl (run_assign (v := .iface _ (.pointer (some _))) rfl) ?_
        refine lw_nil ?_
        refine cw_seq ?_
        refine cw_seq ?_
        refine cw_region ?_
        first | refine lw_val rfl (run_move (v := errV ad _) rfl) ?_ | refine lw_val rfl (run_move (v := .nilIface) rfl) ?_ | refine lw_val rfl (run_move (v := eV ad _ _) rfl) ?_ | refine lw_val rfl (run_move (v := .iface _ (.pointer (some _))) rfl) ?_
        first | refine lw_val rfl (run_neerrn (ad := ad) rfl) ?_ | refine lw_val rfl (run_nenn rfl) ?_ | refine lw_val rfl (run_neE (ad := ad) rfl) ?_
        refine lw_nil ?_
        refine cw_iff rfl (rfl) ?_
        refine cw_skip ?_
        refine cw_seq ?_
        rcases hc with rfl | ⟨s, rfl, rfl⟩
        · skip
          refine cw_region ?_
          first | refine lw_val rfl (run_move (v := .bool _) rfl) ?_
          first | refine lw_val rfl (run_move (v := .bool _) rfl) ?_
          refine lw_val rfl (run_eqb Tryd.underlying4 rfl rfl) ?_
          first | refine lw_val rfl (run_move (v := .bool _) rfl) ?_
          refine lw_on rfl rfl (by cases c <;> rfl) ?_
          first | refine lw_val rfl (run_loadRow hs 0 rfl Tryd.underlying50 sz50 rfl) ?_ | refine lw_val rfl (run_loadRow hs 1 rfl Tryd.underlying50 sz50 rfl) ?_ | refine lw_val rfl (run_loadRow hs 2 rfl Tryd.underlying50 sz50 rfl) ?_ | refine lw_val rfl (run_loadRow hs 3 rfl Tryd.underlying50 sz50 rfl) ?_ | refine lw_val rfl (run_loadRow hs 4 rfl Tryd.underlying50 sz50 rfl) ?_ | refine lw_val rfl (run_loadRow hs 5 rfl Tryd.underlying50 sz50 rfl) ?_ | refine lw_val rfl (run_loadRow hs 6 rfl Tryd.underlying50 sz50 rfl) ?_ | refine lw_val rfl (run_loadRow hs 7 rfl Tryd.underlying50 sz50 rfl) ?_ | refine lw_val rfl (run_loadRow hs 8 rfl Tryd.underlying50 sz50 rfl) ?_ | refine lw_val rfl (run_loadRow hs 9 rfl Tryd.underlying50 sz50 rfl) ?_ | refine lw_val rfl (run_loadRow hs 10 rfl Tryd.underlying50 sz50 rfl) ?_ | refine lw_val rfl (run_loadRow hs 11 rfl Tryd.underlying50 sz50 rfl) ?_ | refine lw_val rfl (run_loadRow hs 12 rfl Tryd.underlying50 sz50 rfl) ?_ | refine lw_val rfl (run_loadRow hs 13 rfl Tryd.underlying50 sz50 rfl) ?_
          refine lw_on rfl rfl (by cases c <;> rfl) ?_
          first | refine lw_val rfl (run_loadRow hs 0 rfl Tryd.underlying50 sz50 rfl) ?_ | refine lw_val rfl (run_loadRow hs 1 rfl Tryd.underlying50 sz50 rfl) ?_ | refine lw_val rfl (run_loadRow hs 2 rfl Tryd.underlying50 sz50 rfl) ?_ | refine lw_val rfl (run_loadRow hs 3 rfl Tryd.underlying50 sz50 rfl) ?_ | refine lw_val rfl (run_loadRow hs 4 rfl Tryd.underlying50 sz50 rfl) ?_ | refine lw_val rfl (run_loadRow hs 5 rfl Tryd.underlying50 sz50 rfl) ?_ | refine lw_val rfl (run_loadRow hs 6 rfl Tryd.underlying50 sz50 rfl) ?_ | refine lw_val rfl (run_loadRow hs 7 rfl Tryd.underlying50 sz50 rfl) ?_ | refine lw_val rfl (run_loadRow hs 8 rfl Tryd.underlying50 sz50 rfl) ?_ | refine lw_val rfl (run_loadRow hs 9 rfl Tryd.underlying50 sz50 rfl) ?_ | refine lw_val rfl (run_loadRow hs 10 rfl Tryd.underlying50 sz50 rfl) ?_ | refine lw_val rfl (run_loadRow hs 11 rfl Tryd.underlying50 sz50 rfl) ?_ | refine lw_val rfl (run_loadRow hs 12 rfl Tryd.underlying50 sz50 rfl) ?_ | refine lw_val rfl (run_loadRow hs 13 rfl Tryd.underlying50 sz50 rfl) ?_
          refine lw_on rfl rfl (by cases c <;> rfl) ?_
          refine lw_call rfl en35 (same20_sl hs (c.getD s40).1 (c.getD s40).2.1 (c.getD s40).2.2.1 (c.getD s40).2.2.2 (c.getD s40).1 (c.getD s40).2.1 (c.getD s40).2.2.1 (c.getD s40).2.2.2) ?_
          clear hs
          rintro _ w ⟨rfl, hs⟩
          first | refine lw_val rfl (run_pickT (v := .bool _) rfl (by cases c <;> rfl) rfl) ?_
          first | refine lw_val rfl (run_assign (v := .bool _) rfl) ?_
          refine lw_nil ?_
          refine cw_seq ?_
          refine cw_seq ?_
          refine cw_region ?_
          first | refine lw_val rfl (run_move (v := .bool _) rfl) ?_
          refine lw_val rfl (run_not rfl) ?_
          first | refine lw_val rfl (run_move (v := .bool _) rfl) ?_
          refine lw_off rfl rfl rfl (not_f (decide_eq_true rfl)) ?_
          refine lw_off rfl rfl rfl (not_f (decide_eq_true rfl)) ?_
          refine lw_offU rfl rfl rfl ?_
          refine lw_off rfl rfl rfl (not_f (decide_eq_true rfl)) ?_
          refine lw_off rfl rfl rfl (not_f (decide_eq_true rfl)) ?_
          refine lw_offU rfl rfl rfl ?_
          refine lw_offU rfl rfl rfl ?_
          refine lw_offU rfl rfl rfl ?_
          refine lw_off rfl rfl rfl (not_f (decide_eq_true rfl)) ?_
          refine lw_off rfl rfl rfl (not_f (decide_eq_true rfl)) ?_
          first | refine lw_val rfl (run_pickF (v := .bool _) rfl (not_f (decide_eq_true rfl)) rfl) ?_
          refine lw_nil ?_
          refine cw_iff rfl rfl ?_
          refine cw_skip ?_
          refine cw_seq ?_
          refine cw_seq ?_
          refine cw_region ?_
          first | refine lw_val rfl (run_move (v := .pointer (some _)) rfl) ?_ | refine lw_val rfl (run_move (v := .pointer none) rfl) ?_
          refine lw_call rfl en36 (jremove_sl hK (d := d.crash picks) (L := _ :: _ :: _ :: []) (by omega) (hs.arr [1, 0, 2, 3] 4 (by decide)) hg1) ?_
          clear hs
          rintro _ w ⟨rfl, hs⟩
          obtain ⟨hok3, _⟩ := hs.openD
          have pt3 := hgp1 hok3
          obtain ⟨e2, hg2, hgc2, hga2, hgp2⟩ := pt3.jgone hga1
          first | refine lw_val rfl (run_neerrn (ad := ad) rfl) ?_ | refine lw_val rfl (run_nenn rfl) ?_ | refine lw_val rfl (run_neE (ad := ad) rfl) ?_
          first | refine lw_val rfl (run_move (v := .bool _) rfl) ?_
          refine lw_on rfl rfl (rfl) ?_
          first | refine lw_val rfl (run_move (v := .pointer (some _)) rfl) ?_ | refine lw_val rfl (run_move (v := .pointer none) rfl) ?_
          refine lw_on rfl rfl (rfl) ?_
          refine lw_call rfl en36 (jremove_sl hK (by omega) hs hg2) ?_
          clear hs
          rintro _ w ⟨rfl, hs⟩
          obtain ⟨hok4, _⟩ := hs.openD
          have pt4 := hgp2 hok4
          refine lw_on rfl rfl (rfl) ?_
          first | refine lw_val rfl (run_neerrn (ad := ad) rfl) ?_ | refine lw_val rfl (run_nenn rfl) ?_ | refine lw_val rfl (run_neE (ad := ad) rfl) ?_
          first | refine lw_val rfl (run_pickF (v := .bool _) rfl (rfl) rfl) ?_
          refine lw_nil ?_
          refine cw_iff rfl (rfl) ?_
          refine cw_skip ?_
          refine cw_seq ?_
          refine cw_region ?_
          first | refine lw_val rfl (run_move (v := .pointer (some _)) rfl) ?_ | refine lw_val rfl (run_move (v := .pointer none) rfl) ?_
          refine lw_call rfl en28 (jread_sl hE hs (j := zS) (pt4.jnone (by simp [clrF]))) ?_
          clear hs
          rintro _ w ⟨rfl, hs⟩
          first | refine lw_val rfl (run_move (v := .tuple _) rfl) ?_
          first | refine lw_val rfl (run_extract (v := .agg _) rfl rfl) ?_
          first | refine lw_val rfl (run_extract (v := .bool _) rfl rfl) ?_
          first | refine lw_val rfl (run_extract (v := errV ad _) rfl rfl) ?_ | refine lw_val rfl (run_extract (v := .nilIface) rfl rfl) ?_ | refine lw_val rfl (run_extract (v := eV ad _ _) rfl rfl) ?_ | refine lw_val rfl (run_extract (v := .iface _ (.pointer (some _))) rfl rfl) ?_
          refine lw_alloc hs rfl ze50 ?_
          clear hs
          intro b25 w hs
          try simp only [List.set_cons_succ, List.set_cons_zero] at hs
          first | refine lw_storeRow hs 0 rfl rfl rfl sz50 rfl rfl ?_ | refine lw_storeRow hs 1 rfl rfl rfl sz50 rfl rfl ?_ | refine lw_storeRow hs 2 rfl rfl rfl sz50 rfl rfl ?_ | refine lw_storeRow hs 3 rfl rfl rfl sz50 rfl rfl ?_ | refine lw_storeRow hs 4 rfl rfl rfl sz50 rfl rfl ?_ | refine lw_storeRow hs 5 rfl rfl rfl sz50 rfl rfl ?_ | refine lw_storeRow hs 6 rfl rfl rfl sz50 rfl rfl ?_ | refine lw_storeRow hs 7 rfl rfl rfl sz50 rfl rfl ?_ | refine lw_storeRow hs 8 rfl rfl rfl sz50 rfl rfl ?_ | refine lw_storeRow hs 9 rfl rfl rfl sz50 rfl rfl ?_ | refine lw_storeRow hs 10 rfl rfl rfl sz50 rfl rfl ?_ | refine lw_storeRow hs 11 rfl rfl rfl sz50 rfl rfl ?_ | refine lw_storeRow hs 12 rfl rfl rfl sz50 rfl rfl ?_ | refine lw_storeRow hs 13 rfl rfl rfl sz50 rfl rfl ?_
          clear hs
          intro w hs
          try simp only [List.set_cons_succ, List.set_cons_zero] at hs
          first | refine lw_val rfl (run_assign (v := .bool _) rfl) ?_
          first | refine lw_val rfl (run_assign (v := errV ad _) rfl) ?_ | refine lw_val rfl (run_assign (v := .nilIface) rfl) ?_ | refine lw_val rfl (run_assign (v := eV ad _ _) rfl) ?_ | refine lw_val rfl (run_assign (v := .iface _ (.pointer (some _))) rfl) ?_
          refine lw_nil ?_
          refine cw_seq ?_
          refine cw_region ?_
          first | refine lw_val rfl (run_move (v := .pointer (some _)) rfl) ?_ | refine lw_val rfl (run_move (v := .pointer none) rfl) ?_
          refine lw_buildSlice hs rfl ((intsL [5, 5])) Tryd.underlying63 zs3 rfl (cells_one (intsL_one _)) rfl rfl rfl ?_
          clear hs
          intro b177 w hs
          try simp only [List.set_cons_succ, List.set_cons_zero] at hs
          refine lw_call rfl en42 (crash_sl (d := e2) (L := cells _ _ _ :: _) (hs.arr [2, 0, 1] 3 (by decide)) (by omega) (picks := [5, 5]) (Rd.cells (n := 2) 0 rfl rfl) rfl (by decide)) ?_
          clear hs
          rintro _ w ⟨rfl, hs⟩
          refine lw_nil ?_
          refine cw_seq ?_
          refine cw_region ?_
          first | refine lw_val rfl (run_move (v := .pointer (some _)) rfl) ?_ | refine lw_val rfl (run_move (v := .pointer none) rfl) ?_
          refine lw_call rfl en28 (jread_sl hE hs (j := zS) ((pt4.crash _).jnone (by simp [clrF]))) ?_
          clear hs
          rintro _ w ⟨rfl, hs⟩
          first | refine lw_val rfl (run_move (v := .tuple _) rfl) ?_
          first | refine lw_val rfl (run_extract (v := .agg _) rfl rfl) ?_
          first | refine lw_val rfl (run_extract (v := .bool _) rfl rfl) ?_
          first | refine lw_val rfl (run_extract (v := errV ad _) rfl rfl) ?_ | refine lw_val rfl (run_extract (v := .nilIface) rfl rfl) ?_ | refine lw_val rfl (run_extract (v := eV ad _ _) rfl rfl) ?_ | refine lw_val rfl (run_extract (v := .iface _ (.pointer (some _))) rfl rfl) ?_
          refine lw_alloc hs rfl ze50 ?_
          clear hs
          intro b28 w hs
          try simp only [List.set_cons_succ, List.set_cons_zero] at hs
          first | refine lw_storeRow hs 0 rfl rfl rfl sz50 rfl rfl ?_ | refine lw_storeRow hs 1 rfl rfl rfl sz50 rfl rfl ?_ | refine lw_storeRow hs 2 rfl rfl rfl sz50 rfl rfl ?_ | refine lw_storeRow hs 3 rfl rfl rfl sz50 rfl rfl ?_ | refine lw_storeRow hs 4 rfl rfl rfl sz50 rfl rfl ?_ | refine lw_storeRow hs 5 rfl rfl rfl sz50 rfl rfl ?_ | refine lw_storeRow hs 6 rfl rfl rfl sz50 rfl rfl ?_ | refine lw_storeRow hs 7 rfl rfl rfl sz50 rfl rfl ?_ | refine lw_storeRow hs 8 rfl rfl rfl sz50 rfl rfl ?_ | refine lw_storeRow hs 9 rfl rfl rfl sz50 rfl rfl ?_ | refine lw_storeRow hs 10 rfl rfl rfl sz50 rfl rfl ?_ | refine lw_storeRow hs 11 rfl rfl rfl sz50 rfl rfl ?_ | refine lw_storeRow hs 12 rfl rfl rfl sz50 rfl rfl ?_ | refine lw_storeRow hs 13 rfl rfl rfl sz50 rfl rfl ?_
          clear hs
          intro w hs
          try simp only [List.set_cons_succ, List.set_cons_zero] at hs
          first | refine lw_val rfl (run_assign (v := .bool _) rfl) ?_
          first | refine lw_val rfl (run_assign (v := errV ad _) rfl) ?_ | refine lw_val rfl (run_assign (v := .nilIface) rfl) ?_ | refine lw_val rfl (run_assign (v := eV ad _ _) rfl) ?_ | refine lw_val rfl (run_assign (v := .iface _ (.pointer (some _))) rfl) ?_
          refine lw_nil ?_
          refine cw_seq ?_
          refine cw_region ?_
          first | refine lw_val rfl (run_move (v := .bool _) rfl) ?_
          refine lw_val rfl (run_not rfl) ?_
          first | refine lw_val rfl (run_move (v := .bool _) rfl) ?_
          refine lw_on rfl rfl (not_t (rfl)) ?_
          first | refine lw_val rfl (run_move (v := errV ad _) rfl) ?_ | refine lw_val rfl (run_move (v := .nilIface) rfl) ?_ | refine lw_val rfl (run_move (v := eV ad _ _) rfl) ?_ | refine lw_val rfl (run_move (v := .iface _ (.pointer (some _))) rfl) ?_
          refine lw_on rfl rfl (not_t (rfl)) ?_
          first | refine lw_val rfl (run_eqerrn (ad := ad) rfl) ?_ | refine lw_val rfl (run_eqnn rfl) ?_ | refine lw_val rfl (run_eqE (ad := ad) rfl) ?_
          first | refine lw_val rfl (run_pickT (v := .bool _) rfl (not_t (rfl)) rfl) ?_
          first | refine lw_val rfl (run_move (v := .bool _) rfl) ?_
          refine lw_on rfl rfl (rfl) ?_
          first | refine lw_val rfl (run_move (v := .bool _) rfl) ?_
          refine lw_on rfl rfl (rfl) ?_
          refine lw_val rfl (run_not rfl) ?_
          first | refine lw_val rfl (run_pickT (v := .bool _) rfl (rfl) rfl) ?_
          first | refine lw_val rfl (run_move (v := .bool _) rfl) ?_
          refine lw_on rfl rfl (not_t (rfl)) ?_
          first | refine lw_val rfl (run_move (v := errV ad _) rfl) ?_ | refine lw_val rfl (run_move (v := .nilIface) rfl) ?_ | refine lw_val rfl (run_move (v := eV ad _ _) rfl) ?_ | refine lw_val rfl (run_move (v := .iface _ (.pointer (some _))) rfl) ?_
          refine lw_on rfl rfl (not_t (rfl)) ?_
          first | refine lw_val rfl (run_eqerrn (ad := ad) rfl) ?_ | refine lw_val rfl (run_eqnn rfl) ?_ | refine lw_val rfl (run_eqE (ad := ad) rfl) ?_
          first | refine lw_val rfl (run_pickT (v := .bool _) rfl (not_t (rfl)) rfl) ?_
          first | refine lw_val rfl (run_assign (v := .bool _) rfl) ?_
          refine lw_nil ?_
          refine cw_ret ?_
          refine res1 (v := .bool _) rfl rfl ?_
          exact ⟨_, rfl, rfl, hs.nil⟩
        · skip
          refine cw_region ?_
          first | refine lw_val rfl (run_move (v := .bool _) rfl) ?_
          first | refine lw_val rfl (run_move (v := .bool _) rfl) ?_
          refine lw_val rfl (run_eqb Tryd.underlying4 rfl rfl) ?_
          first | refine lw_val rfl (run_move (v := .bool _) rfl) ?_
          refine lw_split (t := _) (d := 143) rfl ?_ ?_
          · intro h142
            refine lw_on rfl rfl h142 ?_
            first | refine lw_val rfl (run_loadRow hs 0 rfl Tryd.underlying50 sz50 rfl) ?_ | refine lw_val rfl (run_loadRow hs 1 rfl Tryd.underlying50 sz50 rfl) ?_ | refine lw_val rfl (run_loadRow hs 2 rfl Tryd.underlying50 sz50 rfl) ?_ | refine lw_val rfl (run_loadRow hs 3 rfl Tryd.underlying50 sz50 rfl) ?_ | refine lw_val rfl (run_loadRow hs 4 rfl Tryd.underlying50 sz50 rfl) ?_ | refine lw_val rfl (run_loadRow hs 5 rfl Tryd.underlying50 sz50 rfl) ?_ | refine lw_val rfl (run_loadRow hs 6 rfl Tryd.underlying50 sz50 rfl) ?_ | refine lw_val rfl (run_loadRow hs 7 rfl Tryd.underlying50 sz50 rfl) ?_ | refine lw_val rfl (run_loadRow hs 8 rfl Tryd.underlying50 sz50 rfl) ?_ | refine lw_val rfl (run_loadRow hs 9 rfl Tryd.underlying50 sz50 rfl) ?_ | refine lw_val rfl (run_loadRow hs 10 rfl Tryd.underlying50 sz50 rfl) ?_ | refine lw_val rfl (run_loadRow hs 11 rfl Tryd.underlying50 sz50 rfl) ?_ | refine lw_val rfl (run_loadRow hs 12 rfl Tryd.underlying50 sz50 rfl) ?_ | refine lw_val rfl (run_loadRow hs 13 rfl Tryd.underlying50 sz50 rfl) ?_
            refine lw_on rfl rfl h142 ?_
            first | refine lw_val rfl (run_loadRow hs 0 rfl Tryd.underlying50 sz50 rfl) ?_ | refine lw_val rfl (run_loadRow hs 1 rfl Tryd.underlying50 sz50 rfl) ?_ | refine lw_val rfl (run_loadRow hs 2 rfl Tryd.underlying50 sz50 rfl) ?_ | refine lw_val rfl (run_loadRow hs 3 rfl Tryd.underlying50 sz50 rfl) ?_ | refine lw_val rfl (run_loadRow hs 4 rfl Tryd.underlying50 sz50 rfl) ?_ | refine lw_val rfl (run_loadRow hs 5 rfl Tryd.underlying50 sz50 rfl) ?_ | refine lw_val rfl (run_loadRow hs 6 rfl Tryd.underlying50 sz50 rfl) ?_ | refine lw_val rfl (run_loadRow hs 7 rfl Tryd.underlying50 sz50 rfl) ?_ | refine lw_val rfl (run_loadRow hs 8 rfl Tryd.underlying50 sz50 rfl) ?_ | refine lw_val rfl (run_loadRow hs 9 rfl Tryd.underlying50 sz50 rfl) ?_ | refine lw_val rfl (run_loadRow hs 10 rfl Tryd.underlying50 sz50 rfl) ?_ | refine lw_val rfl (run_loadRow hs 11 rfl Tryd.underlying50 sz50 rfl) ?_ | refine lw_val rfl (run_loadRow hs 12 rfl Tryd.underlying50 sz50 rfl) ?_ | refine lw_val rfl (run_loadRow hs 13 rfl Tryd.underlying50 sz50 rfl) ?_
            refine lw_on rfl rfl h142 ?_
            refine lw_call rfl en35 (same20_sl hs s.1 s.2.1 s.2.2.1 s.2.2.2 (cur.getD s40).1 (cur.getD s40).2.1 (cur.getD s40).2.2.1 (cur.getD s40).2.2.2) ?_
            clear hs
            rintro _ w ⟨rfl, hs⟩
            first | refine lw_val rfl (run_pickT (v := .bool _) rfl h142 rfl) ?_
            first | refine lw_val rfl (run_assign (v := .bool _) rfl) ?_
            refine lw_nil ?_
            refine cw_seq ?_
            refine cw_seq ?_
            refine cw_region ?_
            first | refine lw_val rfl (run_move (v := .bool _) rfl) ?_
            refine lw_val rfl (run_not rfl) ?_
            first | refine lw_val rfl (run_move (v := .bool _) rfl) ?_
            refine lw_split (t := _) (d := 150) rfl ?_ ?_
            · intro h146
              replace h146 := not_b h146
              refine lw_on rfl rfl (not_t h146) ?_
              first | refine lw_val rfl (run_move (v := .bool _) rfl) ?_
              refine lw_on rfl rfl (not_t h146) ?_
              first | refine lw_val rfl (run_move (v := .bool _) rfl) ?_
              refine lw_on rfl rfl (rfl) ?_
              first | refine lw_val rfl (run_move (v := .bool _) rfl) ?_
              refine lw_on rfl rfl (not_t h146) ?_
              first | refine lw_val rfl (run_pickT (v := .bool _) rfl (rfl) rfl) ?_
              refine lw_on rfl rfl (not_t h146) ?_
              first | refine lw_val rfl (run_move (v := .bool _) rfl) ?_
              refine lw_split (t := _) (d := 155) rfl ?_ ?_
              · intro h136
                refine lw_on rfl rfl h136 ?_
                first | refine lw_val rfl (run_loadRow hs 0 rfl Tryd.underlying50 sz50 rfl) ?_ | refine lw_val rfl (run_loadRow hs 1 rfl Tryd.underlying50 sz50 rfl) ?_ | refine lw_val rfl (run_loadRow hs 2 rfl Tryd.underlying50 sz50 rfl) ?_ | refine lw_val rfl (run_loadRow hs 3 rfl Tryd.underlying50 sz50 rfl) ?_ | refine lw_val rfl (run_loadRow hs 4 rfl Tryd.underlying50 sz50 rfl) ?_ | refine lw_val rfl (run_loadRow hs 5 rfl Tryd.underlying50 sz50 rfl) ?_ | refine lw_val rfl (run_loadRow hs 6 rfl Tryd.underlying50 sz50 rfl) ?_ | refine lw_val rfl (run_loadRow hs 7 rfl Tryd.underlying50 sz50 rfl) ?_ | refine lw_val rfl (run_loadRow hs 8 rfl Tryd.underlying50 sz50 rfl) ?_ | refine lw_val rfl (run_loadRow hs 9 rfl Tryd.underlying50 sz50 rfl) ?_ | refine lw_val rfl (run_loadRow hs 10 rfl Tryd.underlying50 sz50 rfl) ?_ | refine lw_val rfl (run_loadRow hs 11 rfl Tryd.underlying50 sz50 rfl) ?_ | refine lw_val rfl (run_loadRow hs 12 rfl Tryd.underlying50 sz50 rfl) ?_ | refine lw_val rfl (run_loadRow hs 13 rfl Tryd.underlying50 sz50 rfl) ?_
                refine lw_on rfl rfl h136 ?_
                first | refine lw_val rfl (run_loadRow hs 0 rfl Tryd.underlying50 sz50 rfl) ?_ | refine lw_val rfl (run_loadRow hs 1 rfl Tryd.underlying50 sz50 rfl) ?_ | refine lw_val rfl (run_loadRow hs 2 rfl Tryd.underlying50 sz50 rfl) ?_ | refine lw_val rfl (run_loadRow hs 3 rfl Tryd.underlying50 sz50 rfl) ?_ | refine lw_val rfl (run_loadRow hs 4 rfl Tryd.underlying50 sz50 rfl) ?_ | refine lw_val rfl (run_loadRow hs 5 rfl Tryd.underlying50 sz50 rfl) ?_ | refine lw_val rfl (run_loadRow hs 6 rfl Tryd.underlying50 sz50 rfl) ?_ | refine lw_val rfl (run_loadRow hs 7 rfl Tryd.underlying50 sz50 rfl) ?_ | refine lw_val rfl (run_loadRow hs 8 rfl Tryd.underlying50 sz50 rfl) ?_ | refine lw_val rfl (run_loadRow hs 9 rfl Tryd.underlying50 sz50 rfl) ?_ | refine lw_val rfl (run_loadRow hs 10 rfl Tryd.underlying50 sz50 rfl) ?_ | refine lw_val rfl (run_loadRow hs 11 rfl Tryd.underlying50 sz50 rfl) ?_ | refine lw_val rfl (run_loadRow hs 12 rfl Tryd.underlying50 sz50 rfl) ?_ | refine lw_val rfl (run_loadRow hs 13 rfl Tryd.underlying50 sz50 rfl) ?_
                refine lw_on rfl rfl h136 ?_
                refine lw_call rfl en35 (same20_sl hs s.1 s.2.1 s.2.2.1 s.2.2.2 s.1 s.2.1 s.2.2.1 s.2.2.2) ?_
                clear hs
                rintro _ w ⟨rfl, hs⟩
                refine lw_on rfl rfl (not_t h146) ?_
                first | refine lw_val rfl (run_pickT (v := .bool _) rfl h136 rfl) ?_
                refine lw_on rfl rfl (not_t h146) ?_
                refine lw_val rfl (run_not rfl) ?_
                first | refine lw_val rfl (run_pickT (v := .bool _) rfl (not_t h146) rfl) ?_
                refine lw_nil ?_
                refine cw_iff rfl (not_f (decide_eq_true rfl)) ?_
                refine cw_skip ?_
                refine cw_seq ?_
                refine cw_seq ?_
                refine cw_region ?_
                first | refine lw_val rfl (run_move (v := .pointer (some _)) rfl) ?_ | refine lw_val rfl (run_move (v := .pointer none) rfl) ?_
                refine lw_call rfl en36 (jremove_sl hK (d := d.crash picks) (L := _ :: _ :: _ :: []) (by omega) (hs.arr [1, 0, 2, 3] 4 (by decide)) hg1) ?_
                clear hs
                rintro _ w ⟨rfl, hs⟩
                obtain ⟨hok3, _⟩ := hs.openD
                have pt3 := hgp1 hok3
                obtain ⟨e2, hg2, hgc2, hga2, hgp2⟩ := pt3.jgone hga1
                first | refine lw_val rfl (run_neerrn (ad := ad) rfl) ?_ | refine lw_val rfl (run_nenn rfl) ?_ | refine lw_val rfl (run_neE (ad := ad) rfl) ?_
                first | refine lw_val rfl (run_move (v := .bool _) rfl) ?_
                refine lw_on rfl rfl (rfl) ?_
                first | refine lw_val rfl (run_move (v := .pointer (some _)) rfl) ?_ | refine lw_val rfl (run_move (v := .pointer none) rfl) ?_
                refine lw_on rfl rfl (rfl) ?_
                refine lw_call rfl en36 (jremove_sl hK (by omega) hs hg2) ?_
                clear hs
                rintro _ w ⟨rfl, hs⟩
                obtain ⟨hok4, _⟩ := hs.openD
                have pt4 := hgp2 hok4
                refine lw_on rfl rfl (rfl) ?_
                first | refine lw_val rfl (run_neerrn (ad := ad) rfl) ?_ | refine lw_val rfl (run_nenn rfl) ?_ | refine lw_val rfl (run_neE (ad := ad) rfl) ?_
                first | refine lw_val rfl (run_pickF (v := .bool _) rfl (rfl) rfl) ?_
                refine lw_nil ?_
                refine cw_iff rfl (rfl) ?_
                refine cw_skip ?_
                refine cw_seq ?_
                refine cw_region ?_
                first | refine lw_val rfl (run_move (v := .pointer (some _)) rfl) ?_ | refine lw_val rfl (run_move (v := .pointer none) rfl) ?_
                refine lw_call rfl en28 (jread_sl hE hs (j := zS) (pt4.jnone (by simp [clrF]))) ?_
                clear hs
                rintro _ w ⟨rfl, hs⟩
                first | refine lw_val rfl (run_move (v := .tuple _) rfl) ?_
                first | refine lw_val rfl (run_extract (v := .agg _) rfl rfl) ?_
                first | refine lw_val rfl (run_extract (v := .bool _) rfl rfl) ?_
                first | refine lw_val rfl (run_extract (v := errV ad _) rfl rfl) ?_ | refine lw_val rfl (run_extract (v := .nilIface) rfl rfl) ?_ | refine lw_val rfl (run_extract (v := eV ad _ _) rfl rfl) ?_ | refine lw_val rfl (run_extract (v := .iface _ (.pointer (some _))) rfl rfl) ?_
                refine lw_alloc hs rfl ze50 ?_
                clear hs
                intro b25 w hs
                try simp only [List.set_cons_succ, List.set_cons_zero] at hs
                first | refine lw_storeRow hs 0 rfl rfl rfl sz50 rfl rfl ?_ | refine lw_storeRow hs 1 rfl rfl rfl sz50 rfl rfl ?_ | refine lw_storeRow hs 2 rfl rfl rfl sz50 rfl rfl ?_ | refine lw_storeRow hs 3 rfl rfl rfl sz50 rfl rfl ?_ | refine lw_storeRow hs 4 rfl rfl rfl sz50 rfl rfl ?_ | refine lw_storeRow hs 5 rfl rfl rfl sz50 rfl rfl ?_ | refine lw_storeRow hs 6 rfl rfl rfl sz50 rfl rfl ?_ | refine lw_storeRow hs 7 rfl rfl rfl sz50 rfl rfl ?_ | refine lw_storeRow hs 8 rfl rfl rfl sz50 rfl rfl ?_ | refine lw_storeRow hs 9 rfl rfl rfl sz50 rfl rfl ?_ | refine lw_storeRow hs 10 rfl rfl rfl sz50 rfl rfl ?_ | refine lw_storeRow hs 11 rfl rfl rfl sz50 rfl rfl ?_ | refine lw_storeRow hs 12 rfl rfl rfl sz50 rfl rfl ?_ | refine lw_storeRow hs 13 rfl rfl rfl sz50 rfl rfl ?_
                clear hs
                intro w hs
                try simp only [List.set_cons_succ, List.set_cons_zero] at hs
                first | refine lw_val rfl (run_assign (v := .bool _) rfl) ?_
                first | refine lw_val rfl (run_assign (v := errV ad _) rfl) ?_ | refine lw_val rfl (run_assign (v := .nilIface) rfl) ?_ | refine lw_val rfl (run_assign (v := eV ad _ _) rfl) ?_ | refine lw_val rfl (run_assign (v := .iface _ (.pointer (some _))) rfl) ?_
                refine lw_nil ?_
                refine cw_seq ?_
                refine cw_region ?_
                first | refine lw_val rfl (run_move (v := .pointer (some _)) rfl) ?_ | refine lw_val rfl (run_move (v := .pointer none) rfl) ?_
                refine lw_buildSlice hs rfl ((intsL [5, 5])) Tryd.underlying63 zs3 rfl (cells_one (intsL_one _)) rfl rfl rfl ?_
                clear hs
                intro b177 w hs
                try simp only [List.set_cons_succ, List.set_cons_zero] at hs
                refine lw_call rfl en42 (crash_sl (d := e2) (L := cells _ _ _ :: _) (hs.arr [2, 0, 1] 3 (by decide)) (by omega) (picks := [5, 5]) (Rd.cells (n := 2) 0 rfl rfl) rfl (by decide)) ?_
                clear hs
                rintro _ w ⟨rfl, hs⟩
                refine lw_nil ?_
                refine cw_seq ?_
                refine cw_region ?_
                first | refine lw_val rfl (run_move (v := .pointer (some _)) rfl) ?_ | refine lw_val rfl (run_move (v := .pointer none) rfl) ?_
                refine lw_call rfl en28 (jread_sl hE hs (j := zS) ((pt4.crash _).jnone (by simp [clrF]))) ?_
                clear hs
                rintro _ w ⟨rfl, hs⟩
                first | refine lw_val rfl (run_move (v := .tuple _) rfl) ?_
                first | refine lw_val rfl (run_extract (v := .agg _) rfl rfl) ?_
                first | refine lw_val rfl (run_extract (v := .bool _) rfl rfl) ?_
                first | refine lw_val rfl (run_extract (v := errV ad _) rfl rfl) ?_ | refine lw_val rfl (run_extract (v := .nilIface) rfl rfl) ?_ | refine lw_val rfl (run_extract (v := eV ad _ _) rfl rfl) ?_ | refine lw_val rfl (run_extract (v := .iface _ (.pointer (some _))) rfl rfl) ?_
                refine lw_alloc hs rfl ze50 ?_
                clear hs
                intro b28 w hs
                try simp only [List.set_cons_succ, List.set_cons_zero] at hs
                first | refine lw_storeRow hs 0 rfl rfl rfl sz50 rfl rfl ?_ | refine lw_storeRow hs 1 rfl rfl rfl sz50 rfl rfl ?_ | refine lw_storeRow hs 2 rfl rfl rfl sz50 rfl rfl ?_ | refine lw_storeRow hs 3 rfl rfl rfl sz50 rfl rfl ?_ | refine lw_storeRow hs 4 rfl rfl rfl sz50 rfl rfl ?_ | refine lw_storeRow hs 5 rfl rfl rfl sz50 rfl rfl ?_ | refine lw_storeRow hs 6 rfl rfl rfl sz50 rfl rfl ?_ | refine lw_storeRow hs 7 rfl rfl rfl sz50 rfl rfl ?_ | refine lw_storeRow hs 8 rfl rfl rfl sz50 rfl rfl ?_ | refine lw_storeRow hs 9 rfl rfl rfl sz50 rfl rfl ?_ | refine lw_storeRow hs 10 rfl rfl rfl sz50 rfl rfl ?_ | refine lw_storeRow hs 11 rfl rfl rfl sz50 rfl rfl ?_ | refine lw_storeRow hs 12 rfl rfl rfl sz50 rfl rfl ?_ | refine lw_storeRow hs 13 rfl rfl rfl sz50 rfl rfl ?_
                clear hs
                intro w hs
                try simp only [List.set_cons_succ, List.set_cons_zero] at hs
                first | refine lw_val rfl (run_assign (v := .bool _) rfl) ?_
                first | refine lw_val rfl (run_assign (v := errV ad _) rfl) ?_ | refine lw_val rfl (run_assign (v := .nilIface) rfl) ?_ | refine lw_val rfl (run_assign (v := eV ad _ _) rfl) ?_ | refine lw_val rfl (run_assign (v := .iface _ (.pointer (some _))) rfl) ?_
                refine lw_nil ?_
                refine cw_seq ?_
                refine cw_region ?_
                first | refine lw_val rfl (run_move (v := .bool _) rfl) ?_
                refine lw_val rfl (run_not rfl) ?_
                first | refine lw_val rfl (run_move (v := .bool _) rfl) ?_
                refine lw_on rfl rfl (not_t (rfl)) ?_
                first | refine lw_val rfl (run_move (v := errV ad _) rfl) ?_ | refine lw_val rfl (run_move (v := .nilIface) rfl) ?_ | refine lw_val rfl (run_move (v := eV ad _ _) rfl) ?_ | refine lw_val rfl (run_move (v := .iface _ (.pointer (some _))) rfl) ?_
                refine lw_on rfl rfl (not_t (rfl)) ?_
                first | refine lw_val rfl (run_eqerrn (ad := ad) rfl) ?_ | refine lw_val rfl (run_eqnn rfl) ?_ | refine lw_val rfl (run_eqE (ad := ad) rfl) ?_
                first | refine lw_val rfl (run_pickT (v := .bool _) rfl (not_t (rfl)) rfl) ?_
                first | refine lw_val rfl (run_move (v := .bool _) rfl) ?_
                refine lw_on rfl rfl (rfl) ?_
                first | refine lw_val rfl (run_move (v := .bool _) rfl) ?_
                refine lw_on rfl rfl (rfl) ?_
                refine lw_val rfl (run_not rfl) ?_
                first | refine lw_val rfl (run_pickT (v := .bool _) rfl (rfl) rfl) ?_
                first | refine lw_val rfl (run_move (v := .bool _) rfl) ?_
                refine lw_on rfl rfl (not_t (rfl)) ?_
                first | refine lw_val rfl (run_move (v := errV ad _) rfl) ?_ | refine lw_val rfl (run_move (v := .nilIface) rfl) ?_ | refine lw_val rfl (run_move (v := eV ad _ _) rfl) ?_ | refine lw_val rfl (run_move (v := .iface _ (.pointer (some _))) rfl) ?_
                refine lw_on rfl rfl (not_t (rfl)) ?_
                first | refine lw_val rfl (run_eqerrn (ad := ad) rfl) ?_ | refine lw_val rfl (run_eqnn rfl) ?_ | refine lw_val rfl (run_eqE (ad := ad) rfl) ?_
                first | refine lw_val rfl (run_pickT (v := .bool _) rfl (not_t (rfl)) rfl) ?_
                first | refine lw_val rfl (run_assign (v := .bool _) rfl) ?_
                refine lw_nil ?_
                refine cw_ret ?_
                refine res1 (v := .bool _) rfl rfl ?_
                exact ⟨_, rfl, rfl, hs.nil⟩
              · intro h136
                refine lw_off rfl rfl rfl h136 ?_
                refine lw_off rfl rfl rfl h136 ?_
                refine lw_off rfl rfl rfl h136 ?_
                refine lw_on rfl rfl (not_t h146) ?_
                first | refine lw_val rfl (run_pickF (v := .bool _) rfl h136 rfl) ?_
                refine lw_on rfl rfl (not_t h146) ?_
                refine lw_val rfl (run_not rfl) ?_
                first | refine lw_val rfl (run_pickT (v := .bool _) rfl (not_t h146) rfl) ?_
                refine lw_nil ?_
                refine cw_ift rfl (not_t rfl) ?_
                refine cw_seq ?_
                refine cw_region ?_
                first | refine lw_val rfl (run_assign (v := .bool _) rfl) ?_
                refine lw_nil ?_
                refine cw_ret ?_
                refine res1 (v := .bool _) rfl rfl ?_
                exact absurd h136 (by simp)
            · intro h146
              replace h146 := not_c h146
              refine lw_off rfl rfl rfl (not_f h146) ?_
              refine lw_off rfl rfl rfl (not_f h146) ?_
              refine lw_offU rfl rfl rfl ?_
              refine lw_off rfl rfl rfl (not_f h146) ?_
              refine lw_off rfl rfl rfl (not_f h146) ?_
              refine lw_offU rfl rfl rfl ?_
              refine lw_offU rfl rfl rfl ?_
              refine lw_offU rfl rfl rfl ?_
              refine lw_off rfl rfl rfl (not_f h146) ?_
              refine lw_off rfl rfl rfl (not_f h146) ?_
              first | refine lw_val rfl (run_pickF (v := .bool _) rfl (not_f h146) rfl) ?_
              refine lw_nil ?_
              refine cw_iff rfl rfl ?_
              refine cw_skip ?_
              refine cw_seq ?_
              refine cw_seq ?_
              refine cw_region ?_
              first | refine lw_val rfl (run_move (v := .pointer (some _)) rfl) ?_ | refine lw_val rfl (run_move (v := .pointer none) rfl) ?_
              refine lw_call rfl en36 (jremove_sl hK (d := d.crash picks) (L := _ :: _ :: _ :: []) (by omega) (hs.arr [1, 0, 2, 3] 4 (by decide)) hg1) ?_
              clear hs
              rintro _ w ⟨rfl, hs⟩
              obtain ⟨hok3, _⟩ := hs.openD
              have pt3 := hgp1 hok3
              obtain ⟨e2, hg2, hgc2, hga2, hgp2⟩ := pt3.jgone hga1
              first | refine lw_val rfl (run_neerrn (ad := ad) rfl) ?_ | refine lw_val rfl (run_nenn rfl) ?_ | refine lw_val rfl (run_neE (ad := ad) rfl) ?_
              first | refine lw_val rfl (run_move (v := .bool _) rfl) ?_
              refine lw_on rfl rfl (rfl) ?_
              first | refine lw_val rfl (run_move (v := .pointer (some _)) rfl) ?_ | refine lw_val rfl (run_move (v := .pointer none) rfl) ?_
              refine lw_on rfl rfl (rfl) ?_
              refine lw_call rfl en36 (jremove_sl hK (by omega) hs hg2) ?_
              clear hs
              rintro _ w ⟨rfl, hs⟩
              obtain ⟨hok4, _⟩ := hs.openD
              have pt4 := hgp2 hok4
              refine lw_on rfl rfl (rfl) ?_
              first | refine lw_val rfl (run_neerrn (ad := ad) rfl) ?_ | refine lw_val rfl (run_nenn rfl) ?_ | refine lw_val rfl (run_neE (ad := ad) rfl) ?_
              first | refine lw_val rfl (run_pickF (v := .bool _) rfl (rfl) rfl) ?_
              refine lw_nil ?_
              refine cw_iff rfl (rfl) ?_
              refine cw_skip ?_
              refine cw_seq ?_
              refine cw_region ?_
              first | refine lw_val rfl (run_move (v := .pointer (some _)) rfl) ?_ | refine lw_val rfl (run_move (v := .pointer none) rfl) ?_
              refine lw_call rfl en28 (jread_sl hE hs (j := zS) (pt4.jnone (by simp [clrF]))) ?_
              clear hs
              rintro _ w ⟨rfl, hs⟩
              first | refine lw_val rfl (run_move (v := .tuple _) rfl) ?_
              first | refine lw_val rfl (run_extract (v := .agg _) rfl rfl) ?_
              first | refine lw_val rfl (run_extract (v := .bool _) rfl rfl) ?_
              first | refine lw_val rfl (run_extract (v := errV ad _) rfl rfl) ?_ | refine lw_val rfl (run_extract (v := .nilIface) rfl rfl) ?_ | refine lw_val rfl (run_extract (v := eV ad _ _) rfl rfl) ?_ | refine lw_val rfl (run_extract (v := .iface _ (.pointer (some _))) rfl rfl) ?_
              refine lw_alloc hs rfl ze50 ?_
              clear hs
              intro b25 w hs
              try simp only [List.set_cons_succ, List.set_cons_zero] at hs
              first | refine lw_storeRow hs 0 rfl rfl rfl sz50 rfl rfl ?_ | refine lw_storeRow hs 1 rfl rfl rfl sz50 rfl rfl ?_ | refine lw_storeRow hs 2 rfl rfl rfl sz50 rfl rfl ?_ | refine lw_storeRow hs 3 rfl rfl rfl sz50 rfl rfl ?_ | refine lw_storeRow hs 4 rfl rfl rfl sz50 rfl rfl ?_ | refine lw_storeRow hs 5 rfl rfl rfl sz50 rfl rfl ?_ | refine lw_storeRow hs 6 rfl rfl rfl sz50 rfl rfl ?_ | refine lw_storeRow hs 7 rfl rfl rfl sz50 rfl rfl ?_ | refine lw_storeRow hs 8 rfl rfl rfl sz50 rfl rfl ?_ | refine lw_storeRow hs 9 rfl rfl rfl sz50 rfl rfl ?_ | refine lw_storeRow hs 10 rfl rfl rfl sz50 rfl rfl ?_ | refine lw_storeRow hs 11 rfl rfl rfl sz50 rfl rfl ?_ | refine lw_storeRow hs 12 rfl rfl rfl sz50 rfl rfl ?_ | refine lw_storeRow hs 13 rfl rfl rfl sz50 rfl rfl ?_
              clear hs
              intro w hs
              try simp only [List.set_cons_succ, List.set_cons_zero] at hs
              first | refine lw_val rfl (run_assign (v := .bool _) rfl) ?_
              first | refine lw_val rfl (run_assign (v := errV ad _) rfl) ?_ | refine lw_val rfl (run_assign (v := .nilIface) rfl) ?_ | refine lw_val rfl (run_assign (v := eV ad _ _) rfl) ?_ | refine lw_val rfl (run_assign (v := .iface _ (.pointer (some _))) rfl) ?_
              refine lw_nil ?_
              refine cw_seq ?_
              refine cw_region ?_
              first | refine lw_val rfl (run_move (v := .pointer (some _)) rfl) ?_ | refine lw_val rfl (run_move (v := .pointer none) rfl) ?_
              refine lw_buildSlice hs rfl ((intsL [5, 5])) Tryd.underlying63 zs3 rfl (cells_one (intsL_one _)) rfl rfl rfl ?_
              clear hs
              intro b177 w hs
              try simp only [List.set_cons_succ, List.set_cons_zero] at hs
              refine lw_call rfl en42 (crash_sl (d := e2) (L := cells _ _ _ :: _) (hs.arr [2, 0, 1] 3 (by decide)) (by omega) (picks := [5, 5]) (Rd.cells (n := 2) 0 rfl rfl) rfl (by decide)) ?_
              clear hs
              rintro _ w ⟨rfl, hs⟩
              refine lw_nil ?_
              refine cw_seq ?_
              refine cw_region ?_
              first | refine lw_val rfl (run_move (v := .pointer (some _)) rfl) ?_ | refine lw_val rfl (run_move (v := .pointer none) rfl) ?_
              refine lw_call rfl en28 (jread_sl hE hs (j := zS) ((pt4.crash _).jnone (by simp [clrF]))) ?_
              clear hs
              rintro _ w ⟨rfl, hs⟩
              first | refine lw_val rfl (run_move (v := .tuple _) rfl) ?_
              first | refine lw_val rfl (run_extract (v := .agg _) rfl rfl) ?_
              first | refine lw_val rfl (run_extract (v := .bool _) rfl rfl) ?_
              first | refine lw_val rfl (run_extract (v := errV ad _) rfl rfl) ?_ | refine lw_val rfl (run_extract (v := .nilIface) rfl rfl) ?_ | refine lw_val rfl (run_extract (v := eV ad _ _) rfl rfl) ?_ | refine lw_val rfl (run_extract (v := .iface _ (.pointer (some _))) rfl rfl) ?_
              refine lw_alloc hs rfl ze50 ?_
              clear hs
              intro b28 w hs
              try simp only [List.set_cons_succ, List.set_cons_zero] at hs
              first | refine lw_storeRow hs 0 rfl rfl rfl sz50 rfl rfl ?_ | refine lw_storeRow hs 1 rfl rfl rfl sz50 rfl rfl ?_ | refine lw_storeRow hs 2 rfl rfl rfl sz50 rfl rfl ?_ | refine lw_storeRow hs 3 rfl rfl rfl sz50 rfl rfl ?_ | refine lw_storeRow hs 4 rfl rfl rfl sz50 rfl rfl ?_ | refine lw_storeRow hs 5 rfl rfl rfl sz50 rfl rfl ?_ | refine lw_storeRow hs 6 rfl rfl rfl sz50 rfl rfl ?_ | refine lw_storeRow hs 7 rfl rfl rfl sz50 rfl rfl ?_ | refine lw_storeRow hs 8 rfl rfl rfl sz50 rfl rfl ?_ | refine lw_storeRow hs 9 rfl rfl rfl sz50 rfl rfl ?_ | refine lw_storeRow hs 10 rfl rfl rfl sz50 rfl rfl ?_ | refine lw_storeRow hs 11 rfl rfl rfl sz50 rfl rfl ?_ | refine lw_storeRow hs 12 rfl rfl rfl sz50 rfl rfl ?_ | refine lw_storeRow hs 13 rfl rfl rfl sz50 rfl rfl ?_
              clear hs
              intro w hs
              try simp only [List.set_cons_succ, List.set_cons_zero] at hs
              first | refine lw_val rfl (run_assign (v := .bool _) rfl) ?_
              first | refine lw_val rfl (run_assign (v := errV ad _) rfl) ?_ | refine lw_val rfl (run_assign (v := .nilIface) rfl) ?_ | refine lw_val rfl (run_assign (v := eV ad _ _) rfl) ?_ | refine lw_val rfl (run_assign (v := .iface _ (.pointer (some _))) rfl) ?_
              refine lw_nil ?_
              refine cw_seq ?_
              refine cw_region ?_
              first | refine lw_val rfl (run_move (v := .bool _) rfl) ?_
              refine lw_val rfl (run_not rfl) ?_
              first | refine lw_val rfl (run_move (v := .bool _) rfl) ?_
              refine lw_on rfl rfl (not_t (rfl)) ?_
              first | refine lw_val rfl (run_move (v := errV ad _) rfl) ?_ | refine lw_val rfl (run_move (v := .nilIface) rfl) ?_ | refine lw_val rfl (run_move (v := eV ad _ _) rfl) ?_ | refine lw_val rfl (run_move (v := .iface _ (.pointer (some _))) rfl) ?_
              refine lw_on rfl rfl (not_t (rfl)) ?_
              first | refine lw_val rfl (run_eqerrn (ad := ad) rfl) ?_ | refine lw_val rfl (run_eqnn rfl) ?_ | refine lw_val rfl (run_eqE (ad := ad) rfl) ?_
              first | refine lw_val rfl (run_pickT (v := .bool _) rfl (not_t (rfl)) rfl) ?_
              first | refine lw_val rfl (run_move (v := .bool _) rfl) ?_
              refine lw_on rfl rfl (rfl) ?_
              first | refine lw_val rfl (run_move (v := .bool _) rfl) ?_
              refine lw_on rfl rfl (rfl) ?_
              refine lw_val rfl (run_not rfl) ?_
              first | refine lw_val rfl (run_pickT (v := .bool _) rfl (rfl) rfl) ?_
              first | refine lw_val rfl (run_move (v := .bool _) rfl) ?_
              refine lw_on rfl rfl (not_t (rfl)) ?_
              first | refine lw_val rfl (run_move (v := errV ad _) rfl) ?_ | refine lw_val rfl (run_move (v := .nilIface) rfl) ?_ | refine lw_val rfl (run_move (v := eV ad _ _) rfl) ?_ | refine lw_val rfl (run_move (v := .iface _ (.pointer (some _))) rfl) ?_
              refine lw_on rfl rfl (not_t (rfl)) ?_
              first | refine lw_val rfl (run_eqerrn (ad := ad) rfl) ?_ | refine lw_val rfl (run_eqnn rfl) ?_ | refine lw_val rfl (run_eqE (ad := ad) rfl) ?_
              first | refine lw_val rfl (run_pickT (v := .bool _) rfl (not_t (rfl)) rfl) ?_
              first | refine lw_val rfl (run_assign (v := .bool _) rfl) ?_
              refine lw_nil ?_
              refine cw_ret ?_
              refine res1 (v := .bool _) rfl rfl ?_
              exact ⟨_, rfl, rfl, hs.nil⟩
          · intro h142
            refine lw_off rfl rfl rfl h142 ?_
            refine lw_off rfl rfl rfl h142 ?_
            refine lw_off rfl rfl rfl h142 ?_
            first | refine lw_val rfl (run_pickF (v := .bool _) rfl h142 rfl) ?_
            first | refine lw_val rfl (run_assign (v := .bool _) rfl) ?_
            refine lw_nil ?_
            refine cw_seq ?_
            refine cw_seq ?_
            refine cw_region ?_
            first | refine lw_val rfl (run_move (v := .bool _) rfl) ?_
            refine lw_val rfl (run_not rfl) ?_
            first | refine lw_val rfl (run_move (v := .bool _) rfl) ?_
            refine lw_on rfl rfl (not_t rfl) ?_
            first | refine lw_val rfl (run_move (v := .bool _) rfl) ?_
            refine lw_on rfl rfl (not_t rfl) ?_
            first | refine lw_val rfl (run_move (v := .bool _) rfl) ?_
            refine lw_on rfl rfl (rfl) ?_
            first | refine lw_val rfl (run_move (v := .bool _) rfl) ?_
            refine lw_on rfl rfl (not_t rfl) ?_
            first | refine lw_val rfl (run_pickT (v := .bool _) rfl (rfl) rfl) ?_
            refine lw_on rfl rfl (not_t rfl) ?_
            first | refine lw_val rfl (run_move (v := .bool _) rfl) ?_
            refine lw_split (t := _) (d := 155) rfl ?_ ?_
            · intro h136
              refine lw_on rfl rfl h136 ?_
              first | refine lw_val rfl (run_loadRow hs 0 rfl Tryd.underlying50 sz50 rfl) ?_ | refine lw_val rfl (run_loadRow hs 1 rfl Tryd.underlying50 sz50 rfl) ?_ | refine lw_val rfl (run_loadRow hs 2 rfl Tryd.underlying50 sz50 rfl) ?_ | refine lw_val rfl (run_loadRow hs 3 rfl Tryd.underlying50 sz50 rfl) ?_ | refine lw_val rfl (run_loadRow hs 4 rfl Tryd.underlying50 sz50 rfl) ?_ | refine lw_val rfl (run_loadRow hs 5 rfl Tryd.underlying50 sz50 rfl) ?_ | refine lw_val rfl (run_loadRow hs 6 rfl Tryd.underlying50 sz50 rfl) ?_ | refine lw_val rfl (run_loadRow hs 7 rfl Tryd.underlying50 sz50 rfl) ?_ | refine lw_val rfl (run_loadRow hs 8 rfl Tryd.underlying50 sz50 rfl) ?_ | refine lw_val rfl (run_loadRow hs 9 rfl Tryd.underlying50 sz50 rfl) ?_ | refine lw_val rfl (run_loadRow hs 10 rfl Tryd.underlying50 sz50 rfl) ?_ | refine lw_val rfl (run_loadRow hs 11 rfl Tryd.underlying50 sz50 rfl) ?_ | refine lw_val rfl (run_loadRow hs 12 rfl Tryd.underlying50 sz50 rfl) ?_ | refine lw_val rfl (run_loadRow hs 13 rfl Tryd.underlying50 sz50 rfl) ?_
              refine lw_on rfl rfl h136 ?_
              first | refine lw_val rfl (run_loadRow hs 0 rfl Tryd.underlying50 sz50 rfl) ?_ | refine lw_val rfl (run_loadRow hs 1 rfl Tryd.underlying50 sz50 rfl) ?_ | refine lw_val rfl (run_loadRow hs 2 rfl Tryd.underlying50 sz50 rfl) ?_ | refine lw_val rfl (run_loadRow hs 3 rfl Tryd.underlying50 sz50 rfl) ?_ | refine lw_val rfl (run_loadRow hs 4 rfl Tryd.underlying50 sz50 rfl) ?_ | refine lw_val rfl (run_loadRow hs 5 rfl Tryd.underlying50 sz50 rfl) ?_ | refine lw_val rfl (run_loadRow hs 6 rfl Tryd.underlying50 sz50 rfl) ?_ | refine lw_val rfl (run_loadRow hs 7 rfl Tryd.underlying50 sz50 rfl) ?_ | refine lw_val rfl (run_loadRow hs 8 rfl Tryd.underlying50 sz50 rfl) ?_ | refine lw_val rfl (run_loadRow hs 9 rfl Tryd.underlying50 sz50 rfl) ?_ | refine lw_val rfl (run_loadRow hs 10 rfl Tryd.underlying50 sz50 rfl) ?_ | refine lw_val rfl (run_loadRow hs 11 rfl Tryd.underlying50 sz50 rfl) ?_ | refine lw_val rfl (run_loadRow hs 12 rfl Tryd.underlying50 sz50 rfl) ?_ | refine lw_val rfl (run_loadRow hs 13 rfl Tryd.underlying50 sz50 rfl) ?_
              refine lw_on rfl rfl h136 ?_
              refine lw_call rfl en35 (same20_sl hs s.1 s.2.1 s.2.2.1 s.2.2.2 s.1 s.2.1 s.2.2.1 s.2.2.2) ?_
              clear hs
              rintro _ w ⟨rfl, hs⟩
              refine lw_on rfl rfl (not_t rfl) ?_
              first | refine lw_val rfl (run_pickT (v := .bool _) rfl h136 rfl) ?_
              refine lw_on rfl rfl (not_t rfl) ?_
              refine lw_val rfl (run_not rfl) ?_
              first | refine lw_val rfl (run_pickT (v := .bool _) rfl (not_t rfl) rfl) ?_
              refine lw_nil ?_
              refine cw_iff rfl (not_f (decide_eq_true rfl)) ?_
              refine cw_skip ?_
              refine cw_seq ?_
              refine cw_seq ?_
              refine cw_region ?_
              first | refine lw_val rfl (run_move (v := .pointer (some _)) rfl) ?_ | refine lw_val rfl (run_move (v := .pointer none) rfl) ?_
              refine lw_call rfl en36 (jremove_sl hK (d := d.crash picks) (L := _ :: _ :: _ :: []) (by omega) (hs.arr [1, 0, 2, 3] 4 (by decide)) hg1) ?_
              clear hs
              rintro _ w ⟨rfl, hs⟩
              obtain ⟨hok3, _⟩ := hs.openD
              have pt3 := hgp1 hok3
              obtain ⟨e2, hg2, hgc2, hga2, hgp2⟩ := pt3.jgone hga1
              first | refine lw_val rfl (run_neerrn (ad := ad) rfl) ?_ | refine lw_val rfl (run_nenn rfl) ?_ | refine lw_val rfl (run_neE (ad := ad) rfl) ?_
              first | refine lw_val rfl (run_move (v := .bool _) rfl) ?_
              refine lw_on rfl rfl (rfl) ?_
              first | refine lw_val rfl (run_move (v := .pointer (some _)) rfl) ?_ | refine lw_val rfl (run_move (v := .pointer none) rfl) ?_
              refine lw_on rfl rfl (rfl) ?_
              refine lw_call rfl en36 (jremove_sl hK (by omega) hs hg2) ?_
              clear hs
              rintro _ w ⟨rfl, hs⟩
              obtain ⟨hok4, _⟩ := hs.openD
              have pt4 := hgp2 hok4
              refine lw_on rfl rfl (rfl) ?_
              first | refine lw_val rfl (run_neerrn (ad := ad) rfl) ?_ | refine lw_val rfl (run_nenn rfl) ?_ | refine lw_val rfl (run_neE (ad := ad) rfl) ?_
              first | refine lw_val rfl (run_pickF (v := .bool _) rfl (rfl) rfl) ?_
              refine lw_nil ?_
              refine cw_iff rfl (rfl) ?_
              refine cw_skip ?_
              refine cw_seq ?_
              refine cw_region ?_
              first | refine lw_val rfl (run_move (v := .pointer (some _)) rfl) ?_ | refine lw_val rfl (run_move (v := .pointer none) rfl) ?_
              refine lw_call rfl en28 (jread_sl hE hs (j := zS) (pt4.jnone (by simp [clrF]))) ?_
              clear hs
              rintro _ w ⟨rfl, hs⟩
              first | refine lw_val rfl (run_move (v := .tuple _) rfl) ?_
              first | refine lw_val rfl (run_extract (v := .agg _) rfl rfl) ?_
              first | refine lw_val rfl (run_extract (v := .bool _) rfl rfl) ?_
              first | refine lw_val rfl (run_extract (v := errV ad _) rfl rfl) ?_ | refine lw_val rfl (run_extract (v := .nilIface) rfl rfl) ?_ | refine lw_val rfl (run_extract (v := eV ad _ _) rfl rfl) ?_ | refine lw_val rfl (run_extract (v := .iface _ (.pointer (some _))) rfl rfl) ?_
              refine lw_alloc hs rfl ze50 ?_
              clear hs
              intro b25 w hs
              try simp only [List.set_cons_succ, List.set_cons_zero] at hs
              first | refine lw_storeRow hs 0 rfl rfl rfl sz50 rfl rfl ?_ | refine lw_storeRow hs 1 rfl rfl rfl sz50 rfl rfl ?_ | refine lw_storeRow hs 2 rfl rfl rfl sz50 rfl rfl ?_ | refine lw_storeRow hs 3 rfl rfl rfl sz50 rfl rfl ?_ | refine lw_storeRow hs 4 rfl rfl rfl sz50 rfl rfl ?_ | refine lw_storeRow hs 5 rfl rfl rfl sz50 rfl rfl ?_ | refine lw_storeRow hs 6 rfl rfl rfl sz50 rfl rfl ?_ | refine lw_storeRow hs 7 rfl rfl rfl sz50 rfl rfl ?_ | refine lw_storeRow hs 8 rfl rfl rfl sz50 rfl rfl ?_ | refine lw_storeRow hs 9 rfl rfl rfl sz50 rfl rfl ?_ | refine lw_storeRow hs 10 rfl rfl rfl sz50 rfl rfl ?_ | refine lw_storeRow hs 11 rfl rfl rfl sz50 rfl rfl ?_ | refine lw_storeRow hs 12 rfl rfl rfl sz50 rfl rfl ?_ | refine lw_storeRow hs 13 rfl rfl rfl sz50 rfl rfl ?_
              clear hs
              intro w hs
              try simp only [List.set_cons_succ, List.set_cons_zero] at hs
              first | refine lw_val rfl (run_assign (v := .bool _) rfl) ?_
              first | refine lw_val rfl (run_assign (v := errV ad _) rfl) ?_ | refine lw_val rfl (run_assign (v := .nilIface) rfl) ?_ | refine lw_val rfl (run_assign (v := eV ad _ _) rfl) ?_ | refine lw_val rfl (run_assign (v := .iface _ (.pointer (some _))) rfl) ?_
              refine lw_nil ?_
              refine cw_seq ?_
              refine cw_region ?_
              first | refine lw_val rfl (run_move (v := .pointer (some _)) rfl) ?_ | refine lw_val rfl (run_move (v := .pointer none) rfl) ?_
              refine lw_buildSlice hs rfl ((intsL [5, 5])) Tryd.underlying63 zs3 rfl (cells_one (intsL_one _)) rfl rfl rfl ?_
              clear hs
              intro b177 w hs
              try simp only [List.set_cons_succ, List.set_cons_zero] at hs
              refine lw_call rfl en42 (crash_sl (d := e2) (L := cells _ _ _ :: _) (hs.arr [2, 0, 1] 3 (by decide)) (by omega) (picks := [5, 5]) (Rd.cells (n := 2) 0 rfl rfl) rfl (by decide)) ?_
              clear hs
              rintro _ w ⟨rfl, hs⟩
              refine lw_nil ?_
              refine cw_seq ?_
              refine cw_region ?_
              first | refine lw_val rfl (run_move (v := .pointer (some _)) rfl) ?_ | refine lw_val rfl (run_move (v := .pointer none) rfl) ?_
              refine lw_call rfl en28 (jread_sl hE hs (j := zS) ((pt4.crash _).jnone (by simp [clrF]))) ?_
              clear hs
              rintro _ w ⟨rfl, hs⟩
              first | refine lw_val rfl (run_move (v := .tuple _) rfl) ?_
              first | refine lw_val rfl (run_extract (v := .agg _) rfl rfl) ?_
              first | refine lw_val rfl (run_extract (v := .bool _) rfl rfl) ?_
              first | refine lw_val rfl (run_extract (v := errV ad _) rfl rfl) ?_ | refine lw_val rfl (run_extract (v := .nilIface) rfl rfl) ?_ | refine lw_val rfl (run_extract (v := eV ad _ _) rfl rfl) ?_ | refine lw_val rfl (run_extract (v := .iface _ (.pointer (some _))) rfl rfl) ?_
              refine lw_alloc hs rfl ze50 ?_
              clear hs
              intro b28 w hs
              try simp only [List.set_cons_succ, List.set_cons_zero] at hs
              first | refine lw_storeRow hs 0 rfl rfl rfl sz50 rfl rfl ?_ | refine lw_storeRow hs 1 rfl rfl rfl sz50 rfl rfl ?_ | refine lw_storeRow hs 2 rfl rfl rfl sz50 rfl rfl ?_ | refine lw_storeRow hs 3 rfl rfl rfl sz50 rfl rfl ?_ | refine lw_storeRow hs 4 rfl rfl rfl sz50 rfl rfl ?_ | refine lw_storeRow hs 5 rfl rfl rfl sz50 rfl rfl ?_ | refine lw_storeRow hs 6 rfl rfl rfl sz50 rfl rfl ?_ | refine lw_storeRow hs 7 rfl rfl rfl sz50 rfl rfl ?_ | refine lw_storeRow hs 8 rfl rfl rfl sz50 rfl rfl ?_ | refine lw_storeRow hs 9 rfl rfl rfl sz50 rfl rfl ?_ | refine lw_storeRow hs 10 rfl rfl rfl sz50 rfl rfl ?_ | refine lw_storeRow hs 11 rfl rfl rfl sz50 rfl rfl ?_ | refine lw_storeRow hs 12 rfl rfl rfl sz50 rfl rfl ?_ | refine lw_storeRow hs 13 rfl rfl rfl sz50 rfl rfl ?_
              clear hs
              intro w hs
              try simp only [List.set_cons_succ, List.set_cons_zero] at hs
              first | refine lw_val rfl (run_assign (v := .bool _) rfl) ?_
              first | refine lw_val rfl (run_assign (v := errV ad _) rfl) ?_ | refine lw_val rfl (run_assign (v := .nilIface) rfl) ?_ | refine lw_val rfl (run_assign (v := eV ad _ _) rfl) ?_ | refine lw_val rfl (run_assign (v := .iface _ (.pointer (some _))) rfl) ?_
              refine lw_nil ?_
              refine cw_seq ?_
              refine cw_region ?_
              first | refine lw_val rfl (run_move (v := .bool _) rfl) ?_
              refine lw_val rfl (run_not rfl) ?_
              first | refine lw_val rfl (run_move (v := .bool _) rfl) ?_
              refine lw_on rfl rfl (not_t (rfl)) ?_
              first | refine lw_val rfl (run_move (v := errV ad _) rfl) ?_ | refine lw_val rfl (run_move (v := .nilIface) rfl) ?_ | refine lw_val rfl (run_move (v := eV ad _ _) rfl) ?_ | refine lw_val rfl (run_move (v := .iface _ (.pointer (some _))) rfl) ?_
              refine lw_on rfl rfl (not_t (rfl)) ?_
              first | refine lw_val rfl (run_eqerrn (ad := ad) rfl) ?_ | refine lw_val rfl (run_eqnn rfl) ?_ | refine lw_val rfl (run_eqE (ad := ad) rfl) ?_
              first | refine lw_val rfl (run_pickT (v := .bool _) rfl (not_t (rfl)) rfl) ?_
              first | refine lw_val rfl (run_move (v := .bool _) rfl) ?_
              refine lw_on rfl rfl (rfl) ?_
              first | refine lw_val rfl (run_move (v := .bool _) rfl) ?_
              refine lw_on rfl rfl (rfl) ?_
              refine lw_val rfl (run_not rfl) ?_
              first | refine lw_val rfl (run_pickT (v := .bool _) rfl (rfl) rfl) ?_
              first | refine lw_val rfl (run_move (v := .bool _) rfl) ?_
              refine lw_on rfl rfl (not_t (rfl)) ?_
              first | refine lw_val rfl (run_move (v := errV ad _) rfl) ?_ | refine lw_val rfl (run_move (v := .nilIface) rfl) ?_ | refine lw_val rfl (run_move (v := eV ad _ _) rfl) ?_ | refine lw_val rfl (run_move (v := .iface _ (.pointer (some _))) rfl) ?_
              refine lw_on rfl rfl (not_t (rfl)) ?_
              first | refine lw_val rfl (run_eqerrn (ad := ad) rfl) ?_ | refine lw_val rfl (run_eqnn rfl) ?_ | refine lw_val rfl (run_eqE (ad := ad) rfl) ?_
              first | refine lw_val rfl (run_pickT (v := .bool _) rfl (not_t (rfl)) rfl) ?_
              first | refine lw_val rfl (run_assign (v := .bool _) rfl) ?_
              refine lw_nil ?_
              refine cw_ret ?_
              refine res1 (v := .bool _) rfl rfl ?_
              exact ⟨_, rfl, rfl, hs.nil⟩
            · intro h136
              refine lw_off rfl rfl rfl h136 ?_
              refine lw_off rfl rfl rfl h136 ?_
              refine lw_off rfl rfl rfl h136 ?_
              refine lw_on rfl rfl (not_t rfl) ?_
              first | refine lw_val rfl (run_pickF (v := .bool _) rfl h136 rfl) ?_
              refine lw_on rfl rfl (not_t rfl) ?_
              refine lw_val rfl (run_not rfl) ?_
              first | refine lw_val rfl (run_pickT (v := .bool _) rfl (not_t rfl) rfl) ?_
              refine lw_nil ?_
              refine cw_ift rfl (not_t rfl) ?_
              refine cw_seq ?_
              refine cw_region ?_
              first | refine lw_val rfl (run_assign (v := .bool _) rfl) ?_
              refine lw_nil ?_
              refine cw_ret ?_
              refine res1 (v := .bool _) rfl rfl ?_
              exact absurd h136 (by simp)
end Go.Proofs.YtmnfehbnjgmgjaaDoor
