/- States of a journal. -/
import Derived.Test.YtmnfehbnjgmgjaaDoorJc
import Derived.Test.YtmnfehbnjgmgjaaDoorRw
namespace Go.Proofs.YtmnfehbnjgmgjaaDoor
set_option linter.all false
open Go.RowKit
attribute [local irreducible] errV eV
variable {g w : World} {L M : List HP} {ad : Nat → Addr} {p : Nat} {d : Dk}

abbrev S4 := Int × Int × Int × Int
def s4L (s : S4) : List Int := [s.1, s.2.1, s.2.2.1, s.2.2.2]
def s4V (s : S4) : List Value := [.int .i64 s.1, .int .i64 s.2.1, .int .i64 s.2.2.1, .int .i64 s.2.2.2]
def s40 : S4 := (0, 0, 0, 0)
abbrev S4ok (s : S4) : Prop := ∀ x ∈ s4L s, InI64 x
def clrF (f : ByteArray → Option (List UInt8)) (s : ByteArray) : ByteArray → Option (List UInt8) := fun n => if n = s then none else f n
theorem PtI.jgone {f : ByteArray → Option (List UInt8)} (h : PtI nU 100 f d) (ha : d.armed = 0) : ∃ e, d.jremove = (0, e) ∧ e.calls ≤ d.calls + 2 ∧ e.armed = 0 ∧ (e.ok → PtI nU 100 (clrF f nUp) e) := by
  have hu := h.calm.up
  have hun : ∀ (e : Dk), aget e.names nUp = none → ∀ n ∈ nU, Under e n (clrF f nUp n) := fun e he n hn => by
    simp only [List.mem_cons, List.not_mem_nil, or_false] at hn
    subst hn
    simp only [clrF, if_true]
    exact he
  cases hn : aget d.names nUp with
  | none =>
    have hr : d.remove nUp = (107, d) := by simp only [Dk.remove, Dk.find_none hu ha hn]
    have hj : d.jremove = d.syncDir := by simp [Dk.jremove, hr]
    rw [hj, Dk.syncDir_up hu ha]
    exact ⟨_, rfl, by simp only; omega, ha, fun he => ⟨⟨⟨he, hu⟩, rfl, rfl⟩, hun _ hn, h.keys, h.len⟩⟩
  | some i =>
    have hr := Dk.remove_up hu ha hn
    have hj : d.jremove = (d.change ⟨ByteArray.empty, nUp, none⟩).syncDir := by simp [Dk.jremove, hr]
    have hnm : (d.change ⟨ByteArray.empty, nUp, none⟩).names = adel d.names nUp := by
      simp only [Dk.change, Chg.app]
      rw [if_neg (by decide)]
    rw [hj, Dk.syncDir_up (d := d.change ⟨ByteArray.empty, nUp, none⟩) hu ha]
    refine ⟨_, rfl, by simp only [Dk.change]; omega, ha, fun he => ⟨⟨⟨he, hu⟩, rfl, rfl⟩, hun _ ?_, fun n hk => ?_, h.len⟩⟩
    · show aget (d.change ⟨ByteArray.empty, nUp, none⟩).names nUp = none
      rw [hnm]; exact aget_del_same h.calm.ok.nnd nUp
    · have hk : n ∈ keysOf (d.change ⟨ByteArray.empty, nUp, none⟩).names := hk
      rw [hnm] at hk
      obtain ⟨v, hv⟩ := aget_of_key hk
      exact h.keys n (List.mem_map_of_mem (f := Prod.fst) (adel_in (aget_mem hv)))
def JkD (F : ByteArray → Option (List UInt8)) (d : Dk) : Option S4 → Prop
  | none => d.down = false ∧ PtI nU 100 F d
  | some s => d.down = true ∧ (s4L s).all inR = true ∧ ∀ picks, PtI nU 100 F (d.crash picks) ∨ PtI nU 100 (updF F nUp (numsL (s4L s))) (d.crash picks)
structure JkI (F : ByteArray → Option (List UInt8)) (cur : Option S4) : Prop where
  rel : F nUp = cur.map fun s => numsL (s4L s)
  ok : ∀ s, cur = some s → (s4L s).all inR = true
def curJ (cur : Option S4) : Nat × Bool × Int × Int × Int × Int := match cur with
  | none => zS
  | some s => (0, true, s.1, s.2.1, s.2.2.1, s.2.2.2)
theorem curJ_form (cur : Option S4) : curJ cur = (0, cur.isSome, (cur.getD s40).1, (cur.getD s40).2.1, (cur.getD s40).2.2.1, (cur.getD s40).2.2.2) := by cases cur <;> rfl
theorem JkI.read {F : ByteArray → Option (List UInt8)} {cur : Option S4} (h : JkI F cur) (hp : PtI nU 100 F d) : jst (d.pread nUp) = curJ cur := by
  cases cur with
  | none => exact hp.jnone h.rel
  | some s => exact hp.jread (x := s.1) (y := s.2.1) (z := s.2.2.1) (u := s.2.2.2) h.rel (all_I (h.ok s rfl)) (h.ok s rfl)
theorem JkI.upd {F : ByteArray → Option (List UInt8)} {s : S4} (h : (s4L s).all inR = true) : JkI (updF F nUp (numsL (s4L s))) (some s) := ⟨upU _ _, fun t ht => by cases ht; exact h⟩
/-- Behind the crash. -/
theorem JkD.crash {F : ByteArray → Option (List UInt8)} {cur nx : Option S4} (h : JkI F cur) (hd : JkD F d nx) (picks : List Int) : ∃ G c, PtI nU 100 G (d.crash picks) ∧ JkI G c ∧ (c = cur ∨ ∃ s, nx = some s ∧ c = some s) := by
  cases nx with
  | none => exact ⟨F, cur, hd.2.crash picks, h, .inl rfl⟩
  | some s =>
    obtain ⟨_, h1, h2⟩ := hd
    rcases h2 picks with h3 | h3
    · exact ⟨F, cur, h3, h, .inl rfl⟩
    · exact ⟨_, some s, h3, JkI.upd h1, .inr ⟨s, rfl, rfl⟩⟩
theorem s4_bad {s : S4} {x : Int} (hx : x ∈ s4L s) (h : inR x = false) : (s4L s).all inR = false := by
  cases ha : (s4L s).all inR with
  | false => rfl
  | true => have := List.all_eq_true.1 ha x hx; rw [h] at this; cases this
/-- States that came in. -/
def StRows (w : World) (v : Value) (zs : List S4) : Prop := RowsR w 4 v (zs.map s4V) ∧ ∀ s ∈ zs, S4ok s
set_option maxRecDepth 100000 in
theorem open_states {H : Type} {enc : TypeId × Value → H} {w : World} {base : Nat} {spare : Nat → Bool} {held : Bool} {fuel : Nat} {a : Option Addr} {n c : Nat} {x : DataW H × List MemPlace}
    (h : DataW.trod enc Tryd.prog w base spare held fuel 80 [.slice a n c] = some x) : ∃ zs : List S4, StRows w (.slice a n c) zs := by
  have c3 : Tryd.prog.cellsOf 3 = 1 := by kernel_rfl
  have ck : Tryd.prog.cellsOf 50 = 4 := by kernel_rfl
  refine open_structs (P := Tryd.prog) (k := 4) s4V S4ok Tryd.underlying80 Tryd.underlying50 ck (by decide) (fun row m hl hf => ?_) h
  match row, hl with
  | [v0, v1, v2, v3], _ =>
    obtain ⟨y0, g0⟩ := hf 0 _ rfl
    obtain ⟨y1, g1⟩ := hf 1 _ rfl
    obtain ⟨y2, g2⟩ := hf 2 _ rfl
    obtain ⟨y3, g3⟩ := hf 3 _ rfl
    have g0 : DataW.trod enc Tryd.prog w base spare held m 3 (([v0, v1, v2, v3].drop 0).take (Tryd.prog.cellsOf 3)) = some y0 := g0
    rw [c3] at g0
    have g1 : DataW.trod enc Tryd.prog w base spare held m 3 (([v0, v1, v2, v3].drop 1).take (Tryd.prog.cellsOf 3)) = some y1 := g1
    rw [c3] at g1
    have g2 : DataW.trod enc Tryd.prog w base spare held m 3 (([v0, v1, v2, v3].drop 2).take (Tryd.prog.cellsOf 3)) = some y2 := g2
    rw [c3] at g2
    have g3 : DataW.trod enc Tryd.prog w base spare held m 3 (([v0, v1, v2, v3].drop 3).take (Tryd.prog.cellsOf 3)) = some y3 := g3
    rw [c3] at g3
    obtain ⟨z0, e0, _, f0⟩ := DataW.trod_int Tryd.underlying3 g0
    obtain ⟨z1, e1, _, f1⟩ := DataW.trod_int Tryd.underlying3 g1
    obtain ⟨z2, e2, _, f2⟩ := DataW.trod_int Tryd.underlying3 g2
    obtain ⟨z3, e3, _, f3⟩ := DataW.trod_int Tryd.underlying3 g3
    cases e0; cases e1; cases e2; cases e3
    refine ⟨(z0, z1, z2, z3), rfl, fun q hq => ?_⟩
    simp only [s4L, List.mem_cons, List.not_mem_nil, or_false] at hq
    rcases hq with rfl | rfl | rfl | rfl
    · exact wfI f0
    · exact wfI f1
    · exact wfI f2
    · exact wfI f3
end Go.Proofs.YtmnfehbnjgmgjaaDoor
