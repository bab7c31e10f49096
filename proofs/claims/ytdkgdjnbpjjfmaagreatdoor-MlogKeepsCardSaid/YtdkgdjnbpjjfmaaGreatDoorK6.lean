/- What is kept aside: Write, Read, over chunks. The remote log: its chunk; what it has when it is opened. The remote log: Open, Snap, Append; whatever the power does. The remote log: Append. The document's Make; the manifests of the statements. The statements' entries. The remote log as the statements see it. What an error is as plain data: with a place, too. Errors as the statements see them, bare or with a place. What a log has behind a crash. What a row's condition on the sentinels gives a walk: 'Errs'; what its condition on a slice gives: 'seqV'. Closed facts on the program's head, that each row of this seat asks for. -/
import Derived.Test.YtdkgdjnbpjjfmaaGreatDoorK5
import Derived.Test.YtdkgdjnbpjjfmaaGreatDoorK1
import Derived.Test.YtdkgdjnbpjjfmaaGreatDoorK4
import Derived.Test.YtdkgdjnbpjjfmaaGreatDoorK3
import Derived.Test.YtdkgdjnbpjjfmaaGreatDoorRows
import Derived.LaidMore
import Derived.LaidHandle
import Derived.LaidLaws
import Derived.MakeChecks
import Derived.OpenShut
import Derived.Carry
import Derived.JoinedOf
import Derived.ProofKit
namespace Go.Proofs.YtdkgdjnbpjjfmaaGreatDoor
set_option linter.all false
open Go.RowKit
attribute [local irreducible] zAq
variable {g w : World} {L M : List HP} {ad : Nat → Addr} {p : Nat} {d : Dk}

section
variable {P : Program} {n : Nat} {ops : Array Oper} {rest : List Oper} {K : Env → World → Prop} {ρ : Env} {dst : Option Tmp} {ty : TypeId} {pos : String} {aft : Array Edge}
/-- Two texts, one behind the other. -/
theorem run_makeFuncB {fn : Fn} {fl cl : List Operand} : (execOp (ev ρ) ⟨dst, .makeFunc fn fl.toArray cl.toArray, ty, pos, aft, none⟩).run P w = .ok (.value (.func fn (fl.map (ev ρ)).toArray (cl.map (ev ρ)).toArray)) w := by
  simp [execOp, Instr.makeFunc]
/-- A method's value is called. -/
theorem lw_callvB (hd : okd n dst = true) {f : FuncId} {first : Array Value} {t : Tmp} {ats : Array TypeId} {R : Value → World → Prop} (hf : ∀ args w, (callFunc f args).run P w = .ok (.enter f args) w) (hx : ρ t = .func (.func f) first #[])
    (hc : Calls P f first w (Ret R)) (h : ∀ v w', R v w' → lw P n ops rest K (updo ρ dst v) w') :
    lw P n ops (⟨dst, .call { callee := .value (.tmp t), args := #[], argTypes := ats }, ty, pos, aft, none⟩ :: rest) K ρ w := by
  refine lw_enter hd ?_ hc h
  simp only [execOp, resolve, ev, hx, Deferred.ofValue, Sem.run_bind, Sem.run_pure, Result.andThen_ok, invoke]
  simp [hf]
end

section
variable {b3 b7 b5 b4 : Nat} {t s : ByteArray}
theorem w1_sl (hE : ErrK ad g) (hcl : d.calls < 1000000) (hs : Mem g w (zBn p d :: cells b3 [.pointer (some ⟨p, 0, none⟩)] 25 :: cells b7 [.string (zCa s)] 9 :: M)) {b : List UInt8} {k : Nat} {d2 : Dk} (hk : d.wstep s b 0 = (k, d2)) :
    Calls Tryz.prog 90 #[.pointer (some ⟨b3, 0, none⟩), .pointer (some ⟨b7, 0, none⟩)] w (Ret fun v w' => v = zAq ad k ∧ Mem g w' (zBn p d2 :: cells b3 [.pointer (some ⟨p, 0, none⟩)] 25 :: cells b7 [.string (zCa s)] 9 :: M)) := by
  obtain ⟨kl, ml, hl⟩ : ∃ kl ml, d.lenR (zCa s) = (kl, ml) := ⟨_, _, rfl⟩
  have hcode := d.lenR_code (zCa s)
  rw [hl] at hcode
  simp only at hcode
  simp only [Dk.wstep, hl] at hk
  refine zAl Tryz.func90 rfl rfl ?_
  skip
  refine zA5 (zA1 ?_)
  refine zA rfl (zA2 (v := .nilIface) rfl) ?_
  refine zA4 ?_
  refine zA5 ?_
  refine zA5 (zA1 ?_)
  refine zA rfl (zA7 uz25 rfl rfl (hs.cellAt 1 rfl rfl)) ?_
  refine zA rfl (zA7 uz9 rfl rfl (hs.cellAt 2 rfl rfl)) ?_
  refine zA9 rfl en15 (len_sl hE hs (zCa s) hl) ?_
  clear hs
  rintro _ w ⟨rfl, hs⟩
  refine zA rfl (zA0 (v := .tuple _) rfl) ?_
  refine zA rfl (zAa (v := .int .i64 _) rfl rfl) ?_
  refine zA rfl (zAa (v := zAq ad _) rfl rfl) ?_
  refine zA rfl (zA2 (v := .int .i64 _) rfl) ?_
  refine zA rfl (zA2 (v := zAq ad _) rfl) ?_
  refine zA4 (zA5 (zA1 ?_))
  refine zA rfl (zA0 (v := zAq ad _) rfl) ?_
  refine zA rfl (zA7 zD1 rfl rfl (hE.cellW hs 107 (by decide) rfl)) ?_
  refine zA rfl (zEv (hE.atW hs) (by rcases hcode with h | h | h <;> (rw [h]; decide)) (by decide) rfl rfl) ?_
  refine zA4 ?_
  refine zB7 rfl ?_ ?_
  ·
   intro h13
   have g13 := of_decide_eq_true h13
   rw [if_pos (of_decide_eq_true h13)] at hk
   cases hk
   refine zA5 (zA1 ?_)
   refine zA rfl (zA2 (v := .nilIface) rfl) ?_
   refine zA4 ?_
   refine zAf ?_
   refine zBj (v := .nilIface) rfl rfl ?_
   exact ⟨_, rfl, (zB2 ad).symm, hs⟩
  ·
   intro h13
   have g13 := of_decide_eq_false h13
   rw [if_neg (of_decide_eq_false h13)] at hk
   refine zAd ?_
   refine zA5 (zA1 ?_)
   refine zA rfl (zA7 uz25 rfl rfl (hs.cellAt 1 rfl rfl)) ?_
   refine zA rfl (zA7 uz9 rfl rfl (hs.cellAt 2 rfl rfl)) ?_
   refine zA9 rfl en91 (remove_sl hE hs hcl (zCa s) hk) ?_
   clear hs
   rintro _ w ⟨rfl, hs⟩
   refine zA rfl (zA2 (v := zAq ad _) rfl) ?_
   refine zA4 ?_
   refine zAf ?_
   refine zBj (v := zAq ad _) rfl rfl ?_
   exact ⟨_, rfl, rfl, hs⟩
theorem w2_sl (hE : ErrK ad g) (hcl : d.calls < 1000000) (hs : Mem g w (zBn p d :: cells b3 [.pointer (some ⟨p, 0, none⟩)] 25 :: cells b7 [.string (zCa s)] 9 :: M)) {b : List UInt8} {k : Nat} {d2 : Dk} (hk : d.wstep s b 1 = (k, d2)) :
    Calls Tryz.prog 92 #[.pointer (some ⟨b3, 0, none⟩), .pointer (some ⟨b7, 0, none⟩)] w (Ret fun v w' => v = zAq ad k ∧ Mem g w' (zBn p d2 :: cells b3 [.pointer (some ⟨p, 0, none⟩)] 25 :: cells b7 [.string (zCa s)] 9 :: M)) := by
  refine zAl Tryz.func92 rfl rfl ?_
  skip
  refine zA5 (zA1 ?_)
  refine zA rfl (zA2 (v := .nilIface) rfl) ?_
  refine zA4 (zA5 (zA1 ?_))
  refine zA rfl (zA7 uz25 rfl rfl (hs.cellAt 1 rfl rfl)) ?_
  refine zA rfl (zA7 uz9 rfl rfl (hs.cellAt 2 rfl rfl)) ?_
  refine zA9 rfl en34 (create_sl hE hs hcl (zCa s) hk) ?_
  clear hs
  rintro _ w ⟨rfl, hs⟩
  refine zA rfl (zA2 (v := zAq ad _) rfl) ?_
  refine zA4 ?_
  refine zAf ?_
  refine zBj (v := zAq ad _) rfl rfl ?_
  exact ⟨_, rfl, rfl, hs⟩
theorem w3_sl (hE : ErrK ad g) (hcl : d.calls < 1000000) {a : Option Addr} {n c : Nat} (hs : Mem g w (zBn p d :: cells b3 [.pointer (some ⟨p, 0, none⟩)] 25 :: cells b7 [.string (zCa s)] 9 :: cells b5 [.slice a n c] 23 :: M)) {b : List UInt8} (hr : Rd g M (.slice a n c) (zAm b)) (hn : n = b.length) (hlen : b.length ≤ 1000000) {k : Nat} {d2 : Dk} (hk : d.wstep s b 2 = (k, d2)) :
    Calls Tryz.prog 93 #[.pointer (some ⟨b3, 0, none⟩), .pointer (some ⟨b7, 0, none⟩), .pointer (some ⟨b5, 0, none⟩)] w (Ret fun v w' => v = zAq ad k ∧ Mem g w' (zBn p d2 :: cells b3 [.pointer (some ⟨p, 0, none⟩)] 25 :: cells b7 [.string (zCa s)] 9 :: cells b5 [.slice a n c] 23 :: M)) := by
  refine zAl Tryz.func93 rfl rfl ?_
  skip
  refine zA5 (zA1 ?_)
  refine zA rfl (zA2 (v := .nilIface) rfl) ?_
  refine zA4 ?_
  refine zA5 ?_
  refine zAz zBx hs.tail ?_
  intro w tr hK
  replace hs := tr _ hs
  clear tr
  refine zA6 0 rfl rfl (fun w hs => zA7 uz25 rfl rfl (hs.cellAt 0 rfl rfl)) hK ?_
  refine zA6 1 rfl rfl (fun w hs => zA7 uz9 rfl rfl (hs.cellAt 1 rfl rfl)) hK ?_
  refine zA6 2 rfl rfl (fun w hs => zA7 zBz rfl rfl (hs.cellAt 2 rfl rfl)) hK ?_
  refine zAb [3] ?_
  refine ⟨⟨_, rfl, ?_⟩, trivial⟩
  refine zA9 rfl en82 (seal_sl hs ((((hr.cons).cons).cons).cons) hn (by omega)) ?_
  clear hs
  rintro _ w ⟨a7, c7, rfl, hs⟩
  clear hK
  have hK := hs.tail.tail
  refine zA4 ⟨hK, ?_⟩
  refine zAb [4] ?_
  refine ⟨⟨_, rfl, ?_⟩, trivial⟩
  refine zA9 rfl en19 (append_sl (d := d) (L := own _ _ :: _) hE (hs.arr [1, 0] 2 (by decide)) hcl (zCa s) (x := zBp b) (Rd.own 0 rfl) rfl (by rw [zBw]; omega) hk) ?_
  clear hs
  rintro _ w ⟨rfl, hs⟩
  clear hK
  have hK := hs.tail.tail
  refine zA4 ⟨hK, ?_⟩
  refine zA6 5 rfl rfl (fun w hs => zA2 (v := zAq ad _) rfl) hK ?_
  refine zAu (by kernel_rfl) ?_
  clear hK
  refine zAf ?_
  refine zBj (v := zAq ad _) rfl rfl ?_
  exact ⟨_, rfl, rfl, hs.drop 1⟩
theorem w4_sl (hE : ErrK ad g) (hcl : d.calls < 1000000) (hs : Mem g w (zBn p d :: cells b3 [.pointer (some ⟨p, 0, none⟩)] 25 :: cells b7 [.string (zCa s)] 9 :: M)) {b : List UInt8} {k : Nat} {d2 : Dk} (hk : d.wstep s b 3 = (k, d2)) :
    Calls Tryz.prog 94 #[.pointer (some ⟨b3, 0, none⟩), .pointer (some ⟨b7, 0, none⟩)] w (Ret fun v w' => v = zAq ad k ∧ Mem g w' (zBn p d2 :: cells b3 [.pointer (some ⟨p, 0, none⟩)] 25 :: cells b7 [.string (zCa s)] 9 :: M)) := by
  refine zAl Tryz.func94 rfl rfl ?_
  skip
  refine zA5 (zA1 ?_)
  refine zA rfl (zA2 (v := .nilIface) rfl) ?_
  refine zA4 (zA5 (zA1 ?_))
  refine zA rfl (zA7 uz25 rfl rfl (hs.cellAt 1 rfl rfl)) ?_
  refine zA rfl (zA7 uz9 rfl rfl (hs.cellAt 2 rfl rfl)) ?_
  refine zA9 rfl en39 (sync_sl hE hs hcl (zCa s) hk) ?_
  clear hs
  rintro _ w ⟨rfl, hs⟩
  refine zA rfl (zA2 (v := zAq ad _) rfl) ?_
  refine zA4 ?_
  refine zAf ?_
  refine zBj (v := zAq ad _) rfl rfl ?_
  exact ⟨_, rfl, rfl, hs⟩
theorem w5_sl (hE : ErrK ad g) (hcl : d.calls < 1000000) (hs : Mem g w (zBn p d :: cells b3 [.pointer (some ⟨p, 0, none⟩)] 25 :: cells b7 [.string (zCa s)] 9 :: cells b4 [.string s] 9 :: M)) {b : List UInt8} {k : Nat} {d2 : Dk} (hk : d.wstep s b 4 = (k, d2)) :
    Calls Tryz.prog 95 #[.pointer (some ⟨b3, 0, none⟩), .pointer (some ⟨b7, 0, none⟩), .pointer (some ⟨b4, 0, none⟩)] w (Ret fun v w' => v = zAq ad k ∧ Mem g w' (zBn p d2 :: cells b3 [.pointer (some ⟨p, 0, none⟩)] 25 :: cells b7 [.string (zCa s)] 9 :: cells b4 [.string s] 9 :: M)) := by
  refine zAl Tryz.func95 rfl rfl ?_
  skip
  refine zA5 (zA1 ?_)
  refine zA rfl (zA2 (v := .nilIface) rfl) ?_
  refine zA4 (zA5 (zA1 ?_))
  refine zA rfl (zA7 uz25 rfl rfl (hs.cellAt 1 rfl rfl)) ?_
  refine zA rfl (zA7 uz9 rfl rfl (hs.cellAt 2 rfl rfl)) ?_
  refine zA rfl (zA7 uz9 rfl rfl (hs.cellAt 3 rfl rfl)) ?_
  refine zA9 rfl en96 (rename_sl hE hs hcl (zCa s) s hk) ?_
  clear hs
  rintro _ w ⟨rfl, hs⟩
  refine zA rfl (zA2 (v := zAq ad _) rfl) ?_
  refine zA4 ?_
  refine zAf ?_
  refine zBj (v := zAq ad _) rfl rfl ?_
  exact ⟨_, rfl, rfl, hs⟩
end
theorem readR_len {n : ByteArray} {m : Nat} {c : Nat} {l : List UInt8} (h : d.readR n 0 (m : Int) = (c, l)) (hm : m ≤ 4194304) : l.length ≤ 4194304 := by
  unfold Dk.readR at h
  split at h
  · split at h
    · cases h; simp
    · cases h; simp; omega
  · cases h; simp
def stepsL (p b3 b7 b5 b4 : Nat) : List Value := [.func (.func 90) #[] #[.pointer (some ⟨b3, 0, none⟩), .pointer (some ⟨b7, 0, none⟩)], .func (.func 92) #[] #[.pointer (some ⟨b3, 0, none⟩), .pointer (some ⟨b7, 0, none⟩)], .func (.func 93) #[] #[.pointer (some ⟨b3, 0, none⟩), .pointer (some ⟨b7, 0, none⟩), .pointer (some ⟨b5, 0, none⟩)], .func (.func 94) #[] #[.pointer (some ⟨b3, 0, none⟩), .pointer (some ⟨b7, 0, none⟩)], .func (.func 95) #[] #[.pointer (some ⟨b3, 0, none⟩), .pointer (some ⟨b7, 0, none⟩), .pointer (some ⟨b4, 0, none⟩)], .func (.func 35) #[.pointer (some ⟨p, 0, none⟩)] #[]]
set_option maxRecDepth 100000 in
theorem write_sl (hE : ErrK ad g) (hcl : d.calls < 900000) (hs : Mem g w (zBn p d :: L)) (s : ByteArray) (hsl : s.size ≤ 1000000) {b : List UInt8} {a : Option Addr} {n c : Nat} (hr : Rd g L (.slice a n c) (zAm b)) (hn : n = b.length) (hlen : b.length ≤ 1000000) {k : Nat} {d2 : Dk} (hk : d.write s b = (k, d2)) :
    Calls Tryz.prog 51 #[.pointer (some ⟨p, 0, none⟩), .string s, .slice a n c] w (Ret fun v w' => v = zAq ad k ∧ Mem g w' (zBn p d2 :: L)) := by
  refine zAl Tryz.func51 rfl rfl ?_
  skip
  refine zA5 (zA1 ?_)
  refine zCk (v := .pointer (some _)) hs rfl rfl ?_
  clear hs
  intro b3 w hs
  try simp only [List.set_cons_succ, List.set_cons_zero] at hs
  refine zCk (v := .string _) hs rfl rfl ?_
  clear hs
  intro b4 w hs
  try simp only [List.set_cons_succ, List.set_cons_zero] at hs
  refine zCk (v := .slice _ _ _) hs rfl rfl ?_
  clear hs
  intro b5 w hs
  try simp only [List.set_cons_succ, List.set_cons_zero] at hs
  refine zA rfl (zA2 (v := .nilIface) rfl) ?_
  refine zA4 (zA5 (zA1 ?_))
  refine zA rfl (zA7 uz9 rfl rfl (hs.cellAt 1 rfl rfl)) ?_
  refine zA rfl (zG1 (a := s) (b := ⟨#[46, 110, 101, 119]⟩) rfl rfl (by show s.size + 4 ≤ _; omega)) ?_
  refine zBd hs rfl ze9 ?_
  clear hs
  intro b7 w hs
  try simp only [List.set_cons_succ, List.set_cons_zero] at hs
  refine zAs (v := .string _) hs 0 rfl sz9 rfl rfl rfl rfl ?_
  clear hs
  intro w hs
  try simp only [List.set_cons_succ, List.set_cons_zero] at hs
  refine zA4 ?_
  refine zA5 ?_
  refine zA5 (zA1 ?_)
  refine zA rfl (zA7 uz9 rfl rfl (hs.cellAt 2 rfl rfl)) ?_
  refine zA9 rfl en74 (valid_sl hs s) ?_
  clear hs
  rintro _ w ⟨rfl, hs⟩
  refine zA rfl (zBm rfl) ?_
  refine zA rfl (zA0 (v := .bool _) rfl) ?_
  refine zB8 (t := _) (d := 16) rfl ?_ ?_
  ·
   intro h14
   replace h14 := zF h14
   unfold Dk.write at hk
   rw [if_neg (fun e => by rw [h14] at e; cases e.1)] at hk
   cases hk
   refine zAc rfl rfl rfl (zBy h14) ?_
   refine zAc rfl rfl rfl (zBy h14) ?_
   refine zAc rfl rfl rfl (zBy h14) ?_
   refine zA rfl (zAj (v := .bool _) rfl (zBy h14) rfl) ?_
   refine zA4 ?_
   refine zBa rfl rfl ?_
   refine zA5 (zA1 ?_)
   refine zA rfl (zA7 zD1 rfl rfl (hE.cellW hs 106 (by decide) rfl)) ?_
   refine zA rfl (zA2 (v := zAq ad _) rfl) ?_
   refine zA4 ?_
   refine zAf ?_
   refine zBj (v := zAq ad _) rfl rfl ?_
   exact ⟨_, rfl, rfl, hs.suffix 4 rfl⟩
  ·
   intro h14
   replace h14 := zE4 h14
   refine zAi rfl rfl (zBg h14) ?_
   refine zA rfl (zA7 uz9 rfl rfl (hs.cellAt 0 rfl rfl)) ?_
   refine zAi rfl rfl (zBg h14) ?_
   refine zA9 rfl en74 (valid_sl hs (zCa s)) ?_
   clear hs
   rintro _ w ⟨rfl, hs⟩
   refine zAi rfl rfl (zBg h14) ?_
   refine zA rfl (zBm rfl) ?_
   refine zA rfl (zAk (v := .bool _) rfl (zBg h14) rfl) ?_
   refine zA4 ?_
   refine zB7 rfl ?_ ?_
   ·
    intro h18
    replace h18 := zF h18
    unfold Dk.write at hk
    rw [if_neg (fun e => by rw [h18] at e; cases e.2)] at hk
    cases hk
    refine zA5 (zA1 ?_)
    refine zA rfl (zA7 zD1 rfl rfl (hE.cellW hs 106 (by decide) rfl)) ?_
    refine zA rfl (zA2 (v := zAq ad _) rfl) ?_
    refine zA4 ?_
    refine zAf ?_
    refine zBj (v := zAq ad _) rfl rfl ?_
    exact ⟨_, rfl, rfl, hs.suffix 4 rfl⟩
   ·
    intro h18
    replace h18 := zE4 h18
    unfold Dk.write at hk
    rw [if_pos ⟨h14, h18⟩] at hk
    refine zAd ?_
    refine zA5 ?_
    refine zA5 (zA1 ?_)
    refine zA rfl (zDo) ?_
    refine zA rfl (zDo) ?_
    refine zA rfl (zDo) ?_
    refine zA rfl (zDo) ?_
    refine zA rfl (zDo) ?_
    refine zA rfl (zA7 uz25 rfl rfl (hs.cellAt 3 rfl rfl)) ?_
    refine zA rfl (run_makeFuncB (fl := [.tmp 27]) (cl := [])) ?_
    refine zC8 hs rfl ((stepsL p b3 b7 b5 b4)) uz155 zs53 rfl (by simp [stepsL, Value.cells]) rfl rfl rfl ?_
    clear hs
    intro b29 w hs
    try simp only [List.set_cons_succ, List.set_cons_zero] at hs
    replace hs := hs.arr [5, 4, 1, 2, 3, 0] 6 (by decide)
    refine zA rfl (zAw uz155 rfl) ?_
    refine zA rfl (zA0 (v := .int .i64 _) rfl) ?_
    refine zA4 ?_
    refine zAt ?_
    refine zBs (X := Nat × Dk) [6, 9, 10, 31, 32, 33, 34, 35, 36, 37, 38, 39, 40] (fun x => [(31, .int .i64 (x.1 : Nat))]) (fun x w => x.1 ≤ 6 ∧ x.2.calls ≤ d.calls + x.1 ∧ Dk.wrun s b (6 - x.1) x.1 x.2 = (k, d2) ∧ Mem g w (zBn p x.2 :: cells b3 [.pointer (some ⟨p, 0, none⟩)] 25 :: cells b7 [.string (zCa s)] 9 :: cells b5 [.slice a n c] 23 :: cells b4 [.string s] 9 :: cells b29 (stepsL p b3 b7 b5 b4) 53 :: L)) (fun x => 6 - x.1) ((0, d)) ?_ ?_ ?_
    · exact ⟨rfl, trivial⟩
    · exact ⟨Nat.zero_le _, Nat.le_refl _, hk, hs⟩
    clear hs
    rintro x ξ w hI
    obtain ⟨i, dk⟩ := x
    obtain ⟨hi6, hcl2, hrun, hs⟩ := hI
    simp only at hi6 hcl2 hrun hs
    show cw _ _ _ _ _ _ (updL (mix _ ξ _) [(31, .int .i64 (i : Nat))]) w
    refine zA5 (zA1 ?_)
    refine zA rfl (zB4 rfl rfl) ?_
    refine zA4 ?_
    refine zA5 ?_
    refine zB7 rfl ?_ ?_
    ·
     intro h32
     have g32 := of_decide_eq_true h32
     obtain ⟨ks, ds, hst⟩ : ∃ ks ds, dk.wstep s b i = (ks, ds) := ⟨_, _, rfl⟩
     have hr2 : (if (dk.wstep s b i).1 = 0 then Dk.wrun s b (5 - i) (i + 1) (dk.wstep s b i).2 else dk.wstep s b i) = (k, d2) := by rw [← hrun, show 6 - i = (5 - i) + 1 by omega]; rfl
     rw [hst] at hr2
     simp only at hr2
     have hcs : ds.calls ≤ dk.calls + 1 := by have := dk.wstep_calls s b i; rw [hst] at this; exact this
     refine zAd ?_
     refine zA5 ?_
     refine zAt ?_
     refine zA5 ?_
     obtain rfl | rfl | rfl | rfl | rfl | rfl : i = 0 ∨ i = 1 ∨ i = 2 ∨ i = 3 ∨ i = 4 ∨ i = 5 := by omega
     ·
      refine zA1 ?_
      refine zA rfl (zBl uz155 sz53 rfl rfl rfl (by omega) rfl) ?_
      refine zA rfl (zA7 uz53 rfl rfl (hs.cellAt 5 rfl rfl)) ?_
      refine zA rfl (zA2 (v := .func _ _ _) rfl) ?_
      refine zA4 (zA5 (zA1 ?_))
      refine zA rfl (zA0 (v := .func _ _ _) rfl) ?_
      refine lw_callv0 rfl en90 rfl (w1_sl hE (by omega) hs hst) ?_
      clear hs
      rintro _ w ⟨rfl, hs⟩
      refine zA rfl (zA2 (v := zAq ad _) rfl) ?_
      refine zA4 (zA5 (zA1 ?_))
      refine zA rfl (zA0 (v := zAq ad _) rfl) ?_
      refine zA rfl (zAy (ad := ad) rfl) ?_
      refine zA4 ?_
      refine zB7 rfl ?_ ?_
      ·
       intro h38
       have g38 := ne_t h38
       have hz : ks ≠ 0 := by simpa using h38
       rw [if_neg hz] at hr2
       cases hr2
       refine zA5 (zA1 ?_)
       refine zA rfl (zA0 (v := zAq ad _) rfl) ?_
       refine zA rfl (zA2 (v := zAq ad _) rfl) ?_
       refine zA4 ?_
       refine zAf ?_
       refine zBj (v := zAq ad _) rfl rfl ?_
       exact ⟨_, rfl, rfl, hs.arr [0] 6 (by decide)⟩
      ·
       intro h38
       have g38 := ne_f h38
       have hz : ks = 0 := by simpa using h38
       rw [if_pos hz] at hr2
       refine zAd ?_
       refine zA1 ?_
       refine zA rfl (zAn rfl rfl rfl (inI (by omega) (by omega))) ?_
       refine zA rfl (zA0 (v := .int .i64 _) rfl) ?_
       refine zA4 ?_
       exact ⟨(1, ds), by simp only; omega, ⟨by simp only; omega, by simp only; omega, hr2, hs⟩, ⟨rfl, trivial⟩, by repeat (first | exact Out.mix _ _ _ | refine Out.updo rfl ?_ | refine Out.upd rfl ?_ | refine Out.mixIn rfl ?_)⟩
     ·
      refine zA1 ?_
      refine zA rfl (zBl uz155 sz53 rfl rfl rfl (by omega) rfl) ?_
      refine zA rfl (zA7 uz53 rfl rfl (hs.cellAt 5 rfl rfl)) ?_
      refine zA rfl (zA2 (v := .func _ _ _) rfl) ?_
      refine zA4 (zA5 (zA1 ?_))
      refine zA rfl (zA0 (v := .func _ _ _) rfl) ?_
      refine lw_callv0 rfl en92 rfl (w2_sl hE (by omega) hs hst) ?_
      clear hs
      rintro _ w ⟨rfl, hs⟩
      refine zA rfl (zA2 (v := zAq ad _) rfl) ?_
      refine zA4 (zA5 (zA1 ?_))
      refine zA rfl (zA0 (v := zAq ad _) rfl) ?_
      refine zA rfl (zAy (ad := ad) rfl) ?_
      refine zA4 ?_
      refine zB7 rfl ?_ ?_
      ·
       intro h38
       have g38 := ne_t h38
       have hz : ks ≠ 0 := by simpa using h38
       rw [if_neg hz] at hr2
       cases hr2
       refine zA5 (zA1 ?_)
       refine zA rfl (zA0 (v := zAq ad _) rfl) ?_
       refine zA rfl (zA2 (v := zAq ad _) rfl) ?_
       refine zA4 ?_
       refine zAf ?_
       refine zBj (v := zAq ad _) rfl rfl ?_
       exact ⟨_, rfl, rfl, hs.arr [0] 6 (by decide)⟩
      ·
       intro h38
       have g38 := ne_f h38
       have hz : ks = 0 := by simpa using h38
       rw [if_pos hz] at hr2
       refine zAd ?_
       refine zA1 ?_
       refine zA rfl (zAn rfl rfl rfl (inI (by omega) (by omega))) ?_
       refine zA rfl (zA0 (v := .int .i64 _) rfl) ?_
       refine zA4 ?_
       exact ⟨(2, ds), by simp only; omega, ⟨by simp only; omega, by simp only; omega, hr2, hs⟩, ⟨rfl, trivial⟩, by repeat (first | exact Out.mix _ _ _ | refine Out.updo rfl ?_ | refine Out.upd rfl ?_ | refine Out.mixIn rfl ?_)⟩
     ·
      refine zA1 ?_
      refine zA rfl (zBl uz155 sz53 rfl rfl rfl (by omega) rfl) ?_
      refine zA rfl (zA7 uz53 rfl rfl (hs.cellAt 5 rfl rfl)) ?_
      refine zA rfl (zA2 (v := .func _ _ _) rfl) ?_
      refine zA4 (zA5 (zA1 ?_))
      refine zA rfl (zA0 (v := .func _ _ _) rfl) ?_
      refine lw_callv0 rfl en93 rfl (w3_sl hE (by omega) hs ((hr.cons).cons) hn hlen hst) ?_
      clear hs
      rintro _ w ⟨rfl, hs⟩
      refine zA rfl (zA2 (v := zAq ad _) rfl) ?_
      refine zA4 (zA5 (zA1 ?_))
      refine zA rfl (zA0 (v := zAq ad _) rfl) ?_
      refine zA rfl (zAy (ad := ad) rfl) ?_
      refine zA4 ?_
      refine zB7 rfl ?_ ?_
      ·
       intro h38
       have g38 := ne_t h38
       have hz : ks ≠ 0 := by simpa using h38
       rw [if_neg hz] at hr2
       cases hr2
       refine zA5 (zA1 ?_)
       refine zA rfl (zA0 (v := zAq ad _) rfl) ?_
       refine zA rfl (zA2 (v := zAq ad _) rfl) ?_
       refine zA4 ?_
       refine zAf ?_
       refine zBj (v := zAq ad _) rfl rfl ?_
       exact ⟨_, rfl, rfl, hs.arr [0] 6 (by decide)⟩
      ·
       intro h38
       have g38 := ne_f h38
       have hz : ks = 0 := by simpa using h38
       rw [if_pos hz] at hr2
       refine zAd ?_
       refine zA1 ?_
       refine zA rfl (zAn rfl rfl rfl (inI (by omega) (by omega))) ?_
       refine zA rfl (zA0 (v := .int .i64 _) rfl) ?_
       refine zA4 ?_
       exact ⟨(3, ds), by simp only; omega, ⟨by simp only; omega, by simp only; omega, hr2, hs⟩, ⟨rfl, trivial⟩, by repeat (first | exact Out.mix _ _ _ | refine Out.updo rfl ?_ | refine Out.upd rfl ?_ | refine Out.mixIn rfl ?_)⟩
     ·
      refine zA1 ?_
      refine zA rfl (zBl uz155 sz53 rfl rfl rfl (by omega) rfl) ?_
      refine zA rfl (zA7 uz53 rfl rfl (hs.cellAt 5 rfl rfl)) ?_
      refine zA rfl (zA2 (v := .func _ _ _) rfl) ?_
      refine zA4 (zA5 (zA1 ?_))
      refine zA rfl (zA0 (v := .func _ _ _) rfl) ?_
      refine lw_callv0 rfl en94 rfl (w4_sl hE (by omega) hs hst) ?_
      clear hs
      rintro _ w ⟨rfl, hs⟩
      refine zA rfl (zA2 (v := zAq ad _) rfl) ?_
      refine zA4 (zA5 (zA1 ?_))
      refine zA rfl (zA0 (v := zAq ad _) rfl) ?_
      refine zA rfl (zAy (ad := ad) rfl) ?_
      refine zA4 ?_
      refine zB7 rfl ?_ ?_
      ·
       intro h38
       have g38 := ne_t h38
       have hz : ks ≠ 0 := by simpa using h38
       rw [if_neg hz] at hr2
       cases hr2
       refine zA5 (zA1 ?_)
       refine zA rfl (zA0 (v := zAq ad _) rfl) ?_
       refine zA rfl (zA2 (v := zAq ad _) rfl) ?_
       refine zA4 ?_
       refine zAf ?_
       refine zBj (v := zAq ad _) rfl rfl ?_
       exact ⟨_, rfl, rfl, hs.arr [0] 6 (by decide)⟩
      ·
       intro h38
       have g38 := ne_f h38
       have hz : ks = 0 := by simpa using h38
       rw [if_pos hz] at hr2
       refine zAd ?_
       refine zA1 ?_
       refine zA rfl (zAn rfl rfl rfl (inI (by omega) (by omega))) ?_
       refine zA rfl (zA0 (v := .int .i64 _) rfl) ?_
       refine zA4 ?_
       exact ⟨(4, ds), by simp only; omega, ⟨by simp only; omega, by simp only; omega, hr2, hs⟩, ⟨rfl, trivial⟩, by repeat (first | exact Out.mix _ _ _ | refine Out.updo rfl ?_ | refine Out.upd rfl ?_ | refine Out.mixIn rfl ?_)⟩
     ·
      refine zA1 ?_
      refine zA rfl (zBl uz155 sz53 rfl rfl rfl (by omega) rfl) ?_
      refine zA rfl (zA7 uz53 rfl rfl (hs.cellAt 5 rfl rfl)) ?_
      refine zA rfl (zA2 (v := .func _ _ _) rfl) ?_
      refine zA4 (zA5 (zA1 ?_))
      refine zA rfl (zA0 (v := .func _ _ _) rfl) ?_
      refine lw_callv0 rfl en95 rfl (w5_sl hE (by omega) (M := cells b5 [.slice a n c] 23 :: cells b29 (stepsL p b3 b7 b5 b4) 53 :: L) (hs.arr [0, 1, 2, 4, 3, 5] 6 (by decide)) hst) ?_
      clear hs
      rintro _ w ⟨rfl, hs⟩
      replace hs := hs.arr [0, 1, 2, 4, 3, 5] 6 (by decide)
      refine zA rfl (zA2 (v := zAq ad _) rfl) ?_
      refine zA4 (zA5 (zA1 ?_))
      refine zA rfl (zA0 (v := zAq ad _) rfl) ?_
      refine zA rfl (zAy (ad := ad) rfl) ?_
      refine zA4 ?_
      refine zB7 rfl ?_ ?_
      ·
       intro h38
       have g38 := ne_t h38
       have hz : ks ≠ 0 := by simpa using h38
       rw [if_neg hz] at hr2
       cases hr2
       refine zA5 (zA1 ?_)
       refine zA rfl (zA0 (v := zAq ad _) rfl) ?_
       refine zA rfl (zA2 (v := zAq ad _) rfl) ?_
       refine zA4 ?_
       refine zAf ?_
       refine zBj (v := zAq ad _) rfl rfl ?_
       exact ⟨_, rfl, rfl, hs.arr [0] 6 (by decide)⟩
      ·
       intro h38
       have g38 := ne_f h38
       have hz : ks = 0 := by simpa using h38
       rw [if_pos hz] at hr2
       refine zAd ?_
       refine zA1 ?_
       refine zA rfl (zAn rfl rfl rfl (inI (by omega) (by omega))) ?_
       refine zA rfl (zA0 (v := .int .i64 _) rfl) ?_
       refine zA4 ?_
       exact ⟨(5, ds), by simp only; omega, ⟨by simp only; omega, by simp only; omega, hr2, hs⟩, ⟨rfl, trivial⟩, by repeat (first | exact Out.mix _ _ _ | refine Out.updo rfl ?_ | refine Out.upd rfl ?_ | refine Out.mixIn rfl ?_)⟩
     ·
      refine zA1 ?_
      refine zA rfl (zBl uz155 sz53 rfl rfl rfl (by omega) rfl) ?_
      refine zA rfl (zA7 uz53 rfl rfl (hs.cellAt 5 rfl rfl)) ?_
      refine zA rfl (zA2 (v := .func _ _ _) rfl) ?_
      refine zA4 (zA5 (zA1 ?_))
      refine zA rfl (zA0 (v := .func _ _ _) rfl) ?_
      refine lw_callvB rfl en35 rfl (syncDir_sl hE hs (by omega) hst) ?_
      clear hs
      rintro _ w ⟨rfl, hs⟩
      refine zA rfl (zA2 (v := zAq ad _) rfl) ?_
      refine zA4 (zA5 (zA1 ?_))
      refine zA rfl (zA0 (v := zAq ad _) rfl) ?_
      refine zA rfl (zAy (ad := ad) rfl) ?_
      refine zA4 ?_
      refine zB7 rfl ?_ ?_
      ·
       intro h38
       have g38 := ne_t h38
       have hz : ks ≠ 0 := by simpa using h38
       rw [if_neg hz] at hr2
       cases hr2
       refine zA5 (zA1 ?_)
       refine zA rfl (zA0 (v := zAq ad _) rfl) ?_
       refine zA rfl (zA2 (v := zAq ad _) rfl) ?_
       refine zA4 ?_
       refine zAf ?_
       refine zBj (v := zAq ad _) rfl rfl ?_
       exact ⟨_, rfl, rfl, hs.arr [0] 6 (by decide)⟩
      ·
       intro h38
       have g38 := ne_f h38
       have hz : ks = 0 := by simpa using h38
       rw [if_pos hz] at hr2
       refine zAd ?_
       refine zA1 ?_
       refine zA rfl (zAn rfl rfl rfl (inI (by omega) (by omega))) ?_
       refine zA rfl (zA0 (v := .int .i64 _) rfl) ?_
       refine zA4 ?_
       exact ⟨(6, ds), by simp only; omega, ⟨by simp only; omega, by simp only; omega, hr2, hs⟩, ⟨rfl, trivial⟩, by repeat (first | exact Out.mix _ _ _ | refine Out.updo rfl ?_ | refine Out.upd rfl ?_ | refine Out.mixIn rfl ?_)⟩
    ·
     intro h32
     have g32 := of_decide_eq_false h32
     refine zBk rfl ?_
     refine zA5 (zA1 ?_)
     refine zA rfl (zA2 (v := .nilIface) rfl) ?_
     refine zA4 ?_
     refine zAf ?_
     refine zBj (v := .nilIface) rfl rfl ?_
     obtain rfl : i = 6 := by omega
     cases hrun
     exact ⟨_, rfl, (zB2 ad).symm, hs.arr [0] 6 (by decide)⟩
theorem pread_sl (hP : ErrP ad g) (hs : Mem g w (zBn p d :: L)) (s : ByteArray) {k : Nat} {b : List UInt8} (hk : d.pread s = (k, b)) : Calls Tryz.prog 67 #[.pointer (some ⟨p, 0, none⟩), .string s] w (Ret fun v w' => ∃ a c, v = .tuple #[.slice a b.length c, zAq ad k] ∧ Mem g w' (own (.slice a b.length c) (zAm b) :: zBn p d :: L)) := by
  have hE := hP.ofPoint
  obtain ⟨ho, _⟩ := hs.openD
  have hle := ho.lenR_le s
  obtain ⟨kl, m, hl⟩ : ∃ kl m, d.lenR s = (kl, m) := ⟨_, _, rfl⟩
  rw [hl] at hle
  simp only at hle
  obtain ⟨kr, x, hr⟩ : ∃ kr x, d.readR s 0 (m : Int) = (kr, x) := ⟨_, _, rfl⟩
  simp only [Dk.pread, hl, hr] at hk
  refine zAl Tryz.func67 rfl rfl ?_
  skip
  refine zA5 (zA1 ?_)
  refine zA rfl (zA2 (v := .slice _ _ _) rfl) ?_
  refine zA rfl (zA2 (v := .nilIface) rfl) ?_
  refine zA4 (zA5 (zA1 ?_))
  refine zA rfl (zA0 (v := .pointer (some _)) rfl) ?_
  refine zA rfl (zA0 (v := .string _) rfl) ?_
  refine zA9 rfl en15 (len_sl hE hs s hl) ?_
  clear hs
  rintro _ w ⟨rfl, hs⟩
  refine zA rfl (zA0 (v := .tuple _) rfl) ?_
  refine zA rfl (zAa (v := .int .i64 _) rfl rfl) ?_
  refine zA rfl (zAa (v := zAq ad _) rfl rfl) ?_
  refine zA rfl (zA2 (v := .int .i64 _) rfl) ?_
  refine zA rfl (zA2 (v := zAq ad _) rfl) ?_
  refine zA4 ?_
  refine zA5 ?_
  refine zA5 (zA1 ?_)
  refine zA rfl (zA0 (v := zAq ad _) rfl) ?_
  refine zA rfl (zAy (ad := ad) rfl) ?_
  refine zA4 ?_
  refine zB7 rfl ?_ ?_
  ·
   intro h16
   have g16 := ne_t h16
   have hz : kl ≠ 0 := by simpa using h16
   rw [if_pos hz] at hk
   cases hk
   refine zA5 (zA1 ?_)
   refine zA rfl (zA0 (v := zAq ad _) rfl) ?_
   refine zA rfl (zA2 (v := .slice _ _ _) rfl) ?_
   refine zA rfl (zA2 (v := zAq ad _) rfl) ?_
   refine zA4 ?_
   refine zAf ?_
   refine res2 (v := .slice _ _ _) (v2 := zAq ad _) rfl rfl rfl ?_
   exact ⟨_, rfl, none, 0, rfl, hs.addE (zE3 _)⟩
  ·
   intro h16
   have g16 := ne_f h16
   have hz : kl = 0 := by simpa using h16
   rw [if_neg (by omega)] at hk
   refine zAd ?_
   refine zA5 (zA1 ?_)
   refine zA rfl (zA0 (v := .pointer (some _)) rfl) ?_
   refine zA rfl (zA0 (v := .string _) rfl) ?_
   refine zA rfl (zA0 (v := .int .i64 _) rfl) ?_
   refine zA9 rfl en76 (read_sl hE hs s (off := 0) (m := m) (inI (by decide) (by decide)) (inI (by omega) (by omega)) hr) ?_
   clear hs
   rintro _ w ⟨ar, cr, rfl, hs⟩
   refine zA rfl (zA0 (v := .tuple _) rfl) ?_
   refine zA rfl (zAa (v := .slice _ _ _) rfl rfl) ?_
   refine zA rfl (zAa (v := zAq ad _) rfl rfl) ?_
   refine zA rfl (zA2 (v := .slice _ _ _) rfl) ?_
   refine zA rfl (zA2 (v := zAq ad _) rfl) ?_
   refine zA4 ?_
   refine zA5 ?_
   refine zA5 (zA1 ?_)
   refine zA rfl (zA0 (v := zAq ad _) rfl) ?_
   refine zA rfl (zAy (ad := ad) rfl) ?_
   refine zA4 ?_
   refine zB7 rfl ?_ ?_
   ·
    intro h26
    have g26 := ne_t h26
    have hz2 : kr ≠ 0 := by simpa using h26
    rw [if_pos hz2] at hk
    cases hk
    refine zA5 (zA1 ?_)
    refine zA rfl (zA0 (v := zAq ad _) rfl) ?_
    refine zA rfl (zA2 (v := .slice _ _ _) rfl) ?_
    refine zA rfl (zA2 (v := zAq ad _) rfl) ?_
    refine zA4 ?_
    refine zAf ?_
    refine res2 (v := .slice _ _ _) (v2 := zAq ad _) rfl rfl rfl ?_
    exact ⟨_, rfl, none, 0, rfl, hs.tail.addE (zE3 _)⟩
   ·
    intro h26
    have g26 := ne_f h26
    have hz2 : kr = 0 := by simpa using h26
    rw [if_neg (by omega)] at hk
    obtain ⟨_, hoc, _⟩ := hs.ownForm 0 rfl
    have hxl : x.length ≤ 4194304 := readR_len hr hle
    refine zAd ?_
    refine zA5 (zA1 ?_)
    refine zA rfl (zA0 (v := .slice _ _ _) rfl) ?_
    refine zA9 rfl en108 (copen_sl hP hs (hs.rdOwn 0 rfl) rfl hoc (by omega) hk) ?_
    clear hs
    rintro _ w ⟨ao, co, rfl, hs⟩
    refine zA rfl (zAa (v := .slice _ _ _) rfl rfl) ?_
    refine zA rfl (zAa (v := zAq ad _) rfl rfl) ?_
    refine zA rfl (zA2 (v := .slice _ _ _) rfl) ?_
    refine zA rfl (zA2 (v := zAq ad _) rfl) ?_
    refine zA4 ?_
    refine zAf ?_
    refine res2 (v := .slice _ _ _) (v2 := zAq ad _) rfl rfl rfl ?_
    exact ⟨_, rfl, ao, co, rfl, hs.drop 1⟩
end Go.Proofs.YtdkgdjnbpjjfmaaGreatDoor
namespace Go.Proofs.YtdkgdjnbpjjfmaaGreatDoor
set_option linter.all false
open Go.RowKit
attribute [local irreducible] zAq eV
variable {g w : World} {L M : List HP} {ad : Nat → Addr} {p d pv ev : Nat} {dk : Dk} {f : ByteArray → Option (List UInt8)} {V U : Vw} {q r c n : Nat} {b : List UInt8}

/-! ### the files -/
def mtN : ByteArray := ⟨#[109, 101, 116, 97]⟩
def snN : ByteArray := ⟨#[109, 101, 116, 97, 45, 115, 110, 97, 112]⟩
abbrev LgN : List ByteArray := [mtN, snN]
theorem lgN_new : ∀ n ∈ LgN, zCa snN ≠ n := by decide +kernel
theorem mtN_valid : zC6 mtN.data.toList = true := by decide +kernel
theorem snN_valid : zC6 snN.data.toList = true := by decide +kernel
theorem snN_valid2 : zC6 (zCa snN).data.toList = true := by decide +kernel
theorem mt_sn : mtN ≠ snN := by decide +kernel
def snapB (q : Nat) (V : Vw) : List UInt8 := zB q ++ vwB V
/-- What the snapshot tells. -/
def Snp (f : ByteArray → Option (List UInt8)) (V : Vw) (q : Nat) : Prop := f snN = none ∧ V = [] ∧ q = 0 ∨ f snN = some (zBp (snapB q V))
theorem zEi {s : ByteArray} {v : List UInt8} (h : f s = some v) : zE f s v = f := by
  funext n
  unfold zE
  split
  · rename_i e; rw [e, h]
  · rfl
theorem updF_twice (f : ByteArray → Option (List UInt8)) (s : ByteArray) (u v : List UInt8) : zE (zE f s u) s v = zE f s v := by
  funext n
  unfold zE
  split
  · rfl
  · rfl
def zFo : List Nat := [101, 102, 103, 104, 105, 106, 107, 108, 109, 110, 112, 113]
abbrev ErrM (ad : Nat → Addr) (g : World) : Prop := Errs zFo ad g.heap.size g
theorem Errs.toV (h : ErrM ad g) : ErrV ad g := Errs.sub h (fun c hc => by simp only [viewCodes, zFo, List.mem_cons, List.not_mem_nil, or_false] at *; omega)
theorem Errs.toK (h : ErrM ad g) : ErrK ad g := Errs.sub h (fun c hc => by simp only [zDv, zFo, List.mem_cons, List.not_mem_nil, or_false] at *; omega)
theorem Errs.toP (h : ErrM ad g) : ErrP ad g := Errs.sub h (fun c hc => by simp only [zFu, zFo, List.mem_cons, List.not_mem_nil, or_false] at *; omega)
theorem Errs.toW (h : ErrM ad g) : ErrW ad g := Errs.sub h (fun c hc => by simp only [vintCodes, zFo, List.mem_cons, List.not_mem_nil, or_false] at *; omega)
theorem Ent.inv (h : Ent V q b U r c n) (hb : b ≠ []) : (ErdC b Option.none ∧ U = V ∧ r = q ∧ c = 0 ∧ n = 0) ∨ (∃ s z k x, ErdC b (some (s, (k, x), z)) ∧ s ≠ q + 1 ∧ U = V ∧ r = q ∧ c = 0 ∧ n = 0) ∨ (∃ z k x, ErdC b (some (q + 1, (k, x), z)) ∧ (V.apply k x).1.1 ≠ 0 ∧ U = V ∧ r = q ∧ c = 0 ∧ n = 0) ∨ (∃ z k x c' n', ErdC b (some (q + 1, (k, x), z)) ∧ (V.apply k x).1 = (0, Option.none) ∧ Ent (V.apply k x).2 (q + 1) (b.drop z) U r c' n' ∧ c = c' + 1 ∧ n = n' + z) := by
  cases h with
  | none h => exact .inl ⟨h.resolve_left hb, rfl, rfl, rfl, rfl⟩
  | @bad _ _ s z e _ h hq =>
    obtain ⟨k, x⟩ := e
    by_cases h1 : s = q + 1
    · subst h1; exact .inr (.inr (.inl ⟨z, k, x, h, hq.resolve_left (fun e => e rfl), rfl, rfl, rfl, rfl⟩))
    · exact .inr (.inl ⟨s, z, k, x, h, h1, rfl, rfl, rfl, rfl⟩)
  | @step _ _ _ _ z c' n' e _ h ha hn =>
    obtain ⟨k, x⟩ := e
    exact .inr (.inr (.inr ⟨z, k, x, c', n', h, ha, hn, rfl, rfl⟩))
theorem Ent.of_nil (h : Ent V q [] U r c n) : U = V ∧ r = q ∧ c = 0 ∧ n = 0 := by
  cases h with
  | none h => exact ⟨rfl, rfl, rfl, rfl⟩
  | bad h hq => exact ⟨rfl, rfl, rfl, rfl⟩
  | step h ha hn => have := (h.fine _ _ _ rfl).2; simp at this; omega
abbrev lgCells (d ev pv q c n : Nat) : List Value := [.pointer (some ⟨d, 0, none⟩), .int .i64 ev, .pointer (some ⟨pv, 0, none⟩), .int .i64 q, .int .i64 c, .int .i64 n]
abbrev lgP (p d ev pv q c n : Nat) : HP := cells p (lgCells d ev pv q c n) 74
def LogC (p d ev : Nat) (V : Vw) (q c n : Nat) : HP := ex fun pv : Nat => stars [lgP p d ev pv q c n, zCd pv V]
theorem Mem.openL (hs : Mem g w (LogC p d ev V q c n :: L)) : ∃ pv, Mem g w (lgP p d ev pv q c n :: zCd pv V :: L) := by
  obtain ⟨pv, h⟩ := hs.unex
  exact ⟨pv, h.unstars⟩
theorem Mem.closeL (hs : Mem g w (lgP p d ev pv q c n :: zCd pv V :: L)) : Mem g w (LogC p d ev V q c n :: L) :=
  Mem.ex (f := fun pv : Nat => Go.Proofs.YtdkgdjnbpjjfmaaGreatDoor.stars [lgP p d ev pv q c n, zCd pv V]) pv (Mem.stars (M := [lgP p d ev pv q c n, zCd pv V]) hs)
theorem zEz (hs : Mem g w (LogC p d ev V q c n :: L)) : Calls Tryz.prog 20 #[.pointer (some ⟨p, 0, none⟩)] w (Ret fun v w' => v = .int .i64 q ∧ Mem g w' (LogC p d ev V q c n :: L)) := by
  obtain ⟨pv, hs⟩ := hs.openL
  refine zAl Tryz.func20 rfl rfl ?_
  skip
  refine zA5 (zA1 ?_)
  refine zA rfl (zA2 (v := .int .i64 _) rfl) ?_
  refine zA4 (zA5 (zA1 ?_))
  refine zA rfl (zA0 (v := .pointer (some _)) rfl) ?_
  refine zA rfl (zA8 rfl) ?_
  refine zA rfl (zA3 (o' := 3) zD8 rfl sz2 rfl rfl rfl) ?_
  refine zA rfl (zA7 uz2 rfl rfl (hs.cellAt 0 rfl rfl)) ?_
  refine zA rfl (zA2 (v := .int .i64 _) rfl) ?_
  refine zA4 ?_
  refine zAf ?_
  refine zBj (v := .int .i64 _) rfl rfl ?_
  exact ⟨_, rfl, rfl, hs.closeL⟩
theorem zEb (hs : Mem g w (LogC p d ev V q c n :: L)) : Calls Tryz.prog 21 #[.pointer (some ⟨p, 0, none⟩)] w (Ret fun v w' => ∃ u, v = .pointer (some ⟨u, 0, none⟩) ∧ Mem g w' (zCd u V :: LogC p d ev V q c n :: L)) := by
  obtain ⟨pv, hs⟩ := hs.openL
  refine zAl Tryz.func21 rfl rfl ?_
  skip
  refine zA5 (zA1 ?_)
  refine zA rfl (zA2 (v := .pointer none) rfl) ?_
  refine zA4 (zA5 (zA1 ?_))
  refine zA rfl (zA0 (v := .pointer (some _)) rfl) ?_
  refine zA rfl (zA8 rfl) ?_
  refine zA rfl (zA3 (o' := 2) zD8 rfl sz33 rfl rfl rfl) ?_
  refine zA rfl (zA7 uz33 rfl rfl (hs.cellAt 0 rfl rfl)) ?_
  refine zA9 rfl en16 (zFk (hs.arr [1, 0] 2 (by decide))) ?_
  clear hs
  rintro _ w ⟨u, rfl, hs⟩
  refine zA rfl (zA2 (v := .pointer (some _)) rfl) ?_
  refine zA4 ?_
  refine zAf ?_
  refine zBj (v := .pointer (some _)) rfl rfl ?_
  exact ⟨_, rfl, u, rfl, (Mem.closeL (hs.arr [2, 1, 0] 3 (by decide))).arr [1, 0] 2 (by decide)⟩
theorem snapNo_sl (hM : ErrM ad g) (hs : Mem g w (lgP p d ev pv 0 0 0 :: zCd pv [] :: zBn d dk :: L)) (hp : dk.pread snN = (107, [])) : Calls Tryz.prog 33 #[.pointer (some ⟨p, 0, none⟩)] w (Ret fun v w' => v = .nilIface ∧ Mem g w' (lgP p d ev pv 0 0 0 :: zCd pv [] :: zBn d dk :: L)) := by
  have hP := hM.toP
  refine zAl Tryz.func33 rfl rfl ?_
  skip
  refine zA5 (zA1 ?_)
  refine zA rfl (zA2 (v := .nilIface) rfl) ?_
  refine zA4 (zA5 (zA1 ?_))
  refine zA rfl (zA0 (v := .pointer (some _)) rfl) ?_
  refine zA rfl (zA8 rfl) ?_
  refine zA rfl (zA3 (o' := 0) zD8 rfl sz25 rfl rfl rfl) ?_
  refine zA rfl (zA7 uz25 rfl rfl (hs.cellAt 0 rfl rfl)) ?_
  refine zA9 rfl en67 (pread_sl hP (hs.arr [2, 0, 1] 3 (by decide)) snN hp) ?_
  clear hs
  rintro _ w ⟨a11, c11, rfl, hs⟩
  refine zA rfl (zA0 (v := .tuple _) rfl) ?_
  refine zA rfl (zAa (v := .slice _ _ _) rfl rfl) ?_
  refine zA rfl (zAa (v := zAq ad _) rfl rfl) ?_
  refine zA rfl (zA2 (v := .slice _ _ _) rfl) ?_
  refine zA rfl (zA2 (v := zAq ad _) rfl) ?_
  refine zA4 ?_
  refine zA5 ?_
  refine zA5 (zA1 ?_)
  refine zA rfl (zA0 (v := zAq ad _) rfl) ?_
  refine zA rfl (zA7 zD1 rfl rfl (hP.cellW hs 107 (by decide) rfl)) ?_
  refine zA rfl (zEv (hP.atW hs) (by decide) (by decide) rfl rfl) ?_
  refine zA4 ?_
  refine zBa rfl (rfl) ?_
  refine zA5 (zA1 ?_)
  refine zA rfl (zA2 (v := .nilIface) rfl) ?_
  refine zA4 ?_
  refine zAf ?_
  refine zBj (v := .nilIface) rfl rfl ?_
  exact ⟨_, rfl, rfl, hs.arr [2, 3, 1] 4 (by decide)⟩
theorem snap_sl (hM : ErrM ad g) (hs : Mem g w (lgP p d ev pv 0 0 0 :: zCd pv U :: zBn d dk :: L)) (hp : dk.pread snN = (0, snapB q V)) (ho : V.ok) (hu : V.sums) (hl : V.length ≤ 100) (hq : q < 4611686018427387904) : Calls Tryz.prog 33 #[.pointer (some ⟨p, 0, none⟩)] w (Ret fun v w' => v = .nilIface ∧ ∃ pv', Mem g w' (lgP p d ev pv' q 0 0 :: zCd pv' V :: zBn d dk :: L)) := by
  have hP := hM.toP
  have hvb : (vwB V).length = (vwBody V).length + 4 := zBw _
  have hvl := vwBody_len ho hl
  have hql := zCh q
  have hsl : (snapB q V).length = (zB q).length + (vwB V).length := List.length_append
  have htk : ((snapB q V).take (snapB q V).length).drop (0 + (zB q).length) = vwB V := by rw [List.take_length, Nat.zero_add, snapB, List.drop_left]
  refine zAl Tryz.func33 rfl rfl ?_
  skip
  refine zA5 (zA1 ?_)
  refine zA rfl (zA2 (v := .nilIface) rfl) ?_
  refine zA4 (zA5 (zA1 ?_))
  refine zA rfl (zA0 (v := .pointer (some _)) rfl) ?_
  refine zA rfl (zA8 rfl) ?_
  refine zA rfl (zA3 (o' := 0) zD8 rfl sz25 rfl rfl rfl) ?_
  refine zA rfl (zA7 uz25 rfl rfl (hs.cellAt 0 rfl rfl)) ?_
  refine zA9 rfl en67 (pread_sl hP (hs.arr [2, 0, 1] 3 (by decide)) snN hp) ?_
  clear hs
  rintro _ w ⟨a11, c11, rfl, hs⟩
  refine zA rfl (zA0 (v := .tuple _) rfl) ?_
  refine zA rfl (zAa (v := .slice _ _ _) rfl rfl) ?_
  refine zA rfl (zAa (v := zAq ad _) rfl rfl) ?_
  refine zA rfl (zA2 (v := .slice _ _ _) rfl) ?_
  refine zA rfl (zA2 (v := zAq ad _) rfl) ?_
  refine zA4 ?_
  refine zA5 ?_
  refine zA5 (zA1 ?_)
  refine zA rfl (zA0 (v := zAq ad _) rfl) ?_
  refine zA rfl (zA7 zD1 rfl rfl (hP.cellW hs 107 (by decide) rfl)) ?_
  refine zA rfl (zEv (hP.atW hs) (by decide) (by decide) rfl rfl) ?_
  refine zA4 ?_
  refine zAv rfl (rfl) ?_
  refine zAd ?_
  refine zA5 ?_
  refine zA5 (zA1 ?_)
  refine zA rfl (zA0 (v := zAq ad _) rfl) ?_
  refine zA rfl (zAy (ad := ad) rfl) ?_
  refine zA4 ?_
  refine zAv rfl (rfl) ?_
  refine zAd ?_
  refine zA5 (zA1 ?_)
  refine zA rfl (zA0 (v := .slice _ _ _) rfl) ?_
  refine zA9 rfl en68 (newr_sl ad hs (hs.rdOwn 0 rfl) rfl (by omega)) ?_
  clear hs
  rintro _ w ⟨rb, rfl, hs⟩
  refine zA rfl (zA2 (v := .pointer (some _)) rfl) ?_
  refine zA4 (zA5 (zA1 ?_))
  refine zA rfl (zA0 (v := .pointer (some _)) rfl) ?_
  refine zA rfl (zA0 (v := .pointer (some _)) rfl) ?_
  refine zA9 rfl en69 (zBo (rest := vwB V) (n := q) (most := 9223372036854775807) hM.toW hs (by omega) (by rfl) (by omega) (by omega)) ?_
  clear hs
  rintro _ w ⟨rfl, hs⟩
  refine zA rfl (zAo zC0 uz2 rfl (c := ((q : Nat) : Int)) (zE6.wrap ⟨by omega, by omega⟩)) ?_
  refine zA rfl (zA8 rfl) ?_
  refine zA rfl (zA3 (o' := 3) zD8 rfl sz2 rfl rfl rfl) ?_
  refine zAs (v := .int .i64 _) hs 3 rfl sz2 rfl rfl rfl rfl ?_
  clear hs
  intro w hs
  try simp only [List.set_cons_succ, List.set_cons_zero] at hs
  refine zA4 ?_
  refine zA5 ?_
  refine zA5 (zA1 ?_)
  refine zA rfl (zA0 (v := .pointer (some _)) rfl) ?_
  refine zA9 rfl en70 (errOK_sl hs) ?_
  clear hs
  rintro _ w ⟨rfl, hs⟩
  refine zA rfl (zBi rfl) ?_
  refine zA4 ?_
  refine zAv rfl (rfl) ?_
  refine zAd ?_
  refine zA5 (zA1 ?_)
  refine zA rfl (zA0 (v := .pointer (some _)) rfl) ?_
  refine zA rfl (zA0 (v := .slice _ _ _) rfl) ?_
  refine zA rfl (zA0 (v := .pointer (some _)) rfl) ?_
  refine zA9 rfl en72 (at_sl hs) ?_
  clear hs
  rintro _ w ⟨rfl, hs⟩
  refine zA rfl (zCv zBz sz5 rfl rfl (lo := 0 + (zB q).length) rfl (by omega)) ?_
  refine zA9 rfl en71 (readq_sl hP hM.toW hM.toV hs ho hu hl (by rw [← htk]; exact (hs.rdOwn 1 rfl).subB (by omega) (Nat.le_refl _)) (by omega) (by have := (hs.ownForm 1 rfl).2.1; omega)) ?_
  clear hs
  rintro _ w ⟨pw, rfl, hs⟩
  refine zA rfl (zA0 (v := .tuple _) rfl) ?_
  refine zA rfl (zAa (v := .pointer (some _)) rfl rfl) ?_
  refine zA rfl (zAa (v := .nilIface) rfl rfl) ?_
  refine zA rfl (zA8 rfl) ?_
  refine zA rfl (zA3 (o' := 2) zD8 rfl sz33 rfl rfl rfl) ?_
  refine zAs (v := .pointer (some _)) hs 4 rfl sz33 rfl rfl rfl rfl ?_
  clear hs
  intro w hs
  try simp only [List.set_cons_succ, List.set_cons_zero] at hs
  refine zA rfl (zA2 (v := .nilIface) rfl) ?_
  refine zA4 (zA5 (zA1 ?_))
  refine zA rfl (zA0 (v := .nilIface) rfl) ?_
  refine zA rfl (zA2 (v := .nilIface) rfl) ?_
  refine zA4 ?_
  refine zAf ?_
  refine zBj (v := .nilIface) rfl rfl ?_
  exact ⟨_, rfl, rfl, pw, hs.arr [4, 0, 3] 6 (by decide)⟩
theorem zFb : mtN ∈ LgN := List.mem_cons_self ..
theorem mem_sn : snN ∈ LgN := List.mem_cons_of_mem _ (List.mem_cons_self ..)
abbrev LgI (f : ByteArray → Option (List UInt8)) (d : Dk) : Prop := RawI LgN 200000 f d
set_option maxHeartbeats 2000000 in
set_option maxRecDepth 10000 in
theorem entries_sl (hM : ErrM ad g) {V0 : Vw} {q0 : Nat} {mb : List UInt8} (hI : LgI f dk) (ha : dk.armed = 0) (hcl : dk.calls < 900000) (hf : f mtN = some mb) (hml : mb.length ≤ 1000000) (hent : Ent V0 q0 mb V q c n) (hq : q < 4611686018427387904) (hs : Mem g w (lgP p d ev pv q0 0 0 :: zCd pv V0 :: zBn d dk :: L)) :
    Calls Tryz.prog 36 #[.pointer (some ⟨p, 0, none⟩), .int .i64 (mb.length : Nat)] w (Ret fun v w' => v = .nilIface ∧ ∃ dk2, dk2.armed = 0 ∧ dk2.room = dk.room ∧ dk2.calls ≤ dk.calls + 2 ∧ LgI (zE f mtN (mb.take n)) dk2 ∧ Mem g w' (lgP p d ev pv q c n :: zCd pv V :: zBn d dk2 :: L)) := by
  have hK := hM.toK
  have hV := hM.toV
  have hle := hent.le
  refine zAl Tryz.func36 rfl rfl ?_
  skip
  refine zA5 (zA1 ?_)
  refine zA rfl (zA2 (v := .nilIface) rfl) ?_
  refine zA4 (zA5 (zA1 ?_))
  refine zA rfl (zA0 (v := .pointer (some _)) rfl) ?_
  refine zA rfl (zA8 rfl) ?_
  refine zA rfl (zA3 (o' := 0) zD8 rfl sz25 rfl rfl rfl) ?_
  refine zA rfl (zA7 uz25 rfl rfl (hs.cellAt 0 rfl rfl)) ?_
  refine zA rfl (zA0 (v := .int .i64 _) rfl) ?_
  refine zA9 rfl en76 (read_sl hK (hs.arr [2, 0, 1] 3 (by decide)) mtN (off := 0) (m := (mb.length : Int)) (inI (by decide) (by decide)) (inI (by omega) (by omega)) (hI.readR zFb hf)) ?_
  clear hs
  rintro _ w ⟨a18, c18, rfl, hs⟩
  rw [zB2]
  refine zA rfl (zA0 (v := .tuple _) rfl) ?_
  refine zA rfl (zAa (v := .slice _ _ _) rfl rfl) ?_
  refine zA rfl (zAa (v := .nilIface) rfl rfl) ?_
  refine zA rfl (zA2 (v := .slice _ _ _) rfl) ?_
  refine zA rfl (zA2 (v := .nilIface) rfl) ?_
  refine zA4 ?_
  refine zA5 ?_
  refine zA5 (zA1 ?_)
  refine zA rfl (zA0 (v := .nilIface) rfl) ?_
  refine zA rfl (zBi rfl) ?_
  refine zA4 ?_
  refine zAv rfl (rfl) ?_
  refine zAd ?_
  refine zA5 ?_
  refine zAt ?_
  refine zBs (X := Vw × Nat × Nat × Nat) [7, 8, 9, 10, 24, 25, 26, 27, 28, 29, 30, 31, 32, 33, 34, 35, 36, 37, 38, 39, 40, 41, 42, 43, 44, 45, 46, 47, 48, 49, 50, 51, 52, 53, 54, 55, 56, 57, 58, 59, 60, 61, 62, 63, 64, 65, 66, 67, 68, 69, 70, 71, 72, 73, 74, 75, 76, 77, 78, 79, 80, 81, 82, 83, 84, 85, 86, 87, 88, 89] (fun x => []) (fun x w => (x.2.2.2 ≤ mb.length ∧ ∃ c' n', Ent x.1 x.2.1 (mb.drop x.2.2.2) V q c' n' ∧ x.2.2.1 + c' = c ∧ x.2.2.2 + n' = n) ∧ Mem g w (lgP p d ev pv x.2.1 x.2.2.1 x.2.2.2 :: own (.slice a18 mb.length c18) (zAm mb) :: zBn d dk :: zCd pv x.1 :: L)) (fun x => mb.length - x.2.2.2) ((V0, q0, 0, 0)) ?_ ?_ ?_
  · exact trivial
  · exact ⟨⟨Nat.zero_le _, c, n, hent, Nat.zero_add _, Nat.zero_add _⟩, hs.arr [2, 0, 1, 3] 4 (by decide)⟩
  clear hs
  rintro x ξ w hI
  obtain ⟨W, qc, cc, pos⟩ := x
  obtain ⟨⟨hpl, c', n', hE, hce, hne⟩, hs⟩ := hI
  simp only at hpl hE hce hne hs
  have hEl := hE.le
  refine zA5 ?_
  refine zA5 (zA1 ?_)
  refine zA rfl (zA0 (v := .pointer (some _)) rfl) ?_
  refine zA rfl (zA8 rfl) ?_
  refine zA rfl (zA3 (o' := 5) zD8 rfl sz3 rfl rfl rfl) ?_
  refine zA rfl (zA7 uz3 rfl rfl (hs.cellAt 0 rfl rfl)) ?_
  refine zA rfl (zA0 (v := .int .i64 _) rfl) ?_
  refine zA rfl (zB4 rfl rfl) ?_
  refine zA4 ?_
  refine zB7 rfl ?_ ?_
  ·
   intro h29
   have g29 := of_decide_eq_true h29
   have hbn : mb.drop pos ≠ [] := fun e => by have := List.drop_eq_nil_iff.1 e; omega
   have hcap := (hs.ownForm 1 rfl).2.1
   refine zAd ?_
   refine zAt ?_
   refine zA5 ?_
   obtain ⟨hr, rfl, rfl, rfl, rfl⟩ | ⟨s, z, k, x, hr, hbs, rfl, rfl, rfl, rfl⟩ | ⟨z, k, x, hr, hba, rfl, rfl, rfl, rfl⟩ | ⟨z, k, x, c2, n2, hr, hap, hE2, rfl, rfl⟩ := hE.inv hbn
   ·
    refine zA1 ?_
    refine zA rfl (zA0 (v := .slice _ _ _) rfl) ?_
    refine zA rfl (zA0 (v := .pointer (some _)) rfl) ?_
    refine zA rfl (zA8 rfl) ?_
    refine zA rfl (zA3 (o' := 5) zD8 rfl sz3 rfl rfl rfl) ?_
    refine zA rfl (zA7 uz3 rfl rfl (hs.cellAt 0 rfl rfl)) ?_
    refine zA rfl (zCv zBz sz5 rfl rfl (lo := pos) rfl (by omega)) ?_
    refine zA9 rfl en77 (hr.calls hM.toP hM.toW hV hs (by have h9 := (hs.rdOwn 1 rfl).subB (lo := pos) (hi := mb.length) (by omega) (Nat.le_refl _); rw [List.take_length] at h9; exact h9) (by simp) (by omega)) ?_
    clear hs
    rintro _ w ⟨fe, eb, hfp, hf0, rfl, hs⟩
    refine zA rfl (zA0 (v := .tuple _) rfl) ?_
    refine zA rfl (zAa (v := .int .i64 _) rfl rfl) ?_
    refine zA rfl (zAa (v := .agg _) rfl rfl) ?_
    refine zA rfl (zAa (v := .int .i64 _) rfl rfl) ?_
    refine zA rfl (zAa (v := flV ad _ _) rfl rfl) ?_
    refine zBd hs rfl ze41 ?_
    clear hs
    intro b8 w hs
    try simp only [List.set_cons_succ, List.set_cons_zero] at hs
    refine zA rfl (zA2 (v := .int .i64 _) rfl) ?_
    refine zAp hs 0 rfl rfl rfl sz41 rfl rfl ?_
    clear hs
    intro w hs
    try simp only [List.set_cons_succ, List.set_cons_zero] at hs
    refine zA rfl (zA2 (v := .int .i64 _) rfl) ?_
    refine zA rfl (zA2 (v := flV ad _ _) rfl) ?_
    refine zA4 ?_
    refine zA5 ?_
    refine zA5 ?_
    refine zAz zBx (hs.drop 5) ?_
    intro w tr hK
    replace hs := tr _ hs
    clear tr
    refine zA6 0 rfl rfl (fun w hs => zA0 (v := flV ad _ _) rfl) hK ?_
    refine zA6 1 rfl rfl (fun w hs => run_neF hfp rfl) hK ?_
    refine zA6 2 rfl rfl (fun w hs => zA0 (v := .bool _) rfl) hK ?_
    refine zAe 3 rfl rfl rfl rfl ((by simp [hf0])) hK ?_
    refine zAe 4 rfl rfl rfl rfl ((by simp [hf0])) hK ?_
    refine zAe 5 rfl rfl rfl rfl ((by simp [hf0])) hK ?_
    refine zAe 6 rfl rfl rfl rfl ((by simp [hf0])) hK ?_
    refine zAe 7 rfl rfl rfl rfl ((by simp [hf0])) hK ?_
    refine zA6 8 rfl rfl (fun w hs => zAj (v := .bool _) rfl ((by simp [hf0])) rfl) hK ?_
    refine zA6 9 rfl rfl (fun w hs => zA0 (v := .bool _) rfl) hK ?_
    refine zAe 10 rfl rfl rfl rfl rfl hK ?_
    refine zAe 11 rfl rfl rfl rfl rfl hK ?_
    refine zAe 12 rfl rfl rfl rfl rfl hK ?_
    refine zAe 13 rfl rfl rfl rfl rfl hK ?_
    refine zAe 14 rfl rfl rfl rfl rfl hK ?_
    refine zAe 15 rfl rfl rfl rfl rfl hK ?_
    refine zAe 16 rfl rfl rfl rfl rfl hK ?_
    refine zA6 17 rfl rfl (fun w hs => zAj (v := .bool _) rfl rfl rfl) hK ?_
    refine zA6 18 rfl rfl (fun w hs => zA0 (v := .bool _) rfl) hK ?_
    refine zAe 19 rfl rfl rfl rfl rfl hK ?_
    refine zAe 20 rfl rfl rfl rfl rfl hK ?_
    refine zAe 21 rfl rfl rfl rfl rfl hK ?_
    refine zAe 22 rfl rfl rfl rfl rfl hK ?_
    refine zAe 23 rfl rfl rfl rfl rfl hK ?_
    refine zAe 24 rfl rfl rfl rfl rfl hK ?_
    refine zAe 25 rfl rfl rfl rfl rfl hK ?_
    refine zA6 26 rfl rfl (fun w hs => zAj (v := .bool _) rfl rfl rfl) hK ?_
    refine zAu (by kernel_rfl) ?_
    clear hK
    refine zBa rfl rfl ?_
    refine zBk rfl ?_
    refine zA5 ?_
    refine zA5 ?_
    have e5 : c = cc := by omega
    subst e5
    have e6 : n = pos := by omega
    subst e6
    have h9 : Mem g w (lgP p d ev pv q c n :: own (.slice a18 mb.length c18) (zAm mb) :: zBn d dk :: zCd pv V :: L) := hs.tail.tail
    replace hs := h9
    clear h9
    refine zA1 ?_
    refine zA rfl (zA0 (v := .pointer (some _)) rfl) ?_
    refine zA rfl (zA8 rfl) ?_
    refine zA rfl (zA3 (o' := 5) zD8 rfl sz3 rfl rfl rfl) ?_
    refine zA rfl (zA7 uz3 rfl rfl (hs.cellAt 0 rfl rfl)) ?_
    refine zA rfl (zA0 (v := .int .i64 _) rfl) ?_
    refine zA rfl (zBu rfl rfl) ?_
    refine zA4 ?_
    refine zB7 rfl ?_ ?_
    ·
     intro h95
     have g95 := of_decide_eq_true h95
     refine zA5 (zA1 ?_)
     refine zA rfl (zA2 (v := .nilIface) rfl) ?_
     refine zA4 ?_
     refine zAf ?_
     refine zBj (v := .nilIface) rfl rfl ?_
     exact ⟨_, rfl, rfl, dk, ha, rfl, by omega, by rw [List.take_of_length_le (by omega), zEi hf]; exact hI, hs.arr [0, 3, 2] 4 (by decide)⟩
    ·
     intro h95
     have g95 := of_decide_eq_false h95
     obtain ⟨kc, dc, hcut, hcr, hcc, hccase⟩ := hI.cut zFb hf (m := n) (by omega)
     obtain ⟨rfl, hup2, har2, hI4⟩ := hccase.resolve_right (fun h => h.2.2.1 ha)
     refine zAd ?_
     refine zA5 ?_
     refine zA5 ?_
     refine zAz zBx (hs.drop 2) ?_
     intro w tr hK
     replace hs := tr _ hs
     clear tr
     refine zA6 0 rfl rfl (fun w hs => zA0 (v := .pointer (some _)) rfl) hK ?_
     refine zA6 1 rfl rfl (fun w hs => zA8 rfl) hK ?_
     refine zA6 2 rfl rfl (fun w hs => zA3 (o' := 0) zD8 rfl sz25 rfl rfl rfl) hK ?_
     refine zA6 3 rfl rfl (fun w hs => zA7 uz25 rfl rfl (hs.cellAt 0 rfl rfl)) hK ?_
     refine zA6 4 rfl rfl (fun w hs => zA0 (v := .pointer (some _)) rfl) hK ?_
     refine zA6 5 rfl rfl (fun w hs => zA8 rfl) hK ?_
     refine zA6 6 rfl rfl (fun w hs => zA3 (o' := 5) zD8 rfl sz3 rfl rfl rfl) hK ?_
     refine zA6 7 rfl rfl (fun w hs => zA7 uz3 rfl rfl (hs.cellAt 0 rfl rfl)) hK ?_
     refine zAb [8] ?_
     refine ⟨⟨_, rfl, ?_⟩, trivial⟩
     refine zA9 rfl en18 (cut_sl hM.toK (hs.arr [2, 0, 1, 3] 4 (by decide)) (by omega) mtN (m := ((n : Nat) : Int)) (inI (by omega) (by omega)) hcut) ?_
     clear hs
     rintro _ w ⟨rfl, hs⟩
     clear hK
     have hK := hs.tail
     refine zA4 ⟨hK, ?_⟩
     refine zA6 9 rfl rfl (fun w hs => zA2 (v := zAq ad _) rfl) hK ?_
     refine zAu (by kernel_rfl) ?_
     clear hK
     refine zA5 (zA1 ?_)
     refine zA rfl (zA0 (v := zAq ad _) rfl) ?_
     refine zA rfl (zAy (ad := ad) rfl) ?_
     refine zA4 ?_
     refine zAv rfl (rfl) ?_
     refine zAd ?_
     refine zA5 ?_
     have hI5 := hI4 (hs.openD).1
     obtain ⟨ds, hsy, hsr, hsa, hsc, hI6⟩ := hI5.sync (har2 ha) zFb (zCy _ _ _)
     refine zA1 ?_
     refine zA rfl (zA0 (v := .pointer (some _)) rfl) ?_
     refine zA rfl (zA8 rfl) ?_
     refine zA rfl (zA3 (o' := 0) zD8 rfl sz25 rfl rfl rfl) ?_
     refine zA rfl (zA7 uz25 rfl rfl (hs.cellAt 1 rfl rfl)) ?_
     refine zA9 rfl en39 (sync_sl hM.toK hs (by omega) mtN hsy) ?_
     clear hs
     rintro _ w ⟨rfl, hs⟩
     refine zA rfl (zA2 (v := zAq ad _) rfl) ?_
     refine zA4 ?_
     refine zAf ?_
     refine zBj (v := zAq ad _) rfl rfl ?_
     exact ⟨_, rfl, zB2 ad, ds, hsa, hsr.trans hcr, by omega, hI6 (hs.openD).1, hs.arr [1, 3, 0] 4 (by decide)⟩
   ·
    refine zA1 ?_
    refine zA rfl (zA0 (v := .slice _ _ _) rfl) ?_
    refine zA rfl (zA0 (v := .pointer (some _)) rfl) ?_
    refine zA rfl (zA8 rfl) ?_
    refine zA rfl (zA3 (o' := 5) zD8 rfl sz3 rfl rfl rfl) ?_
    refine zA rfl (zA7 uz3 rfl rfl (hs.cellAt 0 rfl rfl)) ?_
    refine zA rfl (zCv zBz sz5 rfl rfl (lo := pos) rfl (by omega)) ?_
    refine zA9 rfl en77 (hr.calls hM.toP hM.toW hV hs (by have h9 := (hs.rdOwn 1 rfl).subB (lo := pos) (hi := mb.length) (by omega) (Nat.le_refl _); rw [List.take_length] at h9; exact h9) (by simp) (by omega)) ?_
    clear hs
    rintro _ w ⟨s1, s2, rfl, hs⟩
    simp only [mfP, List.cons_append, List.nil_append] at hs
    refine zA rfl (zA0 (v := .tuple _) rfl) ?_
    refine zA rfl (zAa (v := .int .i64 _) rfl rfl) ?_
    refine zA rfl (zAa (v := .agg _) rfl rfl) ?_
    refine zA rfl (zAa (v := .int .i64 _) rfl rfl) ?_
    refine zA rfl (zAa (v := .nilIface) rfl rfl) ?_
    refine zBd hs rfl ze41 ?_
    clear hs
    intro b8 w hs
    try simp only [List.set_cons_succ, List.set_cons_zero] at hs
    refine zA rfl (zA2 (v := .int .i64 _) rfl) ?_
    refine zAp hs 0 rfl rfl rfl sz41 rfl rfl ?_
    clear hs
    intro w hs
    try simp only [List.set_cons_succ, List.set_cons_zero] at hs
    refine zA rfl (zA2 (v := .int .i64 _) rfl) ?_
    refine zA rfl (zA2 (v := .nilIface) rfl) ?_
    refine zA4 ?_
    refine zA5 ?_
    refine zA5 ?_
    refine zAz zBx (hs.drop 6) ?_
    intro w tr hK
    replace hs := tr _ hs
    clear tr
    refine zA6 0 rfl rfl (fun w hs => zA0 (v := .nilIface) rfl) hK ?_
    refine zA6 1 rfl rfl (fun w hs => zBi rfl) hK ?_
    refine zA6 2 rfl rfl (fun w hs => zA0 (v := .bool _) rfl) hK ?_
    refine zAg 3 rfl rfl rfl rfl (rfl) (fun w hs => zA0 (v := .pointer (some _)) rfl) hK ?_
    refine zAg 4 rfl rfl rfl rfl (rfl) (fun w hs => zA8 rfl) hK ?_
    refine zAg 5 rfl rfl rfl rfl (rfl) (fun w hs => zA3 (o' := 3) zD8 rfl sz2 rfl rfl rfl) hK ?_
    refine zAg 6 rfl rfl rfl rfl (rfl) (fun w hs => zA7 uz2 rfl rfl (hs.cellAt 3 rfl rfl)) hK ?_
    refine zAg 7 rfl rfl rfl rfl (rfl) (fun w hs => zBu rfl rfl) hK ?_
    refine zA6 8 rfl rfl (fun w hs => zAk (v := .bool _) rfl (rfl) rfl) hK ?_
    refine zA6 9 rfl rfl (fun w hs => zA0 (v := .bool _) rfl) hK ?_
    refine zAg 10 rfl rfl rfl rfl (decide_eq_false (by omega)) (fun w hs => zA0 (v := .int .i64 _) rfl) hK ?_
    refine zAg 11 rfl rfl rfl rfl (decide_eq_false (by omega)) (fun w hs => zA0 (v := .pointer (some _)) rfl) hK ?_
    refine zAg 12 rfl rfl rfl rfl (decide_eq_false (by omega)) (fun w hs => zA8 rfl) hK ?_
    refine zAg 13 rfl rfl rfl rfl (decide_eq_false (by omega)) (fun w hs => zA3 (o' := 3) zD8 rfl sz2 rfl rfl rfl) hK ?_
    refine zAg 14 rfl rfl rfl rfl (decide_eq_false (by omega)) (fun w hs => zA7 uz2 rfl rfl (hs.cellAt 3 rfl rfl)) hK ?_
    refine zAg 15 rfl rfl rfl rfl (decide_eq_false (by omega)) (fun w hs => zAn rfl rfl (c := ((q + 1 : Nat) : Int)) (by omega) (inI (by omega) (by omega))) hK ?_
    refine zAg 16 rfl rfl rfl rfl (decide_eq_false (by omega)) (fun w hs => zD7 rfl rfl) hK ?_
    refine zA6 17 rfl rfl (fun w hs => zAk (v := .bool _) rfl (decide_eq_false (by omega)) rfl) hK ?_
    refine zA6 18 rfl rfl (fun w hs => zA0 (v := .bool _) rfl) hK ?_
    refine zAe 19 rfl rfl rfl rfl ((by first | (rw [decide_eq_false (show ¬ ((s : Nat) : Int) = ((q + 1 : Nat) : Int) by omega)]; rfl) | rw [decide_eq_false (show ¬ ((s : Nat) : Int) = ((q + 1 : Nat) : Int) by omega)])) hK ?_
    refine zAe 20 rfl rfl rfl rfl ((by first | (rw [decide_eq_false (show ¬ ((s : Nat) : Int) = ((q + 1 : Nat) : Int) by omega)]; rfl) | rw [decide_eq_false (show ¬ ((s : Nat) : Int) = ((q + 1 : Nat) : Int) by omega)])) hK ?_
    refine zAe 21 rfl rfl rfl rfl ((by first | (rw [decide_eq_false (show ¬ ((s : Nat) : Int) = ((q + 1 : Nat) : Int) by omega)]; rfl) | rw [decide_eq_false (show ¬ ((s : Nat) : Int) = ((q + 1 : Nat) : Int) by omega)])) hK ?_
    refine zAe 22 rfl rfl rfl rfl ((by first | (rw [decide_eq_false (show ¬ ((s : Nat) : Int) = ((q + 1 : Nat) : Int) by omega)]; rfl) | rw [decide_eq_false (show ¬ ((s : Nat) : Int) = ((q + 1 : Nat) : Int) by omega)])) hK ?_
    refine zAe 23 rfl rfl rfl rfl ((by first | (rw [decide_eq_false (show ¬ ((s : Nat) : Int) = ((q + 1 : Nat) : Int) by omega)]; rfl) | rw [decide_eq_false (show ¬ ((s : Nat) : Int) = ((q + 1 : Nat) : Int) by omega)])) hK ?_
    refine zAe 24 rfl rfl rfl rfl ((by first | (rw [decide_eq_false (show ¬ ((s : Nat) : Int) = ((q + 1 : Nat) : Int) by omega)]; rfl) | rw [decide_eq_false (show ¬ ((s : Nat) : Int) = ((q + 1 : Nat) : Int) by omega)])) hK ?_
    refine zAe 25 rfl rfl rfl rfl ((by first | (rw [decide_eq_false (show ¬ ((s : Nat) : Int) = ((q + 1 : Nat) : Int) by omega)]; rfl) | rw [decide_eq_false (show ¬ ((s : Nat) : Int) = ((q + 1 : Nat) : Int) by omega)])) hK ?_
    first | refine zA6 26 rfl rfl (fun w hs => zAj (v := .bool _) rfl ((by first | (rw [decide_eq_false (show ¬ ((s : Nat) : Int) = ((q + 1 : Nat) : Int) by omega)]; rfl) | rw [decide_eq_false (show ¬ ((s : Nat) : Int) = ((q + 1 : Nat) : Int) by omega)])) rfl) hK ?_
    refine zAu (by kernel_rfl) ?_
    clear hK
    refine zBa rfl rfl ?_
    refine zBk rfl ?_
    refine zA5 ?_
    refine zA5 ?_
    have e5 : c = cc := by omega
    subst e5
    have e6 : n = pos := by omega
    subst e6
    have h9 : Mem g w (lgP p d ev pv q c n :: own (.slice a18 mb.length c18) (zAm mb) :: zBn d dk :: zCd pv V :: L) := hs.tail.tail.tail
    replace hs := h9
    clear h9
    refine zA1 ?_
    refine zA rfl (zA0 (v := .pointer (some _)) rfl) ?_
    refine zA rfl (zA8 rfl) ?_
    refine zA rfl (zA3 (o' := 5) zD8 rfl sz3 rfl rfl rfl) ?_
    refine zA rfl (zA7 uz3 rfl rfl (hs.cellAt 0 rfl rfl)) ?_
    refine zA rfl (zA0 (v := .int .i64 _) rfl) ?_
    refine zA rfl (zBu rfl rfl) ?_
    refine zA4 ?_
    refine zB7 rfl ?_ ?_
    ·
     intro h95
     have g95 := of_decide_eq_true h95
     refine zA5 (zA1 ?_)
     refine zA rfl (zA2 (v := .nilIface) rfl) ?_
     refine zA4 ?_
     refine zAf ?_
     refine zBj (v := .nilIface) rfl rfl ?_
     exact ⟨_, rfl, rfl, dk, ha, rfl, by omega, by rw [List.take_of_length_le (by omega), zEi hf]; exact hI, hs.arr [0, 3, 2] 4 (by decide)⟩
    ·
     intro h95
     have g95 := of_decide_eq_false h95
     obtain ⟨kc, dc, hcut, hcr, hcc, hccase⟩ := hI.cut zFb hf (m := n) (by omega)
     obtain ⟨rfl, hup2, har2, hI4⟩ := hccase.resolve_right (fun h => h.2.2.1 ha)
     refine zAd ?_
     refine zA5 ?_
     refine zA5 ?_
     refine zAz zBx (hs.drop 2) ?_
     intro w tr hK
     replace hs := tr _ hs
     clear tr
     refine zA6 0 rfl rfl (fun w hs => zA0 (v := .pointer (some _)) rfl) hK ?_
     refine zA6 1 rfl rfl (fun w hs => zA8 rfl) hK ?_
     refine zA6 2 rfl rfl (fun w hs => zA3 (o' := 0) zD8 rfl sz25 rfl rfl rfl) hK ?_
     refine zA6 3 rfl rfl (fun w hs => zA7 uz25 rfl rfl (hs.cellAt 0 rfl rfl)) hK ?_
     refine zA6 4 rfl rfl (fun w hs => zA0 (v := .pointer (some _)) rfl) hK ?_
     refine zA6 5 rfl rfl (fun w hs => zA8 rfl) hK ?_
     refine zA6 6 rfl rfl (fun w hs => zA3 (o' := 5) zD8 rfl sz3 rfl rfl rfl) hK ?_
     refine zA6 7 rfl rfl (fun w hs => zA7 uz3 rfl rfl (hs.cellAt 0 rfl rfl)) hK ?_
     refine zAb [8] ?_
     refine ⟨⟨_, rfl, ?_⟩, trivial⟩
     refine zA9 rfl en18 (cut_sl hM.toK (hs.arr [2, 0, 1, 3] 4 (by decide)) (by omega) mtN (m := ((n : Nat) : Int)) (inI (by omega) (by omega)) hcut) ?_
     clear hs
     rintro _ w ⟨rfl, hs⟩
     clear hK
     have hK := hs.tail
     refine zA4 ⟨hK, ?_⟩
     refine zA6 9 rfl rfl (fun w hs => zA2 (v := zAq ad _) rfl) hK ?_
     refine zAu (by kernel_rfl) ?_
     clear hK
     refine zA5 (zA1 ?_)
     refine zA rfl (zA0 (v := zAq ad _) rfl) ?_
     refine zA rfl (zAy (ad := ad) rfl) ?_
     refine zA4 ?_
     refine zAv rfl (rfl) ?_
     refine zAd ?_
     refine zA5 ?_
     have hI5 := hI4 (hs.openD).1
     obtain ⟨ds, hsy, hsr, hsa, hsc, hI6⟩ := hI5.sync (har2 ha) zFb (zCy _ _ _)
     refine zA1 ?_
     refine zA rfl (zA0 (v := .pointer (some _)) rfl) ?_
     refine zA rfl (zA8 rfl) ?_
     refine zA rfl (zA3 (o' := 0) zD8 rfl sz25 rfl rfl rfl) ?_
     refine zA rfl (zA7 uz25 rfl rfl (hs.cellAt 1 rfl rfl)) ?_
     refine zA9 rfl en39 (sync_sl hM.toK hs (by omega) mtN hsy) ?_
     clear hs
     rintro _ w ⟨rfl, hs⟩
     refine zA rfl (zA2 (v := zAq ad _) rfl) ?_
     refine zA4 ?_
     refine zAf ?_
     refine zBj (v := zAq ad _) rfl rfl ?_
     exact ⟨_, rfl, zB2 ad, ds, hsa, hsr.trans hcr, by omega, hI6 (hs.openD).1, hs.arr [1, 3, 0] 4 (by decide)⟩
   ·
    refine zA1 ?_
    refine zA rfl (zA0 (v := .slice _ _ _) rfl) ?_
    refine zA rfl (zA0 (v := .pointer (some _)) rfl) ?_
    refine zA rfl (zA8 rfl) ?_
    refine zA rfl (zA3 (o' := 5) zD8 rfl sz3 rfl rfl rfl) ?_
    refine zA rfl (zA7 uz3 rfl rfl (hs.cellAt 0 rfl rfl)) ?_
    refine zA rfl (zCv zBz sz5 rfl rfl (lo := pos) rfl (by omega)) ?_
    refine zA9 rfl en77 (hr.calls hM.toP hM.toW hV hs (by have h9 := (hs.rdOwn 1 rfl).subB (lo := pos) (hi := mb.length) (by omega) (Nat.le_refl _); rw [List.take_length] at h9; exact h9) (by simp) (by omega)) ?_
    clear hs
    rintro _ w ⟨s1, s2, rfl, hs⟩
    simp only [mfP, List.cons_append, List.nil_append] at hs
    refine zA rfl (zA0 (v := .tuple _) rfl) ?_
    refine zA rfl (zAa (v := .int .i64 _) rfl rfl) ?_
    refine zA rfl (zAa (v := .agg _) rfl rfl) ?_
    refine zA rfl (zAa (v := .int .i64 _) rfl rfl) ?_
    refine zA rfl (zAa (v := .nilIface) rfl rfl) ?_
    refine zBd hs rfl ze41 ?_
    clear hs
    intro b8 w hs
    try simp only [List.set_cons_succ, List.set_cons_zero] at hs
    refine zA rfl (zA2 (v := .int .i64 _) rfl) ?_
    refine zAp hs 0 rfl rfl rfl sz41 rfl rfl ?_
    clear hs
    intro w hs
    try simp only [List.set_cons_succ, List.set_cons_zero] at hs
    refine zA rfl (zA2 (v := .int .i64 _) rfl) ?_
    refine zA rfl (zA2 (v := .nilIface) rfl) ?_
    refine zA4 ?_
    refine zA5 ?_
    refine zA5 ?_
    refine zAz zBx (hs.drop 6) ?_
    intro w tr hK
    replace hs := tr _ hs
    clear tr
    refine zA6 0 rfl rfl (fun w hs => zA0 (v := .nilIface) rfl) hK ?_
    refine zA6 1 rfl rfl (fun w hs => zBi rfl) hK ?_
    refine zA6 2 rfl rfl (fun w hs => zA0 (v := .bool _) rfl) hK ?_
    refine zAg 3 rfl rfl rfl rfl (rfl) (fun w hs => zA0 (v := .pointer (some _)) rfl) hK ?_
    refine zAg 4 rfl rfl rfl rfl (rfl) (fun w hs => zA8 rfl) hK ?_
    refine zAg 5 rfl rfl rfl rfl (rfl) (fun w hs => zA3 (o' := 3) zD8 rfl sz2 rfl rfl rfl) hK ?_
    refine zAg 6 rfl rfl rfl rfl (rfl) (fun w hs => zA7 uz2 rfl rfl (hs.cellAt 3 rfl rfl)) hK ?_
    refine zAg 7 rfl rfl rfl rfl (rfl) (fun w hs => zBu rfl rfl) hK ?_
    refine zA6 8 rfl rfl (fun w hs => zAk (v := .bool _) rfl (rfl) rfl) hK ?_
    refine zA6 9 rfl rfl (fun w hs => zA0 (v := .bool _) rfl) hK ?_
    refine zAg 10 rfl rfl rfl rfl (decide_eq_false (by omega)) (fun w hs => zA0 (v := .int .i64 _) rfl) hK ?_
    refine zAg 11 rfl rfl rfl rfl (decide_eq_false (by omega)) (fun w hs => zA0 (v := .pointer (some _)) rfl) hK ?_
    refine zAg 12 rfl rfl rfl rfl (decide_eq_false (by omega)) (fun w hs => zA8 rfl) hK ?_
    refine zAg 13 rfl rfl rfl rfl (decide_eq_false (by omega)) (fun w hs => zA3 (o' := 3) zD8 rfl sz2 rfl rfl rfl) hK ?_
    refine zAg 14 rfl rfl rfl rfl (decide_eq_false (by omega)) (fun w hs => zA7 uz2 rfl rfl (hs.cellAt 3 rfl rfl)) hK ?_
    refine zAg 15 rfl rfl rfl rfl (decide_eq_false (by omega)) (fun w hs => zAn rfl rfl (c := ((q + 1 : Nat) : Int)) (by omega) (inI (by omega) (by omega))) hK ?_
    refine zAg 16 rfl rfl rfl rfl (decide_eq_false (by omega)) (fun w hs => zD7 rfl rfl) hK ?_
    refine zA6 17 rfl rfl (fun w hs => zAk (v := .bool _) rfl (decide_eq_false (by omega)) rfl) hK ?_
    refine zA6 18 rfl rfl (fun w hs => zA0 (v := .bool _) rfl) hK ?_
    refine zAg 19 rfl rfl rfl rfl ((by rw [decide_eq_true rfl]; rfl)) (fun w hs => zA0 (v := .pointer (some _)) rfl) hK ?_
    refine zAg 20 rfl rfl rfl rfl ((by rw [decide_eq_true rfl]; rfl)) (fun w hs => zA8 rfl) hK ?_
    refine zAg 21 rfl rfl rfl rfl ((by rw [decide_eq_true rfl]; rfl)) (fun w hs => zA3 (o' := 2) zD8 rfl sz33 rfl rfl rfl) hK ?_
    refine zAg 22 rfl rfl rfl rfl ((by rw [decide_eq_true rfl]; rfl)) (fun w hs => zA7 uz33 rfl rfl (hs.cellAt 3 rfl rfl)) hK ?_
    refine zAg 23 rfl rfl rfl rfl ((by rw [decide_eq_true rfl]; rfl)) (fun w hs => zB3 hs 0 rfl zF1 sz41 rfl) hK ?_
    refine zAb [24] ?_
    refine ⟨⟨_, rfl, ?_⟩, trivial⟩
    refine zAi rfl rfl ((by rw [decide_eq_true rfl]; rfl)) ?_
    refine zA9 rfl en14 (zDs hV (hs.arr [6, 0, 1, 2, 3, 4, 5] 7 (by decide)) k (x := x) (e := s1) (o := s2) (MfR.own 1 2 rfl rfl) (by have := mf_len (x := x) (by rw [(hr.fine _ _ _ rfl).1.1]); omega)) ?_
    clear hs
    rintro _ w ⟨eb, rfl, hs⟩
    clear hK
    have hK := hs.tail.tail
    refine zA4 ⟨hK, ?_⟩
    refine @aw_takeOn _ _ _ _ _ _ _ _ _ _ _ _ _ _ 25 _ _ _ _ _ rfl (by kernel_rfl) (by kernel_rfl) (by kernel_rfl) rfl rfl rfl (by simp) (fun w hs => run_neF (.inr hba) rfl) hK ?_
    refine zA6 26 rfl rfl (fun w hs => zAk (v := .bool _) rfl ((by rw [decide_eq_true rfl]; rfl)) rfl) hK ?_
    refine zAu (by kernel_rfl) ?_
    clear hK
    refine zBa rfl ((by simp [hba])) ?_
    refine zBk rfl ?_
    refine zA5 ?_
    refine zA5 ?_
    have e5 : c = cc := by omega
    subst e5
    have e6 : n = pos := by omega
    subst e6
    rw [Vw.apply_ne hba] at hs
    have h9 : Mem g w (lgP p d ev pv q c n :: own (.slice a18 mb.length c18) (zAm mb) :: zBn d dk :: zCd pv V :: L) := hs.arr [5, 6, 7, 1] 8 (by decide)
    replace hs := h9
    clear h9
    refine zA1 ?_
    refine zA rfl (zA0 (v := .pointer (some _)) rfl) ?_
    refine zA rfl (zA8 rfl) ?_
    refine zA rfl (zA3 (o' := 5) zD8 rfl sz3 rfl rfl rfl) ?_
    refine zA rfl (zA7 uz3 rfl rfl (hs.cellAt 0 rfl rfl)) ?_
    refine zA rfl (zA0 (v := .int .i64 _) rfl) ?_
    refine zA rfl (zBu rfl rfl) ?_
    refine zA4 ?_
    refine zB7 rfl ?_ ?_
    ·
     intro h95
     have g95 := of_decide_eq_true h95
     refine zA5 (zA1 ?_)
     refine zA rfl (zA2 (v := .nilIface) rfl) ?_
     refine zA4 ?_
     refine zAf ?_
     refine zBj (v := .nilIface) rfl rfl ?_
     exact ⟨_, rfl, rfl, dk, ha, rfl, by omega, by rw [List.take_of_length_le (by omega), zEi hf]; exact hI, hs.arr [0, 3, 2] 4 (by decide)⟩
    ·
     intro h95
     have g95 := of_decide_eq_false h95
     obtain ⟨kc, dc, hcut, hcr, hcc, hccase⟩ := hI.cut zFb hf (m := n) (by omega)
     obtain ⟨rfl, hup2, har2, hI4⟩ := hccase.resolve_right (fun h => h.2.2.1 ha)
     refine zAd ?_
     refine zA5 ?_
     refine zA5 ?_
     refine zAz zBx (hs.drop 2) ?_
     intro w tr hK
     replace hs := tr _ hs
     clear tr
     refine zA6 0 rfl rfl (fun w hs => zA0 (v := .pointer (some _)) rfl) hK ?_
     refine zA6 1 rfl rfl (fun w hs => zA8 rfl) hK ?_
     refine zA6 2 rfl rfl (fun w hs => zA3 (o' := 0) zD8 rfl sz25 rfl rfl rfl) hK ?_
     refine zA6 3 rfl rfl (fun w hs => zA7 uz25 rfl rfl (hs.cellAt 0 rfl rfl)) hK ?_
     refine zA6 4 rfl rfl (fun w hs => zA0 (v := .pointer (some _)) rfl) hK ?_
     refine zA6 5 rfl rfl (fun w hs => zA8 rfl) hK ?_
     refine zA6 6 rfl rfl (fun w hs => zA3 (o' := 5) zD8 rfl sz3 rfl rfl rfl) hK ?_
     refine zA6 7 rfl rfl (fun w hs => zA7 uz3 rfl rfl (hs.cellAt 0 rfl rfl)) hK ?_
     refine zAb [8] ?_
     refine ⟨⟨_, rfl, ?_⟩, trivial⟩
     refine zA9 rfl en18 (cut_sl hM.toK (hs.arr [2, 0, 1, 3] 4 (by decide)) (by omega) mtN (m := ((n : Nat) : Int)) (inI (by omega) (by omega)) hcut) ?_
     clear hs
     rintro _ w ⟨rfl, hs⟩
     clear hK
     have hK := hs.tail
     refine zA4 ⟨hK, ?_⟩
     refine zA6 9 rfl rfl (fun w hs => zA2 (v := zAq ad _) rfl) hK ?_
     refine zAu (by kernel_rfl) ?_
     clear hK
     refine zA5 (zA1 ?_)
     refine zA rfl (zA0 (v := zAq ad _) rfl) ?_
     refine zA rfl (zAy (ad := ad) rfl) ?_
     refine zA4 ?_
     refine zAv rfl (rfl) ?_
     refine zAd ?_
     refine zA5 ?_
     have hI5 := hI4 (hs.openD).1
     obtain ⟨ds, hsy, hsr, hsa, hsc, hI6⟩ := hI5.sync (har2 ha) zFb (zCy _ _ _)
     refine zA1 ?_
     refine zA rfl (zA0 (v := .pointer (some _)) rfl) ?_
     refine zA rfl (zA8 rfl) ?_
     refine zA rfl (zA3 (o' := 0) zD8 rfl sz25 rfl rfl rfl) ?_
     refine zA rfl (zA7 uz25 rfl rfl (hs.cellAt 1 rfl rfl)) ?_
     refine zA9 rfl en39 (sync_sl hM.toK hs (by omega) mtN hsy) ?_
     clear hs
     rintro _ w ⟨rfl, hs⟩
     refine zA rfl (zA2 (v := zAq ad _) rfl) ?_
     refine zA4 ?_
     refine zAf ?_
     refine zBj (v := zAq ad _) rfl rfl ?_
     exact ⟨_, rfl, zB2 ad, ds, hsa, hsr.trans hcr, by omega, hI6 (hs.openD).1, hs.arr [1, 3, 0] 4 (by decide)⟩
   ·
    refine zA1 ?_
    refine zA rfl (zA0 (v := .slice _ _ _) rfl) ?_
    refine zA rfl (zA0 (v := .pointer (some _)) rfl) ?_
    refine zA rfl (zA8 rfl) ?_
    refine zA rfl (zA3 (o' := 5) zD8 rfl sz3 rfl rfl rfl) ?_
    refine zA rfl (zA7 uz3 rfl rfl (hs.cellAt 0 rfl rfl)) ?_
    refine zA rfl (zCv zBz sz5 rfl rfl (lo := pos) rfl (by omega)) ?_
    refine zA9 rfl en77 (hr.calls hM.toP hM.toW hV hs (by have h9 := (hs.rdOwn 1 rfl).subB (lo := pos) (hi := mb.length) (by omega) (Nat.le_refl _); rw [List.take_length] at h9; exact h9) (by simp) (by omega)) ?_
    clear hs
    rintro _ w ⟨s1, s2, rfl, hs⟩
    simp only [mfP, List.cons_append, List.nil_append] at hs
    refine zA rfl (zA0 (v := .tuple _) rfl) ?_
    refine zA rfl (zAa (v := .int .i64 _) rfl rfl) ?_
    refine zA rfl (zAa (v := .agg _) rfl rfl) ?_
    refine zA rfl (zAa (v := .int .i64 _) rfl rfl) ?_
    refine zA rfl (zAa (v := .nilIface) rfl rfl) ?_
    refine zBd hs rfl ze41 ?_
    clear hs
    intro b8 w hs
    try simp only [List.set_cons_succ, List.set_cons_zero] at hs
    refine zA rfl (zA2 (v := .int .i64 _) rfl) ?_
    refine zAp hs 0 rfl rfl rfl sz41 rfl rfl ?_
    clear hs
    intro w hs
    try simp only [List.set_cons_succ, List.set_cons_zero] at hs
    refine zA rfl (zA2 (v := .int .i64 _) rfl) ?_
    refine zA rfl (zA2 (v := .nilIface) rfl) ?_
    refine zA4 ?_
    refine zA5 ?_
    refine zA5 ?_
    refine zAz zBx (hs.drop 6) ?_
    intro w tr hK
    replace hs := tr _ hs
    clear tr
    refine zA6 0 rfl rfl (fun w hs => zA0 (v := .nilIface) rfl) hK ?_
    refine zA6 1 rfl rfl (fun w hs => zBi rfl) hK ?_
    refine zA6 2 rfl rfl (fun w hs => zA0 (v := .bool _) rfl) hK ?_
    refine zAg 3 rfl rfl rfl rfl (rfl) (fun w hs => zA0 (v := .pointer (some _)) rfl) hK ?_
    refine zAg 4 rfl rfl rfl rfl (rfl) (fun w hs => zA8 rfl) hK ?_
    refine zAg 5 rfl rfl rfl rfl (rfl) (fun w hs => zA3 (o' := 3) zD8 rfl sz2 rfl rfl rfl) hK ?_
    refine zAg 6 rfl rfl rfl rfl (rfl) (fun w hs => zA7 uz2 rfl rfl (hs.cellAt 3 rfl rfl)) hK ?_
    refine zAg 7 rfl rfl rfl rfl (rfl) (fun w hs => zBu rfl rfl) hK ?_
    refine zA6 8 rfl rfl (fun w hs => zAk (v := .bool _) rfl (rfl) rfl) hK ?_
    refine zA6 9 rfl rfl (fun w hs => zA0 (v := .bool _) rfl) hK ?_
    refine zAg 10 rfl rfl rfl rfl (decide_eq_false (by omega)) (fun w hs => zA0 (v := .int .i64 _) rfl) hK ?_
    refine zAg 11 rfl rfl rfl rfl (decide_eq_false (by omega)) (fun w hs => zA0 (v := .pointer (some _)) rfl) hK ?_
    refine zAg 12 rfl rfl rfl rfl (decide_eq_false (by omega)) (fun w hs => zA8 rfl) hK ?_
    refine zAg 13 rfl rfl rfl rfl (decide_eq_false (by omega)) (fun w hs => zA3 (o' := 3) zD8 rfl sz2 rfl rfl rfl) hK ?_
    refine zAg 14 rfl rfl rfl rfl (decide_eq_false (by omega)) (fun w hs => zA7 uz2 rfl rfl (hs.cellAt 3 rfl rfl)) hK ?_
    refine zAg 15 rfl rfl rfl rfl (decide_eq_false (by omega)) (fun w hs => zAn rfl rfl (c := ((qc + 1 : Nat) : Int)) (by omega) (inI (by omega) (by omega))) hK ?_
    refine zAg 16 rfl rfl rfl rfl (decide_eq_false (by omega)) (fun w hs => zD7 rfl rfl) hK ?_
    refine zA6 17 rfl rfl (fun w hs => zAk (v := .bool _) rfl (decide_eq_false (by omega)) rfl) hK ?_
    refine zA6 18 rfl rfl (fun w hs => zA0 (v := .bool _) rfl) hK ?_
    refine zAg 19 rfl rfl rfl rfl ((by rw [decide_eq_true rfl]; rfl)) (fun w hs => zA0 (v := .pointer (some _)) rfl) hK ?_
    refine zAg 20 rfl rfl rfl rfl ((by rw [decide_eq_true rfl]; rfl)) (fun w hs => zA8 rfl) hK ?_
    refine zAg 21 rfl rfl rfl rfl ((by rw [decide_eq_true rfl]; rfl)) (fun w hs => zA3 (o' := 2) zD8 rfl sz33 rfl rfl rfl) hK ?_
    refine zAg 22 rfl rfl rfl rfl ((by rw [decide_eq_true rfl]; rfl)) (fun w hs => zA7 uz33 rfl rfl (hs.cellAt 3 rfl rfl)) hK ?_
    refine zAg 23 rfl rfl rfl rfl ((by rw [decide_eq_true rfl]; rfl)) (fun w hs => zB3 hs 0 rfl zF1 sz41 rfl) hK ?_
    refine zAb [24] ?_
    refine ⟨⟨_, rfl, ?_⟩, trivial⟩
    refine zAi rfl rfl ((by rw [decide_eq_true rfl]; rfl)) ?_
    refine zA9 rfl en14 (zDs hV (hs.arr [6, 0, 1, 2, 3, 4, 5] 7 (by decide)) k (x := x) (e := s1) (o := s2) (MfR.own 1 2 rfl rfl) (by have := mf_len (x := x) (by rw [(hr.fine _ _ _ rfl).1.1]); omega)) ?_
    clear hs
    rintro _ w ⟨eb, rfl, hs⟩
    rw [hap] at hs ⊢
    replace hs := hs.tail
    clear hK
    have hK := hs.tail
    refine zA4 ⟨hK, ?_⟩
    refine zAg 25 rfl rfl rfl rfl ((by rw [decide_eq_true rfl]; rfl)) (fun w hs => zAy (ad := ad) rfl) hK ?_
    refine zA6 26 rfl rfl (fun w hs => zAk (v := .bool _) rfl ((by rw [decide_eq_true rfl]; rfl)) rfl) hK ?_
    refine zAu (by kernel_rfl) ?_
    clear hK
    refine zAv rfl (rfl) ?_
    refine zAd ?_
    refine zAz zBx (hs.drop 4) ?_
    intro w tr hK
    replace hs := tr _ hs
    clear tr
    refine zA6 0 rfl rfl (fun w hs => zA0 (v := .pointer (some _)) rfl) hK ?_
    refine zA6 1 rfl rfl (fun w hs => zA0 (v := .pointer (some _)) rfl) hK ?_
    refine zA6 2 rfl rfl (fun w hs => zA0 (v := .pointer (some _)) rfl) hK ?_
    refine zA6 3 rfl rfl (fun w hs => zA0 (v := .int .i64 _) rfl) hK ?_
    refine zA6 4 rfl rfl (fun w hs => zA0 (v := .pointer (some _)) rfl) hK ?_
    refine zA6 5 rfl rfl (fun w hs => zA8 rfl) hK ?_
    refine zA6 6 rfl rfl (fun w hs => zA3 (o' := 4) zD8 rfl sz3 rfl rfl rfl) hK ?_
    refine zA6 9 rfl rfl (fun w hs => zA0 (v := .pointer (some _)) rfl) hK ?_
    refine zA6 10 rfl rfl (fun w hs => zA8 rfl) hK ?_
    refine zA6 11 rfl rfl (fun w hs => zA3 (o' := 5) zD8 rfl sz3 rfl rfl rfl) hK ?_
    refine zA6 13 rfl rfl (fun w hs => zA0 (v := .int .i64 _) rfl) hK ?_
    refine zAb [7, 12] ?_
    refine ⟨⟨_, rfl, ?_⟩, ⟨_, rfl, ?_⟩, trivial⟩
    ·
     refine zA rfl (zA7 uz3 rfl rfl (hs.cellAt 4 rfl rfl)) ?_
     clear hK
     have hK := hs.drop 4
     refine zA4 ⟨hK, ?_⟩
     refine zA6 8 rfl rfl (fun w hs => zAn rfl rfl (c := ((cc + 1 : Nat) : Int)) (by omega) (inI (by omega) (by omega))) hK ?_
     refine zAb [12] ?_
     refine ⟨⟨_, rfl, ?_⟩, trivial⟩
     refine zA rfl (zA7 uz3 rfl rfl (hs.cellAt 4 rfl rfl)) ?_
     clear hK
     have hK := hs.drop 4
     refine zA4 ⟨hK, ?_⟩
     refine zA6 14 rfl rfl (fun w hs => zAn rfl rfl (c := ((pos + z : Nat) : Int)) (by omega) (inI (by omega) (by omega))) hK ?_
     refine zA6 15 rfl rfl (fun w hs => zA8 rfl) hK ?_
     refine zA6 16 rfl rfl (fun w hs => zA3 (o' := 3) zD8 rfl sz2 rfl rfl rfl) hK ?_
     refine zAb [17] ?_
     refine ⟨⟨_, rfl, ?_⟩, trivial⟩
     refine zAs (v := .int .i64 _) hs 4 rfl sz2 rfl rfl rfl rfl ?_
     clear hs
     intro w hs
     try simp only [List.set_cons_succ, List.set_cons_zero] at hs
     clear hK
     have hK := hs.drop 4
     refine zA4 ⟨hK, ?_⟩
     refine zA6 18 rfl rfl (fun w hs => zA8 rfl) hK ?_
     refine zA6 19 rfl rfl (fun w hs => zA3 (o' := 4) zD8 rfl sz3 rfl rfl rfl) hK ?_
     refine zAb [20] ?_
     refine ⟨⟨_, rfl, ?_⟩, trivial⟩
     refine zAs (v := .int .i64 _) hs 4 rfl sz3 rfl rfl rfl rfl ?_
     clear hs
     intro w hs
     try simp only [List.set_cons_succ, List.set_cons_zero] at hs
     clear hK
     have hK := hs.drop 4
     refine zA4 ⟨hK, ?_⟩
     refine zA6 21 rfl rfl (fun w hs => zA8 rfl) hK ?_
     refine zA6 22 rfl rfl (fun w hs => zA3 (o' := 5) zD8 rfl sz3 rfl rfl rfl) hK ?_
     refine zAb [23] ?_
     refine ⟨⟨_, rfl, ?_⟩, trivial⟩
     refine zAs (v := .int .i64 _) hs 4 rfl sz3 rfl rfl rfl rfl ?_
     clear hs
     intro w hs
     try simp only [List.set_cons_succ, List.set_cons_zero] at hs
     clear hK
     have hK := hs.drop 4
     refine zA4 ⟨hK, ?_⟩
     refine zAu (by kernel_rfl) ?_
     clear hK
     have hz := hr.fine _ _ _ rfl
     have hzl : z ≤ mb.length - pos := by have := hz.2.2.1; rw [List.length_drop] at this; exact this
     exact ⟨((W.apply k x).2, qc + 1, cc + 1, pos + z), by simp only; omega, ⟨⟨by simp only; omega, c2, n2, by simp only; rw [← List.drop_drop]; exact hE2, by simp only; omega, by simp only; omega⟩, hs.arr [4, 5, 6, 0] 7 (by decide)⟩, trivial, by repeat (first | exact Out.mix _ _ _ | refine Out.updo rfl ?_ | refine Out.upd rfl ?_ | refine Out.mixIn rfl ?_)⟩
    ·
     refine zA rfl (zA7 uz3 rfl rfl (hs.cellAt 4 rfl rfl)) ?_
     clear hK
     have hK := hs.drop 4
     refine zA4 ⟨hK, ?_⟩
     refine zA6 14 rfl rfl (fun w hs => zAn rfl rfl (c := ((pos + z : Nat) : Int)) (by omega) (inI (by omega) (by omega))) hK ?_
     refine zAb [7] ?_
     refine ⟨⟨_, rfl, ?_⟩, trivial⟩
     refine zA rfl (zA7 uz3 rfl rfl (hs.cellAt 4 rfl rfl)) ?_
     clear hK
     have hK := hs.drop 4
     refine zA4 ⟨hK, ?_⟩
     refine zA6 8 rfl rfl (fun w hs => zAn rfl rfl (c := ((cc + 1 : Nat) : Int)) (by omega) (inI (by omega) (by omega))) hK ?_
     refine zA6 15 rfl rfl (fun w hs => zA8 rfl) hK ?_
     refine zA6 16 rfl rfl (fun w hs => zA3 (o' := 3) zD8 rfl sz2 rfl rfl rfl) hK ?_
     refine zAb [17] ?_
     refine ⟨⟨_, rfl, ?_⟩, trivial⟩
     refine zAs (v := .int .i64 _) hs 4 rfl sz2 rfl rfl rfl rfl ?_
     clear hs
     intro w hs
     try simp only [List.set_cons_succ, List.set_cons_zero] at hs
     clear hK
     have hK := hs.drop 4
     refine zA4 ⟨hK, ?_⟩
     refine zA6 18 rfl rfl (fun w hs => zA8 rfl) hK ?_
     refine zA6 19 rfl rfl (fun w hs => zA3 (o' := 4) zD8 rfl sz3 rfl rfl rfl) hK ?_
     refine zAb [20] ?_
     refine ⟨⟨_, rfl, ?_⟩, trivial⟩
     refine zAs (v := .int .i64 _) hs 4 rfl sz3 rfl rfl rfl rfl ?_
     clear hs
     intro w hs
     try simp only [List.set_cons_succ, List.set_cons_zero] at hs
     clear hK
     have hK := hs.drop 4
     refine zA4 ⟨hK, ?_⟩
     refine zA6 21 rfl rfl (fun w hs => zA8 rfl) hK ?_
     refine zA6 22 rfl rfl (fun w hs => zA3 (o' := 5) zD8 rfl sz3 rfl rfl rfl) hK ?_
     refine zAb [23] ?_
     refine ⟨⟨_, rfl, ?_⟩, trivial⟩
     refine zAs (v := .int .i64 _) hs 4 rfl sz3 rfl rfl rfl rfl ?_
     clear hs
     intro w hs
     try simp only [List.set_cons_succ, List.set_cons_zero] at hs
     clear hK
     have hK := hs.drop 4
     refine zA4 ⟨hK, ?_⟩
     refine zAu (by kernel_rfl) ?_
     clear hK
     have hz := hr.fine _ _ _ rfl
     have hzl : z ≤ mb.length - pos := by have := hz.2.2.1; rw [List.length_drop] at this; exact this
     exact ⟨((W.apply k x).2, qc + 1, cc + 1, pos + z), by simp only; omega, ⟨⟨by simp only; omega, c2, n2, by simp only; rw [← List.drop_drop]; exact hE2, by simp only; omega, by simp only; omega⟩, hs.arr [4, 5, 6, 0] 7 (by decide)⟩, trivial, by repeat (first | exact Out.mix _ _ _ | refine Out.updo rfl ?_ | refine Out.upd rfl ?_ | refine Out.mixIn rfl ?_)⟩
  ·
   intro h29
   have g29 := of_decide_eq_false h29
   refine zBk rfl ?_
   refine zA5 ?_
   refine zA5 ?_
   have hdn : mb.drop pos = [] := List.drop_eq_nil_iff.2 (by omega)
   rw [hdn] at hE
   obtain ⟨e1, e2, e3, e4⟩ := hE.of_nil
   subst e1
   subst e2
   subst e3
   subst e4
   have e5 : c = cc := by omega
   subst e5
   have e6 : n = pos := by omega
   subst e6
   refine zA1 ?_
   refine zA rfl (zA0 (v := .pointer (some _)) rfl) ?_
   refine zA rfl (zA8 rfl) ?_
   refine zA rfl (zA3 (o' := 5) zD8 rfl sz3 rfl rfl rfl) ?_
   refine zA rfl (zA7 uz3 rfl rfl (hs.cellAt 0 rfl rfl)) ?_
   refine zA rfl (zA0 (v := .int .i64 _) rfl) ?_
   refine zA rfl (zBu rfl rfl) ?_
   refine zA4 ?_
   refine zB7 rfl ?_ ?_
   ·
    intro h95
    have g95 := of_decide_eq_true h95
    refine zA5 (zA1 ?_)
    refine zA rfl (zA2 (v := .nilIface) rfl) ?_
    refine zA4 ?_
    refine zAf ?_
    refine zBj (v := .nilIface) rfl rfl ?_
    exact ⟨_, rfl, rfl, dk, ha, rfl, by omega, by rw [List.take_of_length_le (by omega), zEi hf]; exact hI, hs.arr [0, 3, 2] 4 (by decide)⟩
   ·
    intro h95
    have g95 := of_decide_eq_false h95
    obtain ⟨kc, dc, hcut, hcr, hcc, hccase⟩ := hI.cut zFb hf (m := n) (by omega)
    obtain ⟨rfl, hup2, har2, hI4⟩ := hccase.resolve_right (fun h => h.2.2.1 ha)
    refine zAd ?_
    refine zA5 ?_
    refine zA5 ?_
    refine zAz zBx (hs.drop 2) ?_
    intro w tr hK
    replace hs := tr _ hs
    clear tr
    refine zA6 0 rfl rfl (fun w hs => zA0 (v := .pointer (some _)) rfl) hK ?_
    refine zA6 1 rfl rfl (fun w hs => zA8 rfl) hK ?_
    refine zA6 2 rfl rfl (fun w hs => zA3 (o' := 0) zD8 rfl sz25 rfl rfl rfl) hK ?_
    refine zA6 3 rfl rfl (fun w hs => zA7 uz25 rfl rfl (hs.cellAt 0 rfl rfl)) hK ?_
    refine zA6 4 rfl rfl (fun w hs => zA0 (v := .pointer (some _)) rfl) hK ?_
    refine zA6 5 rfl rfl (fun w hs => zA8 rfl) hK ?_
    refine zA6 6 rfl rfl (fun w hs => zA3 (o' := 5) zD8 rfl sz3 rfl rfl rfl) hK ?_
    refine zA6 7 rfl rfl (fun w hs => zA7 uz3 rfl rfl (hs.cellAt 0 rfl rfl)) hK ?_
    refine zAb [8] ?_
    refine ⟨⟨_, rfl, ?_⟩, trivial⟩
    refine zA9 rfl en18 (cut_sl hM.toK (hs.arr [2, 0, 1, 3] 4 (by decide)) (by omega) mtN (m := ((n : Nat) : Int)) (inI (by omega) (by omega)) hcut) ?_
    clear hs
    rintro _ w ⟨rfl, hs⟩
    clear hK
    have hK := hs.tail
    refine zA4 ⟨hK, ?_⟩
    refine zA6 9 rfl rfl (fun w hs => zA2 (v := zAq ad _) rfl) hK ?_
    refine zAu (by kernel_rfl) ?_
    clear hK
    refine zA5 (zA1 ?_)
    refine zA rfl (zA0 (v := zAq ad _) rfl) ?_
    refine zA rfl (zAy (ad := ad) rfl) ?_
    refine zA4 ?_
    refine zAv rfl (rfl) ?_
    refine zAd ?_
    refine zA5 ?_
    have hI5 := hI4 (hs.openD).1
    obtain ⟨ds, hsy, hsr, hsa, hsc, hI6⟩ := hI5.sync (har2 ha) zFb (zCy _ _ _)
    refine zA1 ?_
    refine zA rfl (zA0 (v := .pointer (some _)) rfl) ?_
    refine zA rfl (zA8 rfl) ?_
    refine zA rfl (zA3 (o' := 0) zD8 rfl sz25 rfl rfl rfl) ?_
    refine zA rfl (zA7 uz25 rfl rfl (hs.cellAt 1 rfl rfl)) ?_
    refine zA9 rfl en39 (sync_sl hM.toK hs (by omega) mtN hsy) ?_
    clear hs
    rintro _ w ⟨rfl, hs⟩
    refine zA rfl (zA2 (v := zAq ad _) rfl) ?_
    refine zA4 ?_
    refine zAf ?_
    refine zBj (v := zAq ad _) rfl rfl ?_
    exact ⟨_, rfl, zB2 ad, ds, hsa, hsr.trans hcr, by omega, hI6 (hs.openD).1, hs.arr [1, 3, 0] 4 (by decide)⟩
end Go.Proofs.YtdkgdjnbpjjfmaaGreatDoor
namespace Go.Proofs.YtdkgdjnbpjjfmaaGreatDoor
set_option linter.all false
open Go.RowKit
attribute [local irreducible] zAq eV
variable {g w : World} {L M : List HP} {ad : Nat → Addr} {p d pv ev : Nat} {dk : Dk} {f : ByteArray → Option (List UInt8)} {V U : Vw} {q r c n : Nat} {b mb : List UInt8}

set_option maxHeartbeats 1000000 in
theorem openM_sl (hM : ErrM ad g) (hs : Mem g w (zBn d dk :: L)) (hI : LgI f dk) (ha : dk.armed = 0) (hcl : dk.calls < 800000) (hev : 1 ≤ ev ∧ ev ≤ 4096) {V0 : Vw} {q0 : Nat} (hSn : Snp f V0 q0) (ho : V0.ok) (hu : V0.sums) (hl : V0.length ≤ 100) (hf : f mtN = some mb ∨ f mtN = none ∧ mb = []) (hml : mb.length ≤ 1000000) (hent : Ent V0 q0 mb V q c n) (hq : q < 4611686018427387904) :
    Calls Tryz.prog 10 #[.pointer (some ⟨d, 0, none⟩), .int .i64 (ev : Nat)] w (Ret fun v w' => ∃ p dk2, v = .tuple #[.pointer (some ⟨p, 0, none⟩), .nilIface] ∧ dk2.armed = 0 ∧ dk2.room = dk.room ∧ dk2.calls ≤ dk.calls + 4 ∧ LgI (zE f mtN (mb.take n)) dk2 ∧ Mem g w' (LogC p d ev V q c n :: zBn d dk2 :: L)) := by
  have hK := hM.toK
  have hle := hent.le
  have hll := hI.lenR zFb
  refine zAl Tryz.func10 rfl rfl ?_
  skip
  refine zA5 (zA1 ?_)
  refine zA rfl (zA2 (v := .pointer none) rfl) ?_
  refine zA rfl (zA2 (v := .nilIface) rfl) ?_
  refine zA4 ?_
  refine zA5 ?_
  refine zA5 (zA1 ?_)
  refine zA rfl (zA0 (v := .int .i64 _) rfl) ?_
  refine zA rfl (zB4 rfl rfl) ?_
  refine zA rfl (zA0 (v := .bool _) rfl) ?_
  refine zAi rfl rfl (decide_eq_false (by omega)) ?_
  refine zA rfl (zA0 (v := .int .i64 _) rfl) ?_
  refine zAi rfl rfl (decide_eq_false (by omega)) ?_
  refine zA rfl (zBq rfl rfl) ?_
  refine zA rfl (zAk (v := .bool _) rfl (decide_eq_false (by omega)) rfl) ?_
  refine zA4 ?_
  refine zAv rfl (decide_eq_false (by omega)) ?_
  refine zAd ?_
  refine zA5 (zA1 ?_)
  refine zA rfl (zA0 (v := .pointer (some _)) rfl) ?_
  refine zA rfl (zA0 (v := .int .i64 _) rfl) ?_
  refine zA9 rfl en11 (newq_sl hs) ?_
  clear hs
  rintro _ w ⟨pv, rfl, hs⟩
  refine zA rfl (zCo (cs := [.pointer (some ⟨d, 0, none⟩), .int .i64 (ev : Nat), .pointer (some ⟨pv, 0, none⟩), .int .i64 ((0 : Nat) : Int), .int .i64 ((0 : Nat) : Int), .int .i64 ((0 : Nat) : Int)]) zD8 ze74 pl74 rfl) ?_
  refine zCk (v := .agg _) hs rfl rfl ?_
  clear hs
  intro b21 w hs
  try simp only [List.set_cons_succ, List.set_cons_zero] at hs
  refine zA rfl (zA2 (v := .pointer (some _)) rfl) ?_
  refine zA4 ?_
  replace hs : Mem g w (lgP b21 d ev pv 0 0 0 :: zCd pv [] :: zBn d dk :: L) := hs
  refine zA5 ?_
  refine zA5 ?_
  obtain ⟨hfn, rfl, rfl⟩ | hfn := hSn
  ·
   refine zA1 ?_
   refine zA rfl (zA0 (v := .pointer (some _)) rfl) ?_
   refine zA9 rfl en33 (snapNo_sl hM hs (hI.pread_none mem_sn hfn)) ?_
   clear hs
   rintro _ w ⟨rfl, hs⟩
   refine zA rfl (zA2 (v := .nilIface) rfl) ?_
   refine zA4 (zA5 (zA1 ?_))
   refine zA rfl (zA0 (v := .nilIface) rfl) ?_
   refine zA rfl (zBi rfl) ?_
   refine zA4 ?_
   refine zAv rfl (rfl) ?_
   refine zAd ?_
   refine zA5 ?_
   obtain hfm | ⟨hfm, rfl⟩ := hf
   ·
    replace hll : dk.lenR mtN = (0, mb.length) := by rw [hll, hfm]; rfl
    refine zA1 ?_
    refine zA rfl (zA0 (v := .pointer (some _)) rfl) ?_
    refine zA9 rfl en15 (len_sl hM.toK (hs.arr [2, 0, 1] 3 (by decide)) mtN hll) ?_
    clear hs
    rintro _ w ⟨rfl, hs⟩
    refine zA rfl (zA0 (v := .tuple _) rfl) ?_
    refine zA rfl (zAa (v := .int .i64 _) rfl rfl) ?_
    refine zA rfl (zAa (v := zAq ad _) rfl rfl) ?_
    refine zA rfl (zA2 (v := .int .i64 _) rfl) ?_
    refine zA rfl (zA2 (v := zAq ad _) rfl) ?_
    refine zA4 ?_
    refine zA5 ?_
    refine zA5 (zA1 ?_)
    refine zA rfl (zA0 (v := zAq ad _) rfl) ?_
    refine zA rfl (zA7 zD1 rfl rfl (hK.cellW hs 107 (by decide) rfl)) ?_
    refine zA rfl (zEv (hK.atW hs) (by decide) (by decide) rfl rfl) ?_
    refine zA4 ?_
    refine zAv rfl (rfl) ?_
    refine zAd ?_
    refine zA5 ?_
    refine zA5 (zA1 ?_)
    refine zA rfl (zA0 (v := zAq ad _) rfl) ?_
    refine zA rfl (zAy (ad := ad) rfl) ?_
    refine zA4 ?_
    refine zAv rfl (rfl) ?_
    refine zAd ?_
    refine zA5 ?_
    refine zA5 (zA1 ?_)
    refine zA rfl (zA0 (v := .pointer (some _)) rfl) ?_
    refine zA rfl (zA0 (v := .int .i64 _) rfl) ?_
    refine zA9 rfl en36 (entries_sl hM hI ha (by omega) hfm hml hent hq (hs.arr [1, 2, 0] 3 (by decide))) ?_
    clear hs
    rintro _ w ⟨rfl, d2, h1, h2, h3, h4, hs⟩
    refine zA rfl (zA2 (v := .nilIface) rfl) ?_
    refine zA4 (zA5 (zA1 ?_))
    refine zA rfl (zA0 (v := .nilIface) rfl) ?_
    refine zA rfl (zBi rfl) ?_
    refine zA4 ?_
    refine zAv rfl (rfl) ?_
    refine zAd ?_
    refine zA5 (zA1 ?_)
    refine zA rfl (zA0 (v := .pointer (some _)) rfl) ?_
    refine zA rfl (zA2 (v := .pointer (some _)) rfl) ?_
    refine zA rfl (zA2 (v := .nilIface) rfl) ?_
    refine zA4 ?_
    refine zAf ?_
    refine res2 (v := .pointer (some _)) (v2 := .nilIface) rfl rfl rfl ?_
    exact ⟨_, rfl, _, d2, rfl, h1, h2, by omega, h4, hs.closeL⟩
   ·
    replace hll : dk.lenR mtN = (107, 0) := by rw [hll, hfm]; rfl
    obtain ⟨e1, e2, hcr, hsd, hroom, harm, hc1, hc2, hI2⟩ := hI.make ha zFb hfm mtN_valid
    refine zA1 ?_
    refine zA rfl (zA0 (v := .pointer (some _)) rfl) ?_
    refine zA9 rfl en15 (len_sl hM.toK (hs.arr [2, 0, 1] 3 (by decide)) mtN hll) ?_
    clear hs
    rintro _ w ⟨rfl, hs⟩
    refine zA rfl (zA0 (v := .tuple _) rfl) ?_
    refine zA rfl (zAa (v := .int .i64 _) rfl rfl) ?_
    refine zA rfl (zAa (v := zAq ad _) rfl rfl) ?_
    refine zA rfl (zA2 (v := .int .i64 _) rfl) ?_
    refine zA rfl (zA2 (v := zAq ad _) rfl) ?_
    refine zA4 ?_
    refine zA5 ?_
    refine zA5 (zA1 ?_)
    refine zA rfl (zA0 (v := zAq ad _) rfl) ?_
    refine zA rfl (zA7 zD1 rfl rfl (hK.cellW hs 107 (by decide) rfl)) ?_
    refine zA rfl (zEv (hK.atW hs) (by decide) (by decide) rfl rfl) ?_
    refine zA4 ?_
    refine zBa rfl (rfl) ?_
    refine zA5 (zA1 ?_)
    refine zA rfl (zA0 (v := .pointer (some _)) rfl) ?_
    refine zA9 rfl en34 (create_sl hM.toK hs (by omega) mtN hcr) ?_
    clear hs
    rintro _ w ⟨rfl, hs⟩
    refine zA rfl (zA2 (v := zAq ad _) rfl) ?_
    refine zA4 (zA5 (zA1 ?_))
    refine zA rfl (zA0 (v := zAq ad _) rfl) ?_
    refine zA rfl (zCn (ad := ad) rfl) ?_
    refine zA4 ?_
    refine zBa rfl (rfl) ?_
    refine zA1 ?_
    refine zA rfl (zA0 (v := .pointer (some _)) rfl) ?_
    refine zA9 rfl en35 (syncDir_sl hM.toK hs (by omega) hsd) ?_
    clear hs
    rintro _ w ⟨rfl, hs⟩
    have hI3 := hI2 (hs.openD).1
    obtain ⟨e3, e4, e5, e6⟩ := hent.of_nil
    subst e3
    subst e4
    subst e5
    subst e6
    refine zA rfl (zA2 (v := zAq ad _) rfl) ?_
    refine zA4 ?_
    refine zA5 ?_
    refine zA5 (zA1 ?_)
    refine zA rfl (zA0 (v := zAq ad _) rfl) ?_
    refine zA rfl (zAy (ad := ad) rfl) ?_
    refine zA4 ?_
    refine zAv rfl (rfl) ?_
    refine zAd ?_
    refine zA5 ?_
    refine zA5 (zA1 ?_)
    refine zA rfl (zA0 (v := .pointer (some _)) rfl) ?_
    refine zA rfl (zA0 (v := .int .i64 _) rfl) ?_
    refine zA9 rfl en36 (entries_sl (mb := []) hM hI3 harm (by omega) (zCy _ _ _) hml hent hq (hs.arr [1, 2, 0] 3 (by decide))) ?_
    clear hs
    rintro _ w ⟨rfl, d2, h1, h2, h3, h4, hs⟩
    refine zA rfl (zA2 (v := .nilIface) rfl) ?_
    refine zA4 (zA5 (zA1 ?_))
    refine zA rfl (zA0 (v := .nilIface) rfl) ?_
    refine zA rfl (zBi rfl) ?_
    refine zA4 ?_
    refine zAv rfl (rfl) ?_
    refine zAd ?_
    refine zA5 (zA1 ?_)
    refine zA rfl (zA0 (v := .pointer (some _)) rfl) ?_
    refine zA rfl (zA2 (v := .pointer (some _)) rfl) ?_
    refine zA rfl (zA2 (v := .nilIface) rfl) ?_
    refine zA4 ?_
    refine zAf ?_
    refine res2 (v := .pointer (some _)) (v2 := .nilIface) rfl rfl rfl ?_
    exact ⟨_, rfl, _, d2, rfl, h1, h2.trans hroom, by omega, by rw [updF_twice] at h4; exact h4, hs.closeL⟩
  ·
   refine zA1 ?_
   refine zA rfl (zA0 (v := .pointer (some _)) rfl) ?_
   refine zA9 rfl en33 (snap_sl hM hs (hI.pread_some mem_sn hfn) ho hu hl (by omega)) ?_
   clear hs
   rintro _ w ⟨rfl, pw, hs⟩
   refine zA rfl (zA2 (v := .nilIface) rfl) ?_
   refine zA4 (zA5 (zA1 ?_))
   refine zA rfl (zA0 (v := .nilIface) rfl) ?_
   refine zA rfl (zBi rfl) ?_
   refine zA4 ?_
   refine zAv rfl (rfl) ?_
   refine zAd ?_
   refine zA5 ?_
   obtain hfm | ⟨hfm, rfl⟩ := hf
   ·
    replace hll : dk.lenR mtN = (0, mb.length) := by rw [hll, hfm]; rfl
    refine zA1 ?_
    refine zA rfl (zA0 (v := .pointer (some _)) rfl) ?_
    refine zA9 rfl en15 (len_sl hM.toK (hs.arr [2, 0, 1] 3 (by decide)) mtN hll) ?_
    clear hs
    rintro _ w ⟨rfl, hs⟩
    refine zA rfl (zA0 (v := .tuple _) rfl) ?_
    refine zA rfl (zAa (v := .int .i64 _) rfl rfl) ?_
    refine zA rfl (zAa (v := zAq ad _) rfl rfl) ?_
    refine zA rfl (zA2 (v := .int .i64 _) rfl) ?_
    refine zA rfl (zA2 (v := zAq ad _) rfl) ?_
    refine zA4 ?_
    refine zA5 ?_
    refine zA5 (zA1 ?_)
    refine zA rfl (zA0 (v := zAq ad _) rfl) ?_
    refine zA rfl (zA7 zD1 rfl rfl (hK.cellW hs 107 (by decide) rfl)) ?_
    refine zA rfl (zEv (hK.atW hs) (by decide) (by decide) rfl rfl) ?_
    refine zA4 ?_
    refine zAv rfl (rfl) ?_
    refine zAd ?_
    refine zA5 ?_
    refine zA5 (zA1 ?_)
    refine zA rfl (zA0 (v := zAq ad _) rfl) ?_
    refine zA rfl (zAy (ad := ad) rfl) ?_
    refine zA4 ?_
    refine zAv rfl (rfl) ?_
    refine zAd ?_
    refine zA5 ?_
    refine zA5 (zA1 ?_)
    refine zA rfl (zA0 (v := .pointer (some _)) rfl) ?_
    refine zA rfl (zA0 (v := .int .i64 _) rfl) ?_
    refine zA9 rfl en36 (entries_sl hM hI ha (by omega) hfm hml hent hq (hs.arr [1, 2, 0] 3 (by decide))) ?_
    clear hs
    rintro _ w ⟨rfl, d2, h1, h2, h3, h4, hs⟩
    refine zA rfl (zA2 (v := .nilIface) rfl) ?_
    refine zA4 (zA5 (zA1 ?_))
    refine zA rfl (zA0 (v := .nilIface) rfl) ?_
    refine zA rfl (zBi rfl) ?_
    refine zA4 ?_
    refine zAv rfl (rfl) ?_
    refine zAd ?_
    refine zA5 (zA1 ?_)
    refine zA rfl (zA0 (v := .pointer (some _)) rfl) ?_
    refine zA rfl (zA2 (v := .pointer (some _)) rfl) ?_
    refine zA rfl (zA2 (v := .nilIface) rfl) ?_
    refine zA4 ?_
    refine zAf ?_
    refine res2 (v := .pointer (some _)) (v2 := .nilIface) rfl rfl rfl ?_
    exact ⟨_, rfl, _, d2, rfl, h1, h2, by omega, h4, hs.closeL⟩
   ·
    replace hll : dk.lenR mtN = (107, 0) := by rw [hll, hfm]; rfl
    obtain ⟨e1, e2, hcr, hsd, hroom, harm, hc1, hc2, hI2⟩ := hI.make ha zFb hfm mtN_valid
    refine zA1 ?_
    refine zA rfl (zA0 (v := .pointer (some _)) rfl) ?_
    refine zA9 rfl en15 (len_sl hM.toK (hs.arr [2, 0, 1] 3 (by decide)) mtN hll) ?_
    clear hs
    rintro _ w ⟨rfl, hs⟩
    refine zA rfl (zA0 (v := .tuple _) rfl) ?_
    refine zA rfl (zAa (v := .int .i64 _) rfl rfl) ?_
    refine zA rfl (zAa (v := zAq ad _) rfl rfl) ?_
    refine zA rfl (zA2 (v := .int .i64 _) rfl) ?_
    refine zA rfl (zA2 (v := zAq ad _) rfl) ?_
    refine zA4 ?_
    refine zA5 ?_
    refine zA5 (zA1 ?_)
    refine zA rfl (zA0 (v := zAq ad _) rfl) ?_
    refine zA rfl (zA7 zD1 rfl rfl (hK.cellW hs 107 (by decide) rfl)) ?_
    refine zA rfl (zEv (hK.atW hs) (by decide) (by decide) rfl rfl) ?_
    refine zA4 ?_
    refine zBa rfl (rfl) ?_
    refine zA5 (zA1 ?_)
    refine zA rfl (zA0 (v := .pointer (some _)) rfl) ?_
    refine zA9 rfl en34 (create_sl hM.toK hs (by omega) mtN hcr) ?_
    clear hs
    rintro _ w ⟨rfl, hs⟩
    refine zA rfl (zA2 (v := zAq ad _) rfl) ?_
    refine zA4 (zA5 (zA1 ?_))
    refine zA rfl (zA0 (v := zAq ad _) rfl) ?_
    refine zA rfl (zCn (ad := ad) rfl) ?_
    refine zA4 ?_
    refine zBa rfl (rfl) ?_
    refine zA1 ?_
    refine zA rfl (zA0 (v := .pointer (some _)) rfl) ?_
    refine zA9 rfl en35 (syncDir_sl hM.toK hs (by omega) hsd) ?_
    clear hs
    rintro _ w ⟨rfl, hs⟩
    have hI3 := hI2 (hs.openD).1
    obtain ⟨e3, e4, e5, e6⟩ := hent.of_nil
    subst e3
    subst e4
    subst e5
    subst e6
    refine zA rfl (zA2 (v := zAq ad _) rfl) ?_
    refine zA4 ?_
    refine zA5 ?_
    refine zA5 (zA1 ?_)
    refine zA rfl (zA0 (v := zAq ad _) rfl) ?_
    refine zA rfl (zAy (ad := ad) rfl) ?_
    refine zA4 ?_
    refine zAv rfl (rfl) ?_
    refine zAd ?_
    refine zA5 ?_
    refine zA5 (zA1 ?_)
    refine zA rfl (zA0 (v := .pointer (some _)) rfl) ?_
    refine zA rfl (zA0 (v := .int .i64 _) rfl) ?_
    refine zA9 rfl en36 (entries_sl (mb := []) hM hI3 harm (by omega) (zCy _ _ _) hml hent hq (hs.arr [1, 2, 0] 3 (by decide))) ?_
    clear hs
    rintro _ w ⟨rfl, d2, h1, h2, h3, h4, hs⟩
    refine zA rfl (zA2 (v := .nilIface) rfl) ?_
    refine zA4 (zA5 (zA1 ?_))
    refine zA rfl (zA0 (v := .nilIface) rfl) ?_
    refine zA rfl (zBi rfl) ?_
    refine zA4 ?_
    refine zAv rfl (rfl) ?_
    refine zAd ?_
    refine zA5 (zA1 ?_)
    refine zA rfl (zA0 (v := .pointer (some _)) rfl) ?_
    refine zA rfl (zA2 (v := .pointer (some _)) rfl) ?_
    refine zA rfl (zA2 (v := .nilIface) rfl) ?_
    refine zA4 ?_
    refine zAf ?_
    refine res2 (v := .pointer (some _)) (v2 := .nilIface) rfl rfl rfl ?_
    exact ⟨_, rfl, _, d2, rfl, h1, h2.trans hroom, by omega, by rw [updF_twice] at h4; exact h4, hs.closeL⟩
/-! ### a snapshot -/
def SnapOut (f : ByteArray → Option (List UInt8)) (dk : Dk) (q : Nat) (V : Vw) (k : Nat) (dk2 : Dk) : Prop :=
  dk2.room = dk.room ∧ dk2.calls ≤ dk.calls + 7 ∧ (k = 0 ∧ dk2.down = false ∧ (dk.armed = 0 → dk2.armed = 0) ∧ LgI (zE (zE f snN (zBp (snapB q V))) mtN []) dk2 ∨
    k = 110 ∧ dk2.down = true ∧ dk.armed ≠ 0 ∧ ∀ picks, LgI f (dk2.crash picks) ∨ LgI (zE f snN (zBp (snapB q V))) (dk2.crash picks))
theorem vw_len (ho : V.ok) (h : V.length ≤ 32) : (vwB V).length ≤ 192494 := by
  have h1 := items_len ho (zEf (zAh V))
  have h2 := zCh V.length
  have h3 : (vwB V).length = (vwBody V).length + 4 := zBw _
  rw [sortI_len, zAh, List.length_map] at h1
  rw [h3]
  simp only [vwBody, List.length_append, zAh] at h1 ⊢; omega
set_option maxHeartbeats 1000000 in
theorem snapM_sl (hM : ErrM ad g) (hs : Mem g w (LogC p d ev V q c n :: zBn d dk :: L)) (hI : LgI f dk) (hf : f mtN = some mb) (hcl : dk.calls < 800000) (hr : 1000000 ≤ dk.room) (hu : V.sums) (hl : V.length ≤ 32) (hq : q < 4611686018427387904) :
    Calls Tryz.prog 23 #[.pointer (some ⟨p, 0, none⟩)] w (Ret fun v w' => ∃ k dk2, v = zAq ad k ∧ SnapOut f dk q V k dk2 ∧ Mem g w' (LogC p d ev V q (if k = 0 then 0 else c) (if k = 0 then 0 else n) :: zBn d dk2 :: L)) := by
  have hK := hM.toK
  obtain ⟨pv, hs⟩ := hs.openL
  have ho : V.ok := ((hs.arr [1, 0, 2] 3 (by decide)).openQ).1
  have hvb := vw_len ho hl
  have hql := zCh q
  have hsl : (snapB q V).length = (zB q).length + (vwB V).length := List.length_append
  obtain ⟨kw, dw, hw, hwr, hwc, hwcase⟩ := hI.write (b := snapB q V) mem_sn lgN_new snN_valid snN_valid2 (by omega) (by show 2 * 2 * 200000 + 200000 ≤ dk.room; omega)
  refine zAl Tryz.func23 rfl rfl ?_
  skip
  refine zA5 (zA1 ?_)
  refine zA rfl (zA2 (v := .nilIface) rfl) ?_
  refine zA4 ?_
  refine zA5 ?_
  refine zA5 ?_
  refine zAz zBx (hs.drop 2) ?_
  intro w tr hK
  replace hs := tr _ hs
  clear tr
  refine zA6 0 rfl rfl (fun w hs => zA0 (v := .pointer (some _)) rfl) hK ?_
  refine zA6 1 rfl rfl (fun w hs => zA8 rfl) hK ?_
  refine zA6 2 rfl rfl (fun w hs => zA3 (o' := 0) zD8 rfl sz25 rfl rfl rfl) hK ?_
  refine zA6 3 rfl rfl (fun w hs => zA7 uz25 rfl rfl (hs.cellAt 0 rfl rfl)) hK ?_
  refine zA6 4 rfl rfl (fun w hs => zA0 (v := .pointer (some _)) rfl) hK ?_
  refine zA6 5 rfl rfl (fun w hs => zA8 rfl) hK ?_
  refine zA6 6 rfl rfl (fun w hs => zA3 (o' := 3) zD8 rfl sz2 rfl rfl rfl) hK ?_
  refine zA6 7 rfl rfl (fun w hs => zA7 uz2 rfl rfl (hs.cellAt 0 rfl rfl)) hK ?_
  refine zA6 8 rfl rfl (fun w hs => zAo uz2 zC0 rfl (c := ((q : Nat) : Int)) (by rw [zB6]; omega)) hK ?_
  refine zA6 10 rfl rfl (fun w hs => zA0 (v := .pointer (some _)) rfl) hK ?_
  refine zA6 11 rfl rfl (fun w hs => zA8 rfl) hK ?_
  refine zA6 12 rfl rfl (fun w hs => zA3 (o' := 2) zD8 rfl sz33 rfl rfl rfl) hK ?_
  refine zA6 13 rfl rfl (fun w hs => zA7 uz33 rfl rfl (hs.cellAt 0 rfl rfl)) hK ?_
  refine zAb [9] ?_
  refine ⟨⟨_, rfl, ?_⟩, trivial⟩
  refine zA9 rfl en52 (zDy hs (lb := []) (n := q) Rd.nil rfl (by decide) (by omega)) ?_
  clear hs
  rintro _ w ⟨a14, c14, rfl, hs⟩
  rw [List.nil_append] at hs ⊢
  clear hK
  have hK := hs.tail.drop 2
  refine zA4 ⟨hK, ?_⟩
  refine zAb [14] ?_
  refine ⟨⟨_, rfl, ?_⟩, trivial⟩
  refine zA9 rfl en53 (bytesq_sl hM.toV (hs.arr [2, 0, 1, 3] 4 (by decide)) (by omega) hu) ?_
  clear hs
  rintro _ w ⟨a19, c19, rfl, hs⟩
  clear hK
  have hK := hs.arr [3, 1] 5 (by decide)
  refine zA4 ⟨hK, ?_⟩
  refine zAb [15] ?_
  refine ⟨⟨_, rfl, ?_⟩, trivial⟩
  refine zCi hs rfl 2 rfl zBz in5 rfl rfl rfl (zC2 (P := Tryz.prog) zBz ((Rd.own (l := zAm (vwB V)) 0 rfl).seq hs) (zBt _)) (by simp only [zAr]; omega) (by simp only [zAr]; omega) ?_
  clear hs
  intro a20 c20 w hs
  simp only [List.set_cons_succ, List.set_cons_zero] at hs
  have e1 : zAm (zB q) ++ zAm (vwB V) = zAm (snapB q V) := (zCe _ _).symm
  have e2 : (zAm (zB q)).length + (zAm (vwB V)).length = (snapB q V).length := by simp only [zAr, hsl]
  rw [e2] at hs ⊢
  rw [e1] at hs
  clear hK
  have hK := hs.arr [3, 1] 5 (by decide)
  refine zA4 ⟨hK, ?_⟩
  refine zAb [16] ?_
  refine ⟨⟨_, rfl, ?_⟩, trivial⟩
  refine zA9 rfl en51 (write_sl hM.toK (by omega) (hs.arr [4, 0, 1, 2, 3] 5 (by decide)) snN (by decide) (Rd.own (l := zAm (snapB q V)) 2 rfl) rfl (by omega) hw) ?_
  clear hs
  rintro _ w ⟨rfl, hs⟩
  clear hK
  have hK := hs.arr [4, 2] 5 (by decide)
  refine zA4 ⟨hK, ?_⟩
  refine zA6 17 rfl rfl (fun w hs => zA2 (v := zAq ad _) rfl) hK ?_
  refine zAu (by kernel_rfl) ?_
  clear hK
  refine zA5 ?_
  obtain ⟨rfl, hup, har, hI2⟩ | ⟨rfl, hdn, har, hI2⟩ := hwcase
  ·
   refine zA1 ?_
   refine zA rfl (zA0 (v := zAq ad _) rfl) ?_
   refine zA rfl (zAy (ad := ad) rfl) ?_
   refine zA4 ?_
   refine zAv rfl (rfl) ?_
   refine zAd ?_
   refine zA5 ?_
   refine zA5 ?_
   have hI3 := hI2 (hs.openD).1
   obtain ⟨kc, dc, hcut, hcr, hcc, hccase⟩ := hI3.cut zFb (v := mb) (by rw [zFl _ _ mt_sn]; exact hf) (m := 0) (Nat.zero_le _)
   refine zA1 ?_
   refine zA rfl (zA0 (v := .pointer (some _)) rfl) ?_
   refine zA rfl (zA8 rfl) ?_
   refine zA rfl (zA3 (o' := 0) zD8 rfl sz25 rfl rfl rfl) ?_
   refine zA rfl (zA7 uz25 rfl rfl (hs.cellAt 4 rfl rfl)) ?_
   refine zA9 rfl en18 (cut_sl hM.toK hs (by omega) mtN (m := 0) (inI (by decide) (by decide)) hcut) ?_
   clear hs
   rintro _ w ⟨rfl, hs⟩
   refine zA rfl (zA2 (v := zAq ad _) rfl) ?_
   refine zA4 ?_
   refine zA5 ?_
   obtain ⟨rfl, hup2, har2, hI4⟩ | ⟨rfl, hdn2, har2, hI4⟩ := hccase
   ·
    refine zA1 ?_
    refine zA rfl (zA0 (v := zAq ad _) rfl) ?_
    refine zA rfl (zAy (ad := ad) rfl) ?_
    refine zA4 ?_
    refine zAv rfl (rfl) ?_
    refine zAd ?_
    refine zA5 (zA1 ?_)
    refine zA rfl (zA0 (v := .pointer (some _)) rfl) ?_
    refine zA rfl (zA0 (v := .pointer (some _)) rfl) ?_
    refine zA rfl (zA8 rfl) ?_
    refine zA rfl (zA3 (o' := 4) zD8 rfl sz3 rfl rfl rfl) ?_
    refine zAs (v := .int .i64 _) hs 4 rfl sz3 rfl rfl rfl rfl ?_
    clear hs
    intro w hs
    try simp only [List.set_cons_succ, List.set_cons_zero] at hs
    refine zA rfl (zA8 rfl) ?_
    refine zA rfl (zA3 (o' := 5) zD8 rfl sz3 rfl rfl rfl) ?_
    refine zAs (v := .int .i64 _) hs 4 rfl sz3 rfl rfl rfl rfl ?_
    clear hs
    intro w hs
    try simp only [List.set_cons_succ, List.set_cons_zero] at hs
    refine zA4 (zA5 (zA1 ?_))
    refine zA rfl (zA2 (v := .nilIface) rfl) ?_
    refine zA4 ?_
    refine zAf ?_
    refine zBj (v := .nilIface) rfl rfl ?_
    exact ⟨_, rfl, 0, dc, (zB2 ad).symm, ⟨hcr.trans hwr, by omega, .inl ⟨rfl, hup2, fun e => har2 (har e), hI4 (hs.openD).1⟩⟩, Mem.closeL (hs.arr [4, 2, 0] 5 (by decide))⟩
   ·
    refine zA1 ?_
    refine zA rfl (zA0 (v := zAq ad _) rfl) ?_
    refine zA rfl (zAy (ad := ad) rfl) ?_
    refine zA4 ?_
    refine zBa rfl (rfl) ?_
    refine zA5 (zA1 ?_)
    refine zA rfl (zA0 (v := zAq ad _) rfl) ?_
    refine zA rfl (zA2 (v := zAq ad _) rfl) ?_
    refine zA4 ?_
    refine zAf ?_
    refine zBj (v := zAq ad _) rfl rfl ?_
    exact ⟨_, rfl, 110, dc, rfl, ⟨hcr.trans hwr, by omega, .inr ⟨rfl, hdn2, fun e => har2 (har e), fun picks => .inr (hI4 (hs.openD).1 picks)⟩⟩, Mem.closeL (hs.arr [4, 2, 0] 5 (by decide))⟩
  ·
   refine zA1 ?_
   refine zA rfl (zA0 (v := zAq ad _) rfl) ?_
   refine zA rfl (zAy (ad := ad) rfl) ?_
   refine zA4 ?_
   refine zBa rfl (rfl) ?_
   refine zA5 (zA1 ?_)
   refine zA rfl (zA0 (v := zAq ad _) rfl) ?_
   refine zA rfl (zA2 (v := zAq ad _) rfl) ?_
   refine zA4 ?_
   refine zAf ?_
   refine zBj (v := zAq ad _) rfl rfl ?_
   exact ⟨_, rfl, 110, dw, rfl, ⟨hwr, by omega, .inr ⟨rfl, hdn, har, hI2 (hs.openD).1⟩⟩, Mem.closeL (hs.arr [4, 2, 0] 5 (by decide))⟩
end Go.Proofs.YtdkgdjnbpjjfmaaGreatDoor
namespace Go.Proofs.YtdkgdjnbpjjfmaaGreatDoor
set_option linter.all false
open Go.RowKit
attribute [local irreducible] zAq eV
variable {g w : World} {L M : List HP} {ad : Nat → Addr} {p d pv ev : Nat} {dk : Dk} {f : ByteArray → Option (List UInt8)} {V U : Vw} {q r c n : Nat} {b mb : List UInt8}

/-- An entry that may not come. -/
theorem appBad_sl (hM : ErrM ad g) (hs : Mem g w (LogC p d ev V q c n :: zBn d dk :: L)) {k : Int} {x : Mf} {e o : SA} (hm : MfR g L x e o) (hob : x.obs.length ≤ 1000000) (hap : (V.apply k x).1.1 ≠ 0) : Calls Tryz.prog 13 #[.pointer (some ⟨p, 0, none⟩), .agg (.int .i64 k :: mfL x e o).toArray] w (Ret fun v w' => ∃ eb, v = flV ad (V.apply k x).1 eb ∧ Mem g w' (flC ad (V.apply k x).1 eb :: LogC p d ev V q c n :: zBn d dk :: L)) := by
  obtain ⟨pv, hs⟩ := hs.openL
  refine zAl Tryz.func13 rfl rfl ?_
  skip
  refine zA5 (zA1 ?_)
  refine zCk (v := .agg _) hs rfl rfl ?_
  clear hs
  intro b3 w hs
  try simp only [List.set_cons_succ, List.set_cons_zero] at hs
  refine zA rfl (zA2 (v := .nilIface) rfl) ?_
  refine zA4 (zA5 (zA1 ?_))
  refine zA rfl (zA0 (v := .pointer (some _)) rfl) ?_
  refine zA rfl (zA8 rfl) ?_
  refine zA rfl (zA3 (o' := 2) zD8 rfl sz33 rfl rfl rfl) ?_
  refine zA rfl (zA7 uz33 rfl rfl (hs.cellAt 1 rfl rfl)) ?_
  refine zA9 rfl en16 (zFk (hs.arr [2, 0, 1, 3] 4 (by decide))) ?_
  clear hs
  rintro _ w ⟨u, rfl, hs⟩
  refine zA rfl (zA2 (v := .pointer (some _)) rfl) ?_
  refine zA4 ?_
  refine zA5 ?_
  refine zA5 (zA1 ?_)
  refine zA rfl (zA0 (v := .pointer (some _)) rfl) ?_
  refine zA rfl (zB3 hs 2 rfl zF1 sz41 rfl) ?_
  refine zA9 rfl en14 (zDs hM.toV hs k hm.cons.cons.cons.cons hob) ?_
  clear hs
  rintro _ w ⟨eb, rfl, hs⟩
  refine zA rfl (zA2 (v := flV ad _ _) rfl) ?_
  refine zA4 (zA5 (zA1 ?_))
  refine zA rfl (zA0 (v := flV ad _ _) rfl) ?_
  refine zA rfl (run_neF (.inr hap) rfl) ?_
  refine zA4 ?_
  refine zBa rfl ((by rw [decide_eq_false hap]; rfl)) ?_
  refine zA5 (zA1 ?_)
  refine zA rfl (zA0 (v := flV ad _ _) rfl) ?_
  refine zA rfl (zA2 (v := flV ad _ _) rfl) ?_
  refine zA4 ?_
  refine zAf ?_
  refine zBj (v := flV ad _ _) rfl rfl ?_
  exact ⟨_, rfl, eb, rfl, (Mem.closeL (hs.arr [4, 2, 0, 5] 6 (by decide))).arr [1, 0, 2] 3 (by decide)⟩
/-- What an Append of an entry that may come leaves. -/
def AppOut (f : ByteArray → Option (List UInt8)) (dk : Dk) (ev : Nat) (V1 : Vw) (q c : Nat) (mb fr : List UInt8) (k : Nat) (dk2 : Dk) (V' : Vw) (q' c' n' : Nat) : Prop :=
  dk2.room = dk.room ∧ dk2.calls ≤ dk.calls + 9 ∧
  (k = 0 ∧ dk2.down = false ∧ (dk.armed = 0 → dk2.armed = 0) ∧ V' = V1 ∧ q' = q + 1 ∧ (c + 1 < ev ∧ c' = c + 1 ∧ n' = mb.length + fr.length ∧ LgI (zE f mtN (mb ++ fr)) dk2 ∨ ev ≤ c + 1 ∧ c' = 0 ∧ n' = 0 ∧ LgI (zE (zE (zE f mtN (mb ++ fr)) snN (zBp (snapB (q + 1) V1))) mtN []) dk2) ∨
   k = 0 ∧ dk2.down = true ∧ dk.armed ≠ 0 ∧ (∀ picks, LgI (zE f mtN (mb ++ fr)) (dk2.crash picks) ∨ LgI (zE (zE f mtN (mb ++ fr)) snN (zBp (snapB (q + 1) V1))) (dk2.crash picks)) ∨
   k = 110 ∧ dk2.down = true ∧ dk.armed ≠ 0 ∧ ∀ picks, ∃ j, LgI (zE f mtN (mb ++ fr.take j)) (dk2.crash picks))
set_option maxHeartbeats 2000000 in
theorem appOk_sl (hM : ErrM ad g) (hs : Mem g w (LogC p d ev V q c n :: zBn d dk :: L)) (hI : LgI f dk) (hf : f mtN = some mb) (hn : n = mb.length) (hcl : dk.calls < 700000) (hr : 1000000 ≤ dk.room) (hu : V.sums) (hl : V.length ≤ 31) (hq : q < 1000000) (hc : c ≤ 1000000) (hb : mb.length + 6021 ≤ 200000) {k : Int} {x : Mf} {e o : SA} (hm : MfR g L x e o) (hob : x.obs.length ≤ 1000000) (hsu : ∀ o ∈ x.obs, o.2.2 < 4294967296) (hap : (V.apply k x).1 = (0, none)) :
    Calls Tryz.prog 13 #[.pointer (some ⟨p, 0, none⟩), .agg (.int .i64 k :: mfL x e o).toArray] w (Ret fun v w' => ∃ kr dk2 V' q' c' n', v = zAq ad kr ∧ AppOut f dk ev (V.apply k x).2 q c mb (frame (q + 1) (k, x)) kr dk2 V' q' c' n' ∧ Mem g w' (LogC p d ev V' q' c' n' :: zBn d dk2 :: L)) := by
  subst hn
  have hK := hM.toK
  obtain ⟨pv, hs⟩ := hs.openL
  have hen := Vw.apply_en hap
  have hok : EnOk (k, x) := ⟨hen.1, hen.2.1, hen.2.2, hsu⟩
  have hfl := frame_le (q := q + 1) hok
  obtain ⟨fr, hfr⟩ : ∃ fr, fr = frame (q + 1) (k, x) := ⟨_, rfl⟩
  have hlen := V.apply_len k x
  have hsu1 := Vw.apply_sums hu (k := k) hsu
  obtain ⟨V1, hV1⟩ : ∃ V1, V1 = (V.apply k x).2 := ⟨_, rfl⟩
  rw [← hfr] at hfl
  rw [← hV1] at hlen hsu1
  obtain ⟨ka, da, hap1, har, hac, hacase⟩ := hI.grow zFb hf (x := fr) (by omega) (by show 2 * 2 * 200000 + 200000 ≤ dk.room; omega)
  refine zAl Tryz.func13 rfl rfl ?_
  skip
  refine zA5 (zA1 ?_)
  refine zCk (v := .agg _) hs rfl rfl ?_
  clear hs
  intro b3 w hs
  try simp only [List.set_cons_succ, List.set_cons_zero] at hs
  refine zA rfl (zA2 (v := .nilIface) rfl) ?_
  refine zA4 (zA5 (zA1 ?_))
  refine zA rfl (zA0 (v := .pointer (some _)) rfl) ?_
  refine zA rfl (zA8 rfl) ?_
  refine zA rfl (zA3 (o' := 2) zD8 rfl sz33 rfl rfl rfl) ?_
  refine zA rfl (zA7 uz33 rfl rfl (hs.cellAt 1 rfl rfl)) ?_
  refine zA9 rfl en16 (zFk (hs.arr [2, 0, 1, 3] 4 (by decide))) ?_
  clear hs
  rintro _ w ⟨u, rfl, hs⟩
  refine zA rfl (zA2 (v := .pointer (some _)) rfl) ?_
  refine zA4 ?_
  refine zA5 ?_
  refine zA5 (zA1 ?_)
  refine zA rfl (zA0 (v := .pointer (some _)) rfl) ?_
  refine zA rfl (zB3 hs 2 rfl zF1 sz41 rfl) ?_
  refine zA9 rfl en14 (zDs hM.toV hs k hm.cons.cons.cons.cons hob) ?_
  clear hs
  rintro _ w ⟨eb, rfl, hs⟩
  rw [hap] at hs ⊢
  replace hs := hs.tail
  rw [← hV1] at hs ⊢
  refine zA rfl (zA2 (v := zAq ad _) rfl) ?_
  refine zA4 (zA5 (zA1 ?_))
  refine zA rfl (zA0 (v := zAq ad _) rfl) ?_
  refine zA rfl (zAy (ad := ad) rfl) ?_
  refine zA4 ?_
  refine zAv rfl (rfl) ?_
  refine zAd ?_
  refine zA5 ?_
  refine zA5 (zA1 ?_)
  refine zA rfl (zA0 (v := .pointer (some _)) rfl) ?_
  refine zA rfl (zA8 rfl) ?_
  refine zA rfl (zA3 (o' := 3) zD8 rfl sz2 rfl rfl rfl) ?_
  refine zA rfl (zA7 uz2 rfl rfl (hs.cellAt 3 rfl rfl)) ?_
  refine zA rfl (zBu rfl rfl) ?_
  refine zA4 ?_
  refine zAv rfl (decide_eq_false (by omega)) ?_
  refine zAd ?_
  refine zA5 ?_
  refine zAz zBx hs ?_
  intro w tr hK
  replace hs := tr _ hs
  clear tr
  refine zA6 0 rfl rfl (fun w hs => zA0 (v := .pointer (some _)) rfl) hK ?_
  refine zA6 1 rfl rfl (fun w hs => zA8 rfl) hK ?_
  refine zA6 2 rfl rfl (fun w hs => zA3 (o' := 3) zD8 rfl sz2 rfl rfl rfl) hK ?_
  refine zA6 3 rfl rfl (fun w hs => zA7 uz2 rfl rfl (hs.cellAt 3 rfl rfl)) hK ?_
  refine zA6 4 rfl rfl (fun w hs => zAn rfl rfl (c := ((q + 1 : Nat) : Int)) (by omega) (inI (by omega) (by omega))) hK ?_
  refine zA6 5 rfl rfl (fun w hs => zB3 hs 2 rfl zF1 sz41 rfl) hK ?_
  refine zAb [6] ?_
  refine ⟨⟨_, rfl, ?_⟩, trivial⟩
  refine zA9 rfl en38 (enBytes_sl hM.toV hs (q := q + 1) (by omega) hm.cons.cons.cons.cons.cons hok) ?_
  clear hs
  rintro _ w ⟨s33, rfl, hs⟩
  rw [← hfr] at hs ⊢
  clear hK
  have hK := hs.tail
  refine zA4 ⟨hK, ?_⟩
  refine zA6 7 rfl rfl (fun w hs => zA0 (v := .tuple _) rfl) hK ?_
  refine zA6 8 rfl rfl (fun w hs => zAa (v := .slice _ _ _) rfl rfl) hK ?_
  refine zA6 9 rfl rfl (fun w hs => zAa (v := .nilIface) rfl rfl) hK ?_
  refine zA6 10 rfl rfl (fun w hs => zA2 (v := .slice _ _ _) rfl) hK ?_
  refine zA6 11 rfl rfl (fun w hs => zA2 (v := .nilIface) rfl) hK ?_
  refine zAu (by kernel_rfl) ?_
  clear hK
  refine zA5 ?_
  refine zA5 (zA1 ?_)
  refine zA rfl (zA0 (v := .nilIface) rfl) ?_
  refine zA rfl (zBi rfl) ?_
  refine zA4 ?_
  refine zAv rfl (rfl) ?_
  refine zAd ?_
  refine zA5 (zA1 ?_)
  refine zA rfl (zA0 (v := .pointer (some _)) rfl) ?_
  refine zA rfl (zA8 rfl) ?_
  refine zA rfl (zA3 (o' := 0) zD8 rfl sz25 rfl rfl rfl) ?_
  refine zA rfl (zA7 uz25 rfl rfl (hs.cellAt 4 rfl rfl)) ?_
  refine zA rfl (zA0 (v := .slice _ _ _) rfl) ?_
  refine zA9 rfl en19 (append_sl hM.toK (hs.arr [5, 0, 1, 2, 3, 4] 6 (by decide)) (by omega) mtN (x := fr) (Rd.own 0 rfl) rfl (by omega) hap1) ?_
  clear hs
  rintro _ w ⟨rfl, hs⟩
  refine zA rfl (zA2 (v := zAq ad _) rfl) ?_
  refine zA4 ?_
  refine zA5 ?_
  refine zA5 ?_
  obtain ⟨rfl, hdn, hne, hcr⟩ | ⟨rfl, hup, k2, d2, hsy, hsr, hsc, hscase⟩ := hacase
  ·
   refine zA1 ?_
   refine zA rfl (zA0 (v := zAq ad _) rfl) ?_
   refine zA rfl (zCn (ad := ad) rfl) ?_
   refine zA4 ?_
   refine zAv rfl (rfl) ?_
   refine zAd ?_
   refine zA5 ?_
   refine zA5 (zA1 ?_)
   refine zA rfl (zA0 (v := zAq ad _) rfl) ?_
   refine zA rfl (zAy (ad := ad) rfl) ?_
   refine zA4 ?_
   refine zBa rfl (rfl) ?_
   refine zA5 (zA1 ?_)
   refine zA rfl (zA0 (v := zAq ad _) rfl) ?_
   refine zA rfl (zA2 (v := zAq ad _) rfl) ?_
   refine zA4 ?_
   refine zAf ?_
   refine zBj (v := zAq ad _) rfl rfl ?_
   exact ⟨_, rfl, 110, da, V, q, c, mb.length, rfl, ⟨har, by omega, .inr (.inr ⟨rfl, hdn, hne, fun picks => ⟨0, by rw [List.take_zero, List.append_nil, zEi hf]; exact hcr (hs.openD).1 picks⟩⟩)⟩, Mem.closeL (hs.arr [5, 3, 0] 6 (by decide))⟩
  ·
   refine zA1 ?_
   refine zA rfl (zA0 (v := zAq ad _) rfl) ?_
   refine zA rfl (zCn (ad := ad) rfl) ?_
   refine zA4 ?_
   refine zBa rfl (rfl) ?_
   refine zA5 (zA1 ?_)
   refine zA rfl (zA0 (v := .pointer (some _)) rfl) ?_
   refine zA rfl (zA8 rfl) ?_
   refine zA rfl (zA3 (o' := 0) zD8 rfl sz25 rfl rfl rfl) ?_
   refine zA rfl (zA7 uz25 rfl rfl (hs.cellAt 5 rfl rfl)) ?_
   refine zA9 rfl en39 (sync_sl hM.toK hs (by omega) mtN hsy) ?_
   clear hs
   rintro _ w ⟨rfl, hs⟩
   refine zA rfl (zA2 (v := zAq ad _) rfl) ?_
   refine zA4 ?_
   refine zA5 ?_
   obtain ⟨rfl, hup2, har2, hI2⟩ | ⟨rfl, hdn2, hne2, hcr2⟩ := hscase
   ·
    refine zA1 ?_
    refine zA rfl (zA0 (v := zAq ad _) rfl) ?_
    refine zA rfl (zAy (ad := ad) rfl) ?_
    refine zA4 ?_
    refine zAv rfl (rfl) ?_
    refine zAd ?_
    refine zA5 ?_
    refine zA5 (zA1 ?_)
    refine zA rfl (zA0 (v := zAq ad _) rfl) ?_
    refine zA rfl (zAy (ad := ad) rfl) ?_
    refine zA4 ?_
    refine zAv rfl (rfl) ?_
    refine zAd ?_
    refine zA5 ?_
    have hI3 := hI2 (hs.openD).1
    refine zAz zBx (hs.drop 5) ?_
    intro w tr hK
    replace hs := tr _ hs
    clear tr
    refine zA6 0 rfl rfl (fun w hs => zA0 (v := .pointer (some _)) rfl) hK ?_
    refine zA6 1 rfl rfl (fun w hs => zA0 (v := .pointer (some _)) rfl) hK ?_
    refine zA6 2 rfl rfl (fun w hs => zA0 (v := .pointer (some _)) rfl) hK ?_
    refine zA6 3 rfl rfl (fun w hs => zA0 (v := .pointer (some _)) rfl) hK ?_
    refine zA6 4 rfl rfl (fun w hs => zA0 (v := .pointer (some _)) rfl) hK ?_
    refine zA6 5 rfl rfl (fun w hs => zA8 rfl) hK ?_
    refine zA6 6 rfl rfl (fun w hs => zA3 (o' := 3) zD8 rfl sz2 rfl rfl rfl) hK ?_
    refine zA6 9 rfl rfl (fun w hs => zA0 (v := .pointer (some _)) rfl) hK ?_
    refine zA6 10 rfl rfl (fun w hs => zA8 rfl) hK ?_
    refine zA6 11 rfl rfl (fun w hs => zA3 (o' := 5) zD8 rfl sz3 rfl rfl rfl) hK ?_
    refine zA6 13 rfl rfl (fun w hs => zA0 (v := .slice _ _ _) rfl) hK ?_
    refine zA6 14 rfl rfl (fun w hs => zAw zBz rfl) hK ?_
    refine zAb [7, 12] ?_
    refine ⟨⟨_, rfl, ?_⟩, ⟨_, rfl, ?_⟩, trivial⟩
    ·
     refine zA rfl (zA7 uz2 rfl rfl (hs.cellAt 5 rfl rfl)) ?_
     clear hK
     have hK := hs.drop 5
     refine zA4 ⟨hK, ?_⟩
     refine zA6 8 rfl rfl (fun w hs => zAn rfl rfl (c := ((q + 1 : Nat) : Int)) (by omega) (inI (by omega) (by omega))) hK ?_
     refine zAb [12] ?_
     refine ⟨⟨_, rfl, ?_⟩, trivial⟩
     refine zA rfl (zA7 uz3 rfl rfl (hs.cellAt 5 rfl rfl)) ?_
     clear hK
     have hK := hs.drop 5
     refine zA4 ⟨hK, ?_⟩
     refine zA6 15 rfl rfl (fun w hs => zAn rfl rfl (c := ((mb.length + fr.length : Nat) : Int)) (by omega) (inI (by omega) (by omega))) hK ?_
     refine zA6 16 rfl rfl (fun w hs => zA8 rfl) hK ?_
     refine zA6 17 rfl rfl (fun w hs => zA3 (o' := 2) zD8 rfl sz33 rfl rfl rfl) hK ?_
     refine zAb [18] ?_
     refine ⟨⟨_, rfl, ?_⟩, trivial⟩
     refine zAs (v := .pointer (some _)) hs 5 rfl sz33 rfl rfl rfl rfl ?_
     clear hs
     intro w hs
     try simp only [List.set_cons_succ, List.set_cons_zero] at hs
     clear hK
     have hK := hs.drop 5
     refine zA4 ⟨hK, ?_⟩
     refine zA6 19 rfl rfl (fun w hs => zA8 rfl) hK ?_
     refine zA6 20 rfl rfl (fun w hs => zA3 (o' := 3) zD8 rfl sz2 rfl rfl rfl) hK ?_
     refine zAb [21] ?_
     refine ⟨⟨_, rfl, ?_⟩, trivial⟩
     refine zAs (v := .int .i64 _) hs 5 rfl sz2 rfl rfl rfl rfl ?_
     clear hs
     intro w hs
     try simp only [List.set_cons_succ, List.set_cons_zero] at hs
     clear hK
     have hK := hs.drop 5
     refine zA4 ⟨hK, ?_⟩
     refine zA6 22 rfl rfl (fun w hs => zA8 rfl) hK ?_
     refine zA6 23 rfl rfl (fun w hs => zA3 (o' := 5) zD8 rfl sz3 rfl rfl rfl) hK ?_
     refine zAb [24] ?_
     refine ⟨⟨_, rfl, ?_⟩, trivial⟩
     refine zAs (v := .int .i64 _) hs 5 rfl sz3 rfl rfl rfl rfl ?_
     clear hs
     intro w hs
     try simp only [List.set_cons_succ, List.set_cons_zero] at hs
     clear hK
     have hK := hs.drop 5
     refine zA4 ⟨hK, ?_⟩
     refine zAu (by kernel_rfl) ?_
     clear hK
     refine zA5 ?_
     refine zA5 (zA1 ?_)
     refine zA rfl (zA0 (v := .pointer (some _)) rfl) ?_
     refine zA rfl (zA8 rfl) ?_
     refine zA rfl (zA3 (o' := 4) zD8 rfl sz3 rfl rfl rfl) ?_
     refine zA rfl (zA7 uz3 rfl rfl (hs.cellAt 5 rfl rfl)) ?_
     refine zA rfl (zAn rfl rfl (c := ((c + 1 : Nat) : Int)) (by omega) (inI (by omega) (by omega))) ?_
     refine zA rfl (zA8 rfl) ?_
     refine zA rfl (zA3 (o' := 4) zD8 rfl sz3 rfl rfl rfl) ?_
     refine zAs (v := .int .i64 _) hs 5 rfl sz3 rfl rfl rfl rfl ?_
     clear hs
     intro w hs
     try simp only [List.set_cons_succ, List.set_cons_zero] at hs
     refine zA4 ?_
     refine zA5 ?_
     refine zAz zBx hs ?_
     intro w tr hK
     replace hs := tr _ hs
     clear tr
     refine zA6 0 rfl rfl (fun w hs => zA0 (v := .pointer (some _)) rfl) hK ?_
     refine zA6 1 rfl rfl (fun w hs => zA8 rfl) hK ?_
     refine zA6 2 rfl rfl (fun w hs => zA3 (o' := 4) zD8 rfl sz3 rfl rfl rfl) hK ?_
     refine zA6 3 rfl rfl (fun w hs => zA7 uz3 rfl rfl (hs.cellAt 5 rfl rfl)) hK ?_
     refine zA6 4 rfl rfl (fun w hs => zA0 (v := .pointer (some _)) rfl) hK ?_
     refine zA6 5 rfl rfl (fun w hs => zA8 rfl) hK ?_
     refine zA6 6 rfl rfl (fun w hs => zA3 (o' := 1) zD8 rfl sz3 rfl rfl rfl) hK ?_
     refine zA6 7 rfl rfl (fun w hs => zA7 uz3 rfl rfl (hs.cellAt 5 rfl rfl)) hK ?_
     refine zA6 8 rfl rfl (fun w hs => zCz rfl rfl) hK ?_
     refine zAu (by kernel_rfl) ?_
     clear hK
     refine zB7 rfl ?_ ?_
     ·
      intro h103
      have g103 := of_decide_eq_true h103
      refine zA1 ?_
      refine zA rfl (zA0 (v := .pointer (some _)) rfl) ?_
      refine zA9 rfl en23 (snapM_sl (q := q + 1) (c := c + 1) (n := mb.length + fr.length) (mb := mb ++ fr) hM (Mem.closeL (hs.arr [5, 2, 0] 6 (by decide))) hI3 (zCy _ _ _) (by omega) (by omega) hsu1 (by omega) (by omega)) ?_
      clear hs
      rintro _ w ⟨ks, d3, rfl, hso, hs⟩
      refine zA4 (zA5 (zA1 ?_))
      refine zA rfl (zA2 (v := .nilIface) rfl) ?_
      refine zA4 ?_
      refine zAf ?_
      refine zBj (v := .nilIface) rfl rfl ?_
      obtain ⟨r1, r2, hcs⟩ := hso
      rcases hcs with ⟨rfl, hu3, ha3, hI4⟩ | ⟨rfl, hd3, hn3, hI4⟩
      exact ⟨_, rfl, 0, d3, V1, q + 1, 0, 0, (zB2 ad).symm, ⟨r1.trans hsr, by omega, .inl ⟨rfl, hu3, fun e => ha3 (har2 e), rfl, rfl, .inr ⟨by omega, rfl, rfl, hI4⟩⟩⟩, hs⟩
      exact ⟨_, rfl, 0, d3, V1, q + 1, c + 1, _, (zB2 ad).symm, ⟨r1.trans hsr, by omega, .inr (.inl ⟨rfl, hd3, fun e => hn3 (har2 e), hI4⟩)⟩, hs⟩
     ·
      intro h103
      have g103 := of_decide_eq_false h103
      refine zAd ?_
      refine zA5 (zA1 ?_)
      refine zA rfl (zA2 (v := .nilIface) rfl) ?_
      refine zA4 ?_
      refine zAf ?_
      refine zBj (v := .nilIface) rfl rfl ?_
      exact ⟨_, rfl, 0, d2, V1, q + 1, c + 1, mb.length + fr.length, (zB2 ad).symm, ⟨hsr, by omega, .inl ⟨rfl, hup2, har2, rfl, rfl, .inl ⟨by omega, rfl, rfl, hI3⟩⟩⟩, Mem.closeL (hs.arr [5, 2, 0] 6 (by decide))⟩
    ·
     refine zA rfl (zA7 uz3 rfl rfl (hs.cellAt 5 rfl rfl)) ?_
     clear hK
     have hK := hs.drop 5
     refine zA4 ⟨hK, ?_⟩
     refine zA6 15 rfl rfl (fun w hs => zAn rfl rfl (c := ((mb.length + fr.length : Nat) : Int)) (by omega) (inI (by omega) (by omega))) hK ?_
     refine zAb [7] ?_
     refine ⟨⟨_, rfl, ?_⟩, trivial⟩
     refine zA rfl (zA7 uz2 rfl rfl (hs.cellAt 5 rfl rfl)) ?_
     clear hK
     have hK := hs.drop 5
     refine zA4 ⟨hK, ?_⟩
     refine zA6 8 rfl rfl (fun w hs => zAn rfl rfl (c := ((q + 1 : Nat) : Int)) (by omega) (inI (by omega) (by omega))) hK ?_
     refine zA6 16 rfl rfl (fun w hs => zA8 rfl) hK ?_
     refine zA6 17 rfl rfl (fun w hs => zA3 (o' := 2) zD8 rfl sz33 rfl rfl rfl) hK ?_
     refine zAb [18] ?_
     refine ⟨⟨_, rfl, ?_⟩, trivial⟩
     refine zAs (v := .pointer (some _)) hs 5 rfl sz33 rfl rfl rfl rfl ?_
     clear hs
     intro w hs
     try simp only [List.set_cons_succ, List.set_cons_zero] at hs
     clear hK
     have hK := hs.drop 5
     refine zA4 ⟨hK, ?_⟩
     refine zA6 19 rfl rfl (fun w hs => zA8 rfl) hK ?_
     refine zA6 20 rfl rfl (fun w hs => zA3 (o' := 3) zD8 rfl sz2 rfl rfl rfl) hK ?_
     refine zAb [21] ?_
     refine ⟨⟨_, rfl, ?_⟩, trivial⟩
     refine zAs (v := .int .i64 _) hs 5 rfl sz2 rfl rfl rfl rfl ?_
     clear hs
     intro w hs
     try simp only [List.set_cons_succ, List.set_cons_zero] at hs
     clear hK
     have hK := hs.drop 5
     refine zA4 ⟨hK, ?_⟩
     refine zA6 22 rfl rfl (fun w hs => zA8 rfl) hK ?_
     refine zA6 23 rfl rfl (fun w hs => zA3 (o' := 5) zD8 rfl sz3 rfl rfl rfl) hK ?_
     refine zAb [24] ?_
     refine ⟨⟨_, rfl, ?_⟩, trivial⟩
     refine zAs (v := .int .i64 _) hs 5 rfl sz3 rfl rfl rfl rfl ?_
     clear hs
     intro w hs
     try simp only [List.set_cons_succ, List.set_cons_zero] at hs
     clear hK
     have hK := hs.drop 5
     refine zA4 ⟨hK, ?_⟩
     refine zAu (by kernel_rfl) ?_
     clear hK
     refine zA5 ?_
     refine zA5 (zA1 ?_)
     refine zA rfl (zA0 (v := .pointer (some _)) rfl) ?_
     refine zA rfl (zA8 rfl) ?_
     refine zA rfl (zA3 (o' := 4) zD8 rfl sz3 rfl rfl rfl) ?_
     refine zA rfl (zA7 uz3 rfl rfl (hs.cellAt 5 rfl rfl)) ?_
     refine zA rfl (zAn rfl rfl (c := ((c + 1 : Nat) : Int)) (by omega) (inI (by omega) (by omega))) ?_
     refine zA rfl (zA8 rfl) ?_
     refine zA rfl (zA3 (o' := 4) zD8 rfl sz3 rfl rfl rfl) ?_
     refine zAs (v := .int .i64 _) hs 5 rfl sz3 rfl rfl rfl rfl ?_
     clear hs
     intro w hs
     try simp only [List.set_cons_succ, List.set_cons_zero] at hs
     refine zA4 ?_
     refine zA5 ?_
     refine zAz zBx hs ?_
     intro w tr hK
     replace hs := tr _ hs
     clear tr
     refine zA6 0 rfl rfl (fun w hs => zA0 (v := .pointer (some _)) rfl) hK ?_
     refine zA6 1 rfl rfl (fun w hs => zA8 rfl) hK ?_
     refine zA6 2 rfl rfl (fun w hs => zA3 (o' := 4) zD8 rfl sz3 rfl rfl rfl) hK ?_
     refine zA6 3 rfl rfl (fun w hs => zA7 uz3 rfl rfl (hs.cellAt 5 rfl rfl)) hK ?_
     refine zA6 4 rfl rfl (fun w hs => zA0 (v := .pointer (some _)) rfl) hK ?_
     refine zA6 5 rfl rfl (fun w hs => zA8 rfl) hK ?_
     refine zA6 6 rfl rfl (fun w hs => zA3 (o' := 1) zD8 rfl sz3 rfl rfl rfl) hK ?_
     refine zA6 7 rfl rfl (fun w hs => zA7 uz3 rfl rfl (hs.cellAt 5 rfl rfl)) hK ?_
     refine zA6 8 rfl rfl (fun w hs => zCz rfl rfl) hK ?_
     refine zAu (by kernel_rfl) ?_
     clear hK
     refine zB7 rfl ?_ ?_
     ·
      intro h103
      have g103 := of_decide_eq_true h103
      refine zA1 ?_
      refine zA rfl (zA0 (v := .pointer (some _)) rfl) ?_
      refine zA9 rfl en23 (snapM_sl (q := q + 1) (c := c + 1) (n := mb.length + fr.length) (mb := mb ++ fr) hM (Mem.closeL (hs.arr [5, 2, 0] 6 (by decide))) hI3 (zCy _ _ _) (by omega) (by omega) hsu1 (by omega) (by omega)) ?_
      clear hs
      rintro _ w ⟨ks, d3, rfl, hso, hs⟩
      refine zA4 (zA5 (zA1 ?_))
      refine zA rfl (zA2 (v := .nilIface) rfl) ?_
      refine zA4 ?_
      refine zAf ?_
      refine zBj (v := .nilIface) rfl rfl ?_
      obtain ⟨r1, r2, hcs⟩ := hso
      rcases hcs with ⟨rfl, hu3, ha3, hI4⟩ | ⟨rfl, hd3, hn3, hI4⟩
      exact ⟨_, rfl, 0, d3, V1, q + 1, 0, 0, (zB2 ad).symm, ⟨r1.trans hsr, by omega, .inl ⟨rfl, hu3, fun e => ha3 (har2 e), rfl, rfl, .inr ⟨by omega, rfl, rfl, hI4⟩⟩⟩, hs⟩
      exact ⟨_, rfl, 0, d3, V1, q + 1, c + 1, _, (zB2 ad).symm, ⟨r1.trans hsr, by omega, .inr (.inl ⟨rfl, hd3, fun e => hn3 (har2 e), hI4⟩)⟩, hs⟩
     ·
      intro h103
      have g103 := of_decide_eq_false h103
      refine zAd ?_
      refine zA5 (zA1 ?_)
      refine zA rfl (zA2 (v := .nilIface) rfl) ?_
      refine zA4 ?_
      refine zAf ?_
      refine zBj (v := .nilIface) rfl rfl ?_
      exact ⟨_, rfl, 0, d2, V1, q + 1, c + 1, mb.length + fr.length, (zB2 ad).symm, ⟨hsr, by omega, .inl ⟨rfl, hup2, har2, rfl, rfl, .inl ⟨by omega, rfl, rfl, hI3⟩⟩⟩, Mem.closeL (hs.arr [5, 2, 0] 6 (by decide))⟩
   ·
    refine zA1 ?_
    refine zA rfl (zA0 (v := zAq ad _) rfl) ?_
    refine zA rfl (zAy (ad := ad) rfl) ?_
    refine zA4 ?_
    refine zBa rfl (rfl) ?_
    refine zAz zBx (hs.drop 0) ?_
    intro w tr hK
    replace hs := tr _ hs
    clear tr
    refine zA6 0 rfl rfl (fun w hs => zA0 (v := .pointer (some _)) rfl) hK ?_
    refine zA6 1 rfl rfl (fun w hs => zA8 rfl) hK ?_
    refine zA6 2 rfl rfl (fun w hs => zA3 (o' := 0) zD8 rfl sz25 rfl rfl rfl) hK ?_
    refine zA6 3 rfl rfl (fun w hs => zA7 uz25 rfl rfl (hs.cellAt 4 rfl rfl)) hK ?_
    refine zA6 4 rfl rfl (fun w hs => zA0 (v := .pointer (some _)) rfl) hK ?_
    refine zA6 5 rfl rfl (fun w hs => zA8 rfl) hK ?_
    refine zA6 6 rfl rfl (fun w hs => zA3 (o' := 5) zD8 rfl sz3 rfl rfl rfl) hK ?_
    refine zA6 7 rfl rfl (fun w hs => zA7 uz3 rfl rfl (hs.cellAt 4 rfl rfl)) hK ?_
    refine zAb [8] ?_
    refine ⟨⟨_, rfl, ?_⟩, trivial⟩
    refine zA9 rfl en18 (cut_sl hM.toK hs (by omega) mtN (m := ((mb.length : Nat) : Int)) (inI (by omega) (by omega)) (Dk.cut_down hdn2 mtN _)) ?_
    clear hs
    rintro _ w ⟨rfl, hs⟩
    clear hK
    have hK := hs.drop 0
    refine zA4 ⟨hK, ?_⟩
    refine zAu (by kernel_rfl) ?_
    clear hK
    refine zA5 ?_
    refine zA5 (zA1 ?_)
    refine zA rfl (zA0 (v := zAq ad _) rfl) ?_
    refine zA rfl (zAy (ad := ad) rfl) ?_
    refine zA4 ?_
    refine zBa rfl (rfl) ?_
    refine zA5 (zA1 ?_)
    refine zA rfl (zA0 (v := zAq ad _) rfl) ?_
    refine zA rfl (zA2 (v := zAq ad _) rfl) ?_
    refine zA4 ?_
    refine zAf ?_
    refine zBj (v := zAq ad _) rfl rfl ?_
    exact ⟨_, rfl, 110, d2, V, q, c, mb.length, rfl, ⟨hsr, by omega, .inr (.inr ⟨rfl, hdn2, hne2, hcr2 (hs.openD).1⟩)⟩, Mem.closeL (hs.arr [5, 3, 0] 6 (by decide))⟩
end Go.Proofs.YtdkgdjnbpjjfmaaGreatDoor
namespace Go.Proofs.YtdkgdjnbpjjfmaaGreatDoor
set_option linter.all false
open Go.RowKit
attribute [local irreducible] zAq
variable {g w : World} {L M : List HP} {ad : Nat → Addr} {p : Nat}

def mkM (id base : Nat) (fin : Int) (l : List Pr) : Mf := ⟨id, base, fin, 0, l, [(objNm id bData base, 0, 0), (objNm id bMarks base, 0, 0)]⟩
theorem crc_none : zFf 0 [] = 0 := by decide +kernel
set_option maxRecDepth 100000 in
set_option maxHeartbeats 2000000 in
theorem make_sl (hs : Mem g w L) {id base : Nat} {fin : Int} {a : Option Addr} {n c : Nat} {l : List Pr} (hr : RdK g L 2 (.slice a n c) (l.map prL)) (hn : n = l.length) (hlen : 1 ≤ l.length ∧ l.length ≤ 1000000) (hid : id ≤ 2147483647) (hb : base ≤ 1099511627776) (hF : mfF (mkM id base fin l) = (0, none)) :
    Calls Tryz.prog 78 #[.int .i64 id, .int .i64 base, .int .i64 fin, .int .i64 0, .slice a n c, .slice none 0 0, .slice none 0 0] w (Ret fun v w' => ∃ s1 s2 : SA, v = .tuple #[.agg (mfL (mkM id base fin l) s1 s2).toArray, fltV (0, none)] ∧ Mem g w' (mfP (mkM id base fin l) s1 s2 ++ L)) := by
  subst hn
  refine zAl Tryz.func78 rfl rfl ?_
  skip
  refine zA5 (zA1 ?_)
  refine zBd hs rfl ze39 ?_
  clear hs
  intro b14 w hs
  try simp only [List.set_cons_succ, List.set_cons_zero] at hs
  refine zBd hs rfl ze57 ?_
  clear hs
  intro b15 w hs
  try simp only [List.set_cons_succ, List.set_cons_zero] at hs
  refine zA4 (zA5 (zA1 ?_))
  refine zA rfl (zA0 (v := .int .i64 _) rfl) ?_
  refine zA rfl (zA0 (v := .int .i64 _) rfl) ?_
  refine zA rfl (zA0 (v := .int .i64 _) rfl) ?_
  refine zA rfl (zA0 (v := .int .i64 _) rfl) ?_
  refine zA rfl (zA0 (v := .slice _ _ _) rfl) ?_
  refine zA9 rfl en117 (copyPr_sl hs hr.cons.cons rfl hlen) ?_
  clear hs
  rintro _ w ⟨s1, rfl, hs⟩
  refine zA rfl (zCo (cs := [.int .i64 id, .int .i64 base, .int .i64 fin, .int .i64 0, .slice s1.1 l.length s1.2, .slice none 0 0]) zC3 ze39 pl39 rfl) ?_
  refine zBd hs rfl ze39 ?_
  clear hs
  intro b16 w hs
  try simp only [List.set_cons_succ, List.set_cons_zero] at hs
  refine zAp hs 0 rfl rfl rfl zE0 rfl rfl ?_
  clear hs
  intro w hs
  try simp only [List.set_cons_succ, List.set_cons_zero] at hs
  refine zA4 (zA5 (zA1 ?_))
  refine zA rfl (zA0 (v := .int .i64 _) rfl) ?_
  refine zA rfl (zA0 (v := .int .i64 _) rfl) ?_
  refine zA9 rfl en118 (objNm_sl hs id base bData hid hb (by decide) (by decide)) ?_
  clear hs
  rintro _ w ⟨rfl, hs⟩
  refine zA rfl (zA0 (v := .slice _ _ _) rfl) ?_
  refine zA rfl (zAw zBz rfl) ?_
  refine zA rfl (zA0 (v := .slice _ _ _) rfl) ?_
  refine zA9 rfl en119 (hs.callsE (refSum_any (w := w) (b := .slice none 0 0) (l := []) (seqV.nil w) (by simp))) ?_
  clear hs
  rintro _ w ⟨rfl, hs⟩
  rw [crc_none]
  refine zA rfl (zBf ([.string (objNm id bData base), .int .i64 0, .int .u32 0]) zD6 zFt pl113 rfl (by simp [Value.cells]) rfl rfl) ?_
  refine zA rfl (zA0 (v := .int .i64 _) rfl) ?_
  refine zA rfl (zA0 (v := .int .i64 _) rfl) ?_
  refine zA9 rfl en118 (objNm_sl hs id base bMarks hid hb (by decide) (by decide)) ?_
  clear hs
  rintro _ w ⟨rfl, hs⟩
  refine zA rfl (zA0 (v := .slice _ _ _) rfl) ?_
  refine zA rfl (zAw zBz rfl) ?_
  refine zA rfl (zA0 (v := .slice _ _ _) rfl) ?_
  refine zA9 rfl en119 (hs.callsE (refSum_any (w := w) (b := .slice none 0 0) (l := []) (seqV.nil w) (by simp))) ?_
  clear hs
  rintro _ w ⟨rfl, hs⟩
  rw [crc_none]
  refine zA rfl (zBf ([.string (objNm id bMarks base), .int .i64 0, .int .u32 0]) zD6 zFt pl113 rfl (by simp [Value.cells]) rfl rfl) ?_
  refine lw_build2 hs rfl (r1 := obL (objNm id bData base, 0, 0)) (r2 := obL (objNm id bMarks base, 0, 0)) zC7 zsOb rfl rfl (fill_ob _ _ 0 0 0 0) (by decide) (by decide) ?_
  clear hs
  intro b41 w hs
  replace hs := hs.asRows 0 rfl (m := 2) (k := 3) (rows := [obL (objNm id bData base, 0, 0), obL (objNm id bMarks base, 0, 0)]) rfl rfl (obL_rows [(objNm id bData base, 0, 0), (objNm id bMarks base, 0, 0)])
  simp only [List.set_cons_zero] at hs
  refine zA rfl (zA3 (o' := 5) zC3 rfl zDr rfl rfl rfl) ?_
  refine zAs (v := .slice _ _ _) hs 1 rfl zDr rfl rfl rfl rfl ?_
  clear hs
  intro w hs
  try simp only [List.set_cons_succ, List.set_cons_zero] at hs
  refine zA4 (zA5 (zA1 ?_))
  refine zA rfl (zB3 hs 1 rfl zC3 zE0 rfl) ?_
  refine zA9 rfl en120 (rManifest_sl (m := mkM id base fin l) (e := s1) (o := (some ⟨b41, 0, none⟩, 2)) hs (MfR.own 2 0 rfl rfl) (by simp [mkM])) ?_
  clear hs
  rintro _ w ⟨rfl, hs⟩
  rw [hF]
  refine zBd hs rfl ze57 ?_
  clear hs
  intro b17 w hs
  try simp only [List.set_cons_succ, List.set_cons_zero] at hs
  refine zAp hs 0 rfl rfl rfl zEt rfl rfl ?_
  clear hs
  intro w hs
  try simp only [List.set_cons_succ, List.set_cons_zero] at hs
  refine zA4 ?_
  refine zA5 ?_
  refine zA5 (zA1 ?_)
  refine zA rfl (zA3 (o' := 0) uz57 rfl sz3 rfl rfl rfl) ?_
  refine zA rfl (zA7 uz3 rfl rfl (hs.cellAt 0 rfl rfl)) ?_
  refine zA rfl (zD7 rfl rfl) ?_
  refine zA4 ?_
  refine zAv rfl (rfl) ?_
  refine zAd ?_
  refine zA5 ?_
  refine zAz zBx ((hs.drop 5).drop 4) ?_
  intro w tr hK
  replace hs := tr _ hs
  clear tr
  refine zA6 0 rfl rfl (fun w hs => zB3 hs 2 rfl zC3 zE0 rfl) hK ?_
  refine zAb [1] ?_
  refine ⟨⟨_, rfl, ?_⟩, trivial⟩
  refine zA9 rfl en55 (none_sl hs) ?_
  clear hs
  rintro _ w ⟨rfl, hs⟩
  clear hK
  have hK := (hs.drop 5).drop 4
  refine zA4 ⟨hK, ?_⟩
  refine zAb [2] ?_
  refine ⟨⟨_, rfl, ?_⟩, trivial⟩
  refine zAp hs 5 rfl rfl rfl zE0 rfl rfl ?_
  clear hs
  intro w hs
  try simp only [List.set_cons_succ, List.set_cons_zero] at hs
  clear hK
  have hK := (hs.drop 5).drop 4
  refine zA4 ⟨hK, ?_⟩
  refine zAb [3] ?_
  refine ⟨⟨_, rfl, ?_⟩, trivial⟩
  refine zAp hs 4 rfl rfl rfl zEt rfl rfl ?_
  clear hs
  intro w hs
  try simp only [List.set_cons_succ, List.set_cons_zero] at hs
  clear hK
  have hK := (hs.drop 5).drop 4
  refine zA4 ⟨hK, ?_⟩
  refine zAu (by kernel_rfl) ?_
  clear hK
  refine zAf ?_
  refine resG [(.cell 14 39, .agg _), (.cell 15 57, .agg _)] rfl ⟨⟨_, rfl, zC hs 5 rfl zC3 zE0⟩, ⟨_, rfl, zC hs 4 rfl uz57 zEt⟩, trivial⟩ ?_
  exact ⟨_, rfl, s1, (some ⟨b41, 0, none⟩, 2), rfl, hs.arr [3, 1] 6 (by decide)⟩
end Go.Proofs.YtdkgdjnbpjjfmaaGreatDoor
namespace Go.Proofs.YtdkgdjnbpjjfmaaGreatDoor
set_option linter.all false
open Go.RowKit
attribute [local irreducible] zAq eV
variable {g w : World} {L M : List HP} {ad : Nat → Addr}

theorem one17 : ∀ id < 12, mfF (oneM id (10 * id)) = (0, none) := by decide +kernel
theorem one17_sl (hs : Mem g w L) (id : Nat) (hid : id < 12) : Calls Tryz.prog 37 #[.int .i64 id] w (Ret fun v w' => ∃ s1 s2 : SA, v = .agg (mfL (oneM id (10 * id)) s1 s2).toArray ∧ Mem g w' (mfP (oneM id (10 * id)) s1 s2 ++ L)) := by
  refine zAl Tryz.func37 rfl rfl ?_
  skip
  refine zA5 (zA1 ?_)
  refine zBd hs rfl ze39 ?_
  clear hs
  intro b2 w hs
  try simp only [List.set_cons_succ, List.set_cons_zero] at hs
  refine zA4 (zA5 (zA1 ?_))
  refine zA rfl (zA0 (v := .int .i64 _) rfl) ?_
  refine zA rfl (zA0 (v := .int .i64 _) rfl) ?_
  refine zA rfl (zDz rfl rfl (c := ((10 * id : Nat) : Int)) (by omega) (inI (by omega) (by omega))) ?_
  refine zA rfl (zA0 (v := .int .i64 _) rfl) ?_
  refine zA rfl (zDz rfl rfl (c := ((10 * id : Nat) : Int)) (by omega) (inI (by omega) (by omega))) ?_
  refine zA rfl (zAn rfl rfl (c := ((10 * id : Nat) : Int) + 5) (by omega) (inI (by omega) (by omega))) ?_
  refine zA rfl (zA0 (v := .int .i64 _) rfl) ?_
  refine zA rfl (zDz rfl rfl (c := ((10 * id : Nat) : Int)) (by omega) (inI (by omega) (by omega))) ?_
  refine zA rfl (zBf ([.int .i64 1, .int .i64 ((10 * id : Nat) : Int)]) zDm ze141 pl141 rfl (by simp [Value.cells]) rfl rfl) ?_
  refine zBc hs rfl (row := prL (1, ((10 * id : Nat) : Int))) zD5 zsPr rfl (fill_pr _ _) (by decide) (by decide) ?_
  clear hs
  intro b15 w hs
  refine zA9 rfl en78 (make_sl hs (id := id) (base := 10 * id) (fin := ((10 * id : Nat) : Int) + 5) (l := [(1, ((10 * id : Nat) : Int))]) (RdK.one 0 rfl rfl) rfl (by simp) (by omega) (by omega) (one17 id hid)) ?_
  clear hs
  rintro _ w ⟨s1, s2, rfl, hs⟩
  refine zA rfl (zA0 (v := .tuple _) rfl) ?_
  refine zA rfl (zAa (v := .agg _) rfl rfl) ?_
  refine zA rfl (zAa (v := .agg _) rfl rfl) ?_
  refine zBd hs rfl ze39 ?_
  clear hs
  intro b3 w hs
  try simp only [List.set_cons_succ, List.set_cons_zero] at hs
  refine zBd hs rfl ze57 ?_
  clear hs
  intro b4 w hs
  try simp only [List.set_cons_succ, List.set_cons_zero] at hs
  refine zAp hs 1 rfl rfl rfl zE0 rfl rfl ?_
  clear hs
  intro w hs
  try simp only [List.set_cons_succ, List.set_cons_zero] at hs
  refine zAp hs 0 rfl rfl rfl zEt rfl rfl ?_
  clear hs
  intro w hs
  try simp only [List.set_cons_succ, List.set_cons_zero] at hs
  refine zA4 (zA5 (zA1 ?_))
  refine zA rfl (zB3 hs 1 rfl zC3 zE0 rfl) ?_
  refine zAp hs 5 rfl rfl rfl zE0 rfl rfl ?_
  clear hs
  intro w hs
  try simp only [List.set_cons_succ, List.set_cons_zero] at hs
  refine zA4 ?_
  refine zAf ?_
  refine resG [(.cell 2 39, .agg _)] rfl ⟨⟨_, rfl, zC hs 5 rfl zC3 zE0⟩, trivial⟩ ?_
  exact ⟨_, rfl, s1, s2, rfl, hs.arr [2, 3] 6 (by decide)⟩
def kdz (z : Int) : Nat := (IntKind.i64.wrap (z.tdiv 4) % ((4 : Nat) : Int)).toNat + 1
def idz (z : Int) : Nat := (z % ((4 : Nat) : Int)).toNat + 4 * (IntKind.i64.wrap (z.tdiv 16) % ((3 : Nat) : Int)).toNat
def enz (z : Int) : En := ((kdz z : Nat), oneM (idz z) (10 * idz z))
theorem idz_lt (z : Int) : idz z < 12 := by unfold idz; omega
theorem kdz_lt (z : Int) : 1 ≤ kdz z ∧ kdz z ≤ 4 := by unfold kdz; omega
theorem enz_ok (z : Int) : EnOk (enz z) := by
  have h := kdz_lt z
  refine ⟨one17 _ (idz_lt z), by simp only [enz]; omega, by simp only [enz]; omega, fun o ho => ?_⟩
  simp only [enz, oneM, mkM, List.mem_cons, List.not_mem_nil, or_false] at ho
  rcases ho with rfl | rfl <;> exact (by decide : (0 : Nat) < 4294967296)
theorem enz_obs (z : Int) : (enz z).2.obs.length ≤ 1000000 := by simp [enz, oneM, mkM]
theorem entry17_sl (hs : Mem g w L) (z : Int) : Calls Tryz.prog 12 #[.int .i64 z] w (Ret fun v w' => ∃ s1 s2 : SA, v = .agg (.int .i64 (enz z).1 :: mfL (enz z).2 s1 s2).toArray ∧ Mem g w' (mfP (enz z).2 s1 s2 ++ L)) := by
  have h0 := kdz_lt z
  refine zAl Tryz.func12 rfl rfl ?_
  skip
  refine zA5 (zA1 ?_)
  refine zBd hs rfl ze41 ?_
  clear hs
  intro b2 w hs
  try simp only [List.set_cons_succ, List.set_cons_zero] at hs
  refine zA4 (zA5 (zA1 ?_))
  refine zA rfl (zA0 (v := .int .i64 _) rfl) ?_
  refine zA rfl (run_quo rfl rfl (by decide)) ?_
  refine zA9 rfl en17 (zFq hs (IntKind.i64.wrap (z.tdiv 4)) 4 (by decide)) ?_
  clear hs
  rintro _ w ⟨rfl, hk4, hs⟩
  refine zA rfl (zAn rfl rfl (c := ((kdz z : Nat) : Int)) (by unfold kdz; omega) (inI (by omega) (by omega))) ?_
  refine zA rfl (zA0 (v := .int .i64 _) rfl) ?_
  refine zA9 rfl en17 (zFq hs z 4 (by decide)) ?_
  clear hs
  rintro _ w ⟨rfl, hi4, hs⟩
  refine zA rfl (zA0 (v := .int .i64 _) rfl) ?_
  refine zA rfl (run_quo rfl rfl (by decide)) ?_
  refine zA9 rfl en17 (zFq hs (IntKind.i64.wrap (z.tdiv 16)) 3 (by decide)) ?_
  clear hs
  rintro _ w ⟨rfl, hi3, hs⟩
  refine zA rfl (zDz rfl rfl (c := ((4 * (IntKind.i64.wrap (z.tdiv 16) % ((3 : Nat) : Int)).toNat : Nat) : Int)) (by omega) (inI (by omega) (by omega))) ?_
  refine zA rfl (zAn rfl rfl (c := ((idz z : Nat) : Int)) (by unfold idz; omega) (inI (by have := idz_lt z; omega) (by have := idz_lt z; omega))) ?_
  refine zA9 rfl en37 (one17_sl hs (idz z) (idz_lt z)) ?_
  clear hs
  rintro _ w ⟨s1, s2, rfl, hs⟩
  refine zA rfl (zG (k := (kdz z : Nat)) (m := oneM (idz z) (10 * idz z)) (e := s1) (o := s2) zF1 ze41 pl41 rfl rfl) ?_
  refine zAp hs 2 rfl rfl rfl sz41 rfl rfl ?_
  clear hs
  intro w hs
  try simp only [List.set_cons_succ, List.set_cons_zero] at hs
  refine zA4 ?_
  refine zAf ?_
  refine resG [(.cell 2 41, .agg _)] rfl ⟨⟨_, rfl, zC hs 2 rfl zF1 sz41⟩, trivial⟩ ?_
  exact ⟨_, rfl, s1, s2, rfl, hs.arr [0, 1] 3 (by decide)⟩
end Go.Proofs.YtdkgdjnbpjjfmaaGreatDoor
namespace Go.Proofs.YtdkgdjnbpjjfmaaGreatDoor
set_option linter.all false
open Go.RowKit
attribute [local irreducible] zAq eV
variable {g w : World} {L M : List HP} {ad : Nat → Addr} {p d pv ev : Nat} {dk : Dk} {f : ByteArray → Option (List UInt8)} {V V0 U : Vw} {q q0 r c n : Nat} {es : List En}

theorem runs_props : ∀ {es : List En} {V U : Vw}, runs V es = some U → V.ok → V.sums → (∀ e ∈ es, EnOk e) → U.ok ∧ U.sums ∧ U.length ≤ V.length + es.length
  | [], V, U, h, ho, hu, _ => by cases h; exact ⟨ho, hu, Nat.le_refl _⟩
  | e :: es, V, U, h, ho, hu, hE => by
    simp only [runs] at h
    split at h
    · have h1 := runs_props h (Vw.apply_ok ho e.1 e.2) (Vw.apply_sums hu (hE e (List.mem_cons_self ..)).2.2.2) fun x hx => hE x (List.mem_cons_of_mem _ hx)
      have h2 := V.apply_len e.1 e.2
      exact ⟨h1.1, h1.2.1, by simp only [List.length_cons]; omega⟩
    · cases h
/-- What the disk has of a log. -/
structure LgSt (f : ByteArray → Option (List UInt8)) (V0 : Vw) (q0 : Nat) (es : List En) (V : Vw) : Prop where
  snap : Snp f V0 q0
  file : f mtN = some (frames q0 es)
  run : runs V0 es = some V
  ok0 : V0.ok
  sum0 : V0.sums
  len0 : V0.length ≤ q0
  ens : ∀ e ∈ es, EnOk e
theorem LgSt.props (h : LgSt f V0 q0 es V) : V.ok ∧ V.sums ∧ V.length ≤ q0 + es.length := by
  have h1 := runs_props h.run h.ok0 h.sum0 h.ens
  have := h.len0
  exact ⟨h1.1, h1.2.1, by omega⟩
theorem Snp.upd (h : Snp f V q) (v : List UInt8) : Snp (zE f mtN v) V q := by
  unfold Snp at *
  rw [zFl _ _ (Ne.symm mt_sn)]
  exact h
theorem LgSt.app (h : LgSt f V0 q0 es V) {e : En} (hE : EnOk e) (hap : (V.apply e.1 e.2).1 = (0, none)) : LgSt (zE f mtN (frames q0 es ++ frame (q0 + es.length + 1) e)) V0 q0 (es ++ [e]) (V.apply e.1 e.2).2 :=
  ⟨h.snap.upd _, by rw [zCy, frames_snoc], runs_snoc h.run hap, h.ok0, h.sum0, h.len0, fun x hx => by
    rcases List.mem_append.1 hx with hx | hx
    · exact h.ens x hx
    · simp only [List.mem_cons, List.not_mem_nil, or_false] at hx; subst hx; exact hE⟩
theorem LgSt.shot (h : LgSt f V0 q0 es V) : LgSt (zE (zE f snN (zBp (snapB (q0 + es.length) V))) mtN []) V (q0 + es.length) [] V := by
  have hp := h.props
  exact ⟨.inr (by rw [zFl _ _ (Ne.symm mt_sn), zCy]), by rw [zCy]; rfl, rfl, hp.1, hp.2.1, hp.2.2, fun e he => (by cases he)⟩
theorem LgSt.ent (h : LgSt f V0 q0 es V) (hq : q0 + es.length ≤ 32) : Ent V0 q0 (frames q0 es) V (q0 + es.length) es.length (frames q0 es).length := by
  have hl := zDn es q0 h.ens
  have h1 := Ent.frames (tail := []) (W := V) (r := q0 + es.length) (c := 0) (n := 0) h.run h.ens (by rw [List.append_nil]; omega) (by omega) (.none (.inl rfl))
  rw [List.append_nil, Nat.zero_add, Nat.zero_add] at h1
  exact h1
/-- A log that has so many entries, so many of them in its file. -/
def LgW (f : ByteArray → Option (List UInt8)) (q c n : Nat) (V : Vw) : Prop := ∃ V0 q0 es, LgSt f V0 q0 es V ∧ q = q0 + es.length ∧ c = es.length ∧ n = (frames q0 es).length
theorem LgW.props (h : LgW f q c n V) : V.ok ∧ V.sums ∧ V.length ≤ q ∧ c ≤ q ∧ n ≤ 6021 * c := by
  obtain ⟨V0, q0, es, h, rfl, rfl, rfl⟩ := h
  have h1 := h.props
  exact ⟨h1.1, h1.2.1, h1.2.2, by omega, zDn es q0 h.ens⟩
theorem openU_sl (hM : ErrM ad g) (hs : Mem g w (zBn d dk :: L)) (hI : LgI f dk) (ha : dk.armed = 0) (hcl : dk.calls < 800000) (hev : 1 ≤ ev ∧ ev ≤ 4096) (hW : LgW f q c n V) (hq : q ≤ 32) :
    Calls Tryz.prog 10 #[.pointer (some ⟨d, 0, none⟩), .int .i64 (ev : Nat)] w (Ret fun v w' => ∃ p dk2, v = .tuple #[.pointer (some ⟨p, 0, none⟩), .nilIface] ∧ dk2.armed = 0 ∧ dk2.room = dk.room ∧ dk2.calls ≤ dk.calls + 4 ∧ LgI f dk2 ∧ Mem g w' (LogC p d ev V q c n :: zBn d dk2 :: L)) := by
  obtain ⟨V0, q0, es, h, rfl, rfl, rfl⟩ := hW
  have hl := zDn es q0 h.ens
  have h0 := h.len0
  refine (openM_sl hM hs hI ha hcl hev h.snap h.ok0 h.sum0 (by omega) (.inl h.file) (by omega) (h.ent hq) (by omega)).mono ?_
  rintro e w' ⟨v, rfl, p, dk2, rfl, h1, h2, h3, h4, h5⟩
  rw [List.take_of_length_le (Nat.le_refl _), zEi h.file] at h4
  exact ⟨_, rfl, p, dk2, rfl, h1, h2, h3, h4, h5⟩
/-- A log on a disk that has nothing. -/
theorem LgW.zero : LgW (zE (fun _ => none) mtN []) 0 0 0 [] := ⟨[], 0, [], ⟨.inl ⟨by rw [zFl _ _ (Ne.symm mt_sn)], rfl, rfl⟩, by rw [zCy]; rfl, rfl, Vw.ok_nil, (fun x hx => by cases hx), Nat.le_refl _, (fun e he => by cases he)⟩, rfl, rfl, rfl⟩
theorem open0_sl (hM : ErrM ad g) {rm : Nat} (hrm : rm ≤ 4194304) (hs : Mem g w (zBn d (Dk.empty rm) :: L)) (hev : 1 ≤ ev ∧ ev ≤ 4096) :
    Calls Tryz.prog 10 #[.pointer (some ⟨d, 0, none⟩), .int .i64 (ev : Nat)] w (Ret fun v w' => ∃ p dk2, v = .tuple #[.pointer (some ⟨p, 0, none⟩), .nilIface] ∧ dk2.armed = 0 ∧ dk2.room = rm ∧ dk2.calls ≤ 4 ∧ LgI (zE (fun _ => none) mtN []) dk2 ∧ Mem g w' (LogC p d ev [] 0 0 0 :: zBn d dk2 :: L)) := by
  refine (openM_sl hM hs (RawI.start hrm) rfl (by simp [Dk.empty]) hev (V0 := []) (q0 := 0) (mb := []) (V := []) (q := 0) (c := 0) (n := 0) (.inl ⟨rfl, rfl, rfl⟩) Vw.ok_nil (fun x hx => by cases hx) (by simp) (.inr ⟨rfl, rfl⟩) (by simp) (.none (.inl rfl)) (by decide)).mono ?_
  rintro e w' ⟨v, rfl, p, dk2, rfl, h1, h2, h3, h4, h5⟩
  exact ⟨_, rfl, p, dk2, rfl, h1, h2, by simpa [Dk.empty] using h3, h4, h5⟩
/-- An Append while the power is there. -/
def AppU (f : ByteArray → Option (List UInt8)) (dk : Dk) (ev : Nat) (V : Vw) (q c n : Nat) (k : Int) (x : Mf) (f' : ByteArray → Option (List UInt8)) (dk2 : Dk) (q' c' n' : Nat) : Prop :=
  LgI f' dk2 ∧ dk2.armed = 0 ∧ dk2.room = dk.room ∧ dk2.calls ≤ dk.calls + 9 ∧ LgW f' q' c' n' (V.apply k x).2 ∧
  ((V.apply k x).1.1 ≠ 0 ∧ q' = q ∧ c' = c ∧ n' = n ∧ f' = f ∧ dk2 = dk ∨ (V.apply k x).1 = (0, none) ∧ q' = q + 1 ∧ (c + 1 < ev ∧ c' = c + 1 ∧ n' = n + (frame (q + 1) (k, x)).length ∨ ev ≤ c + 1 ∧ c' = 0 ∧ n' = 0))
/-- What stands between two steps of a statement. -/
structure LgK (f : ByteArray → Option (List UInt8)) (dk : Dk) (q c n : Nat) (V : Vw) (K B : Nat) : Prop where
  w : LgW f q c n V
  I : LgI f dk
  a : dk.armed = 0
  r : dk.room = 1048576
  q : q ≤ K
  cl : dk.calls ≤ B
theorem LgK.mono {K B K2 B2 : Nat} (h : LgK f dk q c n V K B) (h1 : K ≤ K2) (h2 : B ≤ B2) : LgK f dk q c n V K2 B2 := ⟨h.w, h.I, h.a, h.r, Nat.le_trans h.q h1, Nat.le_trans h.cl h2⟩
theorem LgK.app {K B : Nat} (h : LgK f dk q c n V K B) {k : Int} {x : Mf} {f' : ByteArray → Option (List UInt8)} {dk2 : Dk} {q' c' n' : Nat} (hU : AppU f dk ev V q c n k x f' dk2 q' c' n') : LgK f' dk2 q' c' n' (V.apply k x).2 (K + 1) (B + 9) := by
  obtain ⟨h1, h2, h3, h4, h5, h6⟩ := hU
  have hq := h.q
  have hc := h.cl
  refine ⟨h5, h1, h2, h3.trans h.r, ?_, by omega⟩
  rcases h6 with ⟨_, h7, _⟩ | ⟨_, h7, _⟩
  · omega
  · omega
theorem LgK.next {K B : Nat} (h : LgK f dk q c n V K B) {dk2 : Dk} (h1 : dk2.armed = 0) (h2 : dk2.room = dk.room) (h3 : dk2.calls ≤ dk.calls + 4) (h4 : LgI f dk2) : LgK f dk2 q c n V K (B + 4) := ⟨h.w, h4, h1, h2.trans h.r, h.q, by have := h.cl; omega⟩
theorem LgK.shot {K B : Nat} (h : LgK f dk q c n V K B) {f' : ByteArray → Option (List UInt8)} {dk2 : Dk} (h0 : LgI f' dk2) (h1 : dk2.armed = 0) (h2 : dk2.room = dk.room) (h3 : dk2.calls ≤ dk.calls + 7) (h4 : LgW f' q 0 0 V) : LgK f' dk2 q 0 0 V K (B + 7) := ⟨h4, h0, h1, h2.trans h.r, h.q, by have := h.cl; omega⟩
theorem LgK.zero {dk : Dk} (h1 : dk.armed = 0) (h2 : dk.room = 1048576) (h3 : dk.calls ≤ 4) (h4 : LgI (zE (fun _ => none) mtN []) dk) : LgK (zE (fun _ => none) mtN []) dk 0 0 0 [] 0 4 := ⟨LgW.zero, h4, h1, h2, Nat.le_refl _, h3⟩
set_option maxRecDepth 10000 in
theorem first17_sl (hM : ErrM ad g) (hs : Mem g w L) : Calls Tryz.prog 8 #[] w (Ret fun v w' => v = .bool true ∧ Mem g w' L) := by
  refine zAl Tryz.func8 rfl rfl ?_
  skip
  refine zA5 (zA1 ?_)
  refine zA rfl (zA2 (v := .bool _) rfl) ?_
  refine zA4 (zA5 (zA1 ?_))
  refine zA9 rfl en9 (newd_sl hs (r := 1000) (by decide) (by decide)) ?_
  clear hs
  rintro _ w ⟨d, rfl, hs⟩
  refine zA rfl (zA0 (v := .tuple _) rfl) ?_
  refine zA rfl (zAa (v := .pointer (some _)) rfl rfl) ?_
  refine zA rfl (zAa (v := .nilIface) rfl rfl) ?_
  refine zA rfl (zA2 (v := .pointer (some _)) rfl) ?_
  refine zA rfl (zA2 (v := .nilIface) rfl) ?_
  refine zA4 ?_
  refine zA5 ?_
  refine zA5 (zA1 ?_)
  refine zA rfl (zA0 (v := .pointer (some _)) rfl) ?_
  refine zA rfl (zEa uz25 rfl rfl) ?_
  refine zA rfl (zA0 (v := .bool _) rfl) ?_
  refine zAi rfl rfl (rfl) ?_
  refine zA rfl (zA0 (v := .nilIface) rfl) ?_
  refine zAi rfl rfl (rfl) ?_
  refine zA rfl (zBi rfl) ?_
  refine zA rfl (zAk (v := .bool _) rfl (rfl) rfl) ?_
  refine zA4 ?_
  refine zAv rfl (rfl) ?_
  refine zAd ?_
  refine zA5 (zA1 ?_)
  refine zA rfl (zA0 (v := .pointer (some _)) rfl) ?_
  refine zA9 rfl en10 (open0_sl hM (rm := 1000) (ev := 5) (by decide) hs (by decide)) ?_
  clear hs
  rintro _ w ⟨p, dk, rfl, h1, h2, h3, h4, hs⟩
  refine zA rfl (zA0 (v := .tuple _) rfl) ?_
  refine zA rfl (zAa (v := .pointer (some _)) rfl rfl) ?_
  refine zA rfl (zAa (v := .nilIface) rfl rfl) ?_
  refine zA rfl (zA2 (v := .pointer (some _)) rfl) ?_
  refine zA rfl (zA2 (v := .nilIface) rfl) ?_
  refine zA4 (zA5 (zA1 ?_))
  refine zA rfl (zA0 (v := .pointer (some _)) rfl) ?_
  refine zA rfl (zDt uz30 rfl rfl) ?_
  refine zA rfl (zA0 (v := .bool _) rfl) ?_
  refine zAi rfl rfl (rfl) ?_
  refine zA rfl (zA0 (v := .nilIface) rfl) ?_
  refine zAi rfl rfl (rfl) ?_
  refine zA rfl (zE8 rfl) ?_
  refine zA rfl (zAj (v := .bool _) rfl (rfl) rfl) ?_
  refine zA rfl (zA0 (v := .bool _) rfl) ?_
  refine zAi rfl rfl (rfl) ?_
  refine zA rfl (zA0 (v := .pointer (some _)) rfl) ?_
  refine zAi rfl rfl (rfl) ?_
  refine zA9 rfl en20 (zEz hs) ?_
  clear hs
  rintro _ w ⟨rfl, hs⟩
  refine zAi rfl rfl (rfl) ?_
  refine zA rfl (zBu rfl rfl) ?_
  refine zA rfl (zAj (v := .bool _) rfl (rfl) rfl) ?_
  refine zA rfl (zA2 (v := .bool _) rfl) ?_
  refine zA4 ?_
  refine zAf ?_
  refine zBj (v := .bool _) rfl rfl ?_
  exact ⟨_, rfl, rfl, hs.tail.tail⟩
end Go.Proofs.YtdkgdjnbpjjfmaaGreatDoor
namespace Go.Proofs.YtdkgdjnbpjjfmaaGreatDoor
set_option linter.all false
open Go.RowKit
attribute [local irreducible] zAq
variable {g w : World} {L M : List HP} {ad : Nat → Addr}

theorem sentinel_sl (hA : ErrA ad g) (hs : Mem g w L) {c : Nat} (hc : c ∈ zBr) : Calls Tryz.prog 57 #[zAq ad c] w (Ret fun v w' => v = .int .i64 c ∧ Mem g w' L) := by
  have h := sentinel_any (hA.atW hs) hs.size hc
  rw [← zDk ad (hA.pos c hc)] at h
  exact hs.calls h
def faultV (c : Int) (p : Bool) (q : Int) : Value := .agg #[.int .i64 c, .bool p, .int .i64 q]
theorem placed_sl (hs : Mem g w L) {c : Int} (hc : c ≠ 0) (q : Int) : Calls Tryz.prog 58 #[.int .i64 c, .int .i64 q] w (Ret fun v w' => v = faultV c true q ∧ Mem g w' L) := by
  refine zAl Tryz.func58 rfl rfl ?_
  skip
  refine zA5 (zA1 ?_)
  refine zBd hs rfl ze57 ?_
  clear hs
  intro b4 w hs
  try simp only [List.set_cons_succ, List.set_cons_zero] at hs
  refine zA4 ?_
  refine zA5 ?_
  refine zA5 (zA1 ?_)
  refine zA rfl (zA0 (v := .int .i64 _) rfl) ?_
  refine zA rfl (zBu rfl rfl) ?_
  refine zA4 ?_
  refine zAv rfl (decide_eq_false hc) ?_
  refine zAd ?_
  refine zA5 (zA1 ?_)
  refine zA rfl (zA0 (v := .int .i64 _) rfl) ?_
  refine zA rfl (zA0 (v := .int .i64 _) rfl) ?_
  refine zA rfl (zBf ([.int .i64 c, .bool true, .int .i64 q]) uz57 ze57 pl57 rfl (by simp [Value.cells]) rfl rfl) ?_
  refine zAp hs 0 rfl rfl rfl zEt rfl rfl ?_
  clear hs
  intro w hs
  try simp only [List.set_cons_succ, List.set_cons_zero] at hs
  refine zA4 ?_
  refine zAf ?_
  refine resG [(.cell 4 57, .agg _)] rfl ⟨⟨_, rfl, zC hs 0 rfl uz57 zEt⟩, trivial⟩ ?_
  exact ⟨_, rfl, rfl, hs.tail⟩
theorem fault0_sl (hA : ErrA ad g) (hs : Mem g w L) {c : Nat} (hc : c = 0 ∨ c ∈ zBr) : Calls Tryz.prog 25 #[zAq ad c] w (Ret fun v w' => v = faultV c false 0 ∧ Mem g w' L) := by
  rcases hc with rfl | hc
  · rw [zB2]; exact hs.calls (fault_nil w)
  · have h := fault_err (hA.atW hs) hs.size hc
    rw [← zDk ad (hA.pos c hc)] at h
    exact hs.calls h
theorem run_assertAt {ρ : Env} {dst : Option Tmp} {ty : TypeId} {pos : String} {aft : Array Edge} {x : Operand} {b : Nat} (hx : ev ρ x = .iface 104 (.pointer (some ⟨b, 0, none⟩))) : (execOp (ev ρ) ⟨dst, .typeAssert x 27 104 true, ty, pos, aft, none⟩).run Tryz.prog w = .ok (.value (.tuple #[.pointer (some ⟨b, 0, none⟩), .bool true])) w := by
  have h : ∀ (v : Value) (w : World), (Instr.typeAssert (.iface 104 v) 27 104 true).run Tryz.prog w = .ok (.tuple #[v, .bool true]) w := fun _ _ => by kernel_rfl
  simp only [execOp, hx, Sem.run_bind, h, Result.andThen_ok, Sem.run_pure]
theorem faultAt_sl (hA : ErrA ad g) {c : Nat} {z : Int} {b : Nat} (hs : Mem g w (cells b [.int .i64 z, zAq ad c] 109 :: L)) (hc : c ∈ zBr) :
    Calls Tryz.prog 25 #[.iface 104 (.pointer (some ⟨b, 0, none⟩))] w (Ret fun v w' => v = faultV c true z ∧ Mem g w' (cells b [.int .i64 z, zAq ad c] 109 :: L)) := by
  have hc0 := hA.pos c hc
  have he : eV ad 103 b = .iface 104 (.pointer (some ⟨b, 0, none⟩)) := eV_at (by decide) (by decide) b
  refine zAl Tryz.func25 rfl rfl ?_
  skip
  refine zA5 (zA1 ?_)
  refine zBd hs rfl ze57 ?_
  clear hs
  intro b2 w hs
  try simp only [List.set_cons_succ, List.set_cons_zero] at hs
  refine zA4 ?_
  refine zA5 ?_
  refine zA5 (zA1 ?_)
  refine zA rfl (zA0 (v := .iface _ (.pointer (some _))) rfl) ?_
  refine zA rfl (run_eqE (ad := ad) (c := 103) (eb := b) he.symm) ?_
  refine zA4 ?_
  refine zAv rfl (rfl) ?_
  refine zAd ?_
  refine zA5 (zA1 ?_)
  refine zA rfl (zA0 (v := .iface _ (.pointer (some _))) rfl) ?_
  refine zA rfl (run_assertAt rfl) ?_
  refine zA rfl (zA0 (v := .tuple _) rfl) ?_
  refine zA rfl (zAa (v := .pointer (some _)) rfl rfl) ?_
  refine zA rfl (zAa (v := .bool _) rfl rfl) ?_
  refine zA rfl (zA2 (v := .pointer (some _)) rfl) ?_
  refine zA rfl (zA2 (v := .bool _) rfl) ?_
  refine zA4 ?_
  refine zA5 ?_
  refine zA5 (zA1 ?_)
  refine zA rfl (zA0 (v := .bool _) rfl) ?_
  refine zA rfl (zBm rfl) ?_
  refine zA4 ?_
  refine zAv rfl (zBg (rfl)) ?_
  refine zAd ?_
  refine zA5 ?_
  refine zA5 (zA1 ?_)
  refine zA rfl (zA0 (v := .pointer (some _)) rfl) ?_
  refine zA rfl (zEa uz104 rfl rfl) ?_
  refine zA rfl (zA0 (v := .bool _) rfl) ?_
  refine zAi rfl rfl rfl ?_
  refine zA rfl (zA0 (v := .pointer (some _)) rfl) ?_
  refine zAi rfl rfl rfl ?_
  refine zA rfl (zA8 rfl) ?_
  refine zAi rfl rfl rfl ?_
  refine zA rfl (zA3 (o' := 1) uz109 rfl sz27 rfl rfl rfl) ?_
  refine zAi rfl rfl rfl ?_
  refine zA rfl (zA7 zD1 rfl rfl (hs.cellAt 1 rfl rfl)) ?_
  refine zAi rfl rfl rfl ?_
  refine zA rfl (zCn (ad := ad) rfl) ?_
  refine zA rfl (zAk (v := .bool _) rfl rfl rfl) ?_
  refine zA4 ?_
  refine zAv rfl (decide_eq_false hc0) ?_
  refine zAd ?_
  refine zA5 ?_
  refine zAz zBx hs.tail ?_
  intro w tr hK
  replace hs := tr _ hs
  clear tr
  refine zA6 0 rfl rfl (fun w hs => zA0 (v := .pointer (some _)) rfl) hK ?_
  refine zA6 1 rfl rfl (fun w hs => zA8 rfl) hK ?_
  refine zA6 2 rfl rfl (fun w hs => zA3 (o' := 1) uz109 rfl sz27 rfl rfl rfl) hK ?_
  refine zA6 3 rfl rfl (fun w hs => zA7 zD1 rfl rfl (hs.cellAt 0 rfl rfl)) hK ?_
  refine zA6 5 rfl rfl (fun w hs => zA0 (v := .pointer (some _)) rfl) hK ?_
  refine zA6 6 rfl rfl (fun w hs => zA8 rfl) hK ?_
  refine zA6 7 rfl rfl (fun w hs => zA3 (o' := 0) uz109 rfl sz3 rfl rfl rfl) hK ?_
  refine zA6 8 rfl rfl (fun w hs => zA7 uz3 rfl rfl (hs.cellAt 0 rfl rfl)) hK ?_
  refine zAb [4] ?_
  refine ⟨⟨_, rfl, ?_⟩, trivial⟩
  refine zA9 rfl en57 (sentinel_sl hA hs hc) ?_
  clear hs
  rintro _ w ⟨rfl, hs⟩
  clear hK
  have hK := hs.tail
  refine zA4 ⟨hK, ?_⟩
  refine zAb [9] ?_
  refine ⟨⟨_, rfl, ?_⟩, trivial⟩
  refine zA9 rfl en58 (placed_sl hs (c := c) (by omega) z) ?_
  clear hs
  rintro _ w ⟨rfl, hs⟩
  clear hK
  have hK := hs.tail
  refine zA4 ⟨hK, ?_⟩
  refine zAb [10] ?_
  refine ⟨⟨_, rfl, ?_⟩, trivial⟩
  refine zAp hs 0 rfl rfl rfl zEt rfl rfl ?_
  clear hs
  intro w hs
  try simp only [List.set_cons_succ, List.set_cons_zero] at hs
  clear hK
  have hK := hs.tail
  refine zA4 ⟨hK, ?_⟩
  refine zAu (by kernel_rfl) ?_
  clear hK
  refine zAf ?_
  refine resG [(.cell 2 57, .agg _)] rfl ⟨⟨_, rfl, zC hs 0 rfl uz57 zEt⟩, trivial⟩ ?_
  exact ⟨_, rfl, rfl, hs.tail⟩
end Go.Proofs.YtdkgdjnbpjjfmaaGreatDoor
namespace Go.Proofs.YtdkgdjnbpjjfmaaGreatDoor
set_option linter.all false
open Go.RowKit
attribute [local irreducible] zAq eV
variable {g w : World} {L M : List HP} {ad : Nat → Addr} {eb : Nat}

def ffV (F : Flt) : Value := faultV F.1 F.2.isSome (((F.2.getD 0 : Nat)) : Int)
def FltA (F : Flt) : Prop := F = (0, none) ∨ F.1 ∈ zBr
theorem apply_fltA (V : Vw) (k : Int) (x : Mf) : FltA (V.apply k x).1 := (V.apply_flt k x).1.imp id fun h => by
  simp only [zBr, List.mem_cons, List.not_mem_nil, or_false] at h ⊢; omega
theorem faultF_sl (hA : ErrA ad g) {F : Flt} (hF : FltA F) (hs : Mem g w (flC ad F eb :: L)) : Calls Tryz.prog 25 #[flV ad F eb] w (Ret fun v w' => v = ffV F ∧ Mem g w' (flC ad F eb :: L)) := by
  obtain ⟨c, z⟩ := F
  cases z with
  | none => exact fault0_sl hA hs (hF.imp (fun h => congrArg Prod.fst h) id)
  | some z =>
    have hc : c ∈ zBr := by
      rcases hF with h | h
      · cases h
      · exact h
    exact faultAt_sl hA hs hc
theorem sameFt_sl (hA : ErrA ad g) {F : Flt} (hF : FltA F) (hs : Mem g w (flC ad F eb :: L)) : Calls Tryz.prog 24 #[flV ad F eb, ffV F] w (Ret fun v w' => v = .bool true ∧ Mem g w' (flC ad F eb :: L)) := by
  unfold ffV
  refine zAl Tryz.func24 rfl rfl ?_
  skip
  refine zA5 (zA1 ?_)
  refine zCk (v := .agg _) hs rfl rfl ?_
  clear hs
  intro b3 w hs
  try simp only [List.set_cons_succ, List.set_cons_zero] at hs
  refine zA rfl (zA2 (v := .bool _) rfl) ?_
  refine zA4 ?_
  refine zA5 ?_
  refine zAz zBx hs ?_
  intro w tr hK
  replace hs := tr _ hs
  clear tr
  refine zA6 0 rfl rfl (fun w hs => zA0 (v := flV ad _ _) rfl) hK ?_
  refine zA6 2 rfl rfl (fun w hs => zB3 hs 0 rfl uz57 zEt rfl) hK ?_
  refine zAb [1] ?_
  refine ⟨⟨_, rfl, ?_⟩, trivial⟩
  refine zA9 rfl en25 (faultF_sl hA hF (hs.arr [1, 0] 2 (by decide))) ?_
  clear hs
  rintro _ w ⟨rfl, hs⟩
  replace hs := hs.arr [1, 0] 2 (by decide)
  clear hK
  have hK := hs
  refine zA4 ⟨hK, ?_⟩
  refine zAb [3] ?_
  refine ⟨⟨_, rfl, ?_⟩, trivial⟩
  refine zA9 rfl en54 (hs.calls (sameFault_any _ _ _ _ _ _ w)) ?_
  clear hs
  rintro _ w ⟨rfl, hs⟩
  clear hK
  have hK := hs
  refine zA4 ⟨hK, ?_⟩
  refine zA6 4 rfl rfl (fun w hs => zA2 (v := .bool _) rfl) hK ?_
  refine zAu (by kernel_rfl) ?_
  clear hK
  refine zAf ?_
  refine zBj (v := .bool _) rfl rfl ?_
  exact ⟨_, rfl, zCs (by simp), hs.tail⟩
end Go.Proofs.YtdkgdjnbpjjfmaaGreatDoor
namespace Go.Proofs.YtdkgdjnbpjjfmaaGreatDoor
set_option linter.all false
open Go.RowKit
attribute [local irreducible] zAq eV
variable {g w : World} {L M : List HP} {ad : Nat → Addr} {p d pv ev : Nat} {dk : Dk} {f : ByteArray → Option (List UInt8)} {V V0 U : Vw} {q q0 r c n : Nat} {es : List En}

/-- Opened, it has that view, and so many entries. -/
def OpenTo (f : ByteArray → Option (List UInt8)) (V : Vw) (q : Nat) : Prop := ∃ V0 q0 mb c n, Snp f V0 q0 ∧ V0.ok ∧ V0.sums ∧ V0.length ≤ 100 ∧ f mtN = some mb ∧ mb.length ≤ 1000000 ∧ Ent V0 q0 mb V q c n ∧ LgW (zE f mtN (mb.take n)) q c n V
theorem openT_sl (hM : ErrM ad g) (hs : Mem g w (zBn d dk :: L)) (hI : LgI f dk) (ha : dk.armed = 0) (hcl : dk.calls < 800000) (hev : 1 ≤ ev ∧ ev ≤ 4096) (hO : OpenTo f V q) (hq : q ≤ 32) :
    Calls Tryz.prog 10 #[.pointer (some ⟨d, 0, none⟩), .int .i64 (ev : Nat)] w (Ret fun v w' => ∃ p dk2 f2 c n, v = .tuple #[.pointer (some ⟨p, 0, none⟩), .nilIface] ∧ dk2.armed = 0 ∧ dk2.room = dk.room ∧ dk2.calls ≤ dk.calls + 4 ∧ LgI f2 dk2 ∧ LgW f2 q c n V ∧ Mem g w' (LogC p d ev V q c n :: zBn d dk2 :: L)) := by
  obtain ⟨V0, q0, mb, c, n, h1, h2, h3, h4, h5, h6, h7, h8⟩ := hO
  refine (openM_sl hM hs hI ha hcl hev h1 h2 h3 h4 (.inl h5) h6 h7 (by omega)).mono ?_
  rintro e w' ⟨v, rfl, p, dk2, rfl, k1, k2, k3, k4, k5⟩
  exact ⟨_, rfl, p, dk2, _, c, n, rfl, k1, k2, k3, k4, h8, k5⟩
theorem LgSt.opens (h : LgSt f V0 q0 es V) (hq : q0 + es.length ≤ 32) : OpenTo f V (q0 + es.length) := by
  have hl := zDn es q0 h.ens
  have h0 := h.len0
  refine ⟨V0, q0, _, _, _, h.snap, h.ok0, h.sum0, by omega, h.file, by omega, h.ent hq, ?_⟩
  rw [List.take_of_length_le (Nat.le_refl _), zEi h.file]
  exact ⟨V0, q0, es, h, rfl, rfl, rfl⟩
/-- Some bytes of an entry stand behind. -/
theorem LgSt.torn (h : LgSt f V0 q0 es V) (hq : q0 + es.length ≤ 31) {e : En} (hE : EnOk e) (hap : (V.apply e.1 e.2).1 = (0, none)) (j : Nat) : OpenTo (zE f mtN (frames q0 es ++ (frame (q0 + es.length + 1) e).take j)) V (q0 + es.length) ∨ OpenTo (zE f mtN (frames q0 es ++ (frame (q0 + es.length + 1) e).take j)) (V.apply e.1 e.2).2 (q0 + es.length + 1) := by
  have hl := zDn es q0 h.ens
  have h0 := h.len0
  have hfl := frame_le (q := q0 + es.length + 1) hE
  by_cases hj : j < (frame (q0 + es.length + 1) e).length
  · left
    have hent := Ent.frames (tail := (frame (q0 + es.length + 1) e).take j) (W := V) (r := q0 + es.length) (c := 0) (n := 0) h.run h.ens (by rw [List.length_append, List.length_take]; omega) (by omega) (.none (.inr (erd_cut hE hj)))
    rw [Nat.zero_add, Nat.zero_add] at hent
    refine ⟨V0, q0, _, _, _, h.snap.upd _, h.ok0, h.sum0, by omega, zCy _ _ _, by rw [List.length_append, List.length_take]; omega, hent, ?_⟩
    rw [updF_twice, List.take_left, zEi h.file]
    exact ⟨V0, q0, es, h, rfl, rfl, rfl⟩
  · right
    rw [List.take_of_length_le (by omega)]
    have h1 := (h.app hE hap).opens (by simp; omega)
    rw [show q0 + (es ++ [e]).length = q0 + es.length + 1 by simp; omega] at h1
    exact h1
/-- The snapshot is there, the file is not yet empty. -/
theorem LgSt.stale (h : LgSt f V0 q0 es V) (hq : q0 + es.length ≤ 32) : OpenTo (zE f snN (zBp (snapB (q0 + es.length) V))) V (q0 + es.length) := by
  have hl := zDn es q0 h.ens
  have hp := h.props
  refine ⟨V, q0 + es.length, frames q0 es, 0, 0, .inr (zCy _ _ _), hp.1, hp.2.1, by omega, by rw [zFl _ _ mt_sn]; exact h.file, by omega, ?_, ⟨V, q0 + es.length, [], h.shot, rfl, rfl, rfl⟩⟩
  cases es with
  | nil => exact .none (.inl rfl)
  | cons e es =>
    have hE := h.ens e (List.mem_cons_self ..)
    simp only [frames, List.length_append, List.length_cons] at hl hq ⊢
    exact .bad (erd_frame (q := q0 + 1) (rest := frames (q0 + 1) es) hE (by omega) (by rw [List.length_append]; omega)) (.inl (by omega))
theorem nextB_moves (k : Int) : nextB k k = false := by
  unfold nextB
  split
  · rename_i h; subst h; decide
  · split
    · rename_i h; subst h; decide
    · split
      · rename_i h; subst h; decide
      · split
        · rename_i h; subst h; decide
        · rfl
/-- An entry that came changes the view. -/
theorem Vw.apply_moves {k : Int} {x : Mf} (h : (V.apply k x).1 = (0, none)) : ¬ EqV (V.apply k x).2 V := by
  intro he
  have h0 : (mfF x).1 = 0 := by rw [(Vw.apply_en h).1]
  have hk := (Vw.apply_en h).2
  have h2 : ¬ (k < 1 ∨ 4 < k) := by omega
  have h3 : nextB (V.state x.id) k = true := by
    cases h3 : nextB (V.state x.id) k with
    | true => rfl
    | false => rw [Vw.apply_state h0 h2 h3] at h; cases h
  have h4 : (V.apply k x).2 = zCc V x.id ⟨k, x⟩ := by
    cases hV : zB0 V x.id with
    | none =>
      rw [Vw.apply_new h0 h2 h3 hV] at h ⊢
      split
      · rename_i h5; rw [if_pos h5] at h; cases h
      · rfl
    | some i =>
      rw [Vw.apply_old h0 h2 h3 hV] at h ⊢
      split
      · rfl
      · rename_i h5; rw [if_neg h5] at h; cases h
  have h5 := he x.id
  rw [h4, zB5] at h5
  have h6 : V.state x.id = k := by simp [Vw.state, ← h5]
  rw [h6, nextB_moves] at h3
  cases h3
/-- What stands between two steps, the power being there or gone; and the entry that was within. -/
structure KpI (dk : Dk) (V : Vw) (q : Nat) (V' : Vw) (q' c n : Nat) (last : En) (K : Nat) : Prop where
  room : dk.room = 1048576
  cl : dk.calls ≤ 100 * K + 6
  hq : q ≤ K
  st : dk.down = false ∧ last.1 = 0 ∧ V' = V ∧ q' = q ∧ (∃ f, LgI f dk ∧ LgW f q c n V) ∨
    dk.down = true ∧ last.1 = 0 ∧ (∀ picks, ∃ f, LgI f (dk.crash picks) ∧ OpenTo f V q) ∨
    dk.down = true ∧ last.1 ≠ 0 ∧ EnOk last ∧ (V.apply last.1 last.2).1 = (0, none) ∧ ∀ picks, ∃ f, LgI f (dk.crash picks) ∧ (OpenTo f V q ∨ OpenTo f (V.apply last.1 last.2).2 (q + 1))
theorem LgW.opens (h : LgW f q c n V) (hq : q ≤ 32) : OpenTo f V q := by
  obtain ⟨V0, q0, es, h, rfl, rfl, rfl⟩ := h
  exact h.opens hq
theorem KpI.crash {V' : Vw} {q' K : Nat} {last : En} (h : KpI dk V q V' q' c n last K) (hK : K ≤ 31) (picks : List Int) : ∃ f, LgI f (dk.crash picks) ∧ (OpenTo f V q ∨ last.1 ≠ 0 ∧ EnOk last ∧ (V.apply last.1 last.2).1 = (0, none) ∧ OpenTo f (V.apply last.1 last.2).2 (q + 1)) := by
  have hq := h.hq
  rcases h.st with ⟨_, _, _, _, f, h1, h2⟩ | ⟨_, _, h1⟩ | ⟨_, h1, h2, h3, h4⟩
  · exact ⟨f, h1.st.crash h1.ok picks, .inl (h2.opens (by omega))⟩
  · obtain ⟨f, h2, h3⟩ := h1 picks
    exact ⟨f, h2, .inl h3⟩
  · obtain ⟨f, h5, h6⟩ := h4 picks
    exact ⟨f, h5, h6.imp id fun h7 => ⟨h1, h2, h3, h7⟩⟩
theorem KpI.up {V' : Vw} {q' K : Nat} {last : En} (h : KpI dk V q V' q' c n last K) (hd : dk.down = false) : last.1 = 0 ∧ V' = V ∧ q' = q ∧ ∃ f, LgI f dk ∧ LgW f q c n V := by
  rcases h.st with ⟨_, h1, h2, h3, h4⟩ | ⟨h1, _⟩ | ⟨h1, _⟩
  · exact ⟨h1, h2, h3, h4⟩
  · rw [hd] at h1; cases h1
  · rw [hd] at h1; cases h1
/-- Behind an Append of an entry that may come. -/
theorem KpI.step {V' : Vw} {q' K : Nat} {last : En} (h : KpI dk V q V' q' c n last K) (hd : dk.down = false) (hK : K ≤ 30) {e : En} (hE : EnOk e) (hap : (V.apply e.1 e.2).1 = (0, none)) {f : ByteArray → Option (List UInt8)} {V0 : Vw} {q0 : Nat} {es : List En} (hW : LgSt f V0 q0 es V) (hq0 : q = q0 + es.length) {k : Nat} {dk2 : Dk} {V2 : Vw} {q2 c2 n2 : Nat} (hA : AppOut f dk ev (V.apply e.1 e.2).2 q es.length (frames q0 es) (frame (q + 1) e) k dk2 V2 q2 c2 n2) :
    k = 0 ∧ dk2.down = false ∧ V2 = (V.apply e.1 e.2).2 ∧ q2 = q + 1 ∧ KpI dk2 (V.apply e.1 e.2).2 (q + 1) V2 q2 c2 n2 last (K + 1) ∨
    k = 0 ∧ dk2.down = true ∧ KpI dk2 (V.apply e.1 e.2).2 (q + 1) V2 q2 c2 n2 last (K + 1) ∨
    k = 110 ∧ dk2.down = true ∧ KpI dk2 V q V2 q2 c2 n2 e (K + 1) := by
  subst hq0
  have hl0 := (h.up hd).1
  have hr := h.room; have hc := h.cl; have hq := h.hq
  obtain ⟨h1, h2, h3⟩ := hA
  have happ := hW.app hE hap
  have hlen : q0 + (es ++ [e]).length = q0 + es.length + 1 := by simp; omega
  rcases h3 with ⟨rfl, h4, _, rfl, rfl, h5⟩ | ⟨rfl, h4, _, h5⟩ | ⟨rfl, h4, _, h5⟩
  · left
    refine ⟨rfl, h4, rfl, rfl, h1.trans hr, by omega, by omega, .inl ⟨h4, hl0, rfl, rfl, ?_⟩⟩
    rcases h5 with ⟨_, rfl, rfl, h6⟩ | ⟨_, rfl, rfl, h6⟩
    · exact ⟨_, h6, V0, q0, _, happ, by simp; omega, by simp, by rw [frames_snoc]; simp⟩
    · have h7 := happ.shot
      rw [hlen] at h7
      exact ⟨_, h6, _, _, _, h7, rfl, rfl, rfl⟩
  · right; left
    refine ⟨rfl, h4, h1.trans hr, by omega, by omega, .inr (.inl ⟨h4, hl0, fun picks => ?_⟩)⟩
    rcases h5 picks with h6 | h6
    · have h7 := happ.opens (by rw [hlen]; omega)
      rw [hlen] at h7
      exact ⟨_, h6, h7⟩
    · have h7 := happ.stale (by rw [hlen]; omega)
      rw [hlen] at h7
      exact ⟨_, h6, h7⟩
  · right; right
    refine ⟨rfl, h4, h1.trans hr, by omega, by omega, .inr (.inr ⟨h4, by have := hE.2.1; omega, hE, hap, fun picks => ?_⟩)⟩
    obtain ⟨j, h6⟩ := h5 picks
    exact ⟨_, h6, hW.torn (by omega) hE hap j⟩
theorem KpI.more {V' : Vw} {q' K : Nat} {last : En} (h : KpI dk V q V' q' c n last K) : KpI dk V q V' q' c n last (K + 1) := ⟨h.room, by have := h.cl; omega, by have := h.hq; omega, h.st⟩
/-! ### the entry that was within -/
def zFm (b : Nat) (e : En) : HP := ex fun s : SA × SA => stars (cells b (.int .i64 e.1 :: mfL e.2 s.1 s.2) 41 :: mfP e.2 s.1 s.2)
theorem Mem.openLast {b : Nat} {e : En} (hs : Mem g w (zFm b e :: L)) : ∃ s1 s2 : SA, Mem g w (cells b (.int .i64 e.1 :: mfL e.2 s1 s2) 41 :: (mfP e.2 s1 s2 ++ L)) := by
  obtain ⟨s, h⟩ := hs.unex
  exact ⟨s.1, s.2, h.unstars⟩
theorem Mem.closeLast {b : Nat} {e : En} {s1 s2 : SA} (hs : Mem g w (cells b (.int .i64 e.1 :: mfL e.2 s1 s2) 41 :: (mfP e.2 s1 s2 ++ L))) : Mem g w (zFm b e :: L) :=
  Mem.ex (f := fun s : SA × SA => Go.Proofs.YtdkgdjnbpjjfmaaGreatDoor.stars (cells b (.int .i64 e.1 :: mfL e.2 s.1 s.2) 41 :: mfP e.2 s.1 s.2)) (s1, s2) (Mem.stars (M := cells b (.int .i64 e.1 :: mfL e.2 s1 s2) 41 :: mfP e.2 s1 s2) hs)
theorem Mem.zeroLast {b : Nat} (hs : Mem g w (cells b (.int .i64 0 :: mfL Mf.z (none, 0) (none, 0)) 41 :: L)) : Mem g w (zFm b (0, Mf.z) :: L) :=
  Mem.closeLast (e := (0, Mf.z)) (s1 := (none, 0)) (s2 := (none, 0)) (((hs.addE (zF8 3 _)).addE (zF8 2 _)).arr [2, 0, 1] 3 (by decide))
end Go.Proofs.YtdkgdjnbpjjfmaaGreatDoor
namespace Go.Proofs.YtdkgdjnbpjjfmaaGreatDoor
set_option linter.all false
open Go.RowKit Go.ChangeShapes

def codeName : Nat → String
  | 101 => "cordwood/api.ErrEnd"
  | 102 => "cordwood/api.ErrSum"
  | 103 => "cordwood/api.ErrShape"
  | 104 => "cordwood/api.ErrMany"
  | 105 => "cordwood/api.ErrRange"
  | 106 => "cordwood/api.ErrName"
  | 107 => "cordwood/api.ErrNone"
  | 108 => "cordwood/api.ErrThere"
  | 109 => "cordwood/api.ErrFull"
  | 110 => "cordwood/api.ErrCrash"
  | 111 => "cordwood/api.ErrStore"
  | 112 => "cordwood/api.ErrKind"
  | 113 => "cordwood/api.ErrState"
  | 114 => "cordwood/api.ErrFenced"
  | 115 => "cordwood/api.ErrOutside"
  | 116 => "cordwood/api.ErrUnavail"
  | 117 => "cordwood/api.ErrWord"
  | 118 => "cordwood/api.ErrNumber"
  | _ => "cordwood/api.ErrClosed"

/-- The datum of a sentinel. -/
def isSent : DataW Unit → Bool
  | .iface n (.ptr (.agg [.lit (.string _)])) => n == "*errors.errorString"
  | _ => false
theorem isSent_open {d : DataW Unit} (h : isSent d = true) : ∃ text, d = .iface "*errors.errorString" (.ptr (.agg [.lit (.string text)])) := by
  unfold isSent at h
  split at h
  · obtain rfl := eq_of_beq h; exact ⟨_, rfl⟩
  · cases h

theorem rowE (u : TypeId) (h : Tryz.prog.typeName? 3 u = some "*errors.errorString") : u = 246 :=
  have star : "*" ++ "errors.errorString" = "*errors.errorString" := by decide
  typeName_ptr_named (nm := "errors.errorString") (by rw [star]; kernel_rfl) (by kernel_rfl) (by decide) u (by rw [star]; exact h)

/-- What one listed sentinel says. -/
def SentAt (W : World) (n : String) (a : Addr) : Prop :=
  ∃ g, Tryz.prog.globalNamed n = some g ∧ W.cell? ⟨g, 0, none⟩ = some (.iface 246 (.pointer (some a))) ∧ ∃ s, W.cell? a = some (.string s)

theorem errF : ∃ f : Field, Tryz.prog.underlying 263 = some (.struct #[f]) ∧ f.type = 9 ∧ f.offset = 0 := ⟨_, uz263, rfl, rfl⟩
theorem cellsE : Tryz.prog.cellsOf 263 = 1 := by kernel_rfl
theorem cellsS : Tryz.prog.cellsOf 9 = 1 := by kernel_rfl

set_option maxRecDepth 100000 in
theorem sents {W : World} : ∀ {l : List (String × DataW Unit)} {ps : List MemPlace}, DataW.LaidVars Tryz.prog W l ps → (∀ x ∈ l, isSent x.2 = true) →
    (∀ x ∈ l, ∀ g, Tryz.prog.globalNamed x.1 = some g → (Tryz.prog.globals[g]?).map (·.type) = some 27) →
    (∀ b off, MemPlace.cell b off ∈ ps → (∃ c t, W.heap[b]? = some (.cells c t (0, 0))) ∧ ∀ u v, W.cell? ⟨b, off, none⟩ = some (.iface u v) → Value.okWide Tryz.prog W .any 0 u v) → ps.Nodup →
    ∃ ads : List Addr, ads.length = l.length ∧ (∀ i (h : i < l.length) (h' : i < ads.length), SentAt W l[i].1 ads[i]) ∧ ads.Nodup ∧ (∀ a ∈ ads, MemPlace.cell a.block a.off ∈ ps)
  | [], ps, h, _, _, _, _ => ⟨[], rfl, (fun i h => absurd h (by simp)), List.nodup_nil, (fun a h => by cases h)⟩
  | (n, d) :: r, ps, h, hs, hg, hrows, hnd => by
    obtain ⟨g0, t0, cs0, f0, p0, q0, hg0, ht0, hv0, hd0, hr, rfl⟩ := h
    obtain rfl := Option.some.inj ((hg (n, d) List.mem_cons_self g0 hg0).symm.trans ht0)
    obtain ⟨text, rfl⟩ := isSent_open (hs (n, d) List.mem_cons_self)
    obtain ⟨l0⟩ := cs0
    obtain ⟨ef, hef, hft, hfo⟩ := errF
    have ok0 : ∀ u v, l0 = [.iface u v] → Value.okWide Tryz.prog W .any 0 u v := fun u v e => by
      subst e
      exact (hrows g0 0 (by simp [MemPlace.row])).2 u v (by simpa using World.var?_cell hg0 hv0 0)
    obtain ⟨a0, s0, rfl, hc0, hs0, hz0, rfl⟩ := errorString_of_trod zD1 rowE uz246 hef hft hfo uz9 cellsE cellsS hd0 ok0
    obtain ⟨ads, hlen, hat, hnod, hin⟩ := sents hr (fun x hx => hs x (.tail _ hx)) (fun x hx => hg x (.tail _ hx)) (fun b off hm => hrows b off (List.mem_append_right _ hm)) (hnd.sublist (List.sublist_append_right _ _))
    refine ⟨a0 :: ads, by simp [hlen], fun i h h' => ?_, ?_, fun a ha => ?_⟩
    · cases i with
      | zero => exact ⟨g0, hg0, by simpa using World.var?_cell hg0 hv0 0, s0, hc0⟩
      | succ i => exact hat i (by simpa using h) (by simpa using h')
    · refine List.nodup_cons.2 ⟨fun hm => ?_, hnod⟩
      have h1 := hin a0 hm
      have h2 : MemPlace.cell a0.block a0.off ∈ MemPlace.row ⟨g0, 0, none⟩ 1 ++ MemPlace.row a0 1 := by simp [MemPlace.row]
      exact (List.nodup_append.1 hnd).2.2 _ h2 _ h1 rfl
    · rcases List.mem_cons.1 ha with rfl | ha
      · simp [MemPlace.row]
      · exact List.mem_append_right _ (hin a ha)

/-- The codes' sentinels. -/
theorem errs_of_laid {L : List Nat} {l : List (String × DataW Unit)} {W : World} (h : laidMetH Tryz.prog l W)
    (hl : l.map (·.1) = L.map codeName) (hs : l.all (fun x => isSent x.2) = true) (hL : L.all (fun c => decide (c ∈ zBr)) = true) (hnd : decide L.Nodup = true) :
    ∃ ad, Errs L ad W.heap.size W := by
  have hs' : ∀ x ∈ l, isSent x.2 = true := List.all_eq_true.1 hs
  have hL' : ∀ c ∈ L, c ∈ zBr := fun c hc => of_decide_eq_true (List.all_eq_true.1 hL c hc)
  have hnd' : L.Nodup := of_decide_eq_true hnd
  have hplain : laidMetH Tryz.prog l W = laidMet Tryz.prog l W := MakeChecks.laidMetH_plain _ _ _ (List.all_eq_true.2 fun x hx => by
    obtain ⟨t, e⟩ := isSent_open (hs' x hx)
    rw [e]; rfl)
  rw [hplain] at h
  obtain ⟨ps, hv, hn, hrows⟩ := h
  have gl : ∀ c ∈ zBr, Tryz.prog.globalNamed (codeName c) = some (gidx c) ∧ (Tryz.prog.globals[gidx c]?).map (·.type) = some 27 := by
    intro c hc
    have hb : ∀ c, decide (Tryz.prog.globalNamed (codeName c) = some (gidx c)) = true → decide ((Tryz.prog.globals[gidx c]?).map (·.type) = some 27) = true → Tryz.prog.globalNamed (codeName c) = some (gidx c) ∧ (Tryz.prog.globals[gidx c]?).map (·.type) = some 27 := fun c h1 h2 => ⟨of_decide_eq_true h1, of_decide_eq_true h2⟩
    simp only [zBr, List.mem_cons, List.not_mem_nil, or_false] at hc
    rcases hc with rfl | rfl | rfl | rfl | rfl | rfl | rfl | rfl | rfl | rfl | rfl | rfl | rfl | rfl | rfl | rfl | rfl | rfl | rfl <;> exact hb _ (by kernel_rfl) (by kernel_rfl)
  have hlen : l.length = L.length := by simpa using congrArg List.length hl
  have hname : ∀ i (h : i < l.length) (h' : i < L.length), l[i].1 = codeName L[i] := fun i h h' => by
    have := congrArg (·[i]?) hl
    simpa [h, h'] using this
  obtain ⟨ads, hal, hat, hanod, hin⟩ := sents hv hs' (fun x hx g hg => by
    obtain ⟨i, hi, rfl⟩ := List.getElem_of_mem hx
    have hi' : i < L.length := by omega
    rw [hname i hi hi'] at hg
    have := gl L[i] (hL' _ (List.getElem_mem hi'))
    obtain rfl := Option.some.inj (this.1.symm.trans hg)
    exact this.2) hrows hn
  have hidx : ∀ c ∈ L, ∃ i, ∃ (h : i < L.length) (h' : i < ads.length), L[i] = c ∧ L.idxOf c = i := fun c hc => by
    have h := List.idxOf_lt_length_of_mem hc
    exact ⟨L.idxOf c, h, by omega, List.getElem_idxOf h, rfl⟩
  refine ⟨fun c => ads.getD (L.idxOf c) default, ⟨fun c hc e => ?_, fun c hc => ?_, fun c hc => ?_, fun c hc d hd e => ?_, fun c hc => ?_⟩⟩
  · subst e; have := hL' 0 hc; revert this; decide
  all_goals obtain ⟨i, hi, hi', hci, hx⟩ := hidx c hc
  · obtain ⟨g, hg, hcell, _⟩ := hat i (by omega) hi'
    rw [hname i (by omega) hi, hci, (gl c (hL' c hc)).1] at hg
    obtain rfl := Option.some.inj hg
    have hp : c ≠ 0 := fun e => by subst e; have := hL' 0 hc; revert this; decide
    rw [hcell]
    simp only [zAq, hp, if_false]
    rw [hx, List.getD_eq_getElem?_getD, List.getElem?_eq_getElem hi']
    rfl
  · obtain ⟨⟨cs, t, hb⟩, _⟩ := hrows _ _ (hin ads[i] (List.getElem_mem hi'))
    refine ⟨cs, t, ?_⟩
    rw [hx, List.getD_eq_getElem?_getD, List.getElem?_eq_getElem hi']
    exact hb
  · obtain ⟨j, hj, hj', hdj, hy⟩ := hidx d hd
    simp only [hx, hy, List.getD_eq_getElem?_getD, List.getElem?_eq_getElem hi', List.getElem?_eq_getElem hj', Option.getD_some] at e
    have := (List.getElem_inj hanod).1 e
    subst this
    exact hci.symm.trans hdj
  · obtain ⟨g, hg, hcell, s, hs⟩ := hat i (by omega) hi'
    rw [hname i (by omega) hi, hci, (gl c (hL' c hc)).1] at hg
    obtain rfl := Option.some.inj hg
    have hlt : ∀ {a : Addr} {v : Value}, W.cell? a = some v → a.block < W.heap.size := fun {a v} h => by
      rcases Nat.lt_or_ge a.block W.heap.size with h' | h'
      · exact h'
      · simp [World.cell?, Array.getElem?_eq_none h'] at h
    refine ⟨hlt hcell, ?_⟩
    rw [hx, List.getD_eq_getElem?_getD, List.getElem?_eq_getElem hi']
    exact hlt hs

/-! ### slices that came in -/
theorem seq_of_cells {W : World} {x : Addr} {len cap : Nat} {f : Nat → Value} (hl : len ≤ cap) (h : ∀ i, i < cap → W.cell? (x.add i) = some (f i)) :
    seqV W (.slice (some x) len cap) ((List.range len).map f) := by
  refine ⟨_, _, _, rfl, by simp, hl, (fun h => by cases h), ?_⟩
  rcases Nat.eq_zero_or_pos cap with h0 | h0
  · exact .inl h0
  right
  obtain ⟨b, off, sp⟩ := x
  have h1 := h 0 h0
  have hsp : sp = none ∧ ∃ cs E fz, W.heap[b]? = some (.cells cs E fz) := by
    simp only [World.cell?, Addr.add, if_true] at h1
    split at h1
    · rename_i c t f' hh
      cases sp with
      | none => exact ⟨rfl, c, t, f', hh⟩
      | some q => simp at h1
    · cases h1
  obtain ⟨rfl, cs, E, fz, hb⟩ := hsp
  have hc : ∀ i, i < cap → cs[off + i]? = some (f i) := fun i hi => by
    have := h i hi
    simp only [World.cell?, Addr.add_lit] at this
    rw [hb] at this
    simpa using this
  refine ⟨b, off, cs, E, fz, rfl, hb, ?_, fun i hi => ?_⟩
  · have := (Array.getElem?_eq_some_iff.1 (hc (cap - 1) (by omega))).1
    omega
  · simp only [List.length_map, List.length_range] at hi
    rw [hc i (by omega)]
    simp [hi]

/-- A slice of integers that came in: nil; or a row of 'cap' cells that hold the numbers 'zs', each of its kind. -/
def IsRow (k : IntKind) (w : World) (a : Option Addr) (len cap : Nat) (zs : List Int) : Prop :=
  (a = none ∧ len = 0 ∧ cap = 0 ∧ zs = []) ∨
  ∃ x, a = some x ∧ len ≤ cap ∧ cap ≤ maxLen ∧ zs.length = cap ∧ (∀ i, i < zs.length → w.cell? (x.add i) = some (.int k (zs.getD i 0))) ∧ ∀ n ∈ zs, (Lit.int k n).wf = true
theorem IsRow.len {k : IntKind} {w : World} {a : Option Addr} {len cap : Nat} {zs : List Int} (h : IsRow k w a len cap zs) : len ≤ cap ∧ cap ≤ maxLen ∧ (zs.take len).length = len := by
  rcases h with ⟨rfl, rfl, rfl, rfl⟩ | ⟨x, rfl, h1, h2, h3, _, _⟩
  · exact ⟨Nat.le_refl _, Nat.zero_le _, rfl⟩
  · exact ⟨h1, h2, by simp; omega⟩
theorem IsRow.seq {k : IntKind} {w : World} {a : Option Addr} {len cap : Nat} {zs : List Int} (h : IsRow k w a len cap zs) : seqV w (.slice a len cap) ((zs.take len).map (Value.int k)) := by
  rcases h with ⟨rfl, rfl, rfl, rfl⟩ | ⟨x, rfl, h1, h2, h3, h4, _⟩
  · exact seqV.nil w
  · have := seq_of_cells (W := w) (x := x) (f := fun i => .int k (zs.getD i 0)) h1 (fun i hi => h4 i (by omega))
    have e : (List.range len).map (fun i => Value.int k (zs.getD i 0)) = (zs.take len).map (Value.int k) := by
      apply List.ext_getElem?
      intro i
      simp only [List.getElem?_map, List.getElem?_range, List.getElem?_take]
      by_cases hi : i < len
      · have hz : i < zs.length := by omega
        simp [hi, List.getElem?_eq_getElem hz]
      · simp [hi]
    rwa [e] at this
theorem IsRow.wf {k : IntKind} {w : World} {a : Option Addr} {len cap : Nat} {zs : List Int} (h : IsRow k w a len cap zs) : ∀ z ∈ zs.take len, (Lit.int k z).wf = true := by
  rcases h with ⟨rfl, rfl, rfl, rfl⟩ | ⟨x, rfl, _, _, _, _, h5⟩
  · intro z hz; cases hz
  · intro z hz; exact h5 z (List.mem_of_mem_take hz)
theorem IsRow.ints {w : World} {a : Option Addr} {len cap : Nat} {zs : List Int} (h : IsRow .i64 w a len cap zs) : seqV w (.slice a len cap) (intsL (zs.take len)) := h.seq
theorem IsRow.bytes {w : World} {a : Option Addr} {len cap : Nat} {zs : List Int} (h : IsRow .u8 w a len cap zs) : seqV w (.slice a len cap) (zAm ((zs.take len).map fun z => UInt8.ofNat z.toNat)) := by
  have h1 := h.seq
  have h2 := h.wf
  have e : (zs.take len).map (Value.int .u8) = zAm ((zs.take len).map fun z => UInt8.ofNat z.toNat) := by
    simp only [zAm, List.map_map]
    refine List.map_congr_left fun z hz => ?_
    have := h2 z hz
    simp only [Lit.wf, IntKind.min, IntKind.max, Bool.and_eq_true, decide_eq_true_eq] at this
    have h0 : 0 ≤ z ∧ z < 256 := by revert this; simp [IntKind.signed, IntKind.bits]; omega
    simp only [Function.comp, u8v, Value.int.injEq, true_and]
    have : (UInt8.ofNat z.toNat).toNat = z.toNat := by simp; omega
    rw [this]; omega
  rwa [e] at h1
set_option maxRecDepth 100000 in
theorem blk_of_ok {W : World} {base : Nat} {t e : TypeId} {a : Option Addr} {n c : Nat} (ht : Tryz.prog.underlying t = some (.slice e)) (h : Value.okWide Tryz.prog W .any base t (.slice a n c)) : ∀ b, blk (.slice a n c) = some b → b < W.heap.size := by
  intro b hb
  cases a with
  | none => cases hb
  | some x =>
    simp only [blk, Option.some.injEq] at hb
    subst hb
    simp only [Value.okWide, ht, Cell.okWide, Cell.ok] at h
    obtain ⟨_, _, _, _, row, cells, hs, _⟩ := h
    rcases Nat.lt_or_ge x.block W.heap.size with h' | h'
    · exact h'
    · simp [World.shape?, Array.getElem?_eq_none h'] at hs
end Go.Proofs.YtdkgdjnbpjjfmaaGreatDoor
namespace Go.Proofs.YtdkgdjnbpjjfmaaGreatDoor
set_option maxRecDepth 100000
theorem headMay : Tryz.prog.mayEnter = true := by kernel_rfl
theorem headLifts : (Rows.mlogBytesRow.lifted == Tryz.prog.liftsFinal) = true := by kernel_rfl
theorem headMake : (Tryz.prog.make == some Rows.mlogBytesRow.make) = true := by kernel_rfl
theorem both_true {a b : Bool} (ha : a = true) (hb : b = true) : (a && b) = true := by rw [ha, hb]; rfl
end Go.Proofs.YtdkgdjnbpjjfmaaGreatDoor
