/- Contracts of the elder shapes, over chunks; part.Make. -/
import Derived.Test.YtkogkokmcmallaaGreatDoorG
import Derived.Test.YtkogkokmcmallaaGreatDoorZe
namespace Go.Proofs.YtkogkokmcmallaaGreatDoor
set_option linter.all false
open Go.RowKit
attribute [local irreducible] errV
variable {g w : World} {L : List HP} {ad : Nat → Addr}

theorem of_sl (hs : Mem g w L) {pv b : Value} {l : List UInt8} (hp : Rd g L pv [b]) (hb : Rd g L b (bytesL l)) (hlen : l.length ≤ 1073741824) : Calls Tryz.prog 154 #[pv] w (Ret fun v w' => v = .int .u32 ((crcMore 0 l : Nat) : Int) ∧ Mem g w' L) :=
  hs.calls (of_any0 (hp w hs) (hb w hs) hlen)
theorem resRow1 {n : Nat} {P : Program} {fn : Func} {R : Ending → World → Prop} {ρ : Env} {t u : Tmp} {T : TypeId} (h : fn.results = #[.cell t T, .tmp u]) {b : Nat} {cs : List Value} {T' : TypeId} {v : Value} {fs : Array Field} (hs : Mem g w L) (i : Nat) (hi : L[i]? = some (cells b cs T'))
    (hp : ρ t = .pointer (some ⟨b, 0, none⟩)) (hT : P.underlying T = some (.struct fs)) (hsz : (P.info? T).map (·.size) = some cs.length) (hv : ρ u = v) (hR : R (.returned (.tuple #[.agg cs.toArray, v])) w) : ResE (n := n) P fn R ρ w := fun a ha => by
  obtain ⟨F, h1, _⟩ := hs.read hi
  have hagg : (isAgg T).run P w = .ok true w := by simp [isAgg, run_underlying hT]
  have h3 := run_loadVar_row (P := P) (T := T) (vs := cs.toArray) hagg (by simpa using hsz) h1
  have k1 := ha.get t
  have k2 := ha.get u
  rw [hp, Array.getD_eq_getD_getElem?] at k1
  rw [hv, Array.getD_eq_getD_getElem?] at k2
  exact ⟨_, by simp [results, h, k1, k2, asAddr, h3], hR⟩

end Go.Proofs.YtkogkokmcmallaaGreatDoor
