/- Bytes: a copy. -/
import Derived.Test.YtkogkokmcmallaaDoorG
import Derived.Test.YtkogkokmcmallaaDoorZb
import Derived.Laws.IdiomStrings
namespace Go.Proofs.YtkogkokmcmallaaDoor
set_option linter.all false
open Go.RowKit
attribute [local irreducible] errV
variable {g w : World} {L M : List HP} {ad : Nat → Addr}

theorem Came.cap {a : Option Addr} {n c : Nat} {l : List Value} (h : Came g (.slice a n c) l) : n ≤ c := by
  obtain ⟨⟨a', n', c', hv, hn, hc, _⟩, _⟩ := h
  simp only [Value.slice.injEq] at hv
  obtain ⟨_, rfl, rfl⟩ := hv
  exact hc
theorem wrapU8 {i : Nat} (h : i < 256) : IntKind.u8.wrap (i : Int) = (((UInt8.ofNat i).toNat : Nat) : Int) := by
  have h8 : (2 : Int) ^ 8 = 256 := by decide
  simp only [IntKind.wrap, IntKind.bits, IntKind.signed, h8, Bool.false_and, Bool.false_eq_true, if_false]
  rw [UInt8.toNat_ofNat']
  omega
/-- Bytes as a text. -/
theorem run_bytesStr {P : Program} {ρ : Env} {dst : Option Tmp} {ty : TypeId} {pos : String} {aft : Array Edge} {x : Operand} {ts e td : TypeId} {b off n c : Nat} {l : List UInt8} (hs : P.underlying ts = some (.slice e)) (he : P.underlying e = some (.int .u8)) (hd : P.underlying td = some .string) (hx : ev ρ x = .slice (some ⟨b, off, none⟩) n c) (hn : n = l.length) (hc : ∀ (j : Nat) (v : Value), (bytesL l)[j]? = some v → w.cell? ⟨b, off + j, none⟩ = some v) :
    (execOp (ev ρ) ⟨dst, .convert ts td x, ty, pos, aft, none⟩).run P w = .ok (.value (.string ⟨l.toArray⟩)) w := by
  subst hn
  have h := run_convert_bytes_back (P := P) w ts td e ⟨b, off, none⟩ c l hs he hd (fun j hj => by rw [Addr.add_lit]; exact hc j _ (bytesL_at (List.getElem?_eq_getElem hj)))
  simp only [execOp, hx, Sem.run_bind, h, Result.andThen_ok, Sem.run_pure]
end Go.Proofs.YtkogkokmcmallaaDoor
