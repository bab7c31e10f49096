/- What a row's condition on the sentinels gives a walk: 'Errs'; what its condition on a slice gives: 'seqV'. Closed facts on the program's head, that each row of this seat asks for. -/
import Derived.Test.YtdkgdjnbpjjfmaaGreatDoorB7
import Derived.Test.YtdkgdjnbpjjfmaaGreatDoorB1
import Derived.Test.YtdkgdjnbpjjfmaaGreatDoorRows
import Derived.LaidMore
import Derived.LaidHandle
import Derived.LaidLaws
import Derived.MakeChecks
import Derived.OpenShut
import Derived.Carry
import Derived.JoinedOf
import Derived.ProofKit
namespace Go.Proofs.YtdkgdjnbpjjfmaaGreatDoor
set_option linter.all false
open Go.RowKit Go.ChangeShapes

def codeName : Nat → String
  | 101 => "cordwood/api.ErrEnd"
  | 102 => "cordwood/api.ErrSum"
  | 103 => "cordwood/api.ErrShape"
  | 104 => "cordwood/api.ErrMany"
  | 105 => "cordwood/api.ErrRange"
  | 106 => "cordwood/api.ErrName"
  | 107 => "cordwood/api.ErrNone"
  | 108 => "cordwood/api.ErrThere"
  | 109 => "cordwood/api.ErrFull"
  | 110 => "cordwood/api.ErrCrash"
  | 111 => "cordwood/api.ErrStore"
  | 112 => "cordwood/api.ErrKind"
  | 113 => "cordwood/api.ErrState"
  | 114 => "cordwood/api.ErrFenced"
  | 115 => "cordwood/api.ErrOutside"
  | 116 => "cordwood/api.ErrUnavail"
  | 117 => "cordwood/api.ErrWord"
  | 118 => "cordwood/api.ErrNumber"
  | _ => "cordwood/api.ErrClosed"

/-- The datum of a sentinel. -/
def isSent : DataW Unit → Bool
  | .iface n (.ptr (.agg [.lit (.string _)])) => n == "*errors.errorString"
  | _ => false
theorem isSent_open {d : DataW Unit} (h : isSent d = true) : ∃ text, d = .iface "*errors.errorString" (.ptr (.agg [.lit (.string text)])) := by
  unfold isSent at h
  split at h
  · obtain rfl := eq_of_beq h; exact ⟨_, rfl⟩
  · cases h

theorem rowE (u : TypeId) (h : Tryz.prog.typeName? 3 u = some "*errors.errorString") : u = 246 :=
  have star : "*" ++ "errors.errorString" = "*errors.errorString" := by decide
  typeName_ptr_named (nm := "errors.errorString") (by rw [star]; kernel_rfl) (by kernel_rfl) (by decide) u (by rw [star]; exact h)

/-- What one listed sentinel says. -/
def SentAt (W : World) (n : String) (a : Addr) : Prop :=
  ∃ g, Tryz.prog.globalNamed n = some g ∧ W.cell? ⟨g, 0, none⟩ = some (.iface 246 (.pointer (some a))) ∧ ∃ s, W.cell? a = some (.string s)

theorem errF : ∃ f : Field, Tryz.prog.underlying 263 = some (.struct #[f]) ∧ f.type = 9 ∧ f.offset = 0 := ⟨_, uz263, rfl, rfl⟩
theorem cellsE : Tryz.prog.cellsOf 263 = 1 := by kernel_rfl
theorem cellsS : Tryz.prog.cellsOf 9 = 1 := by kernel_rfl

set_option maxRecDepth 100000 in
theorem sents {W : World} : ∀ {l : List (String × DataW Unit)} {ps : List MemPlace}, DataW.LaidVars Tryz.prog W l ps → (∀ x ∈ l, isSent x.2 = true) →
    (∀ x ∈ l, ∀ g, Tryz.prog.globalNamed x.1 = some g → (Tryz.prog.globals[g]?).map (·.type) = some 27) →
    (∀ b off, MemPlace.cell b off ∈ ps → (∃ c t, W.heap[b]? = some (.cells c t (0, 0))) ∧ ∀ u v, W.cell? ⟨b, off, none⟩ = some (.iface u v) → Value.okWide Tryz.prog W .any 0 u v) → ps.Nodup →
    ∃ ads : List Addr, ads.length = l.length ∧ (∀ i (h : i < l.length) (h' : i < ads.length), SentAt W l[i].1 ads[i]) ∧ ads.Nodup ∧ (∀ a ∈ ads, MemPlace.cell a.block a.off ∈ ps)
  | [], ps, h, _, _, _, _ => ⟨[], rfl, (fun i h => absurd h (by simp)), List.nodup_nil, (fun a h => by cases h)⟩
  | (n, d) :: r, ps, h, hs, hg, hrows, hnd => by
    obtain ⟨g0, t0, cs0, f0, p0, q0, hg0, ht0, hv0, hd0, hr, rfl⟩ := h; obtain rfl := Option.some.inj ((hg (n, d) List.mem_cons_self g0 hg0).symm.trans ht0); obtain ⟨text, rfl⟩ := isSent_open (hs (n, d) List.mem_cons_self); obtain ⟨l0⟩ := cs0; obtain ⟨ef, hef, hft, hfo⟩ := errF
    have ok0 : ∀ u v, l0 = [.iface u v] → Value.okWide Tryz.prog W .any 0 u v := fun u v e => by
      subst e; exact (hrows g0 0 (by simp [MemPlace.row])).2 u v (by simpa using World.var?_cell hg0 hv0 0)
    obtain ⟨a0, s0, rfl, hc0, hs0, hz0, rfl⟩ := errorString_of_trod zCq rowE uz246 hef hft hfo uz9 cellsE cellsS hd0 ok0; obtain ⟨ads, hlen, hat, hnod, hin⟩ := sents hr (fun x hx => hs x (.tail _ hx)) (fun x hx => hg x (.tail _ hx)) (fun b off hm => hrows b off (List.mem_append_right _ hm)) (hnd.sublist (List.sublist_append_right _ _)); refine ⟨a0 :: ads, by simp [hlen], fun i h h' => ?_, ?_, fun a ha => ?_⟩
    · cases i with
      | zero => exact ⟨g0, hg0, by simpa using World.var?_cell hg0 hv0 0, s0, hc0⟩
      | succ i => exact hat i (by simpa using h) (by simpa using h')
    · refine List.nodup_cons.2 ⟨fun hm => ?_, hnod⟩
      have h1 := hin a0 hm
      have h2 : MemPlace.cell a0.block a0.off ∈ MemPlace.row ⟨g0, 0, none⟩ 1 ++ MemPlace.row a0 1 := by simp [MemPlace.row]
      exact (List.nodup_append.1 hnd).2.2 _ h2 _ h1 rfl
    · rcases List.mem_cons.1 ha with rfl | ha
      · simp [MemPlace.row]
      · exact List.mem_append_right _ (hin a ha)

/-- The codes' sentinels. -/
theorem errs_of_laid {L : List Nat} {l : List (String × DataW Unit)} {W : World} (h : laidMetH Tryz.prog l W)
    (hl : l.map (·.1) = L.map codeName) (hs : l.all (fun x => isSent x.2) = true) (hL : L.all (fun c => decide (c ∈ allCodes)) = true) (hnd : decide L.Nodup = true) :
    ∃ ad, Errs L ad W.heap.size W := by
  have hs' : ∀ x ∈ l, isSent x.2 = true := List.all_eq_true.1 hs
  have hL' : ∀ c ∈ L, c ∈ allCodes := fun c hc => of_decide_eq_true (List.all_eq_true.1 hL c hc)
  have hnd' : L.Nodup := of_decide_eq_true hnd
  have hplain : laidMetH Tryz.prog l W = laidMet Tryz.prog l W := MakeChecks.laidMetH_plain _ _ _ (List.all_eq_true.2 fun x hx => by
    obtain ⟨t, e⟩ := isSent_open (hs' x hx)
    rw [e]; rfl)
  rw [hplain] at h; obtain ⟨ps, hv, hn, hrows⟩ := h
  have gl : ∀ c ∈ allCodes, Tryz.prog.globalNamed (codeName c) = some (gidx c) ∧ (Tryz.prog.globals[gidx c]?).map (·.type) = some 27 := by
    intro c hc
    have hb : ∀ c, decide (Tryz.prog.globalNamed (codeName c) = some (gidx c)) = true → decide ((Tryz.prog.globals[gidx c]?).map (·.type) = some 27) = true → Tryz.prog.globalNamed (codeName c) = some (gidx c) ∧ (Tryz.prog.globals[gidx c]?).map (·.type) = some 27 := fun c h1 h2 => ⟨of_decide_eq_true h1, of_decide_eq_true h2⟩
    simp only [allCodes, List.mem_cons, List.not_mem_nil, or_false] at hc
    rcases hc with rfl | rfl | rfl | rfl | rfl | rfl | rfl | rfl | rfl | rfl | rfl | rfl | rfl | rfl | rfl | rfl | rfl | rfl | rfl <;> exact hb _ (by kernel_rfl) (by kernel_rfl)
  have hlen : l.length = L.length := by simpa using congrArg List.length hl
  have hname : ∀ i (h : i < l.length) (h' : i < L.length), l[i].1 = codeName L[i] := fun i h h' => by
    have := congrArg (·[i]?) hl
    simpa [h, h'] using this
  obtain ⟨ads, hal, hat, hanod, hin⟩ := sents hv hs' (fun x hx g hg => by
    obtain ⟨i, hi, rfl⟩ := List.getElem_of_mem hx
    have hi' : i < L.length := by omega
    rw [hname i hi hi'] at hg; have := gl L[i] (hL' _ (List.getElem_mem hi')); obtain rfl := Option.some.inj (this.1.symm.trans hg)
    exact this.2) hrows hn
  have hidx : ∀ c ∈ L, ∃ i, ∃ (h : i < L.length) (h' : i < ads.length), L[i] = c ∧ L.idxOf c = i := fun c hc => by
    have h := List.idxOf_lt_length_of_mem hc; exact ⟨L.idxOf c, h, by omega, List.getElem_idxOf h, rfl⟩
  refine ⟨fun c => ads.getD (L.idxOf c) default, ⟨fun c hc e => ?_, fun c hc => ?_, fun c hc => ?_, fun c hc d hd e => ?_, fun c hc => ?_⟩⟩
  · subst e; have := hL' 0 hc; revert this; decide
  all_goals obtain ⟨i, hi, hi', hci, hx⟩ := hidx c hc
  · obtain ⟨g, hg, hcell, _⟩ := hat i (by omega) hi'
    rw [hname i (by omega) hi, hci, (gl c (hL' c hc)).1] at hg; obtain rfl := Option.some.inj hg
    have hp : c ≠ 0 := fun e => by subst e; have := hL' 0 hc; revert this; decide
    rw [hcell]; simp only [zAq, hp, if_false]; rw [hx, List.getD_eq_getElem?_getD, List.getElem?_eq_getElem hi']
    rfl
  · obtain ⟨⟨cs, t, hb⟩, _⟩ := hrows _ _ (hin ads[i] (List.getElem_mem hi'))
    refine ⟨cs, t, ?_⟩; rw [hx, List.getD_eq_getElem?_getD, List.getElem?_eq_getElem hi']; exact hb
  · obtain ⟨j, hj, hj', hdj, hy⟩ := hidx d hd
    simp only [hx, hy, List.getD_eq_getElem?_getD, List.getElem?_eq_getElem hi', List.getElem?_eq_getElem hj', Option.getD_some] at e; have := (List.getElem_inj hanod).1 e; subst this; exact hci.symm.trans hdj
  · obtain ⟨g, hg, hcell, s, hs⟩ := hat i (by omega) hi'
    rw [hname i (by omega) hi, hci, (gl c (hL' c hc)).1] at hg; obtain rfl := Option.some.inj hg
    have hlt : ∀ {a : Addr} {v : Value}, W.cell? a = some v → a.block < W.heap.size := fun {a v} h => by
      rcases Nat.lt_or_ge a.block W.heap.size with h' | h'
      · exact h'
      · simp [World.cell?, Array.getElem?_eq_none h'] at h
    refine ⟨hlt hcell, ?_⟩; rw [hx, List.getD_eq_getElem?_getD, List.getElem?_eq_getElem hi']; exact hlt hs

/-! ### slices that came in -/
theorem seq_of_cells {W : World} {x : Addr} {len cap : Nat} {f : Nat → Value} (hl : len ≤ cap) (h : ∀ i, i < cap → W.cell? (x.add i) = some (f i)) :
    seqV W (.slice (some x) len cap) ((List.range len).map f) := by
  refine ⟨_, _, _, rfl, by simp, hl, (fun h => by cases h), ?_⟩
  rcases Nat.eq_zero_or_pos cap with h0 | h0
  · exact .inl h0
  right
  obtain ⟨b, off, sp⟩ := x; have h1 := h 0 h0
  have hsp : sp = none ∧ ∃ cs E fz, W.heap[b]? = some (.cells cs E fz) := by
    simp only [World.cell?, Addr.add, if_true] at h1
    split at h1
    · rename_i c t f' hh
      cases sp with
      | none => exact ⟨rfl, c, t, f', hh⟩
      | some q => simp at h1
    · cases h1
  obtain ⟨rfl, cs, E, fz, hb⟩ := hsp
  have hc : ∀ i, i < cap → cs[off + i]? = some (f i) := fun i hi => by
    have := h i hi; simp only [World.cell?, Addr.add_lit] at this; rw [hb] at this
    simpa using this
  refine ⟨b, off, cs, E, fz, rfl, hb, ?_, fun i hi => ?_⟩
  · have := (Array.getElem?_eq_some_iff.1 (hc (cap - 1) (by omega))).1
    omega
  · simp only [List.length_map, List.length_range] at hi
    rw [hc i (by omega)]
    simp [hi]

/-- A slice of integers that came in: nil; or a row of 'cap' cells that hold the numbers 'zs', each of its kind. -/
def IsRow (k : IntKind) (w : World) (a : Option Addr) (len cap : Nat) (zs : List Int) : Prop :=
  (a = none ∧ len = 0 ∧ cap = 0 ∧ zs = []) ∨
  ∃ x, a = some x ∧ len ≤ cap ∧ cap ≤ maxLen ∧ zs.length = cap ∧ (∀ i, i < zs.length → w.cell? (x.add i) = some (.int k (zs.getD i 0))) ∧ ∀ n ∈ zs, (Lit.int k n).wf = true
theorem IsRow.len {k : IntKind} {w : World} {a : Option Addr} {len cap : Nat} {zs : List Int} (h : IsRow k w a len cap zs) : len ≤ cap ∧ cap ≤ maxLen ∧ (zs.take len).length = len := by
  rcases h with ⟨rfl, rfl, rfl, rfl⟩ | ⟨x, rfl, h1, h2, h3, _, _⟩
  · exact ⟨Nat.le_refl _, Nat.zero_le _, rfl⟩
  · exact ⟨h1, h2, by simp; omega⟩
theorem IsRow.seq {k : IntKind} {w : World} {a : Option Addr} {len cap : Nat} {zs : List Int} (h : IsRow k w a len cap zs) : seqV w (.slice a len cap) ((zs.take len).map (Value.int k)) := by
  rcases h with ⟨rfl, rfl, rfl, rfl⟩ | ⟨x, rfl, h1, h2, h3, h4, _⟩
  · exact seqV.nil w
  · have := seq_of_cells (W := w) (x := x) (f := fun i => .int k (zs.getD i 0)) h1 (fun i hi => h4 i (by omega))
    have e : (List.range len).map (fun i => Value.int k (zs.getD i 0)) = (zs.take len).map (Value.int k) := by
      apply List.ext_getElem?
      intro i; simp only [List.getElem?_map, List.getElem?_range, List.getElem?_take]
      by_cases hi : i < len
      · have hz : i < zs.length := by omega
        simp [hi, List.getElem?_eq_getElem hz]
      · simp [hi]
    rwa [e] at this
theorem IsRow.wf {k : IntKind} {w : World} {a : Option Addr} {len cap : Nat} {zs : List Int} (h : IsRow k w a len cap zs) : ∀ z ∈ zs.take len, (Lit.int k z).wf = true := by
  rcases h with ⟨rfl, rfl, rfl, rfl⟩ | ⟨x, rfl, _, _, _, _, h5⟩
  · intro z hz; cases hz
  · intro z hz; exact h5 z (List.mem_of_mem_take hz)
theorem IsRow.ints {w : World} {a : Option Addr} {len cap : Nat} {zs : List Int} (h : IsRow .i64 w a len cap zs) : seqV w (.slice a len cap) (zD9 (zs.take len)) := h.seq
theorem IsRow.bytes {w : World} {a : Option Addr} {len cap : Nat} {zs : List Int} (h : IsRow .u8 w a len cap zs) : seqV w (.slice a len cap) (zAm ((zs.take len).map fun z => UInt8.ofNat z.toNat)) := by
  have h1 := h.seq; have h2 := h.wf
  have e : (zs.take len).map (Value.int .u8) = zAm ((zs.take len).map fun z => UInt8.ofNat z.toNat) := by
    simp only [zAm, List.map_map]
    refine List.map_congr_left fun z hz => ?_
    have := h2 z hz; simp only [Lit.wf, IntKind.min, IntKind.max, Bool.and_eq_true, decide_eq_true_eq] at this
    have h0 : 0 ≤ z ∧ z < 256 := by revert this; simp [IntKind.signed, IntKind.bits]; omega
    simp only [Function.comp, u8v, Value.int.injEq, true_and]
    have : (UInt8.ofNat z.toNat).toNat = z.toNat := by simp; omega
    rw [this]; omega
  rwa [e] at h1
set_option maxRecDepth 100000 in
theorem blk_of_ok {W : World} {base : Nat} {t e : TypeId} {a : Option Addr} {n c : Nat} (ht : Tryz.prog.underlying t = some (.slice e)) (h : Value.okWide Tryz.prog W .any base t (.slice a n c)) : ∀ b, blk (.slice a n c) = some b → b < W.heap.size := by
  intro b hb
  cases a with
  | none => cases hb
  | some x =>
    simp only [blk, Option.some.injEq] at hb; subst hb; simp only [Value.okWide, ht, Cell.okWide, Cell.ok] at h; obtain ⟨_, _, _, _, row, cells, hs, _⟩ := h
    rcases Nat.lt_or_ge x.block W.heap.size with h' | h'
    · exact h'
    · simp [World.shape?, Array.getElem?_eq_none h'] at hs
end Go.Proofs.YtdkgdjnbpjjfmaaGreatDoor
namespace Go.Proofs.YtdkgdjnbpjjfmaaGreatDoor
set_option maxRecDepth 100000
theorem headMay : Tryz.prog.mayEnter = true := by kernel_rfl
theorem headLifts : (Rows.mlogBytesRow.lifted == Tryz.prog.liftsFinal) = true := by kernel_rfl
theorem headMake : (Tryz.prog.make == some Rows.mlogBytesRow.make) = true := by kernel_rfl
theorem both_true {a b : Bool} (ha : a = true) (hb : b = true) : (a && b) = true := by rw [ha, hb]; rfl
end Go.Proofs.YtdkgdjnbpjjfmaaGreatDoor
