/- The store's walks, third part: 'call': what comes of a call. -/
import Derived.Test.YtjiigajekminaaaDoorStB
namespace Go.Proofs.YtjiigajekminaaaDoor
set_option linter.all false
open Go.RowKit

/-- What comes of the next call. -/
def St.next (st : St) : Int := st.script.headD 0
/-- Behind what every call does first. -/
def St.begin (st : St) : St := { st with calls := st.calls + 1, script := st.script.tail, failed := st.failed + (if st.next = 1 ∨ st.next = 2 then 1 else 0) }

/-- The six cells have turned so: calls, script, failed. -/
theorem turned_cells {B : Nat} {w w' : World} {p : Nat} {st st' : St} {fp dt : List Nat} {mo mu : Nat} {sv sv' : Value} {es : List (ByteArray × Value)} {us : List (Int × Nat × Nat)} (H : StoreAt B w p st fp dt) (h : StIn w p st fp dt mo mu sv es us)
    (k : Keeps (· = p) w w') (hc : w'.heap[p]? = some (.cells (StoreCells mo mu st'.ids sv' st'.calls st'.failed) 94 (0, 0))) (ho : st'.objs = st.objs) (hu : st'.ups = st.ups) (hs : ownV w' sv' (intsL st'.script)) (hsb : blk sv' = blk sv) : StTurned B w p fp dt st' w' fp dt where
  at_ := ⟨⟨mo, mu, sv', es, us, h.turn k H.self H.apart hc ho hu hs (fun b hb => h.scriptB b (hsb ▸ hb))⟩, H.self, H.apart, H.ge, fun i hi => Nat.lt_of_lt_of_le (H.lt i hi) k.size⟩
  keeps := k.mono fun i _ e => e ▸ H.self
  fpNew _ h := .inl h
  dtNew _ h := .inl h

/-- The script's first outcome, and what is left behind it. -/
theorem script_head {w : World} {sv : Value} {l : List Int} {x : Int} {r : List Int} (h : ownV w sv (intsL l)) (hl : l = x :: r) :
    ∃ b off c cs E, sv = .slice (some ⟨b, off, none⟩) (r.length + 1) c ∧ 1 ≤ c ∧ w.heap[b]? = some (.cells cs E (0, 0)) ∧ cs[off]? = some (.int .i64 x) ∧
      ∀ w' : World, w'.heap[b]? = some (.cells cs E (0, 0)) → ownV w' (.slice (if c = 1 then some ⟨b, off, none⟩ else some ⟨b, off + 1, none⟩) r.length (c - 1)) (intsL r) := by
  subst hl
  obtain ⟨a, n, c, rfl, hn0, hnc, han, hrest⟩ := h
  have hn1 : n = r.length + 1 := by simpa [intsL] using hn0
  subst hn1
  rcases hrest with hrest | ⟨b, off, cs, E, rfl, hb, hcap, hcs⟩
  · omega
  · refine ⟨b, off, c, cs, E, rfl, by omega, hb, by simpa [intsL] using hcs 0 (by simp [intsL]), fun w' hb' => ?_⟩
    refine ⟨_, _, _, rfl, by simp [intsL], by omega, ⟨(fun q => by split at q <;> cases q), fun b' hb'' => ?_⟩, ?_⟩
    · have := lt_of_block hb'
      split at hb'' <;> (simp only [blk, Option.some.injEq] at hb''; omega)
    · by_cases hc1 : c = 1
      · exact .inl (by omega)
      · rw [if_neg hc1]
        refine .inr ⟨b, off + 1, cs, E, rfl, hb', by omega, fun i hi => ?_⟩
        have := hcs (i + 1) (by simp [intsL] at hi ⊢; omega)
        rw [show off + 1 + i = off + (i + 1) by omega, this]
        simp [intsL]

section
variable {L : List Nat} {ad : Nat → Addr} {B : Nat} {w : World} {p : Nat} {st : St} {fp dt : List Nat} {R : Ending → World → Prop} {f : FuncId} {cap : Array Value}

set_option maxRecDepth 100000 in
theorem call_none (hf : ∀ w, (callFunc f cap).run Tryd.prog w = .ok (.enter f cap) w) (h : StoreAt B w p st fp dt) (hB : B ≤ w.heap.size) (hn : st.script = []) (hcl : st.calls < 4611686018427387904)
    (hdo : ∀ w1, StTurned B w p fp dt st.begin w1 fp dt → Calls Tryd.prog f cap w1 fun e w2 => ∃ v, e = .returned v ∧ R (.returned v) w2) :
    Calls Tryd.prog 66 #[.pointer (some ⟨p, 0, none⟩), .func (.func f) #[] cap] w R := by
  obtain ⟨mo, mu, sv, es, us, hi⟩ := h.body
  have c4 : w.cell? ⟨p, 4, none⟩ = some (.int .i64 st.calls) := cell_at hi.cells rfl
  have hlen := hi.script.seq
  rw [hn] at hlen
  obtain ⟨a, n, c, rfl, hn0, hrest⟩ := hlen
  have hn0 : n = 0 := hn0
  subst hn0
  clear hn0 hrest
  have H := Lib.hid h
  have HI := Lib.hid hi
  have HN := Lib.hid hn
  have HD := Lib.hid hdo
  have HF := Lib.hid hf
  clear h hi hn hdo hf
  go_enter Tryd.func66, Tryd.ntmps66
  go_wp2_with (first
    | (refine wpList_storeCell rfl _ _ _ rfl p 4 (.int .i64 (st.calls + 1)) rfl rfl HI.out.cells (by kernel_rfl) (by simp [StoreCells]) rfl ?_; intro w1 h1 k1 _; have c3 : w1.cell? ⟨p, 3, none⟩ = some (.slice a 0 c) := cell_at h1 rfl; have H1 := Lib.hid h1; have K1 := Lib.hid k1; clear h1 k1 c4)
    | (refine wpList_callValue rfl _ _ rfl rfl HF.out (HD.out w1 (turned_cells (sv' := .slice a 0 c) H.out HI.out K1.out ?_ rfl rfl ?_ rfl)) ?_))
  · have := H1.out
    simpa [St.begin, St.next, HN.out, StoreCells] using this
  · have := HI.out.script.keep K1.out fun b hb => (HI.out.scriptB b hb).2.1
    simpa [St.begin, HN.out] using this
  intro v w2 hR
  have HR := Lib.hid hR
  clear hR c3
  go_wp2
  exact HR.out
set_option maxRecDepth 100000 in
theorem call_fails (hf : ∀ w, (callFunc f cap).run Tryd.prog w = .ok (.enter f cap) w) (h : StoreAt B w p st fp dt) (hE : Errs L ad B w) (hc111 : 111 ∈ L) (hB : B ≤ w.heap.size) {x : Int} {r : List Int} (hn : st.script = x :: r) (hx1 : x = 1) (hcl : st.calls < 4611686018427387904) (hfl : st.failed < 4611686018427387904)
    (hR : ∀ w1, StTurned B w p fp dt st.begin w1 fp dt → R (.returned (errV ad 111)) w1) :
    Calls Tryd.prog 66 #[.pointer (some ⟨p, 0, none⟩), .func (.func f) #[] cap] w R := by
  obtain ⟨mo, mu, sv, es, us, hi⟩ := h.body
  have c4 : w.cell? ⟨p, 4, none⟩ = some (.int .i64 st.calls) := cell_at hi.cells rfl
  obtain ⟨b, off, c, cs, E, rfl, hc1, hb, hx, htail⟩ := script_head hi.script hn
  have hbp := (hi.scriptB b rfl).2.1
  have hBp : ∀ i, i < B → ¬ i = p := fun i hi e => by have := h.ge p h.self; omega
  have H := Lib.hid h
  have HI := Lib.hid hi
  have HN := Lib.hid hn
  have HT := Lib.hid htail
  have HX := Lib.hid hx
  have Hb := Lib.hid hb
  have HF := Lib.hid hf
  have HE := Lib.hid hE
  have HRR := Lib.hid hR
  clear h hi hn htail hx hb hf hR hE
  subst hx1
  have hcc : c = 1 ∨ 1 < c := by omega
  rcases hcc with hcc | hcc
  · subst hcc
    clear hc1
    go_enter Tryd.func66, Tryd.ntmps66
    go_wp2_with (first
      | (refine wpList_storeCell rfl _ _ _ rfl p 4 (.int .i64 (st.calls + 1)) rfl rfl HI.out.cells (by kernel_rfl) (by simp [StoreCells]) rfl ?_; intro w1 h1 k1 _; have c3 : w1.cell? ⟨p, 3, none⟩ = some (.slice (some ⟨b, off, none⟩) (r.length + 1) 1) := cell_at h1 rfl; have cb : w1.cell? ⟨b, off, none⟩ = some (.int .i64 1) := cell_at (k1.get Hb.out hbp) HX.out; have H1 := Lib.hid h1; have K1 := Lib.hid k1; clear h1 k1 c4)
      | (refine wpList_storeCell rfl _ _ _ rfl p 3 (.slice (some ⟨b, off, none⟩) r.length 0) rfl rfl H1.out (by kernel_rfl) (by simp [StoreCells]) rfl ?_; intro w2 h2 k2 _; have c5 : w2.cell? ⟨p, 5, none⟩ = some (.int .i64 st.failed) := cell_at h2 rfl; have H2 := Lib.hid h2; have K2 := Lib.hid k2; clear h2 k2 c3 cb)
      | (refine wpList_storeCell rfl _ _ _ rfl p 5 (.int .i64 (st.failed + 1)) rfl rfl H2.out (by kernel_rfl) (by simp [StoreCells]) rfl ?_; intro w3 h3 k3 _; have cE : w3.cell? ⟨4, 0, none⟩ = some (errV ad 111) := (HE.out.keep ((K1.out.trans K2.out).trans k3) hB hBp).cell 111 hc111; have H3 := Lib.hid h3; have K3 := Lib.hid k3; clear h3 k3 c5))
    refine HRR.out w3 (turned_cells (sv' := .slice (some ⟨b, off, none⟩) r.length 0) H.out HI.out ((K1.out.trans K2.out).trans K3.out) ?_ rfl rfl ?_ rfl)
    · have := H3.out
      simpa [St.begin, St.next, HN.out, StoreCells] using this
    · have := HT.out w3 (((K1.out.trans K2.out).trans K3.out).get Hb.out hbp)
      simpa [St.begin, HN.out] using this
  · have hcn : ¬ c = 1 := by omega
    go_enter Tryd.func66, Tryd.ntmps66
    go_wp2_with (first
      | (refine wpList_storeCell rfl _ _ _ rfl p 4 (.int .i64 (st.calls + 1)) rfl rfl HI.out.cells (by kernel_rfl) (by simp [StoreCells]) rfl ?_; intro w1 h1 k1 _; have c3 : w1.cell? ⟨p, 3, none⟩ = some (.slice (some ⟨b, off, none⟩) (r.length + 1) c) := cell_at h1 rfl; have cb : w1.cell? ⟨b, off, none⟩ = some (.int .i64 1) := cell_at (k1.get Hb.out hbp) HX.out; have H1 := Lib.hid h1; have K1 := Lib.hid k1; clear h1 k1 c4)
      | (refine wpList_storeCell rfl _ _ _ rfl p 3 (.slice (some ⟨b, off + 1, none⟩) r.length (c - 1)) rfl rfl H1.out (by kernel_rfl) (by simp [StoreCells]) rfl ?_; intro w2 h2 k2 _; have c5 : w2.cell? ⟨p, 5, none⟩ = some (.int .i64 st.failed) := cell_at h2 rfl; have H2 := Lib.hid h2; have K2 := Lib.hid k2; clear h2 k2 c3 cb)
      | (refine wpList_storeCell rfl _ _ _ rfl p 5 (.int .i64 (st.failed + 1)) rfl rfl H2.out (by kernel_rfl) (by simp [StoreCells]) rfl ?_; intro w3 h3 k3 _; have cE : w3.cell? ⟨4, 0, none⟩ = some (errV ad 111) := (HE.out.keep ((K1.out.trans K2.out).trans k3) hB hBp).cell 111 hc111; have H3 := Lib.hid h3; have K3 := Lib.hid k3; clear h3 k3 c5))
    refine HRR.out w3 (turned_cells (sv' := .slice (some ⟨b, off + 1, none⟩) r.length (c - 1)) H.out HI.out ((K1.out.trans K2.out).trans K3.out) ?_ rfl rfl ?_ rfl)
    · have := H3.out
      simpa [St.begin, St.next, HN.out, StoreCells] using this
    · have := HT.out w3 (((K1.out.trans K2.out).trans K3.out).get Hb.out hbp)
      simpa [St.begin, HN.out, hcn] using this
set_option maxRecDepth 100000 in
theorem call_loses (hf : ∀ w, (callFunc f cap).run Tryd.prog w = .ok (.enter f cap) w) (h : StoreAt B w p st fp dt) (hE : Errs L ad B w) (hc111 : 111 ∈ L) (hB : B ≤ w.heap.size) {x : Int} {r : List Int} (hn : st.script = x :: r) (hx1 : x = 2) (hcl : st.calls < 4611686018427387904) (hfl : st.failed < 4611686018427387904)
    (hdo : ∀ w1, StTurned B w p fp dt st.begin w1 fp dt → Calls Tryd.prog f cap w1 fun e w2 => ∃ v, e = .returned v ∧ Below B w1 w2 ∧ R (.returned (errV ad 111)) w2) :
    Calls Tryd.prog 66 #[.pointer (some ⟨p, 0, none⟩), .func (.func f) #[] cap] w R := by
  obtain ⟨mo, mu, sv, es, us, hi⟩ := h.body
  have c4 : w.cell? ⟨p, 4, none⟩ = some (.int .i64 st.calls) := cell_at hi.cells rfl
  obtain ⟨b, off, c, cs, E, rfl, hc1, hb, hx, htail⟩ := script_head hi.script hn
  have hbp := (hi.scriptB b rfl).2.1
  have hBp : ∀ i, i < B → ¬ i = p := fun i hi e => by have := h.ge p h.self; omega
  have H := Lib.hid h
  have HI := Lib.hid hi
  have HN := Lib.hid hn
  have HT := Lib.hid htail
  have HX := Lib.hid hx
  have Hb := Lib.hid hb
  have HF := Lib.hid hf
  have HE := Lib.hid hE
  have HD := Lib.hid hdo
  clear h hi hn htail hx hb hf hdo hE
  subst hx1
  have hcc : c = 1 ∨ 1 < c := by omega
  rcases hcc with hcc | hcc
  · subst hcc
    clear hc1
    go_enter Tryd.func66, Tryd.ntmps66
    go_wp2_with (first
      | (refine wpList_storeCell rfl _ _ _ rfl p 4 (.int .i64 (st.calls + 1)) rfl rfl HI.out.cells (by kernel_rfl) (by simp [StoreCells]) rfl ?_; intro w1 h1 k1 _; have c3 : w1.cell? ⟨p, 3, none⟩ = some (.slice (some ⟨b, off, none⟩) (r.length + 1) 1) := cell_at h1 rfl; have cb : w1.cell? ⟨b, off, none⟩ = some (.int .i64 2) := cell_at (k1.get Hb.out hbp) HX.out; have H1 := Lib.hid h1; have K1 := Lib.hid k1; clear h1 k1 c4)
      | (refine wpList_storeCell rfl _ _ _ rfl p 3 (.slice (some ⟨b, off, none⟩) r.length 0) rfl rfl H1.out (by kernel_rfl) (by simp [StoreCells]) rfl ?_; intro w2 h2 k2 _; have c5 : w2.cell? ⟨p, 5, none⟩ = some (.int .i64 st.failed) := cell_at h2 rfl; have H2 := Lib.hid h2; have K2 := Lib.hid k2; clear h2 k2 c3 cb)
      | (refine wpList_storeCell rfl _ _ _ rfl p 5 (.int .i64 (st.failed + 1)) rfl rfl H2.out (by kernel_rfl) (by simp [StoreCells]) rfl ?_; intro w3 h3 k3 _; have H3 := Lib.hid h3; have K3 := Lib.hid k3; clear h3 k3 c5)
      | (refine wpList_callValue rfl _ _ rfl rfl HF.out (HD.out w3 (turned_cells (sv' := .slice (some ⟨b, off, none⟩) r.length 0) H.out HI.out ((K1.out.trans K2.out).trans K3.out) ?_ rfl rfl ?_ rfl)) ?_))
    · have := H3.out
      simpa [St.begin, St.next, HN.out, StoreCells] using this
    · have := HT.out w3 (((K1.out.trans K2.out).trans K3.out).get Hb.out hbp)
      simpa [St.begin, HN.out] using this
    intro v w4 hbe hR
    have cE : w4.cell? ⟨4, 0, none⟩ = some (errV ad 111) := ((HE.out.keep ((K1.out.trans K2.out).trans K3.out) hB hBp).below hbe).cell 111 hc111
    have HR := Lib.hid hR
    clear hR hbe
    go_wp2
    exact HR.out
  · have hcn : ¬ c = 1 := by omega
    go_enter Tryd.func66, Tryd.ntmps66
    go_wp2_with (first
      | (refine wpList_storeCell rfl _ _ _ rfl p 4 (.int .i64 (st.calls + 1)) rfl rfl HI.out.cells (by kernel_rfl) (by simp [StoreCells]) rfl ?_; intro w1 h1 k1 _; have c3 : w1.cell? ⟨p, 3, none⟩ = some (.slice (some ⟨b, off, none⟩) (r.length + 1) c) := cell_at h1 rfl; have cb : w1.cell? ⟨b, off, none⟩ = some (.int .i64 2) := cell_at (k1.get Hb.out hbp) HX.out; have H1 := Lib.hid h1; have K1 := Lib.hid k1; clear h1 k1 c4)
      | (refine wpList_storeCell rfl _ _ _ rfl p 3 (.slice (some ⟨b, off + 1, none⟩) r.length (c - 1)) rfl rfl H1.out (by kernel_rfl) (by simp [StoreCells]) rfl ?_; intro w2 h2 k2 _; have c5 : w2.cell? ⟨p, 5, none⟩ = some (.int .i64 st.failed) := cell_at h2 rfl; have H2 := Lib.hid h2; have K2 := Lib.hid k2; clear h2 k2 c3 cb)
      | (refine wpList_storeCell rfl _ _ _ rfl p 5 (.int .i64 (st.failed + 1)) rfl rfl H2.out (by kernel_rfl) (by simp [StoreCells]) rfl ?_; intro w3 h3 k3 _; have H3 := Lib.hid h3; have K3 := Lib.hid k3; clear h3 k3 c5)
      | (refine wpList_callValue rfl _ _ rfl rfl HF.out (HD.out w3 (turned_cells (sv' := .slice (some ⟨b, off + 1, none⟩) r.length (c - 1)) H.out HI.out ((K1.out.trans K2.out).trans K3.out) ?_ rfl rfl ?_ rfl)) ?_))
    · have := H3.out
      simpa [St.begin, St.next, HN.out, StoreCells] using this
    · have := HT.out w3 (((K1.out.trans K2.out).trans K3.out).get Hb.out hbp)
      simpa [St.begin, HN.out, hcn] using this
    intro v w4 hbe hR
    have cE : w4.cell? ⟨4, 0, none⟩ = some (errV ad 111) := ((HE.out.keep ((K1.out.trans K2.out).trans K3.out) hB hBp).below hbe).cell 111 hc111
    have HR := Lib.hid hR
    clear hR hbe
    go_wp2
    exact HR.out
set_option maxRecDepth 100000 in
theorem call_good (hf : ∀ w, (callFunc f cap).run Tryd.prog w = .ok (.enter f cap) w) (h : StoreAt B w p st fp dt) (hB : B ≤ w.heap.size) {x : Int} {r : List Int} (hn : st.script = x :: r) (hx1 : x ≠ 1) (hx2 : x ≠ 2) (hcl : st.calls < 4611686018427387904)
    (hdo : ∀ w1, StTurned B w p fp dt st.begin w1 fp dt → Calls Tryd.prog f cap w1 fun e w2 => ∃ v, e = .returned v ∧ R (.returned v) w2) :
    Calls Tryd.prog 66 #[.pointer (some ⟨p, 0, none⟩), .func (.func f) #[] cap] w R := by
  obtain ⟨mo, mu, sv, es, us, hi⟩ := h.body
  have c4 : w.cell? ⟨p, 4, none⟩ = some (.int .i64 st.calls) := cell_at hi.cells rfl
  obtain ⟨b, off, c, cs, E, rfl, hc1, hb, hx, htail⟩ := script_head hi.script hn
  have hbp := (hi.scriptB b rfl).2.1
  have H := Lib.hid h
  have HI := Lib.hid hi
  have HN := Lib.hid hn
  have HT := Lib.hid htail
  have HX := Lib.hid hx
  have Hb := Lib.hid hb
  have HF := Lib.hid hf
  have HD := Lib.hid hdo
  have e1 : (x == 1) = false := by simpa using hx1
  have e2 : (x == 2) = false := by simpa using hx2
  clear h hi hn htail hx hb hf hdo hx1 hx2
  have hcc : c = 1 ∨ 1 < c := by omega
  rcases hcc with hcc | hcc
  · subst hcc
    clear hc1
    go_enter Tryd.func66, Tryd.ntmps66
    go_wp2_with (first
      | (refine wpList_storeCell rfl _ _ _ rfl p 4 (.int .i64 (st.calls + 1)) rfl rfl HI.out.cells (by kernel_rfl) (by simp [StoreCells]) rfl ?_; intro w1 h1 k1 _; have c3 : w1.cell? ⟨p, 3, none⟩ = some (.slice (some ⟨b, off, none⟩) (r.length + 1) 1) := cell_at h1 rfl; have cb : w1.cell? ⟨b, off, none⟩ = some (.int .i64 x) := cell_at (k1.get Hb.out hbp) HX.out; have H1 := Lib.hid h1; have K1 := Lib.hid k1; clear h1 k1 c4)
      | (refine wpList_storeCell rfl _ _ _ rfl p 3 (.slice (some ⟨b, off, none⟩) r.length 0) rfl rfl H1.out (by kernel_rfl) (by simp [StoreCells]) rfl ?_; intro w2 h2 k2 _; have H2 := Lib.hid h2; have K2 := Lib.hid k2; clear h2 k2 c3 cb)
      | (refine wpList_callValue rfl _ _ rfl rfl HF.out (HD.out w2 (turned_cells (sv' := .slice (some ⟨b, off, none⟩) r.length 0) H.out HI.out (K1.out.trans K2.out) ?_ rfl rfl ?_ rfl)) ?_))
    · have ne1 : ¬ x = 1 := by simpa using e1
      have ne2 : ¬ x = 2 := by simpa using e2
      have := H2.out
      simpa [St.begin, St.next, HN.out, StoreCells, ne1, ne2] using this
    · have := HT.out w2 ((K1.out.trans K2.out).get Hb.out hbp)
      simpa [St.begin, HN.out] using this
    intro v w4 hR
    have HR := Lib.hid hR
    clear hR
    go_wp2
    exact HR.out
  · have hcn : ¬ c = 1 := by omega
    go_enter Tryd.func66, Tryd.ntmps66
    go_wp2_with (first
      | (refine wpList_storeCell rfl _ _ _ rfl p 4 (.int .i64 (st.calls + 1)) rfl rfl HI.out.cells (by kernel_rfl) (by simp [StoreCells]) rfl ?_; intro w1 h1 k1 _; have c3 : w1.cell? ⟨p, 3, none⟩ = some (.slice (some ⟨b, off, none⟩) (r.length + 1) c) := cell_at h1 rfl; have cb : w1.cell? ⟨b, off, none⟩ = some (.int .i64 x) := cell_at (k1.get Hb.out hbp) HX.out; have H1 := Lib.hid h1; have K1 := Lib.hid k1; clear h1 k1 c4)
      | (refine wpList_storeCell rfl _ _ _ rfl p 3 (.slice (some ⟨b, off + 1, none⟩) r.length (c - 1)) rfl rfl H1.out (by kernel_rfl) (by simp [StoreCells]) rfl ?_; intro w2 h2 k2 _; have H2 := Lib.hid h2; have K2 := Lib.hid k2; clear h2 k2 c3 cb)
      | (refine wpList_callValue rfl _ _ rfl rfl HF.out (HD.out w2 (turned_cells (sv' := .slice (some ⟨b, off + 1, none⟩) r.length (c - 1)) H.out HI.out (K1.out.trans K2.out) ?_ rfl rfl ?_ rfl)) ?_))
    · have ne1 : ¬ x = 1 := by simpa using e1
      have ne2 : ¬ x = 2 := by simpa using e2
      have := H2.out
      simpa [St.begin, St.next, HN.out, StoreCells, ne1, ne2] using this
    · have := HT.out w2 ((K1.out.trans K2.out).get Hb.out hbp)
      simpa [St.begin, HN.out, hcn] using this
    intro v w4 hR
    have HR := Lib.hid hR
    clear hR
    go_wp2
    exact HR.out
end
end Go.Proofs.YtjiigajekminaaaDoor
