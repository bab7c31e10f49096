/- The store's walks: Put. -/
import Derived.Test.YtjiigajekminaaaDoorStC
namespace Go.Proofs.YtjiigajekminaaaDoor
set_option linter.all false
open Go.RowKit

/-- What a call comes to: by what the script says. -/
def St.run (st : St) (good : St → Nat × St) : Nat × St :=
  if st.next = 1 then (111, st.begin) else (if st.next = 2 then 111 else (good st.begin).1, (good st.begin).2)
/-- A call's answer is an error alone. -/
def ErrPost (ad : Nat → Addr) (B : Nat) (w : World) (p : Nat) (fp dt : List Nat) (r : Nat × St) (e : Ending) (w' : World) : Prop :=
  e = .returned (errV ad r.1) ∧ ∃ fp' dt', StTurned B w p fp dt r.2 w' fp' dt'

section
variable {L : List Nat} {ad : Nat → Addr} {B : Nat} {w : World} {p : Nat} {st : St} {fp dt : List Nat} {R : Ending → World → Prop} {f : FuncId} {cap : Array Value}
theorem call_any (hf : ∀ w, (callFunc f cap).run Tryd.prog w = .ok (.enter f cap) w) (h : StoreAt B w p st fp dt) (hE : Errs L ad B w) (hc111 : 111 ∈ L) (hB : B ≤ w.heap.size) (hcl : st.calls < 4611686018427387904) (hfl : st.failed < 4611686018427387904)
    (hR : st.next = 1 → ∀ w1, StTurned B w p fp dt st.begin w1 fp dt → R (.returned (errV ad 111)) w1)
    (hdo : st.next ≠ 1 → ∀ w1, StTurned B w p fp dt st.begin w1 fp dt → Calls Tryd.prog f cap w1 fun e w2 => ∃ v, e = .returned v ∧ Below B w1 w2 ∧ R (.returned (if st.next = 2 then errV ad 111 else v)) w2) :
    Calls Tryd.prog 66 #[.pointer (some ⟨p, 0, none⟩), .func (.func f) #[] cap] w R := by
  cases hs : st.script with
  | nil =>
    have hn : st.next = 0 := by simp [St.next, hs]
    refine call_none hf h hB hs hcl fun w1 h1 => ?_
    refine (hdo (by omega) w1 h1).mono ?_
    rintro e w2 ⟨v, rfl, _, hR⟩
    exact ⟨v, rfl, by simpa [hn] using hR⟩
  | cons x r =>
    have hn : st.next = x := by simp [St.next, hs]
    by_cases h1 : x = 1
    · exact call_fails hf h hE hc111 hB hs h1 hcl hfl (hR (by omega))
    · by_cases h2 : x = 2
      · refine call_loses hf h hE hc111 hB hs h2 hcl hfl fun w1 hw1 => ?_
        refine (hdo (by omega) w1 hw1).mono ?_
        rintro e w2 ⟨v, rfl, hb, hR⟩
        exact ⟨v, rfl, hb, by rw [if_pos (by omega)] at hR; exact hR⟩
      · refine call_good hf h hB hs h1 h2 hcl fun w1 hw1 => ?_
        refine (hdo (by omega) w1 hw1).mono ?_
        rintro e w2 ⟨v, rfl, hb, hR⟩
        exact ⟨v, rfl, by rw [if_neg (by omega)] at hR; exact hR⟩
end

/-! ### Put -/
/-- The map of objects has been stored into, of new bytes. -/
theorem put_done {B : Nat} {w w1 w2 : World} {p : Nat} {st : St} {fp dt : List Nat} {mo mu : Nat} {sv v' : Value} {es : List (ByteArray × Value)} {us : List (Int × Nat × Nat)} {n : ByteArray} {b : List UInt8} (H : StoreAt B w p st fp dt) (h : StIn w p st fp dt mo mu sv es us)
    (hb : Keeps (fun _ => False) w w1) (hv' : ownV w1 v' (bytesL b)) (hbk : ∀ b, blk v' = some b → w.heap.size ≤ b ∧ b < w1.heap.size) (h2 : Keeps (· = mo) w1 w2) (hmo : MapAt w2 Value.string mo (aput es n v')) :
    StTurned B w p fp dt { st with objs := aput st.objs n b } w2 fp (dt ++ (blk v').toList) := by
  have hk : Keeps (· = mo) w w2 := (hb.mono fun _ _ h => h.elim).trans h2
  have hdt : ∀ x ∈ dt, ¬ x = mo := fun x hx e => H.apart mo h.moF (e ▸ hx)
  have hsub : ∀ x ∈ dt, x ∈ dt ++ (blk v').toList := fun x hx => List.mem_append.2 (.inl hx)
  have hnd := h.nodup
  simp only [List.nodup_cons, List.mem_cons, List.mem_map, not_or] at hnd
  have hin : StIn w2 p { st with objs := aput st.objs n b } fp (dt ++ (blk v').toList) mo mu sv (aput es n v') us := {
    cells := hk.get h.cells (Ne.symm (h.mapO.ne_cells h.cells))
    mapO := hmo
    objs := by
      refine ARel.put (h.objs.mono fun _ _ _ _ _ x => x.keep hk hdt hsub) n ⟨?_, fun x hx => by simp [hx]⟩
      exact (hv'.keep h2 fun x hx e => by have := (hbk x hx).1; have := h.mapO.lt; omega).seq
    mapU := h.mapU.keep hk fun e => hnd.1.1 e.symm
    ups := ups_keep h.ups hk hdt (fun e he q => hnd.1.2 ⟨e, he, q⟩) hsub
    script := h.script.keep hk fun x hx => (h.scriptB x hx).2.2.1
    scriptB := h.scriptB
    moF := h.moF
    muF := h.muF
    pmF := h.pmF
    nodup := h.nodup }
  refine ⟨⟨⟨mo, mu, sv, _, us, hin⟩, H.self, fun k hk hd => ?_, H.ge, fun k hk' => ?_⟩, hk.mono fun i _ e => e ▸ h.moF, fun _ h => .inl h, fun k hk => ?_⟩
  · rcases List.mem_append.1 hd with hd | hd
    · exact H.apart k hk hd
    · have := (hbk k (by simpa using hd)).1
      have := H.lt k (.inl hk)
      omega
  · have hz := hk.size
    have hz2 := h2.size
    rcases hk' with hk' | hk'
    · have := H.lt k (.inl hk'); omega
    · rcases List.mem_append.1 hk' with hd | hd
      · have := H.lt k (.inr hd); omega
      · have := (hbk k (by simpa using hd)).2; omega
  · rcases List.mem_append.1 hk with hd | hd
    · exact .inl hd
    · exact .inr (hbk k (by simpa using hd)).1

def St.put1 (n : ByteArray) (b : List UInt8) (st : St) : Nat × St := if validB n.data.toList then (0, { st with objs := aput st.objs n b }) else (106, st)

set_option maxHeartbeats 400000 in
set_option maxRecDepth 100000 in
theorem putC_any {L : List Nat} {ad : Nat → Addr} {B : Nat} {w : World} {p : Nat} {st : St} {fp dt : List Nat} (h : StoreAt B w p st fp dt) (hE : Errs L ad B w) (h106 : 106 ∈ L) (hB : B ≤ w.heap.size)
    {nb bb sb : Nat} {n : ByteArray} {bv : Value} {b : List UInt8} (cn : w.cell? ⟨nb, 0, none⟩ = some (.string n)) (cb : w.cell? ⟨bb, 0, none⟩ = some bv) (cs : w.cell? ⟨sb, 0, none⟩ = some (.pointer (some ⟨p, 0, none⟩))) (hbv : seqV w bv (bytesL b)) (hlen : b.length ≤ 1073741824) :
    Calls Tryd.prog 67 #[.pointer (some ⟨nb, 0, none⟩), .pointer (some ⟨bb, 0, none⟩), .pointer (some ⟨sb, 0, none⟩)] w (ErrPost ad B w p fp dt (st.put1 n b)) := by
  have H := Lib.hid h
  have HE := Lib.hid hE
  cases hv : validB n.data.toList
  · have cE : w.cell? ⟨0, 0, none⟩ = some (errV ad 106) := hE.cell 106 h106
    have HV := Lib.hid hv
    clear h hE hbv cb cs hv
    go_enter Tryd.func67, Tryd.ntmps67
    go_wp2_with (go_at_call 68; refine (valid_any _ _).mono ?_; rintro e w' ⟨rfl, rfl⟩; rw [HV.out])
    go_ret
    refine ⟨by simp [St.put1, HV.out], fp, dt, ?_⟩
    simp only [St.put1, HV.out, Bool.false_eq_true, if_false]
    exact ⟨H.out, Keeps.refl _ _, fun _ h => .inl h, fun _ h => .inl h⟩
  · obtain ⟨mo, mu, sv, es, us, hi⟩ := h.body
    have c0 : w.cell? ⟨p, 0, none⟩ = some (.map (some mo)) := cell_at hi.cells rfl
    have ln : nb < w.heap.size := World.block_lt_of_cell? w _ cn
    have lb : bb < w.heap.size := World.block_lt_of_cell? w _ cb
    have ls : sb < w.heap.size := World.block_lt_of_cell? w _ cs
    have lp : p < w.heap.size := World.block_lt_of_cell? w _ c0
    have hm := hi.mapO
    obtain ⟨arr, clock, hmb, _⟩ := id hm
    have nn : nb ≠ mo := ne_of_cell cn hmb
    have nb' : bb ≠ mo := ne_of_cell cb hmb
    have ns : sb ≠ mo := ne_of_cell cs hmb
    have np : p ≠ mo := ne_of_cell c0 hmb
    have HM := Lib.hid hm
    have HI := Lib.hid hi
    clear hm hmb
    have HV := Lib.hid hv
    have HBV := Lib.hid hbv
    have hl2 : (bytesL b).length ≤ 1073741824 := by simpa [bytesL] using hlen
    clear h hE hbv hi hv
    go_enter Tryd.func67, Tryd.ntmps67
    go_wp2_with (go_at_call 68; refine (valid_any _ _).mono ?_; rintro e w' ⟨rfl, rfl⟩; rw [HV.out])
    go_region_held3 (fun w' => w'.cell? ⟨sb, 0, none⟩ = some (.pointer (some ⟨p, 0, none⟩)) ∧ w'.cell? ⟨p, 0, none⟩ = some (.map (some mo)) ∧ w'.cell? ⟨nb, 0, none⟩ = some (.string n) ∧ w'.cell? ⟨bb, 0, none⟩ = some bv) (go_keep)
      (first | (go_at_call 69; refine (clone_bytes _ (bytesL b) _ HBV.out.drew (bytesL_one _) hl2).mono ?_; rintro e w1 ⟨v', rfl, hv', hb, hbk⟩; have q1 := hb.cell (p := ⟨sb, 0, none⟩) ls; have q2 := hb.cell (p := ⟨p, 0, none⟩) lp; have q3 := hb.cell (p := ⟨nb, 0, none⟩) ln; have q4 := hb.cell (p := ⟨bb, 0, none⟩) lb; have hm1 := HM.out.keep ((Keeps.refl (fun _ => False) w).drew.trans (Keeps.of_below hb _)) id; obtain ⟨o, hmu, hmo⟩ := run_update_at strKind Tryd.underlying91 Tryd.underlying9 hm1 n v'; have q5 := cell_putObj (w := w1) (r := mo) (o := o) (a := ⟨sb, 0, none⟩) ns; have q6 := cell_putObj (w := w1) (r := mo) (o := o) (a := ⟨p, 0, none⟩) np; have q7 := cell_putObj (w := w1) (r := mo) (o := o) (a := ⟨nb, 0, none⟩) nn; have q8 := cell_putObj (w := w1) (r := mo) (o := o) (a := ⟨bb, 0, none⟩) nb'))
    have HP := Lib.hid (put_done (b := b) (n := n) H.out HI.out ((Keeps.refl (fun _ => False) w).drew.trans (Keeps.of_below hb _)) hv' hbk ((Keeps.refl (· = mo) w1).putObj mo o fun _ => rfl) hmo)
    clear hb hv' hbk hm1 hmu hmo q1 q2 q3 q4 q5 q6 q7 q8
    go_wp2
    go_ret
    refine ⟨by simp [St.put1, HV.out, errV], fp, dt ++ (blk v').toList, ?_⟩
    simp only [St.put1, HV.out, if_true]
    exact HP.out

theorem putC_calls (cap : Array Value) (w : World) : (callFunc 67 cap).run Tryd.prog w = .ok (.enter 67 cap) w := by kernel_rfl

/-- New blocks ahead of what turns it. -/
theorem StTurned.from {B : Nat} {w w0 w' : World} {p : Nat} {fp dt fp' dt' : List Nat} {st' : St} (k0 : Keeps (fun _ => False) w w0) (h : StTurned B w0 p fp dt st' w' fp' dt') : StTurned B w p fp dt st' w' fp' dt' :=
  ⟨h.at_, (k0.mono fun _ _ h => h.elim).trans h.keeps, fun k hk => (h.fpNew k hk).imp id fun x => Nat.le_trans k0.size x, fun k hk => (h.dtNew k hk).imp id fun x => Nat.le_trans k0.size x⟩
/-- A call whose answer is an error alone: how its post comes of the closure's. -/
theorem errPost_run {ad : Nat → Addr} {B : Nat} {w w0 w1 : World} {p : Nat} {fp dt : List Nat} {st : St} {good : St → Nat × St} (k0 : Keeps (fun _ => False) w w0) (hB : B ≤ w.heap.size) (hn : st.next ≠ 1) (h1 : StTurned B w0 p fp dt st.begin w1 fp dt) {e : Ending} {w2 : World} (h : ErrPost ad B w1 p fp dt (good st.begin) e w2) :
    ∃ v, e = .returned v ∧ Below B w1 w2 ∧ ErrPost ad B w p fp dt (st.run good) (.returned (if st.next = 2 then errV ad 111 else v)) w2 := by
  obtain ⟨rfl, fp', dt', ht⟩ := h
  refine ⟨_, rfl, ht.below h1.at_ (Nat.le_trans hB (Nat.le_trans k0.size h1.keeps.size)), ?_, fp', dt', ?_⟩
  · by_cases h2 : st.next = 2 <;> simp [St.run, hn, h2]
  · have : (st.run good).2 = (good st.begin).2 := by simp [St.run, hn]
    rw [this]
    exact ((h1.from k0).trans ht)
theorem errPost_fails {ad : Nat → Addr} {B : Nat} {w w0 w1 : World} {p : Nat} {fp dt : List Nat} {st : St} {good : St → Nat × St} (k0 : Keeps (fun _ => False) w w0) (hn : st.next = 1) (h1 : StTurned B w0 p fp dt st.begin w1 fp dt) :
    ErrPost ad B w p fp dt (st.run good) (.returned (errV ad 111)) w1 :=
  ⟨by simp [St.run, hn], fp, dt, by simp only [St.run, hn, if_true]; exact h1.from k0⟩

set_option maxRecDepth 100000 in
theorem put_any {L : List Nat} {ad : Nat → Addr} {B : Nat} {w : World} {p : Nat} {st : St} {fp dt : List Nat} (h : StoreAt B w p st fp dt) (hE : Errs L ad B w) (h106 : 106 ∈ L) (h111 : 111 ∈ L) (hB : B ≤ w.heap.size) (hcl : st.calls < 4611686018427387904) (hfl : st.failed < 4611686018427387904)
    {n : ByteArray} {bv : Value} {b : List UInt8} (hbv : seqV w bv (bytesL b)) (hbb : ∀ x, blk bv = some x → x ∉ fp) (hlen : b.length ≤ 1073741824) :
    Calls Tryd.prog 23 #[.pointer (some ⟨p, 0, none⟩), .string n, bv] w (ErrPost ad B w p fp dt (st.run (St.put1 n b))) := by
  have H := Lib.hid h
  have HE := Lib.hid hE
  have HV := Lib.hid hbv
  obtain ⟨a, m, c, rfl, hrest⟩ := hbv
  clear h hE hrest
  go_enter Tryd.func23, Tryd.ntmps23
  go_wp2_with fail
  have k0 : Keeps (fun _ => False) w (((w.alloc (.cells #[.pointer (some ⟨p, 0, none⟩)] 24)).alloc (.cells #[.string n] 9)).alloc (.cells #[.slice a m c] 27)) := (((Keeps.refl _ _).alloc _).alloc _).alloc _
  have b0 : (((w.alloc (.cells #[.pointer (some ⟨p, 0, none⟩)] 24)).alloc (.cells #[.string n] 9)).alloc (.cells #[.slice a m c] 27)).heap[w.heap.size]? = some (.cells #[.pointer (some ⟨p, 0, none⟩)] 24 (0, 0)) := heap_alloc_old (heap_alloc_old (World.alloc_heap_new w _))
  have b1 : (((w.alloc (.cells #[.pointer (some ⟨p, 0, none⟩)] 24)).alloc (.cells #[.string n] 9)).alloc (.cells #[.slice a m c] 27)).heap[w.heap.size + 1]? = some (.cells #[.string n] 9 (0, 0)) := heap_alloc_old (by simpa using World.alloc_heap_new (w.alloc (.cells #[.pointer (some ⟨p, 0, none⟩)] 24)) (.cells #[.string n] 9))
  have b2 : (((w.alloc (.cells #[.pointer (some ⟨p, 0, none⟩)] 24)).alloc (.cells #[.string n] 9)).alloc (.cells #[.slice a m c] 27)).heap[w.heap.size + 1 + 1]? = some (.cells #[.slice a m c] 27 (0, 0)) := by simpa using World.alloc_heap_new ((w.alloc (.cells #[.pointer (some ⟨p, 0, none⟩)] 24)).alloc (.cells #[.string n] 9)) (.cells #[.slice a m c] 27)
  generalize (((w.alloc (.cells #[.pointer (some ⟨p, 0, none⟩)] 24)).alloc (.cells #[.string n] 9)).alloc (.cells #[.slice a m c] 27)) = w0 at *
  have e0 : Errs L ad B w0 := HE.out.keep k0 hB fun _ _ => id
  refine (call_any (R := ErrPost ad B w p fp dt (st.run (St.put1 n b))) (putC_calls _) (H.out.keep k0 fun _ _ => id) e0 h111 (Nat.le_trans hB k0.size) hcl hfl (fun hn w1 h1 => errPost_fails k0 hn h1) (fun hn w1 h1 => ?_)).mono ?_
  · have hw1 : ∀ x, x ∉ fp → ¬ x ∈ fp := fun _ h => h
    refine (putC_any (n := n) (b := b) h1.at_ (e0.keep h1.keeps (Nat.le_trans hB k0.size) fun i hi hf => by have := H.out.ge i hf; omega) h106 (Nat.le_trans hB (Nat.le_trans k0.size h1.keeps.size)) (cell_at (h1.keeps.get b1 ?_) rfl) (cell_at (h1.keeps.get b2 ?_) rfl) (cell_at (h1.keeps.get b0 ?_) rfl) ((HV.out.keep k0 fun _ _ => id).keep h1.keeps hbb) hlen).mono fun e w2 h => errPost_run k0 hB hn h1 h
    all_goals (intro hf; have := H.out.lt _ (.inl hf); omega)
  · rintro e w' ⟨rfl, ht⟩
    have HT := Lib.hid ht
    clear ht
    go_wp2
    go_ret
    exact ⟨rfl, HT.out⟩
end Go.Proofs.YtjiigajekminaaaDoor
