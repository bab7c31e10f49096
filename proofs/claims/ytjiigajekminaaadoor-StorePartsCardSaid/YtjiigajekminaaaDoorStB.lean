/- The store's walks, second part: Script, call. -/
import Derived.Test.YtjiigajekminaaaDoorStA
namespace Go.Proofs.YtjiigajekminaaaDoor
set_option linter.all false
open Go.RowKit

/-- The store has turned to this, within its own blocks and new ones. -/
structure StTurned (B : Nat) (w : World) (p : Nat) (fp dt : List Nat) (st' : St) (w' : World) (fp' dt' : List Nat) : Prop where
  at_ : StoreAt B w' p st' fp' dt'
  keeps : Keeps (· ∈ fp) w w'
  fpNew : ∀ k ∈ fp', k ∈ fp ∨ w.heap.size ≤ k
  dtNew : ∀ k ∈ dt', k ∈ dt ∨ w.heap.size ≤ k
theorem StTurned.trans {B : Nat} {w w1 w2 : World} {p : Nat} {fp dt fp1 dt1 fp2 dt2 : List Nat} {st1 st2 : St} (h : StTurned B w p fp dt st1 w1 fp1 dt1) (k : StTurned B w1 p fp1 dt1 st2 w2 fp2 dt2) : StTurned B w p fp dt st2 w2 fp2 dt2 where
  at_ := k.at_
  keeps := h.keeps.trans' k.keeps fun i hi hg => (h.fpNew i hg).resolve_right (by omega)
  fpNew i hi := (k.fpNew i hi).elim (h.fpNew i) fun hs => .inr (Nat.le_trans h.keeps.size hs)
  dtNew i hi := (k.dtNew i hi).elim (h.dtNew i) fun hs => .inr (Nat.le_trans h.keeps.size hs)
theorem StTurned.below {B : Nat} {w w' : World} {p : Nat} {fp dt fp' dt' : List Nat} {st st' : St} (h : StTurned B w p fp dt st' w' fp' dt') (h0 : StoreAt B w p st fp dt) (hB : B ≤ w.heap.size) : Below B w w' :=
  h.keeps.below hB fun i hi hf => by have := h0.ge i hf; omega

def ScriptPost (B : Nat) (w : World) (p : Nat) (fp dt : List Nat) (st' : St) (e : Ending) (w' : World) : Prop :=
  e = .returned (.tuple #[]) ∧ ∃ fp', StTurned B w p fp dt st' w' fp' dt
theorem script_any {B : Nat} {w : World} {p : Nat} {st : St} {fp dt : List Nat} (h : StoreAt B w p st fp dt) {ov : Value} {outs : List Int} (ho : seqV w ov (intsL outs)) (hlen : st.script.length + outs.length ≤ 1073741824) :
    Calls Tryd.prog 22 #[.pointer (some ⟨p, 0, none⟩), ov] w (ScriptPost B w p fp dt { st with script := st.script ++ outs }) := by
  obtain ⟨mo, mu, sv, es, us, hi⟩ := h.body
  have c3 : w.cell? ⟨p, 3, none⟩ = some sv := cell_at hi.cells rfl
  have hsrc := src_of_seq (P := Tryd.prog) Tryd.underlying22 ho (intsL_one _)
  obtain ⟨i0, hi0, hz0, hz1, hz2⟩ := info_parts info_int
  have H := Lib.hid h
  have HI := Lib.hid hi
  have hown := hi.script
  clear h hi ho
  go_enter Tryd.func22, Tryd.ntmps22
  go_wp2_with (at_builtin; refine wpList_append_any rfl _ _ _ _ rfl Tryd.underlying22 hi0 hz0 hz1 rfl rfl rfl hown hsrc ?_ ?_ ?_)
  · rw [hz2]; simp [intsL]; omega
  · simp [intsL]; omega
  intro sv' w1 hv' hk hb _
  have hcells := hk.get HI.out.cells (fun e => (HI.out.scriptB _ e).2.1 rfl)
  have HK := Lib.hid hk
  have HB := Lib.hid hb
  clear hk hb hown hsrc c3
  go_wp2_with (refine wpList_storeCell rfl _ _ _ rfl p 3 sv' rfl rfl hcells (by kernel_rfl) (by simp [StoreCells]) ?_ ?_)
  · obtain ⟨a, n, c, rfl, _⟩ := hv'; rfl
  intro w2 h2 k2 s2
  go_wp2
  go_end0
  have hp := H.out.lt p (.inl H.out.self)
  have hBp := H.out.ge p H.out.self
  have hsv : ∀ b, blk sv' = some b → (b ∈ fp ∨ b = w.heap.size) ∧ b ≠ p ∧ b ≠ mo ∧ b ≠ mu ∧ ∀ e ∈ us, b ≠ e.2.2 := by
    intro b hb'
    have hold : blk sv = some b → (b ∈ fp ∨ b = w.heap.size) ∧ b ≠ p ∧ b ≠ mo ∧ b ≠ mu ∧ ∀ e ∈ us, b ≠ e.2.2 := fun q => ⟨.inl (HI.out.scriptB b q).1, (HI.out.scriptB b q).2⟩
    rcases HB.out with ⟨e1, _, _⟩ | ⟨e1, _⟩ | e1
    · rw [e1] at hb'; exact hold hb'
    · rw [e1] at hb'; exact hold hb'
    · rw [e1] at hb'
      cases hb'
      exact ⟨.inr rfl, by omega, Nat.ne_of_gt (HI.out.mapO.lt), Nat.ne_of_gt (HI.out.mapU.lt), fun e he => Nat.ne_of_gt (H.out.lt _ (.inl (HI.out.pmF e he)))⟩
  have hk1 : Keeps (· ∈ fp) w w1 := HK.out.mono fun i _ h => (HI.out.scriptB i h).1
  have hkk : Keeps (· ∈ fp) w w2 := hk1.trans' k2 fun i _ h => h ▸ H.out.self
  have hk3 : Keeps (fun k => blk sv = some k ∨ k = p) w w2 := (HK.out.mono fun i _ h => .inl h).trans' k2 fun i _ h => .inr h
  have hdt : ∀ b ∈ dt, ¬ (blk sv = some b ∨ b = p) := fun b hb e => e.elim (fun e => H.out.apart b (HI.out.scriptB b e).1 hb) (fun e => H.out.apart p H.out.self (e ▸ hb))
  refine ⟨rfl, fp ++ (blk sv').toList, ⟨⟨mo, mu, sv', es, us, ?_⟩, ?_, ?_, ?_, ?_⟩, hkk, ?_, fun k hk => .inl hk⟩
  · exact {
      cells := h2
      mapO := HI.out.mapO.keep hk3 fun e => e.elim (fun e => (HI.out.scriptB _ e).2.2.1 rfl) (HI.out.mapO.ne_cells HI.out.cells)
      objs := HI.out.objs.mono fun _ _ _ _ _ x => x.keep hk3 hdt fun _ h => h
      mapU := HI.out.mapU.keep hk3 fun e => e.elim (fun e => (HI.out.scriptB _ e).2.2.2.1 rfl) (HI.out.mapU.ne_cells HI.out.cells)
      ups := ups_keep HI.out.ups hk3 hdt (fun e he q => q.elim (fun q => (HI.out.scriptB _ q).2.2.2.2 e he rfl) (HI.out.pm_ne he)) fun _ h => h
      script := by
        have : ownV w2 sv' (intsL st.script ++ intsL outs) := hv'.keep k2 fun b hb e => (hsv b hb).2.1 e
        simpa [intsL] using this
      scriptB := fun b hb => ⟨by simp [hb], (hsv b hb).2⟩
      moF := by simp [HI.out.moF]
      muF := by simp [HI.out.muF]
      pmF := fun e he => by simp [HI.out.pmF e he]
      nodup := HI.out.nodup }
  · simp [H.out.self]
  · intro k hk hd
    simp only [List.mem_append, Option.mem_toList] at hk
    rcases hk with hk | hk
    · exact H.out.apart k hk hd
    · rcases (hsv k hk).1 with h | h
      · exact H.out.apart k h hd
      · have := H.out.lt k (.inr hd); omega
  · intro k hk
    simp only [List.mem_append, Option.mem_toList] at hk
    rcases hk with hk | hk
    · exact H.out.ge k hk
    · rcases (hsv k hk).1 with h | h
      · exact H.out.ge k h
      · omega
  · intro k hk
    have hz := hkk.size
    rcases hk with hk | hk
    · simp only [List.mem_append, Option.mem_toList] at hk
      rcases hk with hk | hk
      · have := H.out.lt k (.inl hk); omega
      · have := hv'.lt k hk; have := k2.size; omega
    · have := H.out.lt k (.inr hk); omega
  · intro k hk
    simp only [List.mem_append, Option.mem_toList] at hk
    rcases hk with hk | hk
    · exact .inl hk
    · rcases (hsv k hk).1 with h | h
      · exact .inl h
      · exact .inr (by omega)
end Go.Proofs.YtjiigajekminaaaDoor
