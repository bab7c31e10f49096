/- Names with what is kept under each, in plain words: Writes, crashes. -/
import Derived.Test.YtmnfehbnjgmgjaaDoorPw
namespace Go.Proofs.YtmnfehbnjgmgjaaDoor
set_option linter.all false
open Go.RowKit
variable {d e : Dk} {s : ByteArray} {b : List UInt8}

theorem Fl.crashed_whole {F : Fl} (h : F.syn = F.b.length) (picks : List Int) (k : Nat) : F.crashed picks k = F := by
  obtain ⟨i, b, q⟩ := F
  simp only at h
  subst h
  have h0 : pickN picks (k + 1) 0 = 0 := by have := pickN_le picks (k + 1) 0; omega
  simp [Fl.crashed, h0]
theorem crashFs_whole {picks : List Int} {i : Nat} {F : Fl} (hF : F.syn = F.b.length) : ∀ (l : List Nat) (k : Nat) (fs : List (Nat × Fl)), aget fs i = some F → aget (crashFs picks k l fs) i = some F
  | [], _, _, h => h
  | j :: l, k, fs, h => by
    refine crashFs_whole hF l (k + 1) _ ?_
    cases hj : aget fs j with
    | none => exact h
    | some G =>
      by_cases e : i = j
      · subst e
        rw [h] at hj
        cases hj
        simp only [aget_put_same, Fl.crashed_whole hF]
      · rw [← h]; exact aget_put_other _ _ e
theorem aget_adel {κ α : Type} [DecidableEq κ] {l : List (κ × α)} {k j : κ} (h : j ≠ k) : aget (adel l k) j = aget l j := aget_del_other l h
/-- What is under two names may have changed, no other. -/
structure Near (l0 : List (ByteArray × Nat)) (s t : ByteArray) (S : Prop) (j : Nat) (l : List (ByteArray × Nat)) : Prop where
  nd : (keysOf l).Nodup
  other : ∀ n, n ≠ s → n ≠ t → aget l n = aget l0 n
  at_s : aget l s = aget l0 s ∨ aget l s = some j ∧ S
theorem Near.app {l0 l : List (ByteArray × Nat)} {t : ByteArray} {S : Prop} {j : Nat} {c : Chg} (h : Near l0 s t S j l) (hst : t ≠ s) (ht : t ≠ ByteArray.empty) (hc : c = rmC t ∨ c = crC t j ∨ c = rnC s t j ∧ S) : Near l0 s t S j (c.app l) := by
  rcases hc with rfl | rfl | ⟨rfl, hS⟩
  · refine ⟨Chg.app_nodup h.nd, fun n h1 h2 => ?_, ?_⟩
    · simp only [Chg.app, if_neg ht]; rw [aget_adel h2]; exact h.other n h1 h2
    · simp only [Chg.app, if_neg ht]; rw [aget_adel (Ne.symm hst)]; exact h.at_s
  · refine ⟨Chg.app_nodup h.nd, fun n h1 h2 => ?_, ?_⟩
    · simp only [Chg.app, if_true]; rw [aget_put_other _ _ h2]; exact h.other n h1 h2
    · simp only [Chg.app, if_true]; rw [aget_put_other _ _ (Ne.symm hst)]; exact h.at_s
  · refine ⟨Chg.app_nodup h.nd, fun n h1 h2 => ?_, .inr ⟨?_, hS⟩⟩
    · simp only [Chg.app, if_neg ht]; rw [aget_put_other _ _ h1, aget_adel h2]; exact h.other n h1 h2
    · simp only [Chg.app]; exact aget_put_same _ _ _
theorem Near.all {l0 : List (ByteArray × Nat)} {t : ByteArray} {S : Prop} {j : Nat} (hst : t ≠ s) (ht : t ≠ ByteArray.empty) : ∀ {cs : List Chg} {l : List (ByteArray × Nat)}, Near l0 s t S j l → (∀ c ∈ cs, c = rmC t ∨ c = crC t j ∨ c = rnC s t j ∧ S) → Near l0 s t S j (applyAll l cs)
  | [], _, h, _ => h
  | c :: cs, l, h, hc => show Near l0 s t S j (applyAll (c.app l) cs) from Near.all (cs := cs) (l := c.app l) hst ht (h.app hst ht (hc c (List.mem_cons_self ..))) fun c' h' => hc c' (List.mem_cons_of_mem _ h')

/-- Under a name stands, whole and synced, v; or there is none. -/
def Under (d : Dk) (n : ByteArray) : Option (List UInt8) → Prop
  | none => aget d.names n = none
  | some v => ∃ i q, aget d.names n = some i ∧ aget d.fs i = some ⟨q, sealL v, (sealL v).length⟩
def updF (f : ByteArray → Option (List UInt8)) (s : ByteArray) (v : List UInt8) : ByteArray → Option (List UInt8) := fun n => if n = s then some v else f n
/-- The disk keeps f under the names N. -/
structure PtI (N : List ByteArray) (B : Nat) (f : ByteArray → Option (List UInt8)) (d : Dk) : Prop where
  calm : Calm d
  under : ∀ n ∈ N, Under d n (f n)
  keys : ∀ n ∈ keysOf d.names, n ∈ N ∨ n ∈ N.map newN
  len : ∀ i F, aget d.fs i = some F → F.b.length ≤ B
theorem useL_le {fs : List (Nat × Fl)} {B : Nat} (h : ∀ i F, aget fs i = some F → F.b.length ≤ B) : ∀ l : List (ByteArray × Nat), useL fs l ≤ l.length * B
  | [] => by simp [useL]
  | x :: l => by
    have ih := useL_le h l
    have h1 : ((aget fs x.2).map (·.b.length)).getD 0 ≤ B := by
      cases hx : aget fs x.2 with
      | none => exact Nat.zero_le _
      | some F => exact h _ F hx
    simp only [useL, List.map_cons, List.sum_cons, List.length_cons, Nat.succ_mul] at ih ⊢
    omega
theorem PtI.names_le {N : List ByteArray} {B : Nat} {f : ByteArray → Option (List UInt8)} (h : PtI N B f d) : d.names.length ≤ 2 * N.length := by
  have h1 : (keysOf d.names).length ≤ (N ++ N.map newN).length := h.calm.ok.nnd.length_le_of_subset fun n hn => List.mem_append.2 (h.keys n hn)
  simp [keysOf] at h1
  omega
theorem PtI.room {N : List ByteArray} {B : Nat} {f : ByteArray → Option (List UInt8)} (h : PtI N B f d) (s : ByteArray) : useL d.fs (wl s d) ≤ 2 * N.length * B := by
  have h1 := useL_le h.len (wl s d)
  have h2 : (wl s d).length ≤ 2 * N.length := Nat.le_trans (adel_len _ _) h.names_le
  exact Nat.le_trans h1 (Nat.mul_le_mul_right _ h2)
theorem Done.pt {N : List ByteArray} {B : Nat} {f : ByteArray → Option (List UInt8)} (h : PtI N B f d) (hs : s ∈ N) (hN : ∀ n ∈ N, newN s ≠ n) (hb : b.length + 4 ≤ B) (he : e.ok) (m : Done d s b e) : PtI N B (updF f s b) e := by
  have hag : ∀ n, n ≠ s → n ≠ newN s → aget e.names n = aget d.names n := fun n h1 h2 => by rw [m.names, aget_put_other _ _ h1, wl, aget_adel h2]
  refine ⟨⟨⟨he, m.up⟩, m.kept, m.still⟩, fun n hn => ?_, fun n hn => ?_, fun i F hF => ?_⟩
  · unfold updF
    by_cases e1 : n = s
    · subst e1
      rw [if_pos rfl]
      exact ⟨_, _, by rw [m.names, aget_put_same], m.new⟩
    · rw [if_neg e1]
      have h1 := h.under n hn
      have h2 := hag n e1 (Ne.symm (hN n hn))
      cases hf : f n with
      | none => rw [hf] at h1; exact h2.trans h1
      | some v => rw [hf] at h1; obtain ⟨i, q, k1, k2⟩ := h1; exact ⟨i, q, h2.trans k1, m.old i _ k2⟩
  · by_cases e1 : n = s
    · subst e1; exact .inl hs
    · by_cases e2 : n = newN s
      · subst e2; exact .inr (List.mem_map_of_mem hs)
      · refine h.keys n ?_
        obtain ⟨v, hv⟩ := aget_of_key hn
        rw [hag n e1 e2] at hv
        exact aget_keys hv
  · rw [m.fs] at hF
    by_cases e1 : i = d.files + 1
    · subst e1; rw [aget_app_new h.calm.key] at hF; cases hF; show (sealL b).length ≤ B; rw [sealL_len]; exact hb
    · rw [aget_app_old h.calm.key e1] at hF; exact h.len i F hF
theorem Mid.pt {N : List ByteArray} {B : Nat} {f : ByteArray → Option (List UInt8)} (h : PtI N B f d) (hs : s ∈ N) (hN : ∀ n ∈ N, newN s ≠ n) (hb : b.length + 4 ≤ B) (he : e.ok) (m : Mid d s b e) (picks : List Int) : PtI N B f (e.crash picks) ∨ PtI N B (updF f s b) (e.crash picks) := by
  have hn0 : Near d.names s (newN s) (aget e.fs (d.files + 1) = some ⟨d.files + 1, sealL b, (sealL b).length⟩) (d.files + 1) e.kept := by
    rw [m.kept, ← h.calm.kept]; exact ⟨h.calm.ok.nnd, fun n _ _ => rfl, .inl rfl⟩
  have hn := hn0.all (newN_ne s) (newN_some s) (cs := e.changes.take (pickN picks 0 e.changes.length)) fun c hc => (m.chs c (List.mem_of_mem_take hc)).resolve_left (fun h1 => by rw [h.calm.still] at h1; simp at h1)
  have hok := he.crash picks
  have hcalm : Calm (e.crash picks) := ⟨⟨hok, rfl⟩, rfl, rfl⟩
  have hkeys : ∀ n ∈ keysOf (e.crash picks).names, n ∈ N ∨ n ∈ N.map newN := fun n hk => by
    by_cases e1 : n = s
    · subst e1; exact .inl hs
    · by_cases e2 : n = newN s
      · subst e2; exact .inr (List.mem_map_of_mem hs)
      · refine h.keys n ?_
        obtain ⟨v, hv⟩ := aget_of_key hk
        have hv : aget (applyAll e.kept (e.changes.take (pickN picks 0 e.changes.length))) n = some v := hv
        rw [hn.other n e1 e2] at hv
        exact aget_keys hv
  have hlen : ∀ i F, aget (e.crash picks).fs i = some F → F.b.length ≤ B := fun i F hF => by
    have := crashFs_fine (P := fun i f => f.syn ≤ f.b.length ∧ f.b.length ≤ B) (fun i f picks k hf => by
      have h1 := Fl.crashed_fine hf.1 picks k
      exact ⟨h1.2.1, Nat.le_trans h1.2.2 hf.2⟩) (picks := picks) (keptIds e.fs (applyAll e.kept (e.changes.take (pickN picks 0 e.changes.length)))) 0 e.fs (fun i f hf => ⟨(he.fid i f hf).2.1, by
        rcases m.len i f hf with h1 | h1
        · exact h.len i f h1
        · omega⟩) i F hF
    exact this.2
  have hold : ∀ n ∈ N, n ≠ s → Under (e.crash picks) n (f n) := fun n hnN hne => by
    have h1 := h.under n hnN
    have h2 : aget (e.crash picks).names n = aget d.names n := hn.other n hne (Ne.symm (hN n hnN))
    cases hf : f n with
    | none => rw [hf] at h1; exact h2.trans h1
    | some v => rw [hf] at h1; obtain ⟨i, q, k1, k2⟩ := h1; exact ⟨i, q, h2.trans k1, crashFs_whole rfl _ _ _ (m.old i _ k2)⟩
  rcases hn.at_s with h1 | ⟨h1, h2⟩
  · refine .inl ⟨hcalm, fun n hnN => ?_, hkeys, hlen⟩
    by_cases e1 : n = s
    · subst e1
      have h3 := h.under n hnN
      have h1 : aget (e.crash picks).names n = aget d.names n := h1
      cases hf : f n with
      | none => rw [hf] at h3; exact h1.trans h3
      | some v => rw [hf] at h3; obtain ⟨i, q, k1, k2⟩ := h3; exact ⟨i, q, h1.trans k1, crashFs_whole rfl _ _ _ (m.old i _ k2)⟩
    · exact hold n hnN e1
  · refine .inr ⟨hcalm, fun n hnN => ?_, hkeys, hlen⟩
    unfold updF
    by_cases e1 : n = s
    · subst e1; rw [if_pos rfl]; exact ⟨_, _, h1, crashFs_whole rfl _ _ _ h2⟩
    · rw [if_neg e1]; exact hold n hnN e1
theorem PtI.crash {N : List ByteArray} {B : Nat} {f : ByteArray → Option (List UInt8)} (h : PtI N B f d) (picks : List Int) : PtI N B f (d.crash picks) := by
  have hnm : (d.crash picks).names = d.names := by
    show applyAll d.kept (d.changes.take _) = d.names
    rw [h.calm.still, List.take_nil, h.calm.kept]
    rfl
  refine ⟨⟨⟨h.calm.ok.crash picks, rfl⟩, rfl, rfl⟩, fun n hn => ?_, fun n hn => h.keys n (hnm ▸ hn), fun i F hF => ?_⟩
  · have h1 := h.under n hn
    cases hf : f n with
    | none => rw [hf] at h1; show aget _ n = none; rw [hnm]; exact h1
    | some v => rw [hf] at h1; obtain ⟨i, q, k1, k2⟩ := h1; exact ⟨i, q, by rw [hnm]; exact k1, crashFs_whole rfl _ _ _ k2⟩
  · have := crashFs_fine (P := fun i f => f.syn ≤ f.b.length ∧ f.b.length ≤ B) (fun i f picks k hf => by
      have h1 := Fl.crashed_fine hf.1 picks k
      exact ⟨h1.2.1, Nat.le_trans h1.2.2 hf.2⟩) (picks := picks) (keptIds d.fs (applyAll d.kept (d.changes.take (pickN picks 0 d.changes.length)))) 0 d.fs (fun i f hf => ⟨(h.calm.ok.fid i f hf).2.1, h.len i f hf⟩) i F hF
    exact this.2
theorem PtI.arm {N : List ByteArray} {B : Nat} {f : ByteArray → Option (List UInt8)} (h : PtI N B f d) {n : Nat} (hok : ({ d with armed := n } : Dk).ok) : PtI N B f { d with armed := n } :=
  ⟨⟨⟨hok, h.calm.up⟩, h.calm.kept, h.calm.still⟩, fun m hm => by have := h.under m hm; cases hf : f m <;> (rw [hf] at this; exact this), h.keys, h.len⟩
/-- A Write, whatever the power does. -/
theorem PtI.write {N : List ByteArray} {B : Nat} {f : ByteArray → Option (List UInt8)} (h : PtI N B f d) (hs : s ∈ N) (hN : ∀ n ∈ N, newN s ≠ n) (hv : validB s.data.toList = true) (hv2 : validB (newN s).data.toList = true) (hb : b.length + 4 ≤ B) (hr : 2 * N.length * B + B ≤ d.room) :
    ∃ k e, d.write s b = (k, e) ∧ e.room = d.room ∧ (k = 0 ∧ e.down = false ∧ (d.armed = 0 → e.armed = 0) ∧ (e.ok → PtI N B (updF f s b) e) ∨ k = 110 ∧ e.down = true ∧ d.armed ≠ 0 ∧ (e.ok → ∀ picks, PtI N B f (e.crash picks) ∨ PtI N B (updF f s b) (e.crash picks))) := by
  have h1 := h.room s
  obtain ⟨k, e, hk, hd⟩ := h.calm.write (b := b) hv hv2 (by omega)
  rcases hd with ⟨h1, m⟩ | ⟨h1, h2, h3, m⟩
  · exact ⟨k, e, hk, m.room, .inl ⟨h1, m.up, m.arm, fun he => m.pt h hs hN hb he⟩⟩
  · exact ⟨k, e, hk, m.room, .inr ⟨h1, h2, h3, fun he picks => m.pt h hs hN hb he picks⟩⟩
def readO : Option (List UInt8) → Nat × List UInt8
  | none => (107, [])
  | some v => (0, v)
theorem Under.read {n : ByteArray} {o : Option (List UInt8)} (h : Under d n o) (hu : d.down = false) : d.pread n = readO o := by
  cases o with
  | none =>
    have h1 : aget d.names n = none := h
    simp [Dk.pread, Dk.lenR, Dk.file, hu, h1, readO]
  | some v =>
    obtain ⟨i, q, k1, k2⟩ := h
    have hl : d.lenR n = (0, (sealL v).length) := by simp [Dk.lenR, Dk.file, hu, k1, Dk.fl, k2]
    have hr : d.readR n 0 ((sealL v).length : Int) = (0, sealL v) := (Dk.readR_at (o := 0) (m := (sealL v).length) hu k1 k2 (by show 0 + (sealL v).length ≤ (sealL v).length; omega)).trans (by simp)
    simp only [Dk.pread, hl, hr, open_seal, readO]
    simp
theorem PtI.read {N : List ByteArray} {B : Nat} {f : ByteArray → Option (List UInt8)} (h : PtI N B f d) {n : ByteArray} (hn : n ∈ N) : d.pread n = readO (f n) := (h.under n hn).read h.calm.up
theorem Dk.wrun_calls (s : ByteArray) (b : List UInt8) : ∀ (f k : Nat) (d : Dk), (Dk.wrun s b f k d).2.calls ≤ d.calls + f
  | 0, _, _ => Nat.le_refl _
  | f + 1, k, d => by
    have h1 := d.wstep_calls s b k
    have h2 := Dk.wrun_calls s b f (k + 1) (d.wstep s b k).2
    rw [Dk.wrun_succ]
    split
    · omega
    · omega
theorem Dk.write_calls {k : Nat} (h : d.write s b = (k, e)) : e.calls ≤ d.calls + 6 := by
  unfold Dk.write at h
  split at h
  · have := Dk.wrun_calls s b 6 0 d; rw [h] at this; exact this
  · cases h; omega
theorem PtI.start {N : List ByteArray} {B r : Nat} (hr : r ≤ 4194304) : PtI N B (fun _ => none) (Dk.empty r) :=
  ⟨⟨⟨Dk.empty_ok hr, rfl⟩, rfl, rfl⟩, fun n _ => rfl, fun n hn => by simp [Dk.empty, keysOf] at hn, fun i F hF => by cases hF⟩
end Go.Proofs.YtmnfehbnjgmgjaaDoor
