/- Names with what stands under each, byte by byte: Writes, bytes laid behind, cuts, crashes. What is kept aside: Write, Read, over chunks. The remote log: its chunk; what it has when it is opened. The remote log where it is new or small: Open on a disk without its files, Append without a snapshot; whatever the power does. point.Nums, ReadNums, over chunks. The journal, over chunks. Chapter 20: the example, and what the statements ask of a journal. What a row's condition on the sentinels gives a walk: 'Errs'; what its condition on a slice gives: 'seqV'. Slices of slices, of structs, that came in. States of a journal. The journal beside the log's files. The store as plain data; where it lies in memory ('StoreAt': its footprint of blocks that it writes, the blocks that it only reads). The store's walks, first part: New, Calls, Failed, Bytes, Script, call. The store's walks, second part: Script, call. The store's walks, third part: 'call': what comes of a call. The store's walks: Put. Chapter 11's statements: what they share: bytes as a string; the chapter's examples ('first'). part: parts, fair, Range. part: Range. Contracts of the elder shapes, over chunks; part.Make. The store, over chunks: what it is in memory; New, Calls, Failed, call. The store, over chunks: Bytes, Script, Delete, Head, Get. -/
import Derived.Test.YthejaanobeonnaaGreatDoorRf4
import Derived.Test.YthejaanobeonnaaGreatDoorRf1
import Derived.Test.YthejaanobeonnaaGreatDoorRows
import Derived.LaidMore
import Derived.LaidHandle
import Derived.LaidLaws
import Derived.MakeChecks
import Derived.OpenShut
import Derived.Carry
import Derived.Test.YthejaanobeonnaaGreatDoorRf2
import Derived.Deep.Slices
import Derived.Lib.SlBytesConst
import Derived.Deep.QuietTactic
set_option linter.all false
namespace Go.Proofs.YthejaanobeonnaaGreatDoor
section
open Go.RowKit
variable {d e : Dk} {s n : ByteArray} {b v x : List UInt8} {N : List ByteArray} {B : Nat} {f : ByteArray → Option (List UInt8)}
def Raw (d : Dk) (n : ByteArray) : Option (List UInt8) → Prop
  | none => zAw d.names n = none
  | some v => ∃ i q, zAw d.names n = some i ∧ zAw d.fs i = some ⟨q, v, v.length⟩
structure RawS (N : List ByteArray) (B : Nat) (f : ByteArray → Option (List UInt8)) (d : Dk) : Prop where
  kept : d.names = d.kept
  still : d.changes = []
  under : ∀ n ∈ N, Raw d n (f n)
  apart : ∀ n ∈ N, ∀ m ∈ N, ∀ i, zAw d.names n = some i → zAw d.names m = some i → n = m
  keys : ∀ n ∈ zAl d.names, n ∈ N ∨ n ∈ N.map zC5
  len : ∀ i F, zAw d.fs i = some F → F.b.length ≤ B
structure RawI (N : List ByteArray) (B : Nat) (f : ByteArray → Option (List UInt8)) (d : Dk) : Prop where
  ok : d.ok
  up : d.down = false
  st : RawS N B f d
theorem Raw.same {o : Option (List UInt8)} (h : Raw d n o) (h1 : zAw e.names n = zAw d.names n) (h2 : ∀ i F, zAw d.names n = some i → zAw d.fs i = some F → F.syn = F.b.length → zAw e.fs i = some F) : Raw e n o := by
  cases o with
  | none => exact h1.trans h
  | some v => obtain ⟨i, q, k1, k2⟩ := h; exact ⟨i, q, h1.trans k1, h2 i _ k1 k2 rfl⟩
theorem RawS.same (h : RawS N B f d) (h1 : e.names = d.names) (h2 : e.kept = d.kept) (h3 : e.changes = d.changes) (h4 : e.fs = d.fs) : RawS N B f e :=
  ⟨by rw [h1, h2]; exact h.kept, by rw [h3]; exact h.still, fun n hn => (h.under n hn).same (by rw [h1]) fun i F _ hF _ => by rw [h4]; exact hF, by rw [h1]; exact h.apart, by rw [h1]; exact h.keys, by rw [h4]; exact h.len⟩
theorem RawS.crash_names (h : RawS N B f d) (picks : List Int) : (d.crash picks).names = d.names := by
  show zCi d.kept (d.changes.take _) = d.names
  rw [h.still, List.take_nil, h.kept]
  rfl
theorem crash_len (ho : d.ok) (h : ∀ i F, zAw d.fs i = some F → F.b.length ≤ B) (picks : List Int) : ∀ i F, zAw (d.crash picks).fs i = some F → F.b.length ≤ B := fun i F hF => by
  have := zEr (P := fun i f => f.syn ≤ f.b.length ∧ f.b.length ≤ B) (fun i f picks k hf => by
      have h1 := Fl.crashed_fine hf.1 picks k
      exact ⟨h1.2.1, Nat.le_trans h1.2.2 hf.2⟩) (picks := picks) (keptIds d.fs (zCi d.kept (d.changes.take (pickN picks 0 d.changes.length)))) 0 d.fs (fun i f hf => ⟨(ho.fid i f hf).2.1, h i f hf⟩) i F hF
  exact this.2
theorem RawS.crash (h : RawS N B f d) (ho : d.ok) (picks : List Int) : RawI N B f (d.crash picks) := by
  have hnm := h.crash_names picks; exact ⟨ho.crash picks, rfl, rfl, rfl, fun n hn => (h.under n hn).same (by rw [hnm]) fun i F _ hF hw => zCh hw _ _ _ hF, by rw [hnm]; exact h.apart, by rw [hnm]; exact h.keys, crash_len ho h.len picks⟩
theorem RawS.part (h : RawS N B f d) (hs : s ∈ N) {i q : Nat} (hi : zAw d.names s = some i) (ho : e.ok) (h1 : e.names = d.names) (h2 : e.kept = d.kept) (h3 : e.changes = d.changes) (h4 : ∀ j, j ≠ i → zAw e.fs j = zAw d.fs j) (hF : zAw e.fs i = some ⟨q, v ++ x, v.length⟩) (hB : v.length + x.length ≤ B) (picks : List Int) : ∃ j, RawI N B (zEb f s (v ++ x.take j)) (e.crash picks) := by
  have hnm : (e.crash picks).names = d.names := by
    show zCi e.kept (e.changes.take _) = d.names
    rw [h3, h.still, List.take_nil, h2, h.kept]
    rfl
  have hnd : (keptIds e.fs (zCi e.kept (e.changes.take (pickN picks 0 e.changes.length)))).Nodup := (ho.keys_rise.filter _).imp fun h => Nat.ne_of_lt h
  have hin : i ∈ keptIds e.fs (zCi e.kept (e.changes.take (pickN picks 0 e.changes.length))) := keptIds_mem.2 ⟨zEo hF, by
    show i ∈ (e.crash picks).names.map (·.2)
    rw [hnm]
    exact List.mem_map.2 ⟨_, zCq hi, rfl⟩⟩
  obtain ⟨k, hk⟩ := List.mem_iff_getElem?.1 hin; have hat : zAw (e.crash picks).fs i = some ((⟨q, v ++ x, v.length⟩ : Fl).crashed picks (0 + k)) := crashFs_at _ 0 _ hnd hk hF; obtain ⟨j, hj⟩ : ∃ j, pickN picks (0 + k + 1) ((v ++ x).length - v.length) = j := ⟨_, rfl⟩
  have ht : (v ++ x).take (v.length + j) = v ++ x.take j := by rw [List.take_append, List.take_of_length_le (by omega)]; simp
  have hat : zAw (e.crash picks).fs i = some ⟨q, v ++ x.take j, (v ++ x.take j).length⟩ := by rw [hat]; simp only [Fl.crashed, hj, ht]
  refine ⟨j, ho.crash picks, rfl, rfl, rfl, fun n hn => ?_, by rw [hnm]; exact h.apart, by rw [hnm]; exact h.keys, crash_len ho (fun a F hF' => ?_) picks⟩
  · unfold zEb
    by_cases e1 : n = s
    · subst e1; rw [if_pos rfl]; exact ⟨i, q, by rw [hnm]; exact hi, hat⟩
    · rw [if_neg e1]
      refine (h.under n hn).same (by rw [hnm]) fun a F ha hF' hw => zCh hw _ _ _ ?_
      rw [h4 a fun ea => e1 (h.apart n hn s hs a ha (ea ▸ hi))]; exact hF'
  · by_cases ea : a = i
    · subst ea; rw [hF] at hF'; cases hF'; simpa using hB
    · rw [h4 a ea] at hF'; exact h.len a F hF'
theorem RawI.names_le (h : RawI N B f d) : d.names.length ≤ 2 * N.length := by
  have h1 : (zAl d.names).length ≤ (N ++ N.map zC5).length := h.ok.nnd.length_le_of_subset fun n hn => List.mem_append.2 (h.st.keys n hn)
  simp [zAl] at h1
  omega
theorem RawI.used (h : RawI N B f d) : d.used ≤ 2 * N.length * B := by
  have h1 : useL d.fs d.names ≤ d.names.length * B := useL_le h.st.len d.names; exact Nat.le_trans h1 (Nat.mul_le_mul_right _ h.names_le)
theorem RawI.calm (h : RawI N B f d) : Calm d := ⟨⟨h.ok, h.up⟩, h.st.kept, h.st.still⟩
theorem RawI.roomW (h : RawI N B f d) (s : ByteArray) : useL d.fs (wl s d) ≤ 2 * N.length * B := by
  have h1 := useL_le h.st.len (wl s d); have h2 : (wl s d).length ≤ 2 * N.length := Nat.le_trans (adel_len _ _) h.names_le; exact Nat.le_trans h1 (Nat.mul_le_mul_right _ h2)
theorem RawI.old_id (h : RawI N B f d) {i : Nat} (hi : zAw d.names n = some i) : i ≠ d.files + 1 := fun e => h.ok.fresh (e ▸ h.ok.named hi)
theorem Done.raw (h : RawI N B f d) (hs : s ∈ N) (hN : ∀ n ∈ N, zC5 s ≠ n) (hb : b.length + 4 ≤ B) (he : e.ok) (m : Done d s b e) : RawI N B (zEb f s (zBx b)) e := by
  have hag : ∀ n, n ≠ s → n ≠ zC5 s → zAw e.names n = zAw d.names n := fun n h1 h2 => by rw [m.names, zAy _ _ h1, wl, zG2 h2]
  have has : zAw e.names s = some (d.files + 1) := by rw [m.names, zB3]
  refine ⟨he, m.up, m.kept, m.still, fun n hn => ?_, fun n hn n' hn' i h1 h2 => ?_, fun n hn => ?_, fun i F hF => ?_⟩
  · unfold zEb
    by_cases e1 : n = s
    · subst e1; rw [if_pos rfl]; exact ⟨_, _, has, m.new⟩
    · rw [if_neg e1]; exact (h.st.under n hn).same (hag n e1 (Ne.symm (hN n hn))) fun i F _ hF _ => m.old i F hF
  · by_cases e1 : n = s
    · by_cases e2 : n' = s
      · rw [e1, e2]
      · rw [e1, has] at h1
        rw [hag n' e2 (Ne.symm (hN n' hn'))] at h2
        cases h1
        exact absurd rfl (h.old_id h2)
    · by_cases e2 : n' = s
      · rw [e2, has] at h2
        rw [hag n e1 (Ne.symm (hN n hn))] at h1
        cases h2
        exact absurd rfl (h.old_id h1)
      · rw [hag n e1 (Ne.symm (hN n hn))] at h1
        rw [hag n' e2 (Ne.symm (hN n' hn'))] at h2; exact h.st.apart n hn n' hn' i h1 h2
  · by_cases e1 : n = s
    · subst e1; exact .inl hs
    · by_cases e2 : n = zC5 s
      · subst e2; exact .inr (List.mem_map_of_mem hs)
      · refine h.st.keys n ?_
        obtain ⟨v, hv⟩ := zD7 hn; rw [hag n e1 e2] at hv; exact zEo hv
  · rw [m.fs] at hF
    by_cases e1 : i = d.files + 1
    · subst e1; rw [zBu h.ok.fresh] at hF; cases hF; show (zBx b).length ≤ B; rw [zCp]; exact hb
    · rw [zDj h.ok.fresh e1] at hF; exact h.st.len i F hF
theorem Mid.raw (h : RawI N B f d) (hs : s ∈ N) (hN : ∀ n ∈ N, zC5 s ≠ n) (hb : b.length + 4 ≤ B) (he : e.ok) (m : Mid d s b e) (picks : List Int) : RawI N B f (e.crash picks) ∨ RawI N B (zEb f s (zBx b)) (e.crash picks) := by
  have hn0 : Near d.names s (zC5 s) (zAw e.fs (d.files + 1) = some ⟨d.files + 1, zBx b, (zBx b).length⟩) (d.files + 1) e.kept := by
    rw [m.kept, ← h.st.kept]; exact ⟨h.ok.nnd, fun n _ _ => rfl, .inl rfl⟩
  have hn := hn0.all (newN_ne s) (newN_some s) (cs := e.changes.take (pickN picks 0 e.changes.length)) fun c hc => (m.chs c (List.mem_of_mem_take hc)).resolve_left (fun h1 => by rw [h.st.still] at h1; simp at h1)
  have hkeys : ∀ n ∈ zAl (e.crash picks).names, n ∈ N ∨ n ∈ N.map zC5 := fun n hk => by
    by_cases e1 : n = s
    · subst e1; exact .inl hs
    · by_cases e2 : n = zC5 s
      · subst e2; exact .inr (List.mem_map_of_mem hs)
      · refine h.st.keys n ?_
        obtain ⟨v, hv⟩ := zD7 hk; have hv : zAw (zCi e.kept (e.changes.take (pickN picks 0 e.changes.length))) n = some v := hv; rw [hn.other n e1 e2] at hv; exact zEo hv
  have hlen := crash_len he (B := B) (fun i F hF => by
    rcases m.len i F hF with h1 | h1
    · exact h.st.len i F h1
    · omega) picks
  have hoth : ∀ n ∈ N, n ≠ s → zAw (e.crash picks).names n = zAw d.names n := fun n hnN hne => hn.other n hne (Ne.symm (hN n hnN))
  have hold : ∀ n ∈ N, zAw (e.crash picks).names n = zAw d.names n → Raw (e.crash picks) n (f n) := fun n hnN h2 => (h.st.under n hnN).same h2 fun i F _ hF hw => zCh hw _ _ _ (m.old i F hF)
  rcases hn.at_s with h1 | ⟨h1, h2⟩
  · have hall : ∀ n ∈ N, zAw (e.crash picks).names n = zAw d.names n := fun n hnN => by
      by_cases e1 : n = s
      · subst e1; exact h1
      · exact hoth n hnN e1
    exact .inl ⟨he.crash picks, rfl, rfl, rfl, fun n hnN => hold n hnN (hall n hnN), fun n hnN n' hn' i g1 g2 => h.st.apart n hnN n' hn' i (hall n hnN ▸ g1) (hall n' hn' ▸ g2), hkeys, hlen⟩
  · have has : zAw (e.crash picks).names s = some (d.files + 1) := h1
    refine .inr ⟨he.crash picks, rfl, rfl, rfl, fun n hnN => ?_, fun n hnN n' hn' i g1 g2 => ?_, hkeys, hlen⟩
    · unfold zEb
      by_cases e1 : n = s
      · subst e1; rw [if_pos rfl]; exact ⟨_, _, has, zCh rfl _ _ _ h2⟩
      · rw [if_neg e1]; exact hold n hnN (hoth n hnN e1)
    · by_cases e1 : n = s
      · by_cases e2 : n' = s
        · rw [e1, e2]
        · rw [e1, has] at g1
          rw [hoth n' hn' e2] at g2
          cases g1
          exact absurd rfl (h.old_id g2)
      · by_cases e2 : n' = s
        · rw [e2, has] at g2
          rw [hoth n hnN e1] at g1
          cases g2
          exact absurd rfl (h.old_id g1)
        · rw [hoth n hnN e1] at g1
          rw [hoth n' hn' e2] at g2; exact h.st.apart n hnN n' hn' i g1 g2
theorem RawI.write (h : RawI N B f d) (hs : s ∈ N) (hN : ∀ n ∈ N, zC5 s ≠ n) (hv : zBq s.data.toList = true) (hv2 : zBq (zC5 s).data.toList = true) (hb : b.length + 4 ≤ B) (hr : 2 * N.length * B + B ≤ d.room) :
    ∃ k e, d.write s b = (k, e) ∧ e.room = d.room ∧ e.calls ≤ d.calls + 6 ∧ (k = 0 ∧ e.down = false ∧ (d.armed = 0 → e.armed = 0) ∧ (e.ok → RawI N B (zEb f s (zBx b)) e) ∨ k = 110 ∧ e.down = true ∧ d.armed ≠ 0 ∧ (e.ok → ∀ picks, RawI N B f (e.crash picks) ∨ RawI N B (zEb f s (zBx b)) (e.crash picks))) := by
  have h1 := h.roomW s; obtain ⟨k, e, hk, hd⟩ := UpD.write ⟨h.ok, h.up⟩ (b := b) hv hv2 (by omega)
  rcases hd with ⟨h1, m⟩ | ⟨h1, h2, h3, m⟩
  · exact ⟨k, e, hk, m.room, Dk.write_calls hk, .inl ⟨h1, m.up, m.arm, fun he => m.raw h hs hN hb he⟩⟩
  · exact ⟨k, e, hk, m.room, Dk.write_calls hk, .inr ⟨h1, h2, h3, fun he picks => m.raw h hs hN hb he picks⟩⟩
theorem Dk.find_arm {i : Nat} (hu : d.down = false) (hn : zAw d.names n = some i) : d.find n = if d.armed = 1 then (110, none, { d with armed := 0, down := true }) else (0, some i, { d with armed := d.armed - 1 }) := by
  obtain ⟨room, names, kept, changes, files, a, down, calls, fs⟩ := d; simp only at hu hn; subst hu
  by_cases h0 : a = 0
  · subst h0; simp [Dk.find, Dk.begin, Dk.file, hn]
  · by_cases h1 : a = 1
    · subst h1; simp [Dk.find, Dk.begin]
    · simp [Dk.find, Dk.begin, Dk.file, hn, h0, h1]
theorem RawS.set (h : RawS N B f d) (hs : s ∈ N) {i q : Nat} (hi : zAw d.names s = some i) (h1 : e.names = d.names) (h2 : e.kept = d.kept) (h3 : e.changes = d.changes) (h4 : ∀ j, j ≠ i → zAw e.fs j = zAw d.fs j) (hF : zAw e.fs i = some ⟨q, v, v.length⟩) (hB : v.length ≤ B) : RawS N B (zEb f s v) e := by
  refine ⟨by rw [h1, h2]; exact h.kept, by rw [h3]; exact h.still, fun n hn => ?_, by rw [h1]; exact h.apart, by rw [h1]; exact h.keys, fun a F hF' => ?_⟩
  · unfold zEb
    by_cases e1 : n = s
    · subst e1; rw [if_pos rfl]; exact ⟨i, q, by rw [h1]; exact hi, hF⟩
    · rw [if_neg e1]
      exact (h.under n hn).same (by rw [h1]) fun a F ha hF' hw => by rw [h4 a fun ea => e1 (h.apart n hn s hs a ha (ea ▸ hi))]; exact hF'
  · by_cases ea : a = i
    · subst ea; rw [hF] at hF'; cases hF'; exact hB
    · rw [h4 a ea] at hF'; exact h.len a F hF'
theorem RawI.grow (h : RawI N B f d) (hs : s ∈ N) (hf : f s = some v) (hb : v.length + x.length ≤ B) (hr : 2 * N.length * B + B ≤ d.room) :
    ∃ k e, d.append s x = (k, e) ∧ e.room = d.room ∧ e.calls ≤ d.calls + 1 ∧ (k = 110 ∧ e.down = true ∧ d.armed ≠ 0 ∧ (e.ok → ∀ picks, RawI N B f (e.crash picks)) ∨
      k = 0 ∧ e.down = false ∧ ∃ k2 e2, e.sync s = (k2, e2) ∧ e2.room = d.room ∧ e2.calls ≤ d.calls + 2 ∧ (k2 = 0 ∧ e2.down = false ∧ (d.armed = 0 → e2.armed = 0) ∧ (e2.ok → RawI N B (zEb f s (v ++ x)) e2) ∨ k2 = 110 ∧ e2.down = true ∧ d.armed ≠ 0 ∧ (e2.ok → ∀ picks, ∃ j, RawI N B (zEb f s (v ++ x.take j)) (e2.crash picks)))) := by
  have hu := h.st.under s hs; rw [hf] at hu; obtain ⟨i, q, hi, hF⟩ := hu; have hus := h.used
  have hap : d.append s x = if d.armed = 1 then (110, { d with armed := 0, down := true }) else (0, { (({ d with armed := d.armed - 1 } : Dk).setF i ⟨q, v ++ x, v.length⟩) with calls := d.calls + 1 }) := by
    unfold Dk.append
    rw [Dk.find_arm h.up hi]
    by_cases h1 : d.armed = 1
    · simp [h1]
    · rw [if_neg h1, if_neg h1]
      have hfl : ({ d with armed := d.armed - 1 } : Dk).fl i = ⟨q, v, v.length⟩ := by simp [Dk.fl, hF]
      have h2 : ({ d with armed := d.armed - 1 } : Dk).used = d.used := rfl; simp only [hfl, h2]; rw [if_neg (by omega)]
  by_cases h1 : d.armed = 1
  · rw [if_pos h1] at hap
    exact ⟨_, _, hap, rfl, Nat.le_succ _, .inl ⟨rfl, rfl, by omega, fun ho picks => RawS.crash (d := { d with armed := 0, down := true }) (h.st.same rfl rfl rfl rfl) ho picks⟩⟩
  · rw [if_neg h1] at hap
    refine ⟨_, _, hap, rfl, Nat.le_refl _, .inr ⟨rfl, h.up, ?_⟩⟩; obtain ⟨e, he⟩ : ∃ e, e = ({ (({ d with armed := d.armed - 1 } : Dk).setF i ⟨q, v ++ x, v.length⟩) with calls := d.calls + 1 } : Dk) := ⟨_, rfl⟩; rw [← he]
    have n1 : e.names = d.names := by rw [he]; rfl
    have n2 : e.kept = d.kept := by rw [he]; rfl
    have n3 : e.changes = d.changes := by rw [he]; rfl
    have n4 : e.fs = zBv d.fs i ⟨q, v ++ x, v.length⟩ := by rw [he]; rfl
    have n5 : e.armed = d.armed - 1 := by rw [he]; rfl
    have n6 : e.down = false := by rw [he]; exact h.up
    have n7 : e.room = d.room := by rw [he]; rfl
    have n8 : e.calls = d.calls + 1 := by rw [he]
    have hsy : e.sync s = if e.armed = 1 then (110, { e with armed := 0, down := true }) else (0, { (({ e with armed := e.armed - 1 } : Dk).setF i ⟨q, v ++ x, (v ++ x).length⟩) with calls := e.calls + 1 }) := by
      unfold Dk.sync
      rw [Dk.find_arm n6 (by rw [n1]; exact hi)]
      by_cases h1 : e.armed = 1
      · simp [h1]
      · rw [if_neg h1, if_neg h1]
        have hfl : ({ e with armed := e.armed - 1 } : Dk).fl i = ⟨q, v ++ x, v.length⟩ := by simp [Dk.fl, n4, zB3]
        simp only [hfl]
    have ho1 : ∀ j, j ≠ i → zAw e.fs j = zAw d.fs j := fun j hj => by rw [n4]; exact zAy _ _ hj
    by_cases h2 : e.armed = 1
    · rw [if_pos h2] at hsy
      exact ⟨_, _, hsy, n7, by show e.calls ≤ _; omega, .inr ⟨rfl, rfl, by omega, fun ho picks => h.st.part hs hi ho n1 n2 n3 ho1 (by show zAw e.fs i = _; rw [n4, zB3]) hb picks⟩⟩
    · rw [if_neg h2] at hsy
      refine ⟨_, _, hsy, n7, by show e.calls + 1 ≤ _; omega, .inl ⟨rfl, n6, fun ha => by show e.armed - 1 = 0; omega, fun ho => ⟨ho, n6, h.st.set (q := q) hs hi n1 n2 n3 (fun j hj => ?_) ?_ (by simpa using hb)⟩⟩⟩
      · show zAw (zBv e.fs i _) j = _
        rw [zAy _ _ hj, ho1 j hj]
      · show zAw (zBv e.fs i _) i = _
        rw [zB3]
theorem RawI.cut (h : RawI N B f d) (hs : s ∈ N) (hf : f s = some v) {m : Nat} (hm : m ≤ v.length) :
    ∃ k e, d.cut s m = (k, e) ∧ e.room = d.room ∧ e.calls ≤ d.calls + 1 ∧ (k = 0 ∧ e.down = false ∧ (d.armed = 0 → e.armed = 0) ∧ (e.ok → RawI N B (zEb f s (v.take m)) e) ∨ k = 110 ∧ e.down = true ∧ d.armed ≠ 0 ∧ (e.ok → ∀ picks, RawI N B f (e.crash picks))) := by
  have hu := h.st.under s hs; rw [hf] at hu; obtain ⟨i, q, hi, hF⟩ := hu; have hB := h.st.len i _ hF
  have hap : d.cut s m = if d.armed = 1 then (110, { d with armed := 0, down := true }) else (0, { (({ d with armed := d.armed - 1 } : Dk).setF i ⟨q, v.take m, m⟩) with calls := d.calls + 1 }) := by
    unfold Dk.cut
    rw [Dk.find_arm h.up hi]
    by_cases h1 : d.armed = 1
    · simp [h1]
    · rw [if_neg h1, if_neg h1]
      have hfl : ({ d with armed := d.armed - 1 } : Dk).fl i = ⟨q, v, v.length⟩ := by simp [Dk.fl, hF]
      simp only [hfl]; rw [if_neg (by omega)]
      simp
  by_cases h1 : d.armed = 1
  · rw [if_pos h1] at hap
    exact ⟨_, _, hap, rfl, Nat.le_succ _, .inr ⟨rfl, rfl, by omega, fun ho picks => RawS.crash (d := { d with armed := 0, down := true }) (h.st.same rfl rfl rfl rfl) ho picks⟩⟩
  · rw [if_neg h1] at hap
    have hl : (v.take m).length = m := by rw [List.length_take]; omega
    refine ⟨_, _, hap, rfl, Nat.le_refl _, .inl ⟨rfl, h.up, fun ha => by show d.armed - 1 = 0; omega, fun ho => ⟨ho, h.up, h.st.set (q := q) hs hi rfl rfl rfl (fun j hj => ?_) ?_ (by simp only at hB; omega)⟩⟩⟩
    · show zAw (zBv d.fs i _) j = _
      exact zAy _ _ hj
    · show zAw (zBv d.fs i _) i = _
      rw [zB3, hl]
theorem RawI.sync (h : RawI N B f d) (ha : d.armed = 0) (hs : s ∈ N) (hf : f s = some v) : ∃ e, d.sync s = (0, e) ∧ e.room = d.room ∧ e.armed = 0 ∧ e.calls ≤ d.calls + 1 ∧ (e.ok → RawI N B f e) := by
  have hu := h.st.under s hs; rw [hf] at hu; obtain ⟨i, q, hi, hF⟩ := hu
  have hfl : d.fl i = ⟨q, v, v.length⟩ := by simp [Dk.fl, hF]
  have hsy := Dk.sync_up (n := s) h.up ha hi; rw [hfl] at hsy; have hB := h.st.len i _ hF; refine ⟨_, hsy, rfl, ha, Nat.le_refl _, fun ho => ⟨ho, h.up, ?_⟩⟩
  have hff : zEb f s v = f := by funext n; unfold zEb; split; rename_i e1; rw [e1, hf]; rfl
  rw [← hff]; refine h.st.set (q := q) hs hi rfl rfl rfl (fun j hj => ?_) ?_ hB
  · show zAw (zBv d.fs i _) j = _
    exact zAy _ _ hj
  · show zAw (zBv d.fs i _) i = _
    rw [zB3]
theorem RawI.make (h : RawI N B f d) (ha : d.armed = 0) (hs : s ∈ N) (hf : f s = none) (hv : zBq s.data.toList = true) : ∃ e e2, d.create s = (0, e) ∧ e.syncDir = (0, e2) ∧ e2.room = d.room ∧ e2.armed = 0 ∧ e.calls ≤ d.calls + 1 ∧ e2.calls ≤ d.calls + 2 ∧ (e2.ok → RawI N B (zEb f s []) e2) := by
  have hu : zAw d.names s = none := by have := h.st.under s hs; rw [hf] at this; exact this
  have hcr := Dk.create_up (n := s) h.up ha hv hu; have hnk : s ∉ zAl d.names := (zB7 _ _).1 hu; refine ⟨_, _, hcr, Dk.syncDir_up h.up ha, rfl, ha, Nat.le_refl _, Nat.le_refl _, fun ho => ⟨ho, h.up, rfl, rfl, fun n hn => ?_, fun n hn n' hn' i h1 h2 => ?_, fun n hn => ?_, fun i F hF => ?_⟩⟩
  · have hag : n ≠ s → zAw (zBv d.names s (d.files + 1)) n = zAw d.names n := fun e1 => zAy _ _ e1
    unfold zEb
    by_cases e1 : n = s
    · subst e1; rw [if_pos rfl]; exact ⟨d.files + 1, d.files + 1, zB3 _ _ _, zBu h.ok.fresh⟩
    · rw [if_neg e1]
      exact (h.st.under n hn).same (hag e1) fun i F hi hF _ => (zDj h.ok.fresh (h.old_id hi)).trans hF
  · have h1 : zAw (zBv d.names s (d.files + 1)) n = some i := h1
    have h2 : zAw (zBv d.names s (d.files + 1)) n' = some i := h2
    by_cases e1 : n = s
    · by_cases e2 : n' = s
      · rw [e1, e2]
      · rw [e1, zB3] at h1
        rw [zAy _ _ e2] at h2
        cases h1
        exact absurd rfl (h.old_id h2)
    · by_cases e2 : n' = s
      · rw [e2, zB3] at h2
        rw [zAy _ _ e1] at h1
        cases h2
        exact absurd rfl (h.old_id h1)
      · rw [zAy _ _ e1] at h1
        rw [zAy _ _ e2] at h2; exact h.st.apart n hn n' hn' i h1 h2
  · have hn : n ∈ zAl (zBv d.names s (d.files + 1)) := hn
    by_cases e1 : n = s
    · subst e1; exact .inl hs
    · obtain ⟨v, hv⟩ := zD7 hn
      rw [zAy _ _ e1] at hv; exact h.st.keys n (zEo hv)
  · have hF : zAw (d.fs ++ [(d.files + 1, (⟨d.files + 1, [], 0⟩ : Fl))]) i = some F := hF
    by_cases e1 : i = d.files + 1
    · subst e1; rw [zBu h.ok.fresh] at hF; cases hF; exact Nat.zero_le _
    · rw [zDj h.ok.fresh e1] at hF; exact h.st.len i F hF
theorem RawI.lenR (h : RawI N B f d) (hs : s ∈ N) : d.lenR s = (f s).elim (107, 0) fun v => (0, v.length) := by
  have hu := h.st.under s hs
  cases hf : f s with
  | none =>
    rw [hf] at hu; have h1 : zAw d.names s = none := hu
    simp [Dk.lenR, Dk.file, h.up, h1]
  | some v =>
    rw [hf] at hu; obtain ⟨i, q, k1, k2⟩ := hu
    simp [Dk.lenR, Dk.file, h.up, k1, Dk.fl, k2]
theorem RawI.readR (h : RawI N B f d) (hs : s ∈ N) (hf : f s = some v) : d.readR s 0 (v.length : Int) = (0, v) := by
  have hu := h.st.under s hs; rw [hf] at hu; obtain ⟨i, q, k1, k2⟩ := hu; exact (Dk.readR_at (o := 0) (m := v.length) h.up k1 k2 (by show 0 + v.length ≤ v.length; omega)).trans (by simp)
theorem RawI.pread_none (h : RawI N B f d) (hs : s ∈ N) (hf : f s = none) : d.pread s = (107, []) := by
  have h1 := h.lenR hs; rw [hf] at h1
  simp [Dk.pread, h1]
theorem RawI.start {r : Nat} (hr : r ≤ 4194304) : RawI N B (fun _ => none) (Dk.empty r) :=
  ⟨Dk.empty_ok hr, rfl, rfl, rfl, fun n _ => rfl, fun n _ m _ i h => by simp [Dk.empty, zAw] at h, fun n hn => by simp [Dk.empty, zAl] at hn, fun i F hF => by cases hF⟩
theorem RawI.arm (h : RawI N B f d) {n : Nat} (hok : ({ d with armed := n } : Dk).ok) : RawI N B f { d with armed := n } := ⟨hok, h.up, h.st.same rfl rfl rfl rfl⟩
theorem updF_same (f : ByteArray → Option (List UInt8)) (s : ByteArray) (v : List UInt8) : zEb f s v s = some v := by simp [zEb]
theorem zFy (f : ByteArray → Option (List UInt8)) {s n : ByteArray} (v : List UInt8) (h : n ≠ s) : zEb f s v n = f n := by simp [zEb, h]
end
section
open Go.RowKit
attribute [local irreducible] zAh
variable {g w : World} {L M : List HP} {ad : Nat → Addr} {p : Nat} {d : Dk}
section
variable {P : Program} {n : Nat} {ops : Array Oper} {rest : List Oper} {K : Env → World → Prop} {ρ : Env} {dst : Option Tmp} {ty : TypeId} {pos : String} {aft : Array Edge}
theorem run_makeFuncB {fn : Fn} {fl cl : List Operand} : (execOp (ev ρ) ⟨dst, .makeFunc fn fl.toArray cl.toArray, ty, pos, aft, none⟩).run P w = .ok (.value (.func fn (fl.map (ev ρ)).toArray (cl.map (ev ρ)).toArray)) w := by
  simp [execOp, Instr.makeFunc]
theorem lw_callvB (hd : okd n dst = true) {f : FuncId} {first : Array Value} {t : Tmp} {ats : Array TypeId} {R : Value → World → Prop} (hf : ∀ args w, (callFunc f args).run P w = .ok (.enter f args) w) (hx : ρ t = .func (.func f) first #[])
    (hc : Calls P f first w (Ret R)) (h : ∀ v w', R v w' → lw P n ops rest K (updo ρ dst v) w') :
    lw P n ops (⟨dst, .call { callee := .value (.tmp t), args := #[], argTypes := ats }, ty, pos, aft, none⟩ :: rest) K ρ w := by
  refine lw_enter hd ?_ hc h; simp only [execOp, resolve, ev, hx, Deferred.ofValue, Sem.run_bind, Sem.run_pure, Result.andThen_ok, invoke]
  simp [hf]
end
section
variable {b3 b7 b5 b4 : Nat} {t s : ByteArray}
theorem w1_sl (hE : ErrK ad g) (hcl : d.calls < 1000000) (hs : Mem g w (zBc p d :: cells b3 [.pointer (some ⟨p, 0, none⟩)] 25 :: cells b7 [.string (zC5 s)] 9 :: M)) {b : List UInt8} {k : Nat} {d2 : Dk} (hk : d.wstep s b 0 = (k, d2)) :
    Calls Tryz.prog 176 #[.pointer (some ⟨b3, 0, none⟩), .pointer (some ⟨b7, 0, none⟩)] w (Ret fun v w' => v = zAh ad k ∧ Mem g w' (zBc p d2 :: cells b3 [.pointer (some ⟨p, 0, none⟩)] 25 :: cells b7 [.string (zC5 s)] 9 :: M)) := by
  obtain ⟨kl, ml, hl⟩ : ∃ kl ml, d.lenR (zC5 s) = (kl, ml) := ⟨_, _, rfl⟩; have hcode := d.lenR_code (zC5 s); rw [hl] at hcode; simp only at hcode; simp only [Dk.wstep, hl] at hk; refine zAf Tryz.func176 rfl rfl ?_
  skip
  refine zA3 (zA1 ?_); refine zA rfl (zA0 (v := .nilIface) rfl) ?_; refine zA6 ?_; refine zA3 ?_; refine zA3 (zA1 ?_); refine zA rfl (zA7 uz25 rfl rfl (hs.cellAt 1 rfl rfl)) ?_; refine zA rfl (zA7 uz9 rfl rfl (hs.cellAt 2 rfl rfl)) ?_; refine zAb rfl en76 (len_sl hE hs (zC5 s) hl) ?_; clear hs; rintro _ w ⟨rfl, hs⟩; refine zA rfl (zA2 (v := .tuple _) rfl) ?_; refine zA rfl (zAa (v := .int .i64 _) rfl rfl) ?_; refine zA rfl (zAa (v := zAh ad _) rfl rfl) ?_; refine zA rfl (zA0 (v := .int .i64 _) rfl) ?_; refine zA rfl (zA0 (v := zAh ad _) rfl) ?_; refine zA6 (zA3 (zA1 ?_)); refine zA rfl (zA2 (v := zAh ad _) rfl) ?_; refine zA rfl (zA7 zCe rfl rfl (hE.cellW hs 107 (by decide) rfl)) ?_
  refine zA rfl (zEq (hE.atW hs) (by rcases hcode with h | h | h <;> (rw [h]; decide)) (by decide) rfl rfl) ?_; refine zA6 ?_; refine zB rfl ?_ ?_
  ·
   intro h13; have g13 := of_decide_eq_true h13; rw [if_pos (of_decide_eq_true h13)] at hk
   cases hk
   refine zA3 (zA1 ?_); refine zA rfl (zA0 (v := .nilIface) rfl) ?_; refine zA6 ?_; refine zAc ?_; refine zBd (v := .nilIface) rfl rfl ?_; exact ⟨_, rfl, (zAz ad).symm, hs⟩
  ·
   intro h13; have g13 := of_decide_eq_false h13; rw [if_neg (of_decide_eq_false h13)] at hk; refine zAd ?_; refine zA3 (zA1 ?_); refine zA rfl (zA7 uz25 rfl rfl (hs.cellAt 1 rfl rfl)) ?_; refine zA rfl (zA7 uz9 rfl rfl (hs.cellAt 2 rfl rfl)) ?_; refine zAb rfl en101 (remove_sl hE hs hcl (zC5 s) hk) ?_; clear hs; rintro _ w ⟨rfl, hs⟩; refine zA rfl (zA0 (v := zAh ad _) rfl) ?_; refine zA6 ?_; refine zAc ?_; refine zBd (v := zAh ad _) rfl rfl ?_; exact ⟨_, rfl, rfl, hs⟩
theorem w2_sl (hE : ErrK ad g) (hcl : d.calls < 1000000) (hs : Mem g w (zBc p d :: cells b3 [.pointer (some ⟨p, 0, none⟩)] 25 :: cells b7 [.string (zC5 s)] 9 :: M)) {b : List UInt8} {k : Nat} {d2 : Dk} (hk : d.wstep s b 1 = (k, d2)) :
    Calls Tryz.prog 177 #[.pointer (some ⟨b3, 0, none⟩), .pointer (some ⟨b7, 0, none⟩)] w (Ret fun v w' => v = zAh ad k ∧ Mem g w' (zBc p d2 :: cells b3 [.pointer (some ⟨p, 0, none⟩)] 25 :: cells b7 [.string (zC5 s)] 9 :: M)) := by
  refine zAf Tryz.func177 rfl rfl ?_
  skip
  refine zA3 (zA1 ?_); refine zA rfl (zA0 (v := .nilIface) rfl) ?_; refine zA6 (zA3 (zA1 ?_)); refine zA rfl (zA7 uz25 rfl rfl (hs.cellAt 1 rfl rfl)) ?_; refine zA rfl (zA7 uz9 rfl rfl (hs.cellAt 2 rfl rfl)) ?_; refine zAb rfl en77 (create_sl hE hs hcl (zC5 s) hk) ?_; clear hs; rintro _ w ⟨rfl, hs⟩; refine zA rfl (zA0 (v := zAh ad _) rfl) ?_; refine zA6 ?_; refine zAc ?_; refine zBd (v := zAh ad _) rfl rfl ?_; exact ⟨_, rfl, rfl, hs⟩
theorem w3_sl (hE : ErrK ad g) (hcl : d.calls < 1000000) {a : Option Addr} {n c : Nat} (hs : Mem g w (zBc p d :: cells b3 [.pointer (some ⟨p, 0, none⟩)] 25 :: cells b7 [.string (zC5 s)] 9 :: cells b5 [.slice a n c] 22 :: M)) {b : List UInt8} (hr : Rd g M (.slice a n c) (zAm b)) (hn : n = b.length) (hlen : b.length ≤ 1000000) {k : Nat} {d2 : Dk} (hk : d.wstep s b 2 = (k, d2)) :
    Calls Tryz.prog 178 #[.pointer (some ⟨b3, 0, none⟩), .pointer (some ⟨b7, 0, none⟩), .pointer (some ⟨b5, 0, none⟩)] w (Ret fun v w' => v = zAh ad k ∧ Mem g w' (zBc p d2 :: cells b3 [.pointer (some ⟨p, 0, none⟩)] 25 :: cells b7 [.string (zC5 s)] 9 :: cells b5 [.slice a n c] 22 :: M)) := by
  refine zAf Tryz.func178 rfl rfl ?_
  skip
  refine zA3 (zA1 ?_); refine zA rfl (zA0 (v := .nilIface) rfl) ?_; refine zA6 ?_; refine zA3 ?_; refine zAp zBk hs.tail ?_; intro w tr hK; replace hs := tr _ hs; clear tr; refine zA5 0 rfl rfl (fun w hs => zA7 uz25 rfl rfl (hs.cellAt 0 rfl rfl)) hK ?_; refine zA5 1 rfl rfl (fun w hs => zA7 uz9 rfl rfl (hs.cellAt 1 rfl rfl)) hK ?_; refine zA5 2 rfl rfl (fun w hs => zA7 zCk rfl rfl (hs.cellAt 2 rfl rfl)) hK ?_; refine zAe [3] ?_; refine ⟨⟨_, rfl, ?_⟩, trivial⟩; refine zAb rfl en137 (seal_sl hs ((((hr.cons).cons).cons).cons) hn (by omega)) ?_; clear hs; rintro _ w ⟨a7, c7, rfl, hs⟩; clear hK; have hK := hs.tail.tail; refine zA6 ⟨hK, ?_⟩; refine zAe [4] ?_; refine ⟨⟨_, rfl, ?_⟩, trivial⟩
  refine zAb rfl en95 (append_sl (d := d) (L := own _ _ :: _) hE (hs.arr [1, 0] 2 (by decide)) hcl (zC5 s) (x := zBx b) (Rd.own 0 rfl) rfl (by rw [zCp]; omega) hk) ?_; clear hs; rintro _ w ⟨rfl, hs⟩; clear hK; have hK := hs.tail.tail; refine zA6 ⟨hK, ?_⟩; refine zA5 5 rfl rfl (fun w hs => zA0 (v := zAh ad _) rfl) hK ?_; refine zAr (by kernel_rfl) ?_; clear hK; refine zAc ?_; refine zBd (v := zAh ad _) rfl rfl ?_; exact ⟨_, rfl, rfl, hs.drop 1⟩
theorem w4_sl (hE : ErrK ad g) (hcl : d.calls < 1000000) (hs : Mem g w (zBc p d :: cells b3 [.pointer (some ⟨p, 0, none⟩)] 25 :: cells b7 [.string (zC5 s)] 9 :: M)) {b : List UInt8} {k : Nat} {d2 : Dk} (hk : d.wstep s b 3 = (k, d2)) :
    Calls Tryz.prog 179 #[.pointer (some ⟨b3, 0, none⟩), .pointer (some ⟨b7, 0, none⟩)] w (Ret fun v w' => v = zAh ad k ∧ Mem g w' (zBc p d2 :: cells b3 [.pointer (some ⟨p, 0, none⟩)] 25 :: cells b7 [.string (zC5 s)] 9 :: M)) := by
  refine zAf Tryz.func179 rfl rfl ?_
  skip
  refine zA3 (zA1 ?_); refine zA rfl (zA0 (v := .nilIface) rfl) ?_; refine zA6 (zA3 (zA1 ?_)); refine zA rfl (zA7 uz25 rfl rfl (hs.cellAt 1 rfl rfl)) ?_; refine zA rfl (zA7 uz9 rfl rfl (hs.cellAt 2 rfl rfl)) ?_; refine zAb rfl en96 (sync_sl hE hs hcl (zC5 s) hk) ?_; clear hs; rintro _ w ⟨rfl, hs⟩; refine zA rfl (zA0 (v := zAh ad _) rfl) ?_; refine zA6 ?_; refine zAc ?_; refine zBd (v := zAh ad _) rfl rfl ?_; exact ⟨_, rfl, rfl, hs⟩
theorem w5_sl (hE : ErrK ad g) (hcl : d.calls < 1000000) (hs : Mem g w (zBc p d :: cells b3 [.pointer (some ⟨p, 0, none⟩)] 25 :: cells b7 [.string (zC5 s)] 9 :: cells b4 [.string s] 9 :: M)) {b : List UInt8} {k : Nat} {d2 : Dk} (hk : d.wstep s b 4 = (k, d2)) :
    Calls Tryz.prog 180 #[.pointer (some ⟨b3, 0, none⟩), .pointer (some ⟨b7, 0, none⟩), .pointer (some ⟨b4, 0, none⟩)] w (Ret fun v w' => v = zAh ad k ∧ Mem g w' (zBc p d2 :: cells b3 [.pointer (some ⟨p, 0, none⟩)] 25 :: cells b7 [.string (zC5 s)] 9 :: cells b4 [.string s] 9 :: M)) := by
  refine zAf Tryz.func180 rfl rfl ?_
  skip
  refine zA3 (zA1 ?_); refine zA rfl (zA0 (v := .nilIface) rfl) ?_; refine zA6 (zA3 (zA1 ?_)); refine zA rfl (zA7 uz25 rfl rfl (hs.cellAt 1 rfl rfl)) ?_; refine zA rfl (zA7 uz9 rfl rfl (hs.cellAt 2 rfl rfl)) ?_; refine zA rfl (zA7 uz9 rfl rfl (hs.cellAt 3 rfl rfl)) ?_; refine zAb rfl en181 (rename_sl hE hs hcl (zC5 s) s hk) ?_; clear hs; rintro _ w ⟨rfl, hs⟩; refine zA rfl (zA0 (v := zAh ad _) rfl) ?_; refine zA6 ?_; refine zAc ?_; refine zBd (v := zAh ad _) rfl rfl ?_; exact ⟨_, rfl, rfl, hs⟩
end
theorem readR_len {n : ByteArray} {m : Nat} {c : Nat} {l : List UInt8} (h : d.readR n 0 (m : Int) = (c, l)) (hm : m ≤ 4194304) : l.length ≤ 4194304 := by
  unfold Dk.readR at h
  split at h
  · split at h
    · cases h; simp
    · cases h; simp; omega
  · cases h; simp
def stepsL (p b3 b7 b5 b4 : Nat) : List Value := [.func (.func 176) #[] #[.pointer (some ⟨b3, 0, none⟩), .pointer (some ⟨b7, 0, none⟩)], .func (.func 177) #[] #[.pointer (some ⟨b3, 0, none⟩), .pointer (some ⟨b7, 0, none⟩)], .func (.func 178) #[] #[.pointer (some ⟨b3, 0, none⟩), .pointer (some ⟨b7, 0, none⟩), .pointer (some ⟨b5, 0, none⟩)], .func (.func 179) #[] #[.pointer (some ⟨b3, 0, none⟩), .pointer (some ⟨b7, 0, none⟩)], .func (.func 180) #[] #[.pointer (some ⟨b3, 0, none⟩), .pointer (some ⟨b7, 0, none⟩), .pointer (some ⟨b4, 0, none⟩)], .func (.func 78) #[.pointer (some ⟨p, 0, none⟩)] #[]]
set_option maxRecDepth 100000 in
theorem write_sl (hE : ErrK ad g) (hcl : d.calls < 900000) (hs : Mem g w (zBc p d :: L)) (s : ByteArray) (hsl : s.size ≤ 1000000) {b : List UInt8} {a : Option Addr} {n c : Nat} (hr : Rd g L (.slice a n c) (zAm b)) (hn : n = b.length) (hlen : b.length ≤ 1000000) {k : Nat} {d2 : Dk} (hk : d.write s b = (k, d2)) :
    Calls Tryz.prog 141 #[.pointer (some ⟨p, 0, none⟩), .string s, .slice a n c] w (Ret fun v w' => v = zAh ad k ∧ Mem g w' (zBc p d2 :: L)) := by
  refine zAf Tryz.func141 rfl rfl ?_
  skip
  refine zA3 (zA1 ?_); refine zBh (v := .pointer (some _)) hs rfl rfl ?_; clear hs; intro b3 w hs
  try simp only [zzs, zzz] at hs
  refine zBh (v := .string _) hs rfl rfl ?_; clear hs; intro b4 w hs
  try simp only [zzs, zzz] at hs
  refine zBh (v := .slice _ _ _) hs rfl rfl ?_; clear hs; intro b5 w hs
  try simp only [zzs, zzz] at hs
  refine zA rfl (zA0 (v := .nilIface) rfl) ?_; refine zA6 (zA3 (zA1 ?_)); refine zA rfl (zA7 uz9 rfl rfl (hs.cellAt 1 rfl rfl)) ?_; refine zA rfl (zG6 (a := s) (b := ⟨#[46, 110, 101, 119]⟩) rfl rfl (by show s.size + 4 ≤ _; omega)) ?_; refine zBn hs rfl ze9 ?_; clear hs; intro b7 w hs
  try simp only [zzs, zzz] at hs
  refine zB5 (v := .string _) hs 0 rfl sz9 rfl rfl rfl rfl ?_; clear hs; intro w hs
  try simp only [zzs, zzz] at hs
  refine zA6 ?_; refine zA3 ?_; refine zA3 (zA1 ?_); refine zA rfl (zA7 uz9 rfl rfl (hs.cellAt 2 rfl rfl)) ?_; refine zAb rfl en89 (zFn hs s) ?_; clear hs; rintro _ w ⟨rfl, hs⟩; refine zA rfl (zBt rfl) ?_; refine zA rfl (zA2 (v := .bool _) rfl) ?_; refine zB0 (t := _) (d := 16) rfl ?_ ?_
  ·
   intro h14; replace h14 := zEu h14
   unfold Dk.write at hk
   rw [if_neg (fun e => by rw [h14] at e; cases e.1)] at hk
   cases hk
   refine zA9 rfl rfl rfl (zCd h14) ?_; refine zA9 rfl rfl rfl (zCd h14) ?_; refine zA9 rfl rfl rfl (zCd h14) ?_; refine zA rfl (zAk (v := .bool _) rfl (zCd h14) rfl) ?_; refine zA6 ?_; refine zB6 rfl rfl ?_; refine zA3 (zA1 ?_); refine zA rfl (zA7 zCe rfl rfl (hE.cellW hs 106 (by decide) rfl)) ?_; refine zA rfl (zA0 (v := zAh ad _) rfl) ?_; refine zA6 ?_; refine zAc ?_; refine zBd (v := zAh ad _) rfl rfl ?_; exact ⟨_, rfl, rfl, hs.suffix 4 rfl⟩
  ·
   intro h14; replace h14 := zE0 h14; refine zAi rfl rfl (zBj h14) ?_; refine zA rfl (zA7 uz9 rfl rfl (hs.cellAt 0 rfl rfl)) ?_; refine zAi rfl rfl (zBj h14) ?_; refine zAb rfl en89 (zFn hs (zC5 s)) ?_; clear hs; rintro _ w ⟨rfl, hs⟩; refine zAi rfl rfl (zBj h14) ?_; refine zA rfl (zBt rfl) ?_; refine zA rfl (zAg (v := .bool _) rfl (zBj h14) rfl) ?_; refine zA6 ?_; refine zB rfl ?_ ?_
   ·
    intro h18; replace h18 := zEu h18
    unfold Dk.write at hk
    rw [if_neg (fun e => by rw [h18] at e; cases e.2)] at hk
    cases hk
    refine zA3 (zA1 ?_); refine zA rfl (zA7 zCe rfl rfl (hE.cellW hs 106 (by decide) rfl)) ?_; refine zA rfl (zA0 (v := zAh ad _) rfl) ?_; refine zA6 ?_; refine zAc ?_; refine zBd (v := zAh ad _) rfl rfl ?_; exact ⟨_, rfl, rfl, hs.suffix 4 rfl⟩
   ·
    intro h18; replace h18 := zE0 h18
    unfold Dk.write at hk
    rw [if_pos ⟨h14, h18⟩] at hk; refine zAd ?_; refine zA3 ?_; refine zA3 (zA1 ?_); refine zA rfl (zC) ?_; refine zA rfl (zC) ?_; refine zA rfl (zC) ?_; refine zA rfl (zC) ?_; refine zA rfl (zC) ?_; refine zA rfl (zA7 uz25 rfl rfl (hs.cellAt 3 rfl rfl)) ?_; refine zA rfl (run_makeFuncB (fl := [.tmp 27]) (cl := [])) ?_; refine zB1 hs rfl ((stepsL p b3 b7 b5 b4)) uz260 zs122 rfl (by simp [stepsL, Value.cells]) rfl rfl rfl ?_; clear hs; intro b29 w hs
    try simp only [zzs, zzz] at hs
    replace hs := hs.arr [5, 4, 1, 2, 3, 0] 6 (by decide); refine zA rfl (zAt uz260 rfl) ?_; refine zA rfl (zA2 (v := .int .i64 _) rfl) ?_; refine zA6 ?_; refine zAo ?_; refine zBr (X := Nat × Dk) [6, 9, 10, 31, 32, 33, 34, 35, 36, 37, 38, 39, 40] (fun x => [(31, .int .i64 (x.1 : Nat))]) (fun x w => x.1 ≤ 6 ∧ x.2.calls ≤ d.calls + x.1 ∧ Dk.wrun s b (6 - x.1) x.1 x.2 = (k, d2) ∧ Mem g w (zBc p x.2 :: cells b3 [.pointer (some ⟨p, 0, none⟩)] 25 :: cells b7 [.string (zC5 s)] 9 :: cells b5 [.slice a n c] 22 :: cells b4 [.string s] 9 :: cells b29 (stepsL p b3 b7 b5 b4) 122 :: L)) (fun x => 6 - x.1) ((0, d)) ?_ ?_ ?_
    · exact ⟨rfl, trivial⟩
    · exact ⟨Nat.zero_le _, Nat.le_refl _, hk, hs⟩
    clear hs; rintro x ξ w hI; obtain ⟨i, dk⟩ := x; obtain ⟨hi6, hcl2, hrun, hs⟩ := hI; simp only at hi6 hcl2 hrun hs
    show cw _ _ _ _ _ _ (updL (mix _ ξ _) [(31, .int .i64 (i : Nat))]) w
    refine zA3 (zA1 ?_); refine zA rfl (zB9 rfl rfl) ?_; refine zA6 ?_; refine zA3 ?_; refine zB rfl ?_ ?_
    ·
     intro h32; have g32 := of_decide_eq_true h32; obtain ⟨ks, ds, hst⟩ : ∃ ks ds, dk.wstep s b i = (ks, ds) := ⟨_, _, rfl⟩
     have hr2 : (if (dk.wstep s b i).1 = 0 then Dk.wrun s b (5 - i) (i + 1) (dk.wstep s b i).2 else dk.wstep s b i) = (k, d2) := by rw [← hrun, show 6 - i = (5 - i) + 1 by omega]; rfl
     rw [hst] at hr2; simp only at hr2
     have hcs : ds.calls ≤ dk.calls + 1 := by have := dk.wstep_calls s b i; rw [hst] at this; exact this
     refine zAd ?_; refine zA3 ?_; refine zAo ?_; refine zA3 ?_
     obtain rfl | rfl | rfl | rfl | rfl | rfl : i = 0 ∨ i = 1 ∨ i = 2 ∨ i = 3 ∨ i = 4 ∨ i = 5 := by omega
     ·
      refine zA1 ?_; refine zA rfl (zBb uz260 sz122 rfl rfl rfl (by omega) rfl) ?_; refine zA rfl (zA7 uz122 rfl rfl (hs.cellAt 5 rfl rfl)) ?_; refine zA rfl (zA0 (v := .func _ _ _) rfl) ?_; refine zA6 (zA3 (zA1 ?_)); refine zA rfl (zA2 (v := .func _ _ _) rfl) ?_; refine zE7 rfl en176 rfl (w1_sl hE (by omega) hs hst) ?_; clear hs; rintro _ w ⟨rfl, hs⟩; refine zA rfl (zA0 (v := zAh ad _) rfl) ?_; refine zA6 (zA3 (zA1 ?_)); refine zA rfl (zA2 (v := zAh ad _) rfl) ?_; refine zA rfl (zAx (ad := ad) rfl) ?_; refine zA6 ?_; refine zB rfl ?_ ?_
      ·
       intro h38; have g38 := zEt h38
       have hz : ks ≠ 0 := by simpa using h38
       rw [if_neg hz] at hr2
       cases hr2
       refine zA3 (zA1 ?_); refine zA rfl (zA2 (v := zAh ad _) rfl) ?_; refine zA rfl (zA0 (v := zAh ad _) rfl) ?_; refine zA6 ?_; refine zAc ?_; refine zBd (v := zAh ad _) rfl rfl ?_; exact ⟨_, rfl, rfl, hs.arr [0] 6 (by decide)⟩
      ·
       intro h38; have g38 := zEs h38
       have hz : ks = 0 := by simpa using h38
       rw [if_pos hz] at hr2; refine zAd ?_; refine zA1 ?_; refine zA rfl (zAu rfl rfl rfl (inI (by omega) (by omega))) ?_; refine zA rfl (zA2 (v := .int .i64 _) rfl) ?_; refine zA6 ?_; exact ⟨(1, ds), by simp only; omega, ⟨by simp only; omega, by simp only; omega, hr2, hs⟩, ⟨rfl, trivial⟩, by repeat (first | exact Out.mix _ _ _ | refine Out.updo rfl ?_ | refine Out.upd rfl ?_ | refine Out.mixIn rfl ?_)⟩
     ·
      refine zA1 ?_; refine zA rfl (zBb uz260 sz122 rfl rfl rfl (by omega) rfl) ?_; refine zA rfl (zA7 uz122 rfl rfl (hs.cellAt 5 rfl rfl)) ?_; refine zA rfl (zA0 (v := .func _ _ _) rfl) ?_; refine zA6 (zA3 (zA1 ?_)); refine zA rfl (zA2 (v := .func _ _ _) rfl) ?_; refine zE7 rfl en177 rfl (w2_sl hE (by omega) hs hst) ?_; clear hs; rintro _ w ⟨rfl, hs⟩; refine zA rfl (zA0 (v := zAh ad _) rfl) ?_; refine zA6 (zA3 (zA1 ?_)); refine zA rfl (zA2 (v := zAh ad _) rfl) ?_; refine zA rfl (zAx (ad := ad) rfl) ?_; refine zA6 ?_; refine zB rfl ?_ ?_
      ·
       intro h38; have g38 := zEt h38
       have hz : ks ≠ 0 := by simpa using h38
       rw [if_neg hz] at hr2
       cases hr2
       refine zA3 (zA1 ?_); refine zA rfl (zA2 (v := zAh ad _) rfl) ?_; refine zA rfl (zA0 (v := zAh ad _) rfl) ?_; refine zA6 ?_; refine zAc ?_; refine zBd (v := zAh ad _) rfl rfl ?_; exact ⟨_, rfl, rfl, hs.arr [0] 6 (by decide)⟩
      ·
       intro h38; have g38 := zEs h38
       have hz : ks = 0 := by simpa using h38
       rw [if_pos hz] at hr2; refine zAd ?_; refine zA1 ?_; refine zA rfl (zAu rfl rfl rfl (inI (by omega) (by omega))) ?_; refine zA rfl (zA2 (v := .int .i64 _) rfl) ?_; refine zA6 ?_; exact ⟨(2, ds), by simp only; omega, ⟨by simp only; omega, by simp only; omega, hr2, hs⟩, ⟨rfl, trivial⟩, by repeat (first | exact Out.mix _ _ _ | refine Out.updo rfl ?_ | refine Out.upd rfl ?_ | refine Out.mixIn rfl ?_)⟩
     ·
      refine zA1 ?_; refine zA rfl (zBb uz260 sz122 rfl rfl rfl (by omega) rfl) ?_; refine zA rfl (zA7 uz122 rfl rfl (hs.cellAt 5 rfl rfl)) ?_; refine zA rfl (zA0 (v := .func _ _ _) rfl) ?_; refine zA6 (zA3 (zA1 ?_)); refine zA rfl (zA2 (v := .func _ _ _) rfl) ?_; refine zE7 rfl en178 rfl (w3_sl hE (by omega) hs ((hr.cons).cons) hn hlen hst) ?_; clear hs; rintro _ w ⟨rfl, hs⟩; refine zA rfl (zA0 (v := zAh ad _) rfl) ?_; refine zA6 (zA3 (zA1 ?_)); refine zA rfl (zA2 (v := zAh ad _) rfl) ?_; refine zA rfl (zAx (ad := ad) rfl) ?_; refine zA6 ?_; refine zB rfl ?_ ?_
      ·
       intro h38; have g38 := zEt h38
       have hz : ks ≠ 0 := by simpa using h38
       rw [if_neg hz] at hr2
       cases hr2
       refine zA3 (zA1 ?_); refine zA rfl (zA2 (v := zAh ad _) rfl) ?_; refine zA rfl (zA0 (v := zAh ad _) rfl) ?_; refine zA6 ?_; refine zAc ?_; refine zBd (v := zAh ad _) rfl rfl ?_; exact ⟨_, rfl, rfl, hs.arr [0] 6 (by decide)⟩
      ·
       intro h38; have g38 := zEs h38
       have hz : ks = 0 := by simpa using h38
       rw [if_pos hz] at hr2; refine zAd ?_; refine zA1 ?_; refine zA rfl (zAu rfl rfl rfl (inI (by omega) (by omega))) ?_; refine zA rfl (zA2 (v := .int .i64 _) rfl) ?_; refine zA6 ?_; exact ⟨(3, ds), by simp only; omega, ⟨by simp only; omega, by simp only; omega, hr2, hs⟩, ⟨rfl, trivial⟩, by repeat (first | exact Out.mix _ _ _ | refine Out.updo rfl ?_ | refine Out.upd rfl ?_ | refine Out.mixIn rfl ?_)⟩
     ·
      refine zA1 ?_; refine zA rfl (zBb uz260 sz122 rfl rfl rfl (by omega) rfl) ?_; refine zA rfl (zA7 uz122 rfl rfl (hs.cellAt 5 rfl rfl)) ?_; refine zA rfl (zA0 (v := .func _ _ _) rfl) ?_; refine zA6 (zA3 (zA1 ?_)); refine zA rfl (zA2 (v := .func _ _ _) rfl) ?_; refine zE7 rfl en179 rfl (w4_sl hE (by omega) hs hst) ?_; clear hs; rintro _ w ⟨rfl, hs⟩; refine zA rfl (zA0 (v := zAh ad _) rfl) ?_; refine zA6 (zA3 (zA1 ?_)); refine zA rfl (zA2 (v := zAh ad _) rfl) ?_; refine zA rfl (zAx (ad := ad) rfl) ?_; refine zA6 ?_; refine zB rfl ?_ ?_
      ·
       intro h38; have g38 := zEt h38
       have hz : ks ≠ 0 := by simpa using h38
       rw [if_neg hz] at hr2
       cases hr2
       refine zA3 (zA1 ?_); refine zA rfl (zA2 (v := zAh ad _) rfl) ?_; refine zA rfl (zA0 (v := zAh ad _) rfl) ?_; refine zA6 ?_; refine zAc ?_; refine zBd (v := zAh ad _) rfl rfl ?_; exact ⟨_, rfl, rfl, hs.arr [0] 6 (by decide)⟩
      ·
       intro h38; have g38 := zEs h38
       have hz : ks = 0 := by simpa using h38
       rw [if_pos hz] at hr2; refine zAd ?_; refine zA1 ?_; refine zA rfl (zAu rfl rfl rfl (inI (by omega) (by omega))) ?_; refine zA rfl (zA2 (v := .int .i64 _) rfl) ?_; refine zA6 ?_; exact ⟨(4, ds), by simp only; omega, ⟨by simp only; omega, by simp only; omega, hr2, hs⟩, ⟨rfl, trivial⟩, by repeat (first | exact Out.mix _ _ _ | refine Out.updo rfl ?_ | refine Out.upd rfl ?_ | refine Out.mixIn rfl ?_)⟩
     ·
      refine zA1 ?_; refine zA rfl (zBb uz260 sz122 rfl rfl rfl (by omega) rfl) ?_; refine zA rfl (zA7 uz122 rfl rfl (hs.cellAt 5 rfl rfl)) ?_; refine zA rfl (zA0 (v := .func _ _ _) rfl) ?_; refine zA6 (zA3 (zA1 ?_)); refine zA rfl (zA2 (v := .func _ _ _) rfl) ?_; refine zE7 rfl en180 rfl (w5_sl hE (by omega) (M := cells b5 [.slice a n c] 22 :: cells b29 (stepsL p b3 b7 b5 b4) 122 :: L) (hs.arr [0, 1, 2, 4, 3, 5] 6 (by decide)) hst) ?_; clear hs; rintro _ w ⟨rfl, hs⟩; replace hs := hs.arr [0, 1, 2, 4, 3, 5] 6 (by decide); refine zA rfl (zA0 (v := zAh ad _) rfl) ?_; refine zA6 (zA3 (zA1 ?_)); refine zA rfl (zA2 (v := zAh ad _) rfl) ?_; refine zA rfl (zAx (ad := ad) rfl) ?_; refine zA6 ?_
      refine zB rfl ?_ ?_
      ·
       intro h38; have g38 := zEt h38
       have hz : ks ≠ 0 := by simpa using h38
       rw [if_neg hz] at hr2
       cases hr2
       refine zA3 (zA1 ?_); refine zA rfl (zA2 (v := zAh ad _) rfl) ?_; refine zA rfl (zA0 (v := zAh ad _) rfl) ?_; refine zA6 ?_; refine zAc ?_; refine zBd (v := zAh ad _) rfl rfl ?_; exact ⟨_, rfl, rfl, hs.arr [0] 6 (by decide)⟩
      ·
       intro h38; have g38 := zEs h38
       have hz : ks = 0 := by simpa using h38
       rw [if_pos hz] at hr2; refine zAd ?_; refine zA1 ?_; refine zA rfl (zAu rfl rfl rfl (inI (by omega) (by omega))) ?_; refine zA rfl (zA2 (v := .int .i64 _) rfl) ?_; refine zA6 ?_; exact ⟨(5, ds), by simp only; omega, ⟨by simp only; omega, by simp only; omega, hr2, hs⟩, ⟨rfl, trivial⟩, by repeat (first | exact Out.mix _ _ _ | refine Out.updo rfl ?_ | refine Out.upd rfl ?_ | refine Out.mixIn rfl ?_)⟩
     ·
      refine zA1 ?_; refine zA rfl (zBb uz260 sz122 rfl rfl rfl (by omega) rfl) ?_; refine zA rfl (zA7 uz122 rfl rfl (hs.cellAt 5 rfl rfl)) ?_; refine zA rfl (zA0 (v := .func _ _ _) rfl) ?_; refine zA6 (zA3 (zA1 ?_)); refine zA rfl (zA2 (v := .func _ _ _) rfl) ?_; refine lw_callvB rfl en78 rfl (syncDir_sl hE hs (by omega) hst) ?_; clear hs; rintro _ w ⟨rfl, hs⟩; refine zA rfl (zA0 (v := zAh ad _) rfl) ?_; refine zA6 (zA3 (zA1 ?_)); refine zA rfl (zA2 (v := zAh ad _) rfl) ?_; refine zA rfl (zAx (ad := ad) rfl) ?_; refine zA6 ?_; refine zB rfl ?_ ?_
      ·
       intro h38; have g38 := zEt h38
       have hz : ks ≠ 0 := by simpa using h38
       rw [if_neg hz] at hr2
       cases hr2
       refine zA3 (zA1 ?_); refine zA rfl (zA2 (v := zAh ad _) rfl) ?_; refine zA rfl (zA0 (v := zAh ad _) rfl) ?_; refine zA6 ?_; refine zAc ?_; refine zBd (v := zAh ad _) rfl rfl ?_; exact ⟨_, rfl, rfl, hs.arr [0] 6 (by decide)⟩
      ·
       intro h38; have g38 := zEs h38
       have hz : ks = 0 := by simpa using h38
       rw [if_pos hz] at hr2; refine zAd ?_; refine zA1 ?_; refine zA rfl (zAu rfl rfl rfl (inI (by omega) (by omega))) ?_; refine zA rfl (zA2 (v := .int .i64 _) rfl) ?_; refine zA6 ?_; exact ⟨(6, ds), by simp only; omega, ⟨by simp only; omega, by simp only; omega, hr2, hs⟩, ⟨rfl, trivial⟩, by repeat (first | exact Out.mix _ _ _ | refine Out.updo rfl ?_ | refine Out.upd rfl ?_ | refine Out.mixIn rfl ?_)⟩
    ·
     intro h32; have g32 := of_decide_eq_false h32; refine zBp rfl ?_; refine zA3 (zA1 ?_); refine zA rfl (zA0 (v := .nilIface) rfl) ?_; refine zA6 ?_; refine zAc ?_; refine zBd (v := .nilIface) rfl rfl ?_
     obtain rfl : i = 6 := by omega
     cases hrun
     exact ⟨_, rfl, (zAz ad).symm, hs.arr [0] 6 (by decide)⟩
theorem pread_sl (hP : ErrP ad g) (hs : Mem g w (zBc p d :: L)) (s : ByteArray) {k : Nat} {b : List UInt8} (hk : d.pread s = (k, b)) : Calls Tryz.prog 91 #[.pointer (some ⟨p, 0, none⟩), .string s] w (Ret fun v w' => ∃ a c, v = .tuple #[.slice a b.length c, zAh ad k] ∧ Mem g w' (own (.slice a b.length c) (zAm b) :: zBc p d :: L)) := by
  have hE := hP.ofPoint; obtain ⟨ho, _⟩ := hs.openD; have hle := ho.lenR_le s; obtain ⟨kl, m, hl⟩ : ∃ kl m, d.lenR s = (kl, m) := ⟨_, _, rfl⟩; rw [hl] at hle; simp only at hle; obtain ⟨kr, x, hr⟩ : ∃ kr x, d.readR s 0 (m : Int) = (kr, x) := ⟨_, _, rfl⟩; simp only [Dk.pread, hl, hr] at hk; refine zAf Tryz.func91 rfl rfl ?_
  skip
  refine zA3 (zA1 ?_); refine zA rfl (zA0 (v := .slice _ _ _) rfl) ?_; refine zA rfl (zA0 (v := .nilIface) rfl) ?_; refine zA6 (zA3 (zA1 ?_)); refine zA rfl (zA2 (v := .pointer (some _)) rfl) ?_; refine zA rfl (zA2 (v := .string _) rfl) ?_; refine zAb rfl en76 (len_sl hE hs s hl) ?_; clear hs; rintro _ w ⟨rfl, hs⟩; refine zA rfl (zA2 (v := .tuple _) rfl) ?_; refine zA rfl (zAa (v := .int .i64 _) rfl rfl) ?_; refine zA rfl (zAa (v := zAh ad _) rfl rfl) ?_; refine zA rfl (zA0 (v := .int .i64 _) rfl) ?_; refine zA rfl (zA0 (v := zAh ad _) rfl) ?_; refine zA6 ?_; refine zA3 ?_; refine zA3 (zA1 ?_); refine zA rfl (zA2 (v := zAh ad _) rfl) ?_; refine zA rfl (zAx (ad := ad) rfl) ?_; refine zA6 ?_
  refine zB rfl ?_ ?_
  ·
   intro h16; have g16 := zEt h16
   have hz : kl ≠ 0 := by simpa using h16
   rw [if_pos hz] at hk
   cases hk
   refine zA3 (zA1 ?_); refine zA rfl (zA2 (v := zAh ad _) rfl) ?_; refine zA rfl (zA0 (v := .slice _ _ _) rfl) ?_; refine zA rfl (zA0 (v := zAh ad _) rfl) ?_; refine zA6 ?_; refine zAc ?_; refine zDz (v := .slice _ _ _) (v2 := zAh ad _) rfl rfl rfl ?_; exact ⟨_, rfl, none, 0, rfl, hs.addE (zD8 _)⟩
  ·
   intro h16; have g16 := zEs h16
   have hz : kl = 0 := by simpa using h16
   rw [if_neg (by omega)] at hk; refine zAd ?_; refine zA3 (zA1 ?_); refine zA rfl (zA2 (v := .pointer (some _)) rfl) ?_; refine zA rfl (zA2 (v := .string _) rfl) ?_; refine zA rfl (zA2 (v := .int .i64 _) rfl) ?_; refine zAb rfl en121 (read_sl hE hs s (off := 0) (m := m) (inI (by decide) (by decide)) (inI (by omega) (by omega)) hr) ?_; clear hs; rintro _ w ⟨ar, cr, rfl, hs⟩; refine zA rfl (zA2 (v := .tuple _) rfl) ?_; refine zA rfl (zAa (v := .slice _ _ _) rfl rfl) ?_; refine zA rfl (zAa (v := zAh ad _) rfl rfl) ?_; refine zA rfl (zA0 (v := .slice _ _ _) rfl) ?_; refine zA rfl (zA0 (v := zAh ad _) rfl) ?_; refine zA6 ?_; refine zA3 ?_; refine zA3 (zA1 ?_)
   refine zA rfl (zA2 (v := zAh ad _) rfl) ?_; refine zA rfl (zAx (ad := ad) rfl) ?_; refine zA6 ?_; refine zB rfl ?_ ?_
   ·
    intro h26; have g26 := zEt h26
    have hz2 : kr ≠ 0 := by simpa using h26
    rw [if_pos hz2] at hk
    cases hk
    refine zA3 (zA1 ?_); refine zA rfl (zA2 (v := zAh ad _) rfl) ?_; refine zA rfl (zA0 (v := .slice _ _ _) rfl) ?_; refine zA rfl (zA0 (v := zAh ad _) rfl) ?_; refine zA6 ?_; refine zAc ?_; refine zDz (v := .slice _ _ _) (v2 := zAh ad _) rfl rfl rfl ?_; exact ⟨_, rfl, none, 0, rfl, hs.tail.addE (zD8 _)⟩
   ·
    intro h26; have g26 := zEs h26
    have hz2 : kr = 0 := by simpa using h26
    rw [if_neg (by omega)] at hk; obtain ⟨_, hoc, _⟩ := hs.ownForm 0 rfl; have hxl : x.length ≤ 4194304 := readR_len hr hle; refine zAd ?_; refine zA3 (zA1 ?_); refine zA rfl (zA2 (v := .slice _ _ _) rfl) ?_; refine zAb rfl en130 (copen_sl hP hs (hs.rdOwn 0 rfl) rfl hoc (by omega) hk) ?_; clear hs; rintro _ w ⟨ao, co, rfl, hs⟩; refine zA rfl (zAa (v := .slice _ _ _) rfl rfl) ?_; refine zA rfl (zAa (v := zAh ad _) rfl rfl) ?_; refine zA rfl (zA0 (v := .slice _ _ _) rfl) ?_; refine zA rfl (zA0 (v := zAh ad _) rfl) ?_; refine zA6 ?_; refine zAc ?_; refine zDz (v := .slice _ _ _) (v2 := zAh ad _) rfl rfl rfl ?_; exact ⟨_, rfl, ao, co, rfl, hs.drop 1⟩
end
section
open Go.RowKit
attribute [local irreducible] zAh eV
variable {g w : World} {L M : List HP} {ad : Nat → Addr} {p d pv ev : Nat} {dk : Dk} {f : ByteArray → Option (List UInt8)} {V U : Vw} {q r c n : Nat} {b : List UInt8}
def mtN : ByteArray := ⟨#[109, 101, 116, 97]⟩
def snN : ByteArray := ⟨#[109, 101, 116, 97, 45, 115, 110, 97, 112]⟩
abbrev LgN : List ByteArray := [mtN, snN]
theorem mtN_valid : zBq mtN.data.toList = true := by decide +kernel
theorem mt_sn : mtN ≠ snN := by decide +kernel
def snapB (q : Nat) (V : Vw) : List UInt8 := zC4 q ++ vwB V
def Snp (f : ByteArray → Option (List UInt8)) (V : Vw) (q : Nat) : Prop := f snN = none ∧ V = [] ∧ q = 0 ∨ f snN = some (zBx (snapB q V))
theorem updF_self {s : ByteArray} {v : List UInt8} (h : f s = some v) : zEb f s v = f := by
  funext n
  unfold zEb
  split
  · rename_i e; rw [e, h]
  · rfl
def mlogCodes : List Nat := [101, 102, 103, 104, 105, 106, 107, 108, 109, 110, 112, 113]
abbrev ErrM (ad : Nat → Addr) (g : World) : Prop := Errs mlogCodes ad g.heap.size g
theorem Errs.toV (h : ErrM ad g) : ErrV ad g := Errs.sub h (fun c hc => by simp only [viewCodes, mlogCodes, List.mem_cons, List.not_mem_nil, or_false] at *; omega)
theorem Errs.toK (h : ErrM ad g) : ErrK ad g := Errs.sub h (fun c hc => by simp only [zF9, mlogCodes, List.mem_cons, List.not_mem_nil, or_false] at *; omega)
theorem Errs.toP (h : ErrM ad g) : ErrP ad g := Errs.sub h (fun c hc => by simp only [zFz, mlogCodes, List.mem_cons, List.not_mem_nil, or_false] at *; omega)
abbrev lgCells (d ev pv q c n : Nat) : List Value := [.pointer (some ⟨d, 0, none⟩), .int .i64 ev, .pointer (some ⟨pv, 0, none⟩), .int .i64 q, .int .i64 c, .int .i64 n]
abbrev lgP (p d ev pv q c n : Nat) : HP := cells p (lgCells d ev pv q c n) 126
def zDl (p d ev : Nat) (V : Vw) (q c n : Nat) : HP := ex fun pv : Nat => stars [lgP p d ev pv q c n, zFh pv V]
theorem Mem.openL (hs : Mem g w (zDl p d ev V q c n :: L)) : ∃ pv, Mem g w (lgP p d ev pv q c n :: zFh pv V :: L) := by
  obtain ⟨pv, h⟩ := hs.unex; exact ⟨pv, h.unstars⟩
theorem Mem.closeL (hs : Mem g w (lgP p d ev pv q c n :: zFh pv V :: L)) : Mem g w (zDl p d ev V q c n :: L) :=
  Mem.ex (f := fun pv : Nat => Go.Proofs.YthejaanobeonnaaGreatDoor.stars [lgP p d ev pv q c n, zFh pv V]) pv (Mem.stars (M := [lgP p d ev pv q c n, zFh pv V]) hs)
theorem seq_sl (hs : Mem g w (zDl p d ev V q c n :: L)) : Calls Tryz.prog 29 #[.pointer (some ⟨p, 0, none⟩)] w (Ret fun v w' => v = .int .i64 q ∧ Mem g w' (zDl p d ev V q c n :: L)) := by
  obtain ⟨pv, hs⟩ := hs.openL; refine zAf Tryz.func29 rfl rfl ?_
  skip
  refine zA3 (zA1 ?_); refine zA rfl (zA0 (v := .int .i64 _) rfl) ?_; refine zA6 (zA3 (zA1 ?_)); refine zA rfl (zA2 (v := .pointer (some _)) rfl) ?_; refine zA rfl (zA8 rfl) ?_; refine zA rfl (zA4 (o' := 3) zFc rfl sz2 rfl rfl rfl) ?_; refine zA rfl (zA7 uz2 rfl rfl (hs.cellAt 0 rfl rfl)) ?_; refine zA rfl (zA0 (v := .int .i64 _) rfl) ?_; refine zA6 ?_; refine zAc ?_; refine zBd (v := .int .i64 _) rfl rfl ?_; exact ⟨_, rfl, rfl, hs.closeL⟩
theorem zG4 (hs : Mem g w (zDl p d ev V q c n :: L)) : Calls Tryz.prog 19 #[.pointer (some ⟨p, 0, none⟩)] w (Ret fun v w' => ∃ u, v = .pointer (some ⟨u, 0, none⟩) ∧ Mem g w' (zFh u V :: zDl p d ev V q c n :: L)) := by
  obtain ⟨pv, hs⟩ := hs.openL; refine zAf Tryz.func19 rfl rfl ?_
  skip
  refine zA3 (zA1 ?_); refine zA rfl (zA0 (v := .pointer none) rfl) ?_; refine zA6 (zA3 (zA1 ?_)); refine zA rfl (zA2 (v := .pointer (some _)) rfl) ?_; refine zA rfl (zA8 rfl) ?_; refine zA rfl (zA4 (o' := 2) zFc rfl sz54 rfl rfl rfl) ?_; refine zA rfl (zA7 uz54 rfl rfl (hs.cellAt 0 rfl rfl)) ?_; refine zAb rfl en56 (cloneq_sl (hs.arr [1, 0] 2 (by decide))) ?_; clear hs; rintro _ w ⟨u, rfl, hs⟩; refine zA rfl (zA0 (v := .pointer (some _)) rfl) ?_; refine zA6 ?_; refine zAc ?_; refine zBd (v := .pointer (some _)) rfl rfl ?_; exact ⟨_, rfl, u, rfl, (Mem.closeL (hs.arr [2, 1, 0] 3 (by decide))).arr [1, 0] 2 (by decide)⟩
theorem snapNo_sl (hM : ErrM ad g) (hs : Mem g w (lgP p d ev pv 0 0 0 :: zFh pv [] :: zBc d dk :: L)) (hp : dk.pread snN = (107, [])) : Calls Tryz.prog 75 #[.pointer (some ⟨p, 0, none⟩)] w (Ret fun v w' => v = .nilIface ∧ Mem g w' (lgP p d ev pv 0 0 0 :: zFh pv [] :: zBc d dk :: L)) := by
  have hP := hM.toP; refine zAf Tryz.func75 rfl rfl ?_
  skip
  refine zA3 (zA1 ?_); refine zA rfl (zA0 (v := .nilIface) rfl) ?_; refine zA6 (zA3 (zA1 ?_)); refine zA rfl (zA2 (v := .pointer (some _)) rfl) ?_; refine zA rfl (zA8 rfl) ?_; refine zA rfl (zA4 (o' := 0) zFc rfl sz25 rfl rfl rfl) ?_; refine zA rfl (zA7 uz25 rfl rfl (hs.cellAt 0 rfl rfl)) ?_; refine zAb rfl en91 (pread_sl hP (hs.arr [2, 0, 1] 3 (by decide)) snN hp) ?_; clear hs; rintro _ w ⟨a11, c11, rfl, hs⟩; refine zA rfl (zA2 (v := .tuple _) rfl) ?_; refine zA rfl (zAa (v := .slice _ _ _) rfl rfl) ?_; refine zA rfl (zAa (v := zAh ad _) rfl rfl) ?_; refine zA rfl (zA0 (v := .slice _ _ _) rfl) ?_; refine zA rfl (zA0 (v := zAh ad _) rfl) ?_; refine zA6 ?_; refine zA3 ?_; refine zA3 (zA1 ?_)
  refine zA rfl (zA2 (v := zAh ad _) rfl) ?_; refine zA rfl (zA7 zCe rfl rfl (hP.cellW hs 107 (by decide) rfl)) ?_; refine zA rfl (zEq (hP.atW hs) (by decide) (by decide) rfl rfl) ?_; refine zA6 ?_; refine zB6 rfl (rfl) ?_; refine zA3 (zA1 ?_); refine zA rfl (zA0 (v := .nilIface) rfl) ?_; refine zA6 ?_; refine zAc ?_; refine zBd (v := .nilIface) rfl rfl ?_; exact ⟨_, rfl, rfl, hs.arr [2, 3, 1] 4 (by decide)⟩
abbrev LgI (f : ByteArray → Option (List UInt8)) (d : Dk) : Prop := RawI LgN 200000 f d
end
section
open Go.RowKit
attribute [local irreducible] zAh eV
variable {g w : World} {L M : List HP} {ad : Nat → Addr} {p d pv ev : Nat} {dk : Dk} {f : ByteArray → Option (List UInt8)} {V U : Vw} {q r c n : Nat} {b mb : List UInt8} {N : List ByteArray} {B : Nat}
theorem zFd (hs : Mem g w (zFh p V :: L)) (id : Int) : Calls Tryz.prog 20 #[.pointer (some ⟨p, 0, none⟩), .int .i64 id] w (Ret fun v w' => v = .int .i64 (V.state id) ∧ Mem g w' (zFh p V :: L)) := by
  obtain ⟨ho, U, hu, he, hs⟩ := hs.openQ; refine (state_sl hs id).mono ?_; rintro r w' ⟨v, rfl, rfl, h⟩; refine ⟨_, rfl, ?_, Mem.closeQ ho he h⟩; simp only [Vw.state, he id]
theorem entries0_sl (hM : ErrM ad g) (hI : RawI N B f dk) (hmt : mtN ∈ N) (hf : f mtN = some []) (hs : Mem g w (lgP p d ev pv 0 0 0 :: zFh pv V :: zBc d dk :: L)) :
    Calls Tryz.prog 79 #[.pointer (some ⟨p, 0, none⟩), .int .i64 ((0 : Nat) : Int)] w (Ret fun v w' => v = .nilIface ∧ Mem g w' (lgP p d ev pv 0 0 0 :: zFh pv V :: zBc d dk :: L)) := by
  have hK := hM.toK; refine zAf Tryz.func79 rfl rfl ?_
  skip
  refine zA3 (zA1 ?_); refine zA rfl (zA0 (v := .nilIface) rfl) ?_; refine zA6 (zA3 (zA1 ?_)); refine zA rfl (zA2 (v := .pointer (some _)) rfl) ?_; refine zA rfl (zA8 rfl) ?_; refine zA rfl (zA4 (o' := 0) zFc rfl sz25 rfl rfl rfl) ?_; refine zA rfl (zA7 uz25 rfl rfl (hs.cellAt 0 rfl rfl)) ?_; refine zA rfl (zA2 (v := .int .i64 _) rfl) ?_; refine zAb rfl en121 (read_sl hK (hs.arr [2, 0, 1] 3 (by decide)) mtN (off := 0) (m := ((0 : Nat) : Int)) (inI (by decide) (by decide)) (inI (by decide) (by decide)) (hI.readR hmt hf)) ?_; clear hs; rintro _ w ⟨a18, c18, rfl, hs⟩; rw [zAz]; refine zA rfl (zA2 (v := .tuple _) rfl) ?_; refine zA rfl (zAa (v := .slice _ _ _) rfl rfl) ?_
  refine zA rfl (zAa (v := .nilIface) rfl rfl) ?_; refine zA rfl (zA0 (v := .slice _ _ _) rfl) ?_; refine zA rfl (zA0 (v := .nilIface) rfl) ?_; refine zA6 ?_; refine zA3 ?_; refine zA3 (zA1 ?_); refine zA rfl (zA2 (v := .nilIface) rfl) ?_; refine zA rfl (zCg rfl) ?_; refine zA6 ?_; refine zB4 rfl (rfl) ?_; refine zAd ?_; refine zA3 ?_; refine zAo ?_
  refine zBr (X := Unit) [7, 8, 9, 10, 24, 25, 26, 27, 28, 29, 30, 31, 32, 33, 34, 35, 36, 37, 38, 39, 40, 41, 42, 43, 44, 45, 46, 47, 48, 49, 50, 51, 52, 53, 54, 55, 56, 57, 58, 59, 60, 61, 62, 63, 64, 65, 66, 67, 68, 69, 70, 71, 72, 73, 74, 75, 76, 77, 78, 79, 80, 81, 82, 83, 84, 85, 86, 87, 88, 89] (fun _ => []) (fun _ w => Mem g w (lgP p d ev pv 0 0 0 :: own (.slice a18 ([] : List UInt8).length c18) (zAm []) :: zBc d dk :: zFh pv V :: L)) (fun _ => 0) (()) ?_ ?_ ?_
  · exact trivial
  · exact hs.arr [2, 0, 1, 3] 4 (by decide)
  clear hs; rintro x ξ w hI; have hs := hI; refine zA3 ?_; refine zA3 (zA1 ?_); refine zA rfl (zA2 (v := .pointer (some _)) rfl) ?_; refine zA rfl (zA8 rfl) ?_; refine zA rfl (zA4 (o' := 5) zFc rfl sz3 rfl rfl rfl) ?_; refine zA rfl (zA7 uz3 rfl rfl (hs.cellAt 0 rfl rfl)) ?_; refine zA rfl (zA2 (v := .int .i64 _) rfl) ?_; refine zA rfl (zB9 rfl rfl) ?_; refine zA6 ?_; refine zB4 rfl (rfl) ?_; refine zBp rfl ?_; refine zA3 ?_; refine zA3 (zA1 ?_); refine zA rfl (zA2 (v := .pointer (some _)) rfl) ?_; refine zA rfl (zA8 rfl) ?_; refine zA rfl (zA4 (o' := 5) zFc rfl sz3 rfl rfl rfl) ?_; refine zA rfl (zA7 uz3 rfl rfl (hs.cellAt 0 rfl rfl)) ?_; refine zA rfl (zA2 (v := .int .i64 _) rfl) ?_
  refine zA rfl (zBo rfl rfl) ?_; refine zA6 ?_; refine zB6 rfl (rfl) ?_; refine zA3 (zA1 ?_); refine zA rfl (zA0 (v := .nilIface) rfl) ?_; refine zA6 ?_; refine zAc ?_; refine zBd (v := .nilIface) rfl rfl ?_; exact ⟨_, rfl, rfl, hs.arr [0, 3, 2] 4 (by decide)⟩
set_option maxHeartbeats 1000000 in
theorem openN_sl (hM : ErrM ad g) (hs : Mem g w (zBc d dk :: L)) (hI : RawI N B f dk) (hmt : mtN ∈ N) (hsn : snN ∈ N) (ha : dk.armed = 0) (hcl : dk.calls < 800000) (hev : 1 ≤ ev ∧ ev ≤ 4096) (hfn : f snN = none) (hfm : f mtN = none) :
    Calls Tryz.prog 40 #[.pointer (some ⟨d, 0, none⟩), .int .i64 (ev : Nat)] w (Ret fun v w' => ∃ p dk2, v = .tuple #[.pointer (some ⟨p, 0, none⟩), .nilIface] ∧ dk2.armed = 0 ∧ dk2.room = dk.room ∧ dk2.calls ≤ dk.calls + 2 ∧ RawI N B (zEb f mtN []) dk2 ∧ Mem g w' (zDl p d ev [] 0 0 0 :: zBc d dk2 :: L)) := by
  have hK := hM.toK
  have hll : dk.lenR mtN = (107, 0) := by rw [hI.lenR hmt, hfm]; rfl
  obtain ⟨e1, e2, hcr, hsd, hroom, harm, hc1, hc2, hI2⟩ := hI.make ha hmt hfm mtN_valid; refine zAf Tryz.func40 rfl rfl ?_
  skip
  refine zA3 (zA1 ?_); refine zA rfl (zA0 (v := .pointer none) rfl) ?_; refine zA rfl (zA0 (v := .nilIface) rfl) ?_; refine zA6 ?_; refine zA3 ?_; refine zA3 (zA1 ?_); refine zA rfl (zA2 (v := .int .i64 _) rfl) ?_; refine zA rfl (zB9 rfl rfl) ?_; refine zA rfl (zA2 (v := .bool _) rfl) ?_; refine zAi rfl rfl (decide_eq_false (by omega)) ?_; refine zA rfl (zA2 (v := .int .i64 _) rfl) ?_; refine zAi rfl rfl (decide_eq_false (by omega)) ?_; refine zA rfl (zBl rfl rfl) ?_; refine zA rfl (zAg (v := .bool _) rfl (decide_eq_false (by omega)) rfl) ?_; refine zA6 ?_; refine zB4 rfl (decide_eq_false (by omega)) ?_; refine zAd ?_; refine zA3 (zA1 ?_); refine zA rfl (zA2 (v := .pointer (some _)) rfl) ?_
  refine zA rfl (zA2 (v := .int .i64 _) rfl) ?_; refine zAb rfl en74 (newq_sl hs) ?_; clear hs; rintro _ w ⟨pv, rfl, hs⟩; refine zA rfl (zBs (cs := [.pointer (some ⟨d, 0, none⟩), .int .i64 (ev : Nat), .pointer (some ⟨pv, 0, none⟩), .int .i64 ((0 : Nat) : Int), .int .i64 ((0 : Nat) : Int), .int .i64 ((0 : Nat) : Int)]) zFc ze126 pl126 rfl) ?_; refine zBh (v := .agg _) hs rfl rfl ?_; clear hs; intro b21 w hs
  try simp only [zzs, zzz] at hs
  refine zA rfl (zA0 (v := .pointer (some _)) rfl) ?_; refine zA6 ?_; replace hs : Mem g w (lgP b21 d ev pv 0 0 0 :: zFh pv [] :: zBc d dk :: L) := hs; refine zA3 ?_; refine zA3 (zA1 ?_); refine zA rfl (zA2 (v := .pointer (some _)) rfl) ?_; refine zAb rfl en75 (snapNo_sl hM hs (hI.pread_none hsn hfn)) ?_; clear hs; rintro _ w ⟨rfl, hs⟩; refine zA rfl (zA0 (v := .nilIface) rfl) ?_; refine zA6 (zA3 (zA1 ?_)); refine zA rfl (zA2 (v := .nilIface) rfl) ?_; refine zA rfl (zCg rfl) ?_; refine zA6 ?_; refine zB4 rfl (rfl) ?_; refine zAd ?_; refine zA3 (zA1 ?_); refine zA rfl (zA2 (v := .pointer (some _)) rfl) ?_; refine zAb rfl en76 (len_sl hM.toK (hs.arr [2, 0, 1] 3 (by decide)) mtN hll) ?_
  clear hs; rintro _ w ⟨rfl, hs⟩; refine zA rfl (zA2 (v := .tuple _) rfl) ?_; refine zA rfl (zAa (v := .int .i64 _) rfl rfl) ?_; refine zA rfl (zAa (v := zAh ad _) rfl rfl) ?_; refine zA rfl (zA0 (v := .int .i64 _) rfl) ?_; refine zA rfl (zA0 (v := zAh ad _) rfl) ?_; refine zA6 ?_; refine zA3 ?_; refine zA3 (zA1 ?_); refine zA rfl (zA2 (v := zAh ad _) rfl) ?_; refine zA rfl (zA7 zCe rfl rfl (hK.cellW hs 107 (by decide) rfl)) ?_; refine zA rfl (zEq (hK.atW hs) (by decide) (by decide) rfl rfl) ?_; refine zA6 ?_; refine zB6 rfl (rfl) ?_; refine zA3 (zA1 ?_); refine zA rfl (zA2 (v := .pointer (some _)) rfl) ?_; refine zAb rfl en77 (create_sl hM.toK hs (by omega) mtN hcr) ?_; clear hs
  rintro _ w ⟨rfl, hs⟩; refine zA rfl (zA0 (v := zAh ad _) rfl) ?_; refine zA6 (zA3 (zA1 ?_)); refine zA rfl (zA2 (v := zAh ad _) rfl) ?_; refine zA rfl (zDe (ad := ad) rfl) ?_; refine zA6 ?_; refine zB6 rfl (rfl) ?_; refine zA1 ?_; refine zA rfl (zA2 (v := .pointer (some _)) rfl) ?_; refine zAb rfl en78 (syncDir_sl hM.toK hs (by omega) hsd) ?_; clear hs; rintro _ w ⟨rfl, hs⟩; have hI3 := hI2 (hs.openD).1; refine zA rfl (zA0 (v := zAh ad _) rfl) ?_; refine zA6 ?_; refine zA3 ?_; refine zA3 (zA1 ?_); refine zA rfl (zA2 (v := zAh ad _) rfl) ?_; refine zA rfl (zAx (ad := ad) rfl) ?_; refine zA6 ?_; refine zB4 rfl (rfl) ?_; refine zAd ?_; refine zA3 ?_; refine zA3 (zA1 ?_)
  refine zA rfl (zA2 (v := .pointer (some _)) rfl) ?_; refine zA rfl (zA2 (v := .int .i64 _) rfl) ?_; refine zAb rfl en79 (entries0_sl hM hI3 hmt (updF_same _ _ _) (hs.arr [1, 2, 0] 3 (by decide))) ?_; clear hs; rintro _ w ⟨rfl, hs⟩; refine zA rfl (zA0 (v := .nilIface) rfl) ?_; refine zA6 (zA3 (zA1 ?_)); refine zA rfl (zA2 (v := .nilIface) rfl) ?_; refine zA rfl (zCg rfl) ?_; refine zA6 ?_; refine zB4 rfl (rfl) ?_; refine zAd ?_; refine zA3 (zA1 ?_); refine zA rfl (zA2 (v := .pointer (some _)) rfl) ?_; refine zA rfl (zA0 (v := .pointer (some _)) rfl) ?_; refine zA rfl (zA0 (v := .nilIface) rfl) ?_; refine zA6 ?_; refine zAc ?_
  refine zDz (v := .pointer (some _)) (v2 := .nilIface) rfl rfl rfl ?_; exact ⟨_, rfl, _, e2, rfl, harm, hroom, by omega, hI3, hs.closeL⟩
def AppN (N : List ByteArray) (B : Nat) (f : ByteArray → Option (List UInt8)) (dk : Dk) (V V1 : Vw) (q c : Nat) (mb fr : List UInt8) (k : Nat) (dk2 : Dk) (V' : Vw) (q' c' n' : Nat) : Prop :=
  dk2.room = dk.room ∧ dk2.calls ≤ dk.calls + 9 ∧
  (k = 0 ∧ dk2.down = false ∧ (dk.armed = 0 → dk2.armed = 0) ∧ V' = V1 ∧ q' = q + 1 ∧ c' = c + 1 ∧ n' = mb.length + fr.length ∧ RawI N B (zEb f mtN (mb ++ fr)) dk2 ∨
   k = 110 ∧ dk2.down = true ∧ dk.armed ≠ 0 ∧ V' = V ∧ q' = q ∧ c' = c ∧ n' = mb.length ∧ ∀ picks, ∃ j, RawI N B (zEb f mtN (mb ++ fr.take j)) (dk2.crash picks))
set_option maxHeartbeats 2000000 in
theorem appN_sl (hM : ErrM ad g) (hs : Mem g w (zDl p d ev V q c n :: zBc d dk :: L)) (hI : RawI N B f dk) (hmt : mtN ∈ N) (hB : B ≤ 200000) (hf : f mtN = some mb) (hn : n = mb.length) (hcl : dk.calls < 900000) (hr : 2 * N.length * B + B ≤ dk.room) (hq : q < 1000000) (hc : c + 1 < ev) (hev : ev ≤ 4096) {k : Int} {x : Mf} {e o : SA} (hb : mb.length + (frame (q + 1) (k, x)).length ≤ B) (hm : MfR g L x e o) (hob : x.obs.length ≤ 1000000) (hsu : ∀ o ∈ x.obs, o.2.2 < 4294967296) (hap : (V.apply k x).1 = (0, none)) :
    Calls Tryz.prog 52 #[.pointer (some ⟨p, 0, none⟩), .agg (.int .i64 k :: mfL x e o).toArray] w (Ret fun v w' => ∃ kr dk2 V' q' c' n', v = zAh ad kr ∧ AppN N B f dk V (V.apply k x).2 q c mb (frame (q + 1) (k, x)) kr dk2 V' q' c' n' ∧ Mem g w' (zDl p d ev V' q' c' n' :: zBc d dk2 :: L)) := by
  subst hn; have hK := hM.toK; obtain ⟨pv, hs⟩ := hs.openL; have hen := Vw.apply_en hap; have hok : EnOk (k, x) := ⟨hen.1, hen.2.1, hen.2.2, hsu⟩; obtain ⟨fr, hfr⟩ : ∃ fr, fr = frame (q + 1) (k, x) := ⟨_, rfl⟩; rw [← hfr] at hb; obtain ⟨V1, hV1⟩ : ∃ V1, V1 = (V.apply k x).2 := ⟨_, rfl⟩; obtain ⟨ka, da, hap1, har, hac, hacase⟩ := hI.grow hmt hf (x := fr) hb hr; refine zAf Tryz.func52 rfl rfl ?_
  skip
  refine zA3 (zA1 ?_); refine zBh (v := .agg _) hs rfl rfl ?_; clear hs; intro b3 w hs
  try simp only [zzs, zzz] at hs
  refine zA rfl (zA0 (v := .nilIface) rfl) ?_; refine zA6 (zA3 (zA1 ?_)); refine zA rfl (zA2 (v := .pointer (some _)) rfl) ?_; refine zA rfl (zA8 rfl) ?_; refine zA rfl (zA4 (o' := 2) zFc rfl sz54 rfl rfl rfl) ?_; refine zA rfl (zA7 uz54 rfl rfl (hs.cellAt 1 rfl rfl)) ?_; refine zAb rfl en56 (cloneq_sl (hs.arr [2, 0, 1, 3] 4 (by decide))) ?_; clear hs; rintro _ w ⟨u, rfl, hs⟩; refine zA rfl (zA0 (v := .pointer (some _)) rfl) ?_; refine zA6 ?_; refine zA3 ?_; refine zA3 (zA1 ?_); refine zA rfl (zA2 (v := .pointer (some _)) rfl) ?_; refine zA rfl (zBa hs 2 rfl zF0 sz121 rfl) ?_; refine zAb rfl en93 (applyq_sl hM.toV hs k hm.cons.cons.cons.cons hob) ?_; clear hs; rintro _ w ⟨eb, rfl, hs⟩
  rw [hap] at hs ⊢; replace hs := hs.tail; rw [← hV1] at hs ⊢; refine zA rfl (zA0 (v := zAh ad _) rfl) ?_; refine zA6 (zA3 (zA1 ?_)); refine zA rfl (zA2 (v := zAh ad _) rfl) ?_; refine zA rfl (zAx (ad := ad) rfl) ?_; refine zA6 ?_; refine zB4 rfl (rfl) ?_; refine zAd ?_; refine zA3 ?_; refine zA3 (zA1 ?_); refine zA rfl (zA2 (v := .pointer (some _)) rfl) ?_; refine zA rfl (zA8 rfl) ?_; refine zA rfl (zA4 (o' := 3) zFc rfl sz2 rfl rfl rfl) ?_; refine zA rfl (zA7 uz2 rfl rfl (hs.cellAt 3 rfl rfl)) ?_; refine zA rfl (zBo rfl rfl) ?_; refine zA6 ?_; refine zB4 rfl (decide_eq_false (by omega)) ?_; refine zAd ?_; refine zA3 ?_; refine zAp zBk hs ?_; intro w tr hK; replace hs := tr _ hs; clear tr
  refine zA5 0 rfl rfl (fun w hs => zA2 (v := .pointer (some _)) rfl) hK ?_; refine zA5 1 rfl rfl (fun w hs => zA8 rfl) hK ?_; refine zA5 2 rfl rfl (fun w hs => zA4 (o' := 3) zFc rfl sz2 rfl rfl rfl) hK ?_; refine zA5 3 rfl rfl (fun w hs => zA7 uz2 rfl rfl (hs.cellAt 3 rfl rfl)) hK ?_; refine zA5 4 rfl rfl (fun w hs => zAu rfl rfl (c := ((q + 1 : Nat) : Int)) (by omega) (inI (by omega) (by omega))) hK ?_; refine zA5 5 rfl rfl (fun w hs => zBa hs 2 rfl zF0 sz121 rfl) hK ?_; refine zAe [6] ?_; refine ⟨⟨_, rfl, ?_⟩, trivial⟩; refine zAb rfl en94 (enBytes_sl hM.toV hs (q := q + 1) (by omega) hm.cons.cons.cons.cons.cons hok) ?_; clear hs; rintro _ w ⟨s33, rfl, hs⟩; rw [← hfr] at hs ⊢; clear hK
  have hK := hs.tail; refine zA6 ⟨hK, ?_⟩; refine zA5 7 rfl rfl (fun w hs => zA2 (v := .tuple _) rfl) hK ?_; refine zA5 8 rfl rfl (fun w hs => zAa (v := .slice _ _ _) rfl rfl) hK ?_; refine zA5 9 rfl rfl (fun w hs => zAa (v := .nilIface) rfl rfl) hK ?_; refine zA5 10 rfl rfl (fun w hs => zA0 (v := .slice _ _ _) rfl) hK ?_; refine zA5 11 rfl rfl (fun w hs => zA0 (v := .nilIface) rfl) hK ?_; refine zAr (by kernel_rfl) ?_; clear hK; refine zA3 ?_; refine zA3 (zA1 ?_); refine zA rfl (zA2 (v := .nilIface) rfl) ?_; refine zA rfl (zCg rfl) ?_; refine zA6 ?_; refine zB4 rfl (rfl) ?_; refine zAd ?_; refine zA3 (zA1 ?_); refine zA rfl (zA2 (v := .pointer (some _)) rfl) ?_; refine zA rfl (zA8 rfl) ?_
  refine zA rfl (zA4 (o' := 0) zFc rfl sz25 rfl rfl rfl) ?_; refine zA rfl (zA7 uz25 rfl rfl (hs.cellAt 4 rfl rfl)) ?_; refine zA rfl (zA2 (v := .slice _ _ _) rfl) ?_; refine zAb rfl en95 (append_sl hM.toK (hs.arr [5, 0, 1, 2, 3, 4] 6 (by decide)) (by omega) mtN (x := fr) (Rd.own 0 rfl) rfl (by omega) hap1) ?_; clear hs; rintro _ w ⟨rfl, hs⟩; refine zA rfl (zA0 (v := zAh ad _) rfl) ?_; refine zA6 ?_; refine zA3 ?_; refine zA3 ?_
  obtain ⟨rfl, hdn, hne, hcr⟩ | ⟨rfl, hup, k2, d2, hsy, hsr, hsc, hscase⟩ := hacase
  ·
   refine zA1 ?_; refine zA rfl (zA2 (v := zAh ad _) rfl) ?_; refine zA rfl (zDe (ad := ad) rfl) ?_; refine zA6 ?_; refine zB4 rfl (rfl) ?_; refine zAd ?_; refine zA3 ?_; refine zA3 (zA1 ?_); refine zA rfl (zA2 (v := zAh ad _) rfl) ?_; refine zA rfl (zAx (ad := ad) rfl) ?_; refine zA6 ?_; refine zB6 rfl (rfl) ?_; refine zA3 (zA1 ?_); refine zA rfl (zA2 (v := zAh ad _) rfl) ?_; refine zA rfl (zA0 (v := zAh ad _) rfl) ?_; refine zA6 ?_; refine zAc ?_; refine zBd (v := zAh ad _) rfl rfl ?_
   exact ⟨_, rfl, 110, da, V, q, c, mb.length, rfl, ⟨har, by omega, .inr ⟨rfl, hdn, hne, rfl, rfl, rfl, rfl, fun picks => ⟨0, by rw [List.take_zero, List.append_nil, updF_self hf]; exact hcr (hs.openD).1 picks⟩⟩⟩, Mem.closeL (hs.arr [5, 3, 0] 6 (by decide))⟩
  ·
   refine zA1 ?_; refine zA rfl (zA2 (v := zAh ad _) rfl) ?_; refine zA rfl (zDe (ad := ad) rfl) ?_; refine zA6 ?_; refine zB6 rfl (rfl) ?_; refine zA3 (zA1 ?_); refine zA rfl (zA2 (v := .pointer (some _)) rfl) ?_; refine zA rfl (zA8 rfl) ?_; refine zA rfl (zA4 (o' := 0) zFc rfl sz25 rfl rfl rfl) ?_; refine zA rfl (zA7 uz25 rfl rfl (hs.cellAt 5 rfl rfl)) ?_; refine zAb rfl en96 (sync_sl hM.toK hs (by omega) mtN hsy) ?_; clear hs; rintro _ w ⟨rfl, hs⟩; refine zA rfl (zA0 (v := zAh ad _) rfl) ?_; refine zA6 ?_; refine zA3 ?_
   obtain ⟨rfl, hup2, har2, hI2⟩ | ⟨rfl, hdn2, hne2, hcr2⟩ := hscase
   ·
    refine zA1 ?_; refine zA rfl (zA2 (v := zAh ad _) rfl) ?_; refine zA rfl (zAx (ad := ad) rfl) ?_; refine zA6 ?_; refine zB4 rfl (rfl) ?_; refine zAd ?_; refine zA3 ?_; refine zA3 (zA1 ?_); refine zA rfl (zA2 (v := zAh ad _) rfl) ?_; refine zA rfl (zAx (ad := ad) rfl) ?_; refine zA6 ?_; refine zB4 rfl (rfl) ?_; refine zAd ?_; refine zA3 ?_; have hI3 := hI2 (hs.openD).1; refine zAp zBk (hs.drop 5) ?_; intro w tr hK; replace hs := tr _ hs; clear tr; refine zA5 0 rfl rfl (fun w hs => zA2 (v := .pointer (some _)) rfl) hK ?_; refine zA5 1 rfl rfl (fun w hs => zA2 (v := .pointer (some _)) rfl) hK ?_; refine zA5 2 rfl rfl (fun w hs => zA2 (v := .pointer (some _)) rfl) hK ?_
    refine zA5 3 rfl rfl (fun w hs => zA2 (v := .pointer (some _)) rfl) hK ?_; refine zA5 4 rfl rfl (fun w hs => zA2 (v := .pointer (some _)) rfl) hK ?_; refine zA5 5 rfl rfl (fun w hs => zA8 rfl) hK ?_; refine zA5 6 rfl rfl (fun w hs => zA4 (o' := 3) zFc rfl sz2 rfl rfl rfl) hK ?_; refine zA5 9 rfl rfl (fun w hs => zA2 (v := .pointer (some _)) rfl) hK ?_; refine zA5 10 rfl rfl (fun w hs => zA8 rfl) hK ?_; refine zA5 11 rfl rfl (fun w hs => zA4 (o' := 5) zFc rfl sz3 rfl rfl rfl) hK ?_; refine zA5 13 rfl rfl (fun w hs => zA2 (v := .slice _ _ _) rfl) hK ?_; refine zA5 14 rfl rfl (fun w hs => zAt zCk rfl) hK ?_; refine zAe [7, 12] ?_; refine ⟨⟨_, rfl, ?_⟩, ⟨_, rfl, ?_⟩, trivial⟩
    refine zA rfl (zA7 uz2 rfl rfl (hs.cellAt 5 rfl rfl)) ?_; clear hK; have hK := hs.drop 5; refine zA6 ⟨hK, ?_⟩; refine zA5 8 rfl rfl (fun w hs => zAu rfl rfl (c := ((q + 1 : Nat) : Int)) (by omega) (inI (by omega) (by omega))) hK ?_; refine zAe [12] ?_; refine ⟨⟨_, rfl, ?_⟩, trivial⟩; refine zA rfl (zA7 uz3 rfl rfl (hs.cellAt 5 rfl rfl)) ?_; clear hK; have hK := hs.drop 5; refine zA6 ⟨hK, ?_⟩; refine zA5 15 rfl rfl (fun w hs => zAu rfl rfl (c := ((mb.length + fr.length : Nat) : Int)) (by omega) (inI (by omega) (by omega))) hK ?_
    rotate_left
    refine zA rfl (zA7 uz3 rfl rfl (hs.cellAt 5 rfl rfl)) ?_; clear hK; have hK := hs.drop 5; refine zA6 ⟨hK, ?_⟩; refine zA5 15 rfl rfl (fun w hs => zAu rfl rfl (c := ((mb.length + fr.length : Nat) : Int)) (by omega) (inI (by omega) (by omega))) hK ?_; refine zAe [7] ?_; refine ⟨⟨_, rfl, ?_⟩, trivial⟩; refine zA rfl (zA7 uz2 rfl rfl (hs.cellAt 5 rfl rfl)) ?_; clear hK; have hK := hs.drop 5; refine zA6 ⟨hK, ?_⟩; refine zA5 8 rfl rfl (fun w hs => zAu rfl rfl (c := ((q + 1 : Nat) : Int)) (by omega) (inI (by omega) (by omega))) hK ?_
    rotate_left
    all_goals
     refine zA5 16 rfl rfl (fun w hs => zA8 rfl) hK ?_; refine zA5 17 rfl rfl (fun w hs => zA4 (o' := 2) zFc rfl sz54 rfl rfl rfl) hK ?_; refine zAe [18] ?_; refine ⟨⟨_, rfl, ?_⟩, trivial⟩; refine zB5 (v := .pointer (some _)) hs 5 rfl sz54 rfl rfl rfl rfl ?_; clear hs; intro w hs
     try simp only [zzs, zzz] at hs
     clear hK; have hK := hs.drop 5; refine zA6 ⟨hK, ?_⟩; refine zA5 19 rfl rfl (fun w hs => zA8 rfl) hK ?_; refine zA5 20 rfl rfl (fun w hs => zA4 (o' := 3) zFc rfl sz2 rfl rfl rfl) hK ?_; refine zAe [21] ?_; refine ⟨⟨_, rfl, ?_⟩, trivial⟩; refine zB5 (v := .int .i64 _) hs 5 rfl sz2 rfl rfl rfl rfl ?_; clear hs; intro w hs
     try simp only [zzs, zzz] at hs
     clear hK; have hK := hs.drop 5; refine zA6 ⟨hK, ?_⟩; refine zA5 22 rfl rfl (fun w hs => zA8 rfl) hK ?_; refine zA5 23 rfl rfl (fun w hs => zA4 (o' := 5) zFc rfl sz3 rfl rfl rfl) hK ?_; refine zAe [24] ?_; refine ⟨⟨_, rfl, ?_⟩, trivial⟩; refine zB5 (v := .int .i64 _) hs 5 rfl sz3 rfl rfl rfl rfl ?_; clear hs; intro w hs
     try simp only [zzs, zzz] at hs
     clear hK; have hK := hs.drop 5; refine zA6 ⟨hK, ?_⟩; refine zAr (by kernel_rfl) ?_; clear hK; refine zA3 ?_; refine zA3 (zA1 ?_); refine zA rfl (zA2 (v := .pointer (some _)) rfl) ?_; refine zA rfl (zA8 rfl) ?_; refine zA rfl (zA4 (o' := 4) zFc rfl sz3 rfl rfl rfl) ?_; refine zA rfl (zA7 uz3 rfl rfl (hs.cellAt 5 rfl rfl)) ?_; refine zA rfl (zAu rfl rfl (c := ((c + 1 : Nat) : Int)) (by omega) (inI (by omega) (by omega))) ?_; refine zA rfl (zA8 rfl) ?_; refine zA rfl (zA4 (o' := 4) zFc rfl sz3 rfl rfl rfl) ?_; refine zB5 (v := .int .i64 _) hs 5 rfl sz3 rfl rfl rfl rfl ?_; clear hs; intro w hs
     try simp only [zzs, zzz] at hs
     refine zA6 ?_; refine zA3 ?_; refine zAp zBk hs ?_; intro w tr hK; replace hs := tr _ hs; clear tr; refine zA5 0 rfl rfl (fun w hs => zA2 (v := .pointer (some _)) rfl) hK ?_; refine zA5 1 rfl rfl (fun w hs => zA8 rfl) hK ?_; refine zA5 2 rfl rfl (fun w hs => zA4 (o' := 4) zFc rfl sz3 rfl rfl rfl) hK ?_; refine zA5 3 rfl rfl (fun w hs => zA7 uz3 rfl rfl (hs.cellAt 5 rfl rfl)) hK ?_; refine zA5 4 rfl rfl (fun w hs => zA2 (v := .pointer (some _)) rfl) hK ?_; refine zA5 5 rfl rfl (fun w hs => zA8 rfl) hK ?_; refine zA5 6 rfl rfl (fun w hs => zA4 (o' := 1) zFc rfl sz3 rfl rfl rfl) hK ?_; refine zA5 7 rfl rfl (fun w hs => zA7 uz3 rfl rfl (hs.cellAt 5 rfl rfl)) hK ?_
     refine zA5 8 rfl rfl (fun w hs => zCw rfl rfl) hK ?_; refine zAr (by kernel_rfl) ?_; clear hK; refine zB4 rfl (decide_eq_false (by omega)) ?_; refine zAd ?_; refine zA3 (zA1 ?_); refine zA rfl (zA0 (v := .nilIface) rfl) ?_; refine zA6 ?_; refine zAc ?_; refine zBd (v := .nilIface) rfl rfl ?_; exact ⟨_, rfl, 0, d2, V1, q + 1, c + 1, mb.length + fr.length, (zAz ad).symm, ⟨hsr, by omega, .inl ⟨rfl, hup2, har2, rfl, rfl, rfl, rfl, hI3⟩⟩, Mem.closeL (hs.arr [5, 2, 0] 6 (by decide))⟩
   ·
    refine zA1 ?_; refine zA rfl (zA2 (v := zAh ad _) rfl) ?_; refine zA rfl (zAx (ad := ad) rfl) ?_; refine zA6 ?_; refine zB6 rfl (rfl) ?_; refine zAp zBk (hs.drop 0) ?_; intro w tr hK; replace hs := tr _ hs; clear tr; refine zA5 0 rfl rfl (fun w hs => zA2 (v := .pointer (some _)) rfl) hK ?_; refine zA5 1 rfl rfl (fun w hs => zA8 rfl) hK ?_; refine zA5 2 rfl rfl (fun w hs => zA4 (o' := 0) zFc rfl sz25 rfl rfl rfl) hK ?_; refine zA5 3 rfl rfl (fun w hs => zA7 uz25 rfl rfl (hs.cellAt 4 rfl rfl)) hK ?_; refine zA5 4 rfl rfl (fun w hs => zA2 (v := .pointer (some _)) rfl) hK ?_; refine zA5 5 rfl rfl (fun w hs => zA8 rfl) hK ?_
    refine zA5 6 rfl rfl (fun w hs => zA4 (o' := 5) zFc rfl sz3 rfl rfl rfl) hK ?_; refine zA5 7 rfl rfl (fun w hs => zA7 uz3 rfl rfl (hs.cellAt 4 rfl rfl)) hK ?_; refine zAe [8] ?_; refine ⟨⟨_, rfl, ?_⟩, trivial⟩; refine zAb rfl en97 (cut_sl hM.toK hs (by omega) mtN (m := ((mb.length : Nat) : Int)) (inI (by omega) (by omega)) (Dk.cut_down hdn2 mtN _)) ?_; clear hs; rintro _ w ⟨rfl, hs⟩; clear hK; have hK := hs.drop 0; refine zA6 ⟨hK, ?_⟩; refine zAr (by kernel_rfl) ?_; clear hK; refine zA3 ?_; refine zA3 (zA1 ?_); refine zA rfl (zA2 (v := zAh ad _) rfl) ?_; refine zA rfl (zAx (ad := ad) rfl) ?_; refine zA6 ?_; refine zB6 rfl (rfl) ?_; refine zA3 (zA1 ?_)
    refine zA rfl (zA2 (v := zAh ad _) rfl) ?_; refine zA rfl (zA0 (v := zAh ad _) rfl) ?_; refine zA6 ?_; refine zAc ?_; refine zBd (v := zAh ad _) rfl rfl ?_; exact ⟨_, rfl, 110, d2, V, q, c, mb.length, rfl, ⟨hsr, by omega, .inr ⟨rfl, hdn2, hne2, rfl, rfl, rfl, rfl, hcr2 (hs.openD).1⟩⟩, Mem.closeL (hs.arr [5, 3, 0] 6 (by decide))⟩
end
section
open Go.RowKit
attribute [local irreducible] zAh eV
variable {g w : World} {L M : List HP} {ad : Nat → Addr}
theorem numsF_len : ∀ l : List Int, (zEf l).length ≤ 10 * l.length
  | [] => by simp [zEf]
  | z :: l => by
    have h1 := numsF_len l; have h2 := zFr 10 (zig z); simp only [zEf, zC4, List.length_append, List.length_cons]
    omega
theorem numsL_len (l : List Int) : (zFp l).length ≤ 10 * l.length + 10 := by
  have h1 := numsF_len l; have h2 := zFr 10 l.length; simp only [zFp, zC4, List.length_append]
  omega
theorem numsF_take {l : List Int} {i : Nat} {z : Int} (h : l[i]? = some z) : zEf (l.take (i + 1)) = zEf (l.take i) ++ zC4 (zig z) := by
  rw [List.take_add_one, h, Option.toList_some, numsF_app]
  simp [zEf]
theorem nums_sl (hs : Mem g w L) {a : Option Addr} {n c : Nat} {l : List Int} (hr : Rd g L (.slice a n c) (zDw l)) (hn : n = l.length) (hl : ∀ z ∈ l, zDi z) (hlen : l.length ≤ 1000) :
    Calls Tryz.prog 149 #[.slice a n c] w (Ret fun v w' => ∃ a c, v = .slice a (zFp l).length c ∧ Mem g w' (own (.slice a (zFp l).length c) (zAm (zFp l)) :: L)) := by
  subst hn; have hvl := zFr 10 l.length
  have hfl : ∀ i, (zEf (l.take i)).length ≤ 10 * l.length := fun i => Nat.le_trans (numsF_len _) (by rw [List.length_take]; omega)
  refine zAf Tryz.func149 rfl rfl ?_
  skip
  refine zA3 (zA1 ?_); refine zA rfl (zA0 (v := .slice _ _ _) rfl) ?_; refine zA6 (zA3 (zA1 ?_)); refine zA rfl (zA2 (v := .slice _ _ _) rfl) ?_; refine zA rfl (zAt uz173 rfl) ?_; refine zA rfl (zBm uz3 zFi rfl (c := ((l.length : Nat) : Int)) (by rw [zD1]; omega)) ?_; refine zAb rfl en142 (zEw hs (lb := []) (n := l.length) Rd.nil rfl (by decide) (by omega)) ?_; clear hs; rintro _ w ⟨a9, c9, rfl, hs⟩; refine zA rfl (zA0 (v := .slice _ _ _) rfl) ?_; refine zA6 ?_; refine zA3 ?_; refine zA3 (zA1 ?_); refine zA rfl (zA2 (v := .slice _ _ _) rfl) ?_; refine zA rfl (zAt uz173 rfl) ?_; refine zA rfl (zA2 (v := .int .i64 _) rfl) ?_; refine zA6 ?_; refine zAo ?_
  refine zBr (X := Nat × Option Addr × Nat) [3, 5, 12, 13, 14, 15, 16, 17, 18, 19] (fun x => [(3, .slice x.2.1 (zC4 l.length ++ zEf (l.take x.1)).length x.2.2), (12, .int .i64 (x.1 : Nat))]) (fun x w => x.1 ≤ l.length ∧ Mem g w (own (.slice x.2.1 (zC4 l.length ++ zEf (l.take x.1)).length x.2.2) (zAm (zC4 l.length ++ zEf (l.take x.1))) :: L)) (fun x => l.length - x.1) ((0, a9, c9)) ?_ ?_ ?_
  · exact ⟨by simp [zEf]; rfl, rfl, trivial⟩
  · exact ⟨Nat.zero_le _, by simpa [zEf] using hs⟩
  clear hs; rintro x ξ w hI; obtain ⟨i, oa, oc⟩ := x; obtain ⟨hi, hs⟩ := hI; simp only at hi hs
  show cw _ _ _ _ _ _ (updL (mix _ ξ _) [(3, .slice oa (zC4 l.length ++ zEf (l.take i)).length oc), (12, .int .i64 (i : Nat))]) w
  refine zA3 (zA1 ?_); refine zA rfl (zB9 rfl rfl) ?_; refine zA6 ?_; refine zA3 ?_; refine zB rfl ?_ ?_
  ·
   intro h13; have g13 := of_decide_eq_true h13; obtain ⟨z, hz⟩ : ∃ z, l[i]? = some z := ⟨_, List.getElem?_eq_getElem (by omega)⟩; have hzi := hl z (List.mem_of_getElem? hz); obtain ⟨b0, o0, rfl, _⟩ := hr.cons.cells' hs (by rw [intsL_len]; omega); refine zAd ?_; refine zA3 ?_; refine zAo ?_; refine zA3 (zA1 ?_); refine zA rfl (zBb uz173 sz2 rfl rfl rfl (by omega) rfl) ?_; refine zA rfl (zA7 uz2 rfl rfl (hr.cons.cellAt hs (intsL_at hz))) ?_; refine zA rfl (zA0 (v := .int .i64 _) rfl) ?_; refine zA6 ?_; refine zA1 ?_; refine zA rfl (zA2 (v := .slice _ _ _) rfl) ?_; refine zA rfl (zA2 (v := .int .i64 _) rfl) ?_
   refine zAb rfl en175 (putint_sl hs (lb := zC4 l.length ++ zEf (l.take i)) (z := zig z) (hs.rdOwn 0 rfl) rfl (by rw [List.length_append]; have := hfl i; unfold zC4; omega) rfl rfl rfl rfl (zig_bits hzi) (zig_lt hzi)) ?_; clear hs; rintro _ w ⟨a18, c18, rfl, hs⟩; refine zA rfl (zA0 (v := .slice _ _ _) rfl) ?_; refine zA6 ?_; refine zA1 ?_; refine zA rfl (zAu rfl rfl rfl (inI (by omega) (by omega))) ?_; refine zA rfl (zA2 (v := .int .i64 _) rfl) ?_; refine zA6 ?_; rw [List.append_assoc, ← numsF_take hz] at hs
   exact ⟨(i + 1, a18, c18), by simp only; omega, ⟨by simp only; omega, hs.drop 1⟩, ⟨show Value.slice a18 (zC4 l.length ++ zEf (l.take i) ++ zC4 (zig z)).length c18 = Value.slice a18 (zC4 l.length ++ zEf (l.take (i + 1))).length c18 from by rw [List.append_assoc, ← numsF_take hz], rfl, trivial⟩, by repeat (first | exact Out.mix _ _ _ | refine Out.updo rfl ?_ | refine Out.upd rfl ?_ | refine Out.mixIn rfl ?_)⟩
  ·
   intro h13; have g13 := of_decide_eq_false h13; refine zBp rfl ?_; refine zA3 (zA1 ?_); refine zA rfl (zA2 (v := .slice _ _ _) rfl) ?_; refine zA rfl (zA0 (v := .slice _ _ _) rfl) ?_; refine zA6 ?_; refine zAc ?_; refine zBd (v := .slice _ _ _) rfl rfl ?_
   have e : i = l.length := by omega
   subst e; rw [List.take_length] at hs ⊢; exact ⟨_, rfl, oa, oc, rfl, hs⟩
def rnAt (b : List UInt8) : Nat := (rloop (vnum 4096 b (0, 0)).1 b (vnum 4096 b (0, 0)).2 []).2.1
theorem rnums_sl (hE : ErrW ad g) (hs : Mem g w L) {a : Option Addr} {n c : Nat} {b : List UInt8} (hr : Rd g L (.slice a n c) (zAm b)) (hn : n = b.length) (hlen : b.length ≤ 100000000) {k : Nat} {l : List Int} (hk : rnums b = (k, l)) :
    Calls Tryz.prog 92 #[.slice a n c] w (Ret fun v w' => ∃ a c eb, v = .tuple #[.slice a l.length c, eV ad k eb] ∧ (∀ z ∈ l, zDi z) ∧ Mem g w' (own (.slice a l.length c) (zDw l) :: errC ad eb (rnAt b) k :: L)) := by
  obtain ⟨m, st, hv⟩ : ∃ m st, vnum 4096 b (0, 0) = (m, st) := ⟨_, _, rfl⟩
  have hm4 : m ≤ 4096 := by
    have h := congrArg Prod.fst hv; simp only [vnum] at h
    split at h
    · simp at h; omega
    · split at h
      · simp at h; omega
      · split at h
        · simp at h; omega
        · rename_i h1 h2 h3; rw [← h]; exact Nat.not_lt.1 h3
  obtain ⟨fo, fst, hf⟩ : ∃ fo fst, rloop m b st [] = (fo, fst) := ⟨_, _, rfl⟩; simp only [rnums, hv, hf] at hk
  have hat : rnAt b = fst.1 := by simp only [rnAt, hv, hf]
  have hwm : ∀ q : Nat, 0 < q → q ≤ 4096 → IntKind.u64.wrap ((q : Int) - 1) = ((q - 1 : Nat) : Int) := fun q h1 h2 => by rw [zD1]; omega
  refine zAf Tryz.func92 rfl rfl ?_
  skip
  refine zA3 (zA1 ?_); refine zA rfl (zA0 (v := .slice _ _ _) rfl) ?_; refine zA rfl (zA0 (v := .nilIface) rfl) ?_; refine zA6 (zA3 (zA1 ?_)); refine zA rfl (zA2 (v := .slice _ _ _) rfl) ?_; refine zAb rfl en113 (newr_sl ad hs hr hn (by omega)) ?_; clear hs; rintro _ w ⟨rb, rfl, hs⟩; refine zA rfl (zA0 (v := .pointer (some _)) rfl) ?_; refine zA6 (zA3 (zA1 ?_)); refine zA rfl (zA0 (v := .slice _ _ _) rfl) ?_; refine zA6 ?_; refine zA3 ?_; refine zA3 (zA1 ?_); refine zA rfl (zA2 (v := .pointer (some _)) rfl) ?_; refine zAb rfl en114 (num_sl hE hs (by omega) hv) ?_; clear hs; rintro _ w ⟨rfl, hs⟩; refine zA rfl (zA0 (v := .int .u64 _) rfl) ?_; refine zA6 ?_; refine zAo ?_
  refine zBr (X := Nat × List Int × (Nat × Nat) × Option Addr × Nat) [5, 6, 11, 12, 13, 14, 15, 16, 17, 18, 19, 20, 21, 22, 23, 24] (fun x => [(5, .slice x.2.2.2.1 x.2.1.length x.2.2.2.2), (6, .int .u64 (x.1 : Nat))]) (fun x w => x.1 + x.2.1.length ≤ 4096 ∧ (∀ z ∈ x.2.1, zDi z) ∧ rloop x.1 b x.2.2.1 x.2.1 = (fo, fst) ∧ Mem g w (own (.slice x.2.2.2.1 x.2.1.length x.2.2.2.2) (zDw x.2.1) :: RdrC rb ad b x.2.2.1 :: L)) (fun x => x.1) ((m, [], st, none, 0)) ?_ ?_ ?_
  · exact ⟨rfl, rfl, trivial⟩
  · exact ⟨by simp; omega, fun z hz => by simp at hz, hf, hs.addE (zD8 _)⟩
  clear hs; rintro x ξ w hI; obtain ⟨q, out, sq, oa, oc⟩ := x; obtain ⟨hq, hoz, hrl, hs⟩ := hI; simp only at hq hoz hrl hs
  show cw _ _ _ _ _ _ (updL (mix _ ξ _) [(5, .slice oa out.length oc), (6, .int .u64 (q : Nat))]) w
  refine zA3 ?_; refine zA3 (zA1 ?_); refine zA rfl (zA2 (v := .int .u64 _) rfl) ?_; refine zA rfl (zBl rfl rfl) ?_; refine zA rfl (zA2 (v := .bool _) rfl) ?_; refine zB0 (t := _) (d := 13) rfl ?_ ?_
  ·
   intro h12; have g12 := of_decide_eq_true h12; obtain ⟨q, rfl⟩ : ∃ q', q = q' + 1 := ⟨q - 1, by omega⟩; simp only [rloop] at hrl; refine zAi rfl rfl h12 ?_; refine zA rfl (zA2 (v := .pointer (some _)) rfl) ?_; refine zAi rfl rfl h12 ?_; refine zAb rfl en115 (err_sl (hs.arr [1, 0] 2 (by decide))) ?_; clear hs; rintro _ w ⟨e15, rfl, hs⟩; refine zAi rfl rfl h12 ?_; refine zA rfl (run_eqE (ad := ad) rfl) ?_; refine zA rfl (zAk (v := .bool _) rfl h12 rfl) ?_; refine zA6 ?_; refine zB rfl ?_ ?_
   ·
    intro h16; have g16 := of_decide_eq_true h16; have hz0 := of_decide_eq_true h16; rw [if_neg (by omega)] at hrl; obtain ⟨z, sz, hvz⟩ : ∃ z sz, vintS b sq = (z, sz) := ⟨_, _, rfl⟩; rw [hvz] at hrl; simp only at hrl; refine zAd ?_; refine zA3 ?_; refine zAo ?_; refine zA1 ?_; refine zA rfl (zA2 (v := .slice _ _ _) rfl) ?_; refine zA rfl (zA2 (v := .pointer (some _)) rfl) ?_; refine zAb rfl en131 (int_sl hE hs (by omega) hvz) ?_; clear hs; rintro _ w ⟨rfl, hzi, hs⟩; refine zB1 hs rfl ((zDw [z])) uz173 zs2 rfl (zE2 (intsL_one _)) rfl rfl rfl ?_; clear hs; intro b23 w hs
    try simp only [zzs, zzz] at hs
    refine zD3 hs rfl 2 rfl uz173 in2 rfl rfl rfl (zCn (P := Tryz.prog) uz173 ((Rd.cells (n := 1) (cs := zDw [z]) 0 rfl rfl).seq hs) (intsL_one [z])) (by simp only [intsL_len, List.length_cons, List.length_nil]; omega) (by simp only [intsL_len, List.length_cons, List.length_nil]; omega) ?_; clear hs; intro a24 c24 w hs; simp only [zzs, zzz] at hs; refine zA rfl (zA0 (v := .slice _ _ _) rfl) ?_; refine zA6 ?_; refine zA1 ?_; refine zA rfl (zA2 (v := .int .u64 _) rfl) ?_; refine zA rfl (run_sub rfl rfl) ?_; rw [hwm (q + 1) (by omega) (by omega)]; refine zA rfl (zA0 (v := .int .u64 _) rfl) ?_; refine zA6 ?_
    have e1 : zDw out ++ zDw [z] = zDw (out ++ [z]) := (intsL_app _ _).symm
    have e2 : (zDw out).length + (zDw [z]).length = (out ++ [z]).length := by simp [intsL_len]
    rw [e1, e2] at hs; exact ⟨(q, out ++ [z], sz, a24, c24), by simp only; omega, ⟨by simp only [List.length_append, List.length_cons, List.length_nil]; omega, fun y hy => by rcases List.mem_append.1 hy with h | h; exact hoz y h; simp at h; subst h; exact hzi, hrl, hs.arr [2, 1] 3 (by decide)⟩, ⟨show Value.slice a24 ((zDw out).length + (zDw [z]).length) c24 = Value.slice a24 (out ++ [z]).length c24 from by rw [e2], rfl, trivial⟩, by repeat (first | exact Out.mix _ _ _ | refine Out.updo rfl ?_ | refine Out.upd rfl ?_ | refine Out.mixIn rfl ?_)⟩
   ·
    intro h16; have g16 := of_decide_eq_false h16; have hz0 := of_decide_eq_false h16; rw [if_pos hz0] at hrl
    cases hrl
    refine zBp rfl ?_; refine zA3 ?_; refine zA3 (zA1 ?_); refine zA rfl (zA2 (v := .pointer (some _)) rfl) ?_; refine zAb rfl en115 (err_sl hs) ?_; clear hs; rintro _ w ⟨e26, rfl, hs⟩; refine zA rfl (run_neE (ad := ad) rfl) ?_; refine zA6 ?_; refine zB rfl ?_ ?_
    ·
     intro h27; have g27 := zEt h27
     have hz1 : fst.2 ≠ 0 := by simpa using h27
     rw [if_pos hz1] at hk
     cases hk
     refine zA3 (zA1 ?_); refine zA rfl (zA2 (v := .pointer (some _)) rfl) ?_; refine zAb rfl en115 (errC_sl hs) ?_; clear hs; rintro _ w ⟨e29, rfl, hs⟩; refine zA rfl (zA0 (v := .slice _ _ _) rfl) ?_; refine zA rfl (zA0 (v := eV ad _ _) rfl) ?_; refine zA6 ?_; refine zAc ?_; refine zDz (v := .slice _ _ _) (v2 := eV ad _ _) rfl rfl rfl ?_; rw [hat]; exact ⟨_, rfl, none, 0, e29, rfl, fun z hz => by simp at hz, (hs.drop 1).addE (zD8 _)⟩
    ·
     intro h27; have g27 := zEs h27
     have hz1 : fst.2 = 0 := by simpa using h27
     rw [if_neg (by omega)] at hk; refine zAd ?_; refine zA3 ?_; refine zA3 (zA1 ?_); refine zA rfl (zA2 (v := .pointer (some _)) rfl) ?_; refine zAb rfl en132 (left_sl hs (by omega)) ?_; clear hs; rintro _ w ⟨rfl, hle, hs⟩; refine zA rfl (zBl rfl rfl) ?_; refine zA6 ?_; refine zB rfl ?_ ?_
     ·
      intro h32; have g32 := of_decide_eq_true h32; rw [if_pos (by omega)] at hk
      cases hk
      refine zA3 ?_; refine zAp zBk hs ?_; intro w tr hK; replace hs := tr _ hs; clear tr; refine zA5 0 rfl rfl (fun w hs => zA2 (v := .pointer (some _)) rfl) hK ?_; refine zA5 2 rfl rfl (fun w hs => zA7 zCe rfl rfl (hE.cellW hs 104 (by decide) rfl)) hK ?_; refine zAe [1] ?_; refine ⟨⟨_, rfl, ?_⟩, trivial⟩; refine zAb rfl en117 (at_sl hs) ?_; clear hs; rintro _ w ⟨rfl, hs⟩; clear hK; have hK := hs; refine zA6 ⟨hK, ?_⟩; refine @zF7 _ _ _ _ _ _ _ _ _ _ _ _ _ _ 3 _ rfl (by kernel_rfl) (by kernel_rfl) (by kernel_rfl) rfl (fun w hs => zC0 [.int .i64 fst.1, zAh ad 104] uz114 ze114 pl114 rfl (at_one _ _) rfl rfl) hK ?_; refine zA5 6 rfl rfl (fun w hs => zA0 (v := .slice _ _ _) rfl) hK ?_
      refine zAe [4] ?_; refine ⟨⟨_, rfl, ?_⟩, trivial⟩; refine zBh (v := .agg _) hs rfl rfl ?_; clear hs; intro b37 w hs; clear hK; have hK := hs.tail; refine zA6 ⟨hK, ?_⟩; refine zA5 5 rfl rfl (fun w hs => run_mkI uz112 rfl) hK ?_; refine zA5 7 rfl rfl (fun w hs => zA0 (v := .iface _ (.pointer (some _))) rfl) hK ?_; refine zAr (by kernel_rfl) ?_; clear hK; refine zAc ?_; refine zDz (v := .slice _ _ _) (v2 := .iface _ (.pointer (some _))) rfl rfl rfl ?_; rw [hat]; refine ⟨_, rfl, none, 0, b37, by rw [eV_at (by decide) (by decide)]; rfl, fun z hz => by simp at hz, ?_⟩; rw [errC_at (by decide)]; exact (hs.arr [0] 3 (by decide)).addE (zD8 _)
     ·
      intro h32; have g32 := of_decide_eq_false h32; rw [if_neg (by omega)] at hk
      cases hk
      refine zAd ?_; refine zA3 (zA1 ?_); refine zA rfl (zA2 (v := .slice _ _ _) rfl) ?_; refine zA rfl (zA0 (v := .slice _ _ _) rfl) ?_; refine zA rfl (zA0 (v := .nilIface) rfl) ?_; refine zA6 ?_; refine zAc ?_; refine zDz (v := .slice _ _ _) (v2 := .nilIface) rfl rfl rfl ?_; exact ⟨_, rfl, oa, oc, 0, by rw [eV_0], hoz, by rw [errC_bare (.inl rfl)]; exact (hs.addE (emp_ok _)).arr [2, 0] 3 (by decide)⟩
  ·
   intro h12; have g12 := of_decide_eq_false h12
   obtain rfl : q = 0 := by omega
   cases hrl
   replace hs := hs.arr [1, 0] 2 (by decide); refine zA9 rfl rfl rfl h12 ?_; refine zA9 rfl rfl rfl h12 ?_; refine zA9 rfl rfl rfl h12 ?_; refine zA rfl (zAg (v := .bool _) rfl h12 rfl) ?_; refine zA6 ?_; refine zB4 rfl rfl ?_; refine zBp rfl ?_; refine zA3 ?_; refine zA3 (zA1 ?_); refine zA rfl (zA2 (v := .pointer (some _)) rfl) ?_; refine zAb rfl en115 (err_sl hs) ?_; clear hs; rintro _ w ⟨e26, rfl, hs⟩; refine zA rfl (run_neE (ad := ad) rfl) ?_; refine zA6 ?_; refine zB rfl ?_ ?_
   ·
    intro h27; have g27 := zEt h27
    have hz1 : fst.2 ≠ 0 := by simpa using h27
    rw [if_pos hz1] at hk
    cases hk
    refine zA3 (zA1 ?_); refine zA rfl (zA2 (v := .pointer (some _)) rfl) ?_; refine zAb rfl en115 (errC_sl hs) ?_; clear hs; rintro _ w ⟨e29, rfl, hs⟩; refine zA rfl (zA0 (v := .slice _ _ _) rfl) ?_; refine zA rfl (zA0 (v := eV ad _ _) rfl) ?_; refine zA6 ?_; refine zAc ?_; refine zDz (v := .slice _ _ _) (v2 := eV ad _ _) rfl rfl rfl ?_; rw [hat]; exact ⟨_, rfl, none, 0, e29, rfl, fun z hz => by simp at hz, (hs.drop 1).addE (zD8 _)⟩
   ·
    intro h27; have g27 := zEs h27
    have hz1 : fst.2 = 0 := by simpa using h27
    rw [if_neg (by omega)] at hk; refine zAd ?_; refine zA3 ?_; refine zA3 (zA1 ?_); refine zA rfl (zA2 (v := .pointer (some _)) rfl) ?_; refine zAb rfl en132 (left_sl hs (by omega)) ?_; clear hs; rintro _ w ⟨rfl, hle, hs⟩; refine zA rfl (zBl rfl rfl) ?_; refine zA6 ?_; refine zB rfl ?_ ?_
    ·
     intro h32; have g32 := of_decide_eq_true h32; rw [if_pos (by omega)] at hk
     cases hk
     refine zA3 ?_; refine zAp zBk hs ?_; intro w tr hK; replace hs := tr _ hs; clear tr; refine zA5 0 rfl rfl (fun w hs => zA2 (v := .pointer (some _)) rfl) hK ?_; refine zA5 2 rfl rfl (fun w hs => zA7 zCe rfl rfl (hE.cellW hs 104 (by decide) rfl)) hK ?_; refine zAe [1] ?_; refine ⟨⟨_, rfl, ?_⟩, trivial⟩; refine zAb rfl en117 (at_sl hs) ?_; clear hs; rintro _ w ⟨rfl, hs⟩; clear hK; have hK := hs; refine zA6 ⟨hK, ?_⟩; refine @zF7 _ _ _ _ _ _ _ _ _ _ _ _ _ _ 3 _ rfl (by kernel_rfl) (by kernel_rfl) (by kernel_rfl) rfl (fun w hs => zC0 [.int .i64 fst.1, zAh ad 104] uz114 ze114 pl114 rfl (at_one _ _) rfl rfl) hK ?_; refine zA5 6 rfl rfl (fun w hs => zA0 (v := .slice _ _ _) rfl) hK ?_
     refine zAe [4] ?_; refine ⟨⟨_, rfl, ?_⟩, trivial⟩; refine zBh (v := .agg _) hs rfl rfl ?_; clear hs; intro b37 w hs; clear hK; have hK := hs.tail; refine zA6 ⟨hK, ?_⟩; refine zA5 5 rfl rfl (fun w hs => run_mkI uz112 rfl) hK ?_; refine zA5 7 rfl rfl (fun w hs => zA0 (v := .iface _ (.pointer (some _))) rfl) hK ?_; refine zAr (by kernel_rfl) ?_; clear hK; refine zAc ?_; refine zDz (v := .slice _ _ _) (v2 := .iface _ (.pointer (some _))) rfl rfl rfl ?_; rw [hat]; refine ⟨_, rfl, none, 0, b37, by rw [eV_at (by decide) (by decide)]; rfl, fun z hz => by simp at hz, ?_⟩; rw [errC_at (by decide)]; exact (hs.arr [0] 3 (by decide)).addE (zD8 _)
    ·
     intro h32; have g32 := of_decide_eq_false h32; rw [if_neg (by omega)] at hk
     cases hk
     refine zAd ?_; refine zA3 (zA1 ?_); refine zA rfl (zA2 (v := .slice _ _ _) rfl) ?_; refine zA rfl (zA0 (v := .slice _ _ _) rfl) ?_; refine zA rfl (zA0 (v := .nilIface) rfl) ?_; refine zA6 ?_; refine zAc ?_; refine zDz (v := .slice _ _ _) (v2 := .nilIface) rfl rfl rfl ?_; exact ⟨_, rfl, oa, oc, 0, by rw [eV_0], hoz, by rw [errC_bare (.inl rfl)]; exact (hs.addE (emp_ok _)).arr [2, 0] 3 (by decide)⟩
end
section
open Go.RowKit
attribute [local irreducible] zAh eV
variable {g w : World} {L M : List HP} {ad : Nat → Addr} {p : Nat} {d : Dk}
def jourCodes : List Nat := [101, 102, 103, 104, 105, 106, 107, 108, 109, 110]
abbrev ErrJ (ad : Nat → Addr) (g : World) : Prop := Errs jourCodes ad g.heap.size g
def nUp : ByteArray := ⟨#[117, 112, 108, 111, 97, 100]⟩
def inR (z : Int) : Bool := decide (0 ≤ z) && decide (z ≤ 2147483647)
def jst (r : Nat × List UInt8) : Nat × Bool × Int × Int × Int × Int :=
  if r.1 = 110 then (110, false, 0, 0, 0, 0) else match rnums r.2 with
    | (0, [x, y, z, u]) => if r.1 = 0 ∧ [x, y, z, u].all inR = true then (0, true, x, y, z, u) else (0, false, 0, 0, 0, 0)
    | _ => (0, false, 0, 0, 0, 0)
theorem openL_code (b : List UInt8) : ((openL b).1 = 0 ∨ (openL b).1 = 101 ∨ (openL b).1 = 102) ∧ (openL b).2.length ≤ b.length := by
  unfold openL
  split
  · exact ⟨.inr (.inl rfl), Nat.zero_le _⟩
  · split
    · exact ⟨.inl rfl, by simp⟩
    · exact ⟨.inr (.inr rfl), Nat.zero_le _⟩
theorem Dk.readR_code (n : ByteArray) (x y : Int) (d : Dk) : (d.readR n x y).1 = 0 ∨ (d.readR n x y).1 = 105 ∨ (d.readR n x y).1 = 107 ∨ (d.readR n x y).1 = 110 := by
  unfold Dk.readR Dk.file
  cases d.down with
  | true => exact .inr (.inr (.inr rfl))
  | false =>
    cases zAw d.names n with
    | none => exact .inr (.inr (.inl rfl))
    | some i =>
      simp only [Bool.false_eq_true, if_false]
      split
      · exact .inr (.inl rfl)
      · exact .inl rfl
theorem Dk.ok.pread_fine (h : d.ok) (n : ByteArray) : ((d.pread n).1 = 0 ∨ (d.pread n).1 ∈ jourCodes) ∧ (d.pread n).2.length ≤ 4194304 := by
  unfold Dk.pread
  have h1 := d.lenR_code n; have h2 := d.readR_code n 0 ((d.lenR n).2 : Int); have h3 := openL_code (d.readR n 0 ((d.lenR n).2 : Int)).2; have h4 := h.lenR_le n; have h5 := readR_len (d := d) (n := n) (m := (d.lenR n).2) rfl h4
  split
  · refine ⟨.inr ?_, Nat.zero_le _⟩
    rcases h1 with h | h | h
    · contradiction
    · simp only [h]; decide
    · simp only [h]; decide
  · split
    · refine ⟨.inr ?_, Nat.zero_le _⟩
      rcases h2 with h | h | h | h
      · contradiction
      · simp only [h]; decide
      · simp only [h]; decide
      · simp only [h]; decide
    · refine ⟨?_, Nat.le_trans h3.2 h5⟩
      rcases h3.1 with h | h | h
      · exact .inl h
      · exact .inr (by rw [h]; decide)
      · exact .inr (by rw [h]; decide)
theorem inR_iff {z : Int} : inR z = true ↔ 0 ≤ z ∧ z ≤ 2147483647 := by simp [inR]
theorem zG7 {k k2 : Nat} {b : List UInt8} {l2 : List Int} (h2 : rnums b = (k2, l2)) (hk : k ≠ 110) (h : k ≠ 0 ∨ k2 ≠ 0 ∨ l2.length ≠ 4 ∨ ∃ z ∈ l2, inR z = false) : jst (k, b) = (0, false, 0, 0, 0, 0) := by
  simp only [jst, if_neg hk, h2]
  split
  · rename_i x y z u he
    cases he
    rw [if_neg]; rintro ⟨e1, e2⟩
    rcases h with h | h | h | ⟨q, hq, h⟩
    · exact h e1
    · exact h rfl
    · exact h rfl
    · have := List.all_eq_true.1 e2 q hq
      rw [h] at this
      cases this
  · rfl
theorem jst_some {x y z u : Int} {b : List UInt8} (h2 : rnums b = (0, [x, y, z, u])) (h : [x, y, z, u].all inR = true) : jst (0, b) = (0, true, x, y, z, u) := by
  simp only [jst, h2, if_neg (show ¬ (0 : Nat) = 110 by decide), h, and_self, if_true]
theorem list4 {l : List Int} (h : l.length = 4) : ∃ x y z u, l = [x, y, z, u] := by
  match l, h with
  | [x, y, z, u], _ => exact ⟨x, y, z, u, rfl⟩
def jV (j : Nat × Bool × Int × Int × Int × Int) : Value := .agg #[.int .i64 j.2.2.1, .int .i64 j.2.2.2.1, .int .i64 j.2.2.2.2.1, .int .i64 j.2.2.2.2.2]
set_option maxRecDepth 100000 in
theorem jread_sl (hE : ErrJ ad g) (hs : Mem g w (zBc p d :: L)) {j : Nat × Bool × Int × Int × Int × Int} (hj : jst (d.pread nUp) = j) :
    Calls Tryz.prog 50 #[.pointer (some ⟨p, 0, none⟩)] w (Ret fun v w' => v = .tuple #[jV j, .bool j.2.1, zAh ad j.1] ∧ Mem g w' (zBc p d :: L)) := by
  have hP : ErrP ad g := hE.sub (by decide); have hW : ErrW ad g := hE.sub (by decide); obtain ⟨ho, _⟩ := hs.openD; have hpf := ho.pread_fine nUp; obtain ⟨k, b, hk⟩ : ∃ k b, d.pread nUp = (k, b) := ⟨_, _, rfl⟩; rw [hk] at hj hpf; obtain ⟨hkc, hbl⟩ := hpf; simp only at hkc hbl; obtain ⟨k2, l2, hk2⟩ : ∃ k2 l2, rnums b = (k2, l2) := ⟨_, _, rfl⟩; refine zAf Tryz.func50 rfl rfl ?_
  skip
  refine zA3 (zA1 ?_); refine zBn hs rfl ze103 ?_; clear hs; intro b2 w hs
  try simp only [zzs, zzz] at hs
  refine zA rfl (zA0 (v := .bool _) rfl) ?_; refine zA rfl (zA0 (v := .nilIface) rfl) ?_; refine zA6 (zA3 (zA1 ?_)); refine zA rfl (zA2 (v := .pointer (some _)) rfl) ?_; refine zAb rfl en91 (pread_sl hP (hs.arr [1, 0] 2 (by decide)) nUp hk) ?_; clear hs; rintro _ w ⟨a13, c13, rfl, hs⟩; refine zA rfl (zA2 (v := .tuple _) rfl) ?_; refine zA rfl (zAa (v := .slice _ _ _) rfl rfl) ?_; refine zA rfl (zAa (v := zAh ad _) rfl rfl) ?_; refine zA rfl (zA0 (v := .slice _ _ _) rfl) ?_; refine zA rfl (zA0 (v := zAh ad _) rfl) ?_; refine zA6 ?_; refine zA3 ?_; refine zA3 (zA1 ?_); refine zA rfl (zA2 (v := zAh ad _) rfl) ?_; refine zA rfl (zA7 zCe rfl rfl (hE.cellW hs 110 (by decide) rfl)) ?_
  refine zA rfl (zEq (hE.atW hs) hkc (by decide) rfl rfl) ?_; refine zA6 ?_; refine zB rfl ?_ ?_
  ·
   intro h18; have g18 := of_decide_eq_true h18; have hz := of_decide_eq_true h18; subst hz; have hj2 : j = (110, false, 0, 0, 0, 0) := hj.symm; subst hj2; refine zA3 (zA1 ?_); refine zA rfl (zBs zCy ze103 pl103 rfl) ?_; refine zA rfl (zA2 (v := zAh ad _) rfl) ?_; refine zAn hs 2 rfl rfl rfl zDs rfl rfl ?_; clear hs; intro w hs
   try simp only [zzs, zzz] at hs
   refine zA rfl (zA0 (v := .bool _) rfl) ?_; refine zA rfl (zA0 (v := zAh ad _) rfl) ?_; refine zA6 ?_; refine zAc ?_; refine resG [(.cell 2 103, .agg _), (.tmp 3, .bool _), (.tmp 4, zAh ad _)] rfl ⟨⟨_, rfl, zC2 hs 2 rfl zCy zDs⟩, rfl, rfl, trivial⟩ ?_; exact ⟨_, rfl, rfl, hs.arr [1] 3 (by decide)⟩
  ·
   intro h18; have g18 := of_decide_eq_false h18; have hz := of_decide_eq_false h18; refine zAd ?_; refine zA3 (zA1 ?_); refine zA rfl (zA2 (v := .slice _ _ _) rfl) ?_; refine zAb rfl en92 (rnums_sl hW hs (hs.rdOwn 0 rfl) rfl (by omega) hk2) ?_; clear hs; rintro _ w ⟨a23, c23, eb, rfl, hzi, hs⟩; refine zA rfl (zA2 (v := .tuple _) rfl) ?_; refine zA rfl (zAa (v := .slice _ _ _) rfl rfl) ?_; refine zA rfl (zAa (v := eV ad _ _) rfl rfl) ?_; refine zA rfl (zA0 (v := .slice _ _ _) rfl) ?_; refine zA rfl (zA0 (v := eV ad _ _) rfl) ?_; refine zA6 ?_; refine zA3 ?_; refine zA3 (zA1 ?_); refine zA rfl (zA2 (v := zAh ad _) rfl) ?_; refine zA rfl (zAx (ad := ad) rfl) ?_
   refine zA rfl (zA2 (v := .bool _) rfl) ?_; refine zB0 (t := _) (d := 28) rfl ?_ ?_
   ·
    intro h27; have g27 := zEt h27; have hj2 := (zG7 hk2 hz (.inl (by simpa using h27))).symm.trans hj; subst hj2; refine zA9 rfl rfl rfl h27 ?_; refine zA9 rfl rfl rfl h27 ?_; refine zA rfl (zAk (v := .bool _) rfl h27 rfl) ?_; refine zA rfl (zA2 (v := .bool _) rfl) ?_; refine zA9 rfl rfl rfl rfl ?_; refine zA9 rfl rfl rfl rfl ?_; refine zA9 rfl rfl rfl rfl ?_; refine zA rfl (zAk (v := .bool _) rfl rfl rfl) ?_; refine zA6 ?_; refine zB6 rfl rfl ?_; refine zA3 (zA1 ?_); refine zA rfl (zBs zCy ze103 pl103 rfl) ?_; refine zAn hs 4 rfl rfl rfl zDs rfl rfl ?_; clear hs; intro w hs
    try simp only [zzs, zzz] at hs
    refine zA rfl (zA0 (v := .bool _) rfl) ?_; refine zA rfl (zA0 (v := .nilIface) rfl) ?_; refine zA6 ?_; refine zAc ?_; refine resG [(.cell 2 103, .agg _), (.tmp 3, .bool _), (.tmp 4, .nilIface)] rfl ⟨⟨_, rfl, zC2 hs 4 rfl zCy zDs⟩, rfl, rfl, trivial⟩ ?_; exact ⟨_, rfl, by rw [zAz]; rfl, hs.arr [3] 5 (by decide)⟩
   ·
    intro h27; have g27 := zEs h27; refine zAi rfl rfl h27 ?_; refine zA rfl (zA2 (v := eV ad _ _) rfl) ?_; refine zAi rfl rfl h27 ?_; refine zA rfl (run_neE (ad := ad) rfl) ?_; refine zA rfl (zAg (v := .bool _) rfl h27 rfl) ?_; refine zA rfl (zA2 (v := .bool _) rfl) ?_; refine zB0 (t := _) (d := 32) rfl ?_ ?_
    ·
     intro h30; have g30 := zEt h30; have hj2 := (zG7 hk2 hz (.inr (.inl (by simpa using h30)))).symm.trans hj; subst hj2; refine zA9 rfl rfl rfl h30 ?_; refine zA9 rfl rfl rfl h30 ?_; refine zA9 rfl rfl rfl h30 ?_; refine zA rfl (zAk (v := .bool _) rfl h30 rfl) ?_; refine zA6 ?_; refine zB6 rfl rfl ?_; refine zA3 (zA1 ?_); refine zA rfl (zBs zCy ze103 pl103 rfl) ?_; refine zAn hs 4 rfl rfl rfl zDs rfl rfl ?_; clear hs; intro w hs
     try simp only [zzs, zzz] at hs
     refine zA rfl (zA0 (v := .bool _) rfl) ?_; refine zA rfl (zA0 (v := .nilIface) rfl) ?_; refine zA6 ?_; refine zAc ?_; refine resG [(.cell 2 103, .agg _), (.tmp 3, .bool _), (.tmp 4, .nilIface)] rfl ⟨⟨_, rfl, zC2 hs 4 rfl zCy zDs⟩, rfl, rfl, trivial⟩ ?_; exact ⟨_, rfl, by rw [zAz]; rfl, hs.arr [3] 5 (by decide)⟩
    ·
     intro h30; have g30 := zEs h30; refine zAi rfl rfl h30 ?_; refine zA rfl (zA2 (v := .slice _ _ _) rfl) ?_; refine zAi rfl rfl h30 ?_; refine zA rfl (zAt uz173 rfl) ?_; refine zAi rfl rfl h30 ?_; refine zA rfl (zCf rfl rfl) ?_; refine zA rfl (zAg (v := .bool _) rfl h30 rfl) ?_; refine zA6 ?_; refine zB rfl ?_ ?_
     ·
      intro h35; have g35 := zEt h35; have hj2 := (zG7 hk2 hz (.inr (.inr (.inl (by omega))))).symm.trans hj; subst hj2; refine zA3 (zA1 ?_); refine zA rfl (zBs zCy ze103 pl103 rfl) ?_; refine zAn hs 4 rfl rfl rfl zDs rfl rfl ?_; clear hs; intro w hs
      try simp only [zzs, zzz] at hs
      refine zA rfl (zA0 (v := .bool _) rfl) ?_; refine zA rfl (zA0 (v := .nilIface) rfl) ?_; refine zA6 ?_; refine zAc ?_; refine resG [(.cell 2 103, .agg _), (.tmp 3, .bool _), (.tmp 4, .nilIface)] rfl ⟨⟨_, rfl, zC2 hs 4 rfl zCy zDs⟩, rfl, rfl, trivial⟩ ?_; exact ⟨_, rfl, by rw [zAz]; rfl, hs.arr [3] 5 (by decide)⟩
     ·
      intro h35; have g35 := zEs h35
      have hk0 : k = 0 := by simpa using h27
      have hk20 : k2 = 0 := by simpa using h30
      subst hk0 hk20; obtain ⟨x0, x1, x2, x3, rfl⟩ := list4 (show l2.length = 4 by omega); obtain ⟨q0, o0, rfl, _⟩ := hs.ownCells 0 rfl (by simp [zDw]); refine zAd ?_; refine zA3 ?_; refine zA3 (zA1 ?_); refine zA rfl (zA2 (v := .slice _ _ _) rfl) ?_; refine zA rfl (zAt uz173 rfl) ?_; refine zA rfl (zA2 (v := .int .i64 _) rfl) ?_; refine zA6 ?_; refine zAo ?_
      refine zBr (X := Nat) [3, 4, 10, 40, 41, 42, 43, 44, 45, 46, 47, 48, 49, 50, 51] (fun x => [(40, .int .i64 (x : Nat))]) (fun x w => x ≤ 4 ∧ (∀ z ∈ [x0, x1, x2, x3].take x, inR z = true) ∧ Mem g w (own (.slice (some ⟨q0, o0, none⟩) [x0, x1, x2, x3].length c23) (zDw [x0, x1, x2, x3]) :: errC ad eb (rnAt b) 0 :: own (.slice a13 b.length c13) (zAm b) :: zBc p d :: cells b2 [.int .i64 0, .int .i64 0, .int .i64 0, .int .i64 0] 103 :: L)) (fun x => 4 - x) (0) ?_ ?_ ?_
      · exact ⟨rfl, trivial⟩
      · exact ⟨Nat.zero_le _, fun z hz => by simp at hz, hs⟩
      clear hs; rintro x ξ w hI; obtain ⟨hx4, hall, hs⟩ := hI; have hx4 : x ≤ 4 := hx4
      show cw _ _ _ _ _ _ (updL (mix _ ξ _) [(40, .int .i64 (x : Nat))]) w
      refine zA3 (zA1 ?_); refine zA rfl (zB9 rfl rfl) ?_; refine zA6 ?_; refine zA3 ?_; refine zB rfl ?_ ?_
      ·
       intro h41; have g41 := of_decide_eq_true h41; obtain ⟨z, hz4⟩ : ∃ z, [x0, x1, x2, x3][x]? = some z := ⟨_, List.getElem?_eq_getElem (by simp at g41 ⊢; omega)⟩; have hzm := List.mem_of_getElem? hz4
       have hx3 : x < 4 := by simp at g41; omega
       refine zAd ?_; refine zA3 ?_; refine zAo ?_; refine zA3 (zA1 ?_); refine zA rfl (zBb uz173 sz2 rfl rfl rfl (by simp at g41 ⊢; omega) rfl) ?_; refine zA rfl (zA7 (v := .int .i64 z) uz2 rfl rfl (hs.ownAt 0 rfl (intsL_at hz4))) ?_; refine zA rfl (zA0 (v := .int .i64 _) rfl) ?_; refine zA6 (zA3 (zA1 ?_)); refine zA rfl (zA2 (v := .int .i64 _) rfl) ?_; refine zA rfl (zB9 rfl rfl) ?_; refine zA rfl (zA2 (v := .bool _) rfl) ?_; refine zB0 (t := _) (d := 46) rfl ?_ ?_
       ·
        intro h45; have g45 := of_decide_eq_true h45; have hj2 := (zG7 hk2 hz (.inr (.inr (.inr ⟨z, hzm, by simp [inR]; omega⟩)))).symm.trans hj; subst hj2; refine zA9 rfl rfl rfl h45 ?_; refine zA9 rfl rfl rfl h45 ?_; refine zA rfl (zAk (v := .bool _) rfl h45 rfl) ?_; refine zA6 ?_; refine zB6 rfl rfl ?_; refine zA3 (zA1 ?_); refine zA rfl (zBs zCy ze103 pl103 rfl) ?_; refine zAn hs 4 rfl rfl rfl zDs rfl rfl ?_; clear hs; intro w hs
        try simp only [zzs, zzz] at hs
        refine zA rfl (zA0 (v := .bool _) rfl) ?_; refine zA rfl (zA0 (v := .nilIface) rfl) ?_; refine zA6 ?_; refine zAc ?_; refine resG [(.cell 2 103, .agg _), (.tmp 3, .bool _), (.tmp 4, .nilIface)] rfl ⟨⟨_, rfl, zC2 hs 4 rfl zCy zDs⟩, rfl, rfl, trivial⟩ ?_; exact ⟨_, rfl, by rw [zAz]; rfl, hs.arr [3] 5 (by decide)⟩
       ·
        intro h45; have g45 := of_decide_eq_false h45; refine zAi rfl rfl h45 ?_; refine zA rfl (zA2 (v := .int .i64 _) rfl) ?_; refine zAi rfl rfl h45 ?_; refine zA rfl (zBl rfl rfl) ?_; refine zA rfl (zAg (v := .bool _) rfl h45 rfl) ?_; refine zA6 ?_; refine zB rfl ?_ ?_
        ·
         intro h48; have g48 := of_decide_eq_true h48; have hj2 := (zG7 hk2 hz (.inr (.inr (.inr ⟨z, hzm, by simp [inR]; omega⟩)))).symm.trans hj; subst hj2; refine zA3 (zA1 ?_); refine zA rfl (zBs zCy ze103 pl103 rfl) ?_; refine zAn hs 4 rfl rfl rfl zDs rfl rfl ?_; clear hs; intro w hs
         try simp only [zzs, zzz] at hs
         refine zA rfl (zA0 (v := .bool _) rfl) ?_; refine zA rfl (zA0 (v := .nilIface) rfl) ?_; refine zA6 ?_; refine zAc ?_; refine resG [(.cell 2 103, .agg _), (.tmp 3, .bool _), (.tmp 4, .nilIface)] rfl ⟨⟨_, rfl, zC2 hs 4 rfl zCy zDs⟩, rfl, rfl, trivial⟩ ?_; exact ⟨_, rfl, by rw [zAz]; rfl, hs.arr [3] 5 (by decide)⟩
        ·
         intro h48; have g48 := of_decide_eq_false h48; refine zAd ?_; refine zA1 ?_; refine zA rfl (zAu rfl rfl rfl (inI (by omega) (by omega))) ?_; refine zA rfl (zA2 (v := .int .i64 _) rfl) ?_; refine zA6 ?_; exact ⟨x + 1, by omega, ⟨by omega, fun y hy => by rw [List.take_add_one, hz4] at hy; rcases List.mem_append.1 hy with h | h; exact hall y h; simp at h; subst h; exact inR_iff.2 ⟨by omega, by omega⟩, hs⟩, ⟨rfl, trivial⟩, by repeat (first | exact Out.mix _ _ _ | refine Out.updo rfl ?_ | refine Out.upd rfl ?_ | refine Out.mixIn rfl ?_)⟩
      ·
       intro h41; have g41 := of_decide_eq_false h41
       have hx3 : ¬ x < 4 := by simp at g41; omega
       obtain rfl : x = 4 := by omega
       have hj2 := (jst_some hk2 (List.all_eq_true.2 hall)).symm.trans hj; subst hj2; refine zBp rfl ?_; refine zA3 ?_; refine zAp zBk (hs.drop 4) ?_; intro w tr hK; replace hs := tr _ hs; clear tr; refine zA5 0 rfl rfl (fun w hs => zA2 (v := .slice _ _ _) rfl) hK ?_; refine zA5 1 rfl rfl (fun w hs => zBb uz173 sz2 rfl rfl rfl (show 0 < 4 by decide) rfl) hK ?_; refine zA5 2 rfl rfl (fun w hs => zA7 uz2 rfl rfl (hs.ownAt 0 rfl (j := 0) rfl)) hK ?_; refine zA5 3 rfl rfl (fun w hs => zA2 (v := .slice _ _ _) rfl) hK ?_; refine zA5 4 rfl rfl (fun w hs => zBb uz173 sz2 rfl rfl rfl (show 1 < 4 by decide) rfl) hK ?_
       refine zA5 5 rfl rfl (fun w hs => zA7 uz2 rfl rfl (hs.ownAt 0 rfl (j := 1) rfl)) hK ?_; refine zA5 6 rfl rfl (fun w hs => zA2 (v := .slice _ _ _) rfl) hK ?_; refine zA5 7 rfl rfl (fun w hs => zBb uz173 sz2 rfl rfl rfl (show 2 < 4 by decide) rfl) hK ?_; refine zA5 8 rfl rfl (fun w hs => zA7 uz2 rfl rfl (hs.ownAt 0 rfl (j := 2) rfl)) hK ?_; refine zA5 9 rfl rfl (fun w hs => zA2 (v := .slice _ _ _) rfl) hK ?_; refine zA5 10 rfl rfl (fun w hs => zBb uz173 sz2 rfl rfl rfl (show 3 < 4 by decide) rfl) hK ?_; refine zA5 11 rfl rfl (fun w hs => zA7 uz2 rfl rfl (hs.ownAt 0 rfl (j := 3) rfl)) hK ?_
       refine zA5 12 rfl rfl (fun w hs => zC0 ([.int .i64 x0, .int .i64 x1, .int .i64 x2, .int .i64 x3]) zCy ze103 pl103 rfl (by simp [Value.cells]) rfl rfl) hK ?_; refine zAe [13] ?_; refine ⟨⟨_, rfl, ?_⟩, trivial⟩; refine zAn hs 4 rfl rfl rfl zDs rfl rfl ?_; clear hs; intro w hs
       try simp only [zzs, zzz] at hs
       clear hK; have hK := hs.drop 4; refine zA6 ⟨hK, ?_⟩; refine zA5 14 rfl rfl (fun w hs => zA0 (v := .bool _) rfl) hK ?_; refine zA5 15 rfl rfl (fun w hs => zA0 (v := .nilIface) rfl) hK ?_; refine zAr (by kernel_rfl) ?_; clear hK; refine zAc ?_; refine resG [(.cell 2 103, .agg _), (.tmp 3, .bool _), (.tmp 4, .nilIface)] rfl ⟨⟨_, rfl, zC2 hs 4 rfl zCy zDs⟩, rfl, rfl, trivial⟩ ?_; exact ⟨_, rfl, by rw [zAz]; rfl, hs.arr [3] 5 (by decide)⟩
def Dk.jwrite (l : List Int) (d : Dk) : Nat × Dk := if l.all inR = true then d.write nUp (zFp l) else (105, d)
theorem jwrite_sl (hJ : ErrJ ad g) (hcl : d.calls < 900000) (hs : Mem g w (zBc p d :: L)) {x0 x1 x2 x3 : Int} (h0 : zDi x0) (h1 : zDi x1) (h2 : zDi x2) (h3 : zDi x3) {k : Nat} {d2 : Dk} (hk : d.jwrite [x0, x1, x2, x3] = (k, d2)) :
    Calls Tryz.prog 100 #[.pointer (some ⟨p, 0, none⟩), .agg #[.int .i64 x0, .int .i64 x1, .int .i64 x2, .int .i64 x3]] w (Ret fun v w' => v = zAh ad k ∧ Mem g w' (zBc p d2 :: L)) := by
  have hE : ErrK ad g := hJ.sub (by decide); have hP : ErrP ad g := hJ.sub (by decide)
  have hl : ∀ z ∈ [x0, x1, x2, x3], zDi z := fun z hz => by
    simp only [List.mem_cons, List.not_mem_nil, or_false] at hz
    rcases hz with rfl | rfl | rfl | rfl <;> assumption
  refine zAf Tryz.func100 rfl rfl ?_
  skip
  refine zA3 (zA1 ?_); refine zBh (v := .agg _) hs rfl rfl ?_; clear hs; intro b3 w hs
  try simp only [zzs, zzz] at hs
  refine zA rfl (zA0 (v := .nilIface) rfl) ?_; refine zA6 (zA3 (zA1 ?_)); refine zA rfl (zA4 (o' := 0) zCy rfl sz3 rfl rfl rfl) ?_; refine zA rfl (zA7 uz3 rfl rfl (hs.cellAt 0 rfl rfl)) ?_; refine zA rfl (zA4 (o' := 1) zCy rfl sz3 rfl rfl rfl) ?_; refine zA rfl (zA7 uz3 rfl rfl (hs.cellAt 0 rfl rfl)) ?_; refine zA rfl (zA4 (o' := 2) zCy rfl sz3 rfl rfl rfl) ?_; refine zA rfl (zA7 uz3 rfl rfl (hs.cellAt 0 rfl rfl)) ?_; refine zA rfl (zA4 (o' := 3) zCy rfl sz3 rfl rfl rfl) ?_; refine zA rfl (zA7 uz3 rfl rfl (hs.cellAt 0 rfl rfl)) ?_; refine zB1 hs rfl ((zDw [x0, x1, x2, x3])) uz173 zs2 rfl (zE2 (intsL_one _)) rfl rfl rfl ?_; clear hs; intro b16 w hs
  try simp only [zzs, zzz] at hs
  refine zA rfl (zA0 (v := .slice _ _ _) rfl) ?_; refine zA6 ?_; refine zA3 ?_; refine zA3 (zA1 ?_); refine zA rfl (zA2 (v := .slice _ _ _) rfl) ?_; refine zA rfl (zAt uz173 rfl) ?_; refine zA rfl (zA2 (v := .int .i64 _) rfl) ?_; refine zA6 ?_; refine zAo ?_; refine zBr (X := Nat) [4, 7, 19, 20, 21, 22, 23, 24, 25, 26, 27, 28, 29, 30] (fun x => [(19, .int .i64 (x : Nat))]) (fun x w => x ≤ 4 ∧ (∀ z ∈ [x0, x1, x2, x3].take x, inR z = true) ∧ Mem g w (cells b16 (zDw [x0, x1, x2, x3]) 2 :: cells b3 [.int .i64 x0, .int .i64 x1, .int .i64 x2, .int .i64 x3] 103 :: zBc p d :: L)) (fun x => 4 - x) (0) ?_ ?_ ?_
  · exact ⟨rfl, trivial⟩
  · exact ⟨Nat.zero_le _, fun z hz => by simp at hz, hs⟩
  clear hs; rintro x ξ w hI; obtain ⟨hx4, hall, hs⟩ := hI; have hx4 : x ≤ 4 := hx4
  show cw _ _ _ _ _ _ (updL (mix _ ξ _) [(19, .int .i64 (x : Nat))]) w
  refine zA3 (zA1 ?_); refine zA rfl (zB9 rfl rfl) ?_; refine zA6 ?_; refine zA3 ?_; refine zB rfl ?_ ?_
  ·
   intro h20; have g20 := of_decide_eq_true h20; obtain ⟨z, hz4⟩ : ∃ z, [x0, x1, x2, x3][x]? = some z := ⟨_, List.getElem?_eq_getElem (by simp at g20 ⊢; omega)⟩; have hzm := List.mem_of_getElem? hz4; refine zAd ?_; refine zA3 ?_; refine zAo ?_; refine zA3 (zA1 ?_); refine zA rfl (zBb uz173 sz2 rfl rfl rfl (by omega) rfl) ?_; refine zA rfl (zA7 (v := .int .i64 z) uz2 rfl rfl (hs.cellAt 0 rfl (by rw [Nat.zero_add]; exact intsL_at hz4))) ?_; refine zA rfl (zA0 (v := .int .i64 _) rfl) ?_; refine zA6 (zA3 (zA1 ?_)); refine zA rfl (zA2 (v := .int .i64 _) rfl) ?_; refine zA rfl (zB9 rfl rfl) ?_; refine zA rfl (zA2 (v := .bool _) rfl) ?_; refine zB0 (t := _) (d := 25) rfl ?_ ?_
   ·
    intro h24; have g24 := of_decide_eq_true h24
    have hn : ¬ ([x0, x1, x2, x3].all inR = true) := fun h => by have := inR_iff.1 (List.all_eq_true.1 h z hzm); omega
    unfold Dk.jwrite at hk
    rw [if_neg hn] at hk
    cases hk
    refine zA9 rfl rfl rfl h24 ?_; refine zA9 rfl rfl rfl h24 ?_; refine zA rfl (zAk (v := .bool _) rfl h24 rfl) ?_; refine zA6 ?_; refine zB6 rfl rfl ?_; refine zA3 (zA1 ?_); refine zA rfl (zA7 zCe rfl rfl (hE.cellW hs 105 (by decide) rfl)) ?_; refine zA rfl (zA0 (v := zAh ad _) rfl) ?_; refine zA6 ?_; refine zAc ?_; refine zBd (v := zAh ad _) rfl rfl ?_; exact ⟨_, rfl, rfl, hs.suffix 2 rfl⟩
   ·
    intro h24; have g24 := of_decide_eq_false h24; refine zAi rfl rfl h24 ?_; refine zA rfl (zA2 (v := .int .i64 _) rfl) ?_; refine zAi rfl rfl h24 ?_; refine zA rfl (zBl rfl rfl) ?_; refine zA rfl (zAg (v := .bool _) rfl h24 rfl) ?_; refine zA6 ?_; refine zB rfl ?_ ?_
    ·
     intro h27; have g27 := of_decide_eq_true h27
     have hn : ¬ ([x0, x1, x2, x3].all inR = true) := fun h => by have := inR_iff.1 (List.all_eq_true.1 h z hzm); omega
     unfold Dk.jwrite at hk
     rw [if_neg hn] at hk
     cases hk
     refine zA3 (zA1 ?_); refine zA rfl (zA7 zCe rfl rfl (hE.cellW hs 105 (by decide) rfl)) ?_; refine zA rfl (zA0 (v := zAh ad _) rfl) ?_; refine zA6 ?_; refine zAc ?_; refine zBd (v := zAh ad _) rfl rfl ?_; exact ⟨_, rfl, rfl, hs.suffix 2 rfl⟩
    ·
     intro h27; have g27 := of_decide_eq_false h27; refine zAd ?_; refine zA1 ?_; refine zA rfl (zAu rfl rfl rfl (inI (by omega) (by omega))) ?_; refine zA rfl (zA2 (v := .int .i64 _) rfl) ?_; refine zA6 ?_; exact ⟨x + 1, by omega, ⟨by omega, fun y hy => by rw [List.take_add_one, hz4] at hy; rcases List.mem_append.1 hy with h | h; exact hall y h; simp at h; subst h; exact inR_iff.2 ⟨by omega, by omega⟩, hs⟩, ⟨rfl, trivial⟩, by repeat (first | exact Out.mix _ _ _ | refine Out.updo rfl ?_ | refine Out.upd rfl ?_ | refine Out.mixIn rfl ?_)⟩
  ·
   intro h20; have g20 := of_decide_eq_false h20
   obtain rfl : x = 4 := by omega
   unfold Dk.jwrite at hk
   rw [if_pos (show [x0, x1, x2, x3].all inR = true from List.all_eq_true.2 hall)] at hk; have hnl := numsL_len [x0, x1, x2, x3]; refine zBp rfl ?_; refine zA3 (zA1 ?_); refine zA rfl (zA2 (v := .pointer (some _)) rfl) ?_; refine zA rfl (zA2 (v := .slice _ _ _) rfl) ?_; refine zAb rfl en149 (nums_sl hs (l := [x0, x1, x2, x3]) (Rd.cells (n := 4) 0 rfl rfl) rfl hl (by simp)) ?_; clear hs; rintro _ w ⟨a33, c33, rfl, hs⟩; refine zAb rfl en141 (write_sl (d := d) (L := [own _ _, cells _ _ _, cells _ _ _] ++ L) hE hcl (hs.arr [3, 0, 1, 2] 4 (by decide)) nUp (by decide) (Rd.own 0 rfl) rfl (by simp at hnl; omega) hk) ?_; clear hs; rintro _ w ⟨rfl, hs⟩; refine zA rfl (zA0 (v := zAh ad _) rfl) ?_
   refine zA6 ?_; refine zAc ?_; refine zBd (v := zAh ad _) rfl rfl ?_; exact ⟨_, rfl, rfl, hs.arr [0] 4 (by decide)⟩
def Dk.jremove (d : Dk) : Nat × Dk := if (d.remove nUp).1 = 0 ∨ (d.remove nUp).1 = 107 then (d.remove nUp).2.syncDir else d.remove nUp
theorem Dk.remove_code (n : ByteArray) (d : Dk) : ((d.remove n).1 = 0 ∨ (d.remove n).1 = 107 ∨ (d.remove n).1 = 110) ∧ (d.remove n).2.calls ≤ d.calls + 1 := by
  have hf := d.calls_find n
  unfold Dk.remove
  obtain ⟨c, o, d1, hfd⟩ : ∃ c o d1, d.find n = (c, o, d1) := ⟨_, _, _, rfl⟩; rw [hfd] at hf ⊢; simp only at hf
  have hc : c = 0 ∨ c = 107 ∨ c = 110 := by
    unfold Dk.find at hfd
    split at hfd
    · simp only [Prod.mk.injEq] at hfd
      have h1 := hfd.1
      unfold Dk.file at h1
      split at h1
      · exact .inr (.inr h1.symm)
      · split at h1
        · exact .inl h1.symm
        · exact .inr (.inl h1.symm)
    · simp only [Prod.mk.injEq] at hfd; exact .inr (.inr hfd.1.symm)
  cases o with
  | none => exact ⟨hc, by simp only; omega⟩
  | some i => exact ⟨.inl rfl, by simp only [Dk.change]; omega⟩
theorem jremove_sl (hE : ErrK ad g) (hcl : d.calls < 900000) (hs : Mem g w (zBc p d :: L)) {k : Nat} {d2 : Dk} (hk : d.jremove = (k, d2)) : Calls Tryz.prog 54 #[.pointer (some ⟨p, 0, none⟩)] w (Ret fun v w' => v = zAh ad k ∧ Mem g w' (zBc p d2 :: L)) := by
  obtain ⟨c, d1, hr⟩ : ∃ c d1, d.remove nUp = (c, d1) := ⟨_, _, rfl⟩; have hrc := d.remove_code nUp
  unfold Dk.jremove at hk
  rw [hr] at hk hrc; simp only at hk hrc; refine zAf Tryz.func54 rfl rfl ?_
  skip
  refine zA3 (zA1 ?_); refine zA rfl (zA0 (v := .nilIface) rfl) ?_; refine zA6 ?_; refine zA3 ?_; refine zA3 (zA1 ?_); refine zA rfl (zA2 (v := .pointer (some _)) rfl) ?_; refine zAb rfl en101 (remove_sl hE hs (by omega) nUp hr) ?_; clear hs; rintro _ w ⟨rfl, hs⟩; refine zA rfl (zA0 (v := zAh ad _) rfl) ?_; refine zA6 (zA3 (zA1 ?_)); refine zA rfl (zA2 (v := zAh ad _) rfl) ?_; refine zA rfl (zAx (ad := ad) rfl) ?_; refine zA rfl (zA2 (v := .bool _) rfl) ?_; refine zB0 (t := _) (d := 8) rfl ?_ ?_
  ·
   intro h7; have g7 := zEt h7; refine zAi rfl rfl h7 ?_; refine zA rfl (zA2 (v := zAh ad _) rfl) ?_; refine zAi rfl rfl h7 ?_; refine zA rfl (zA7 zCe rfl rfl (hE.cellW hs 107 (by decide) rfl)) ?_; refine zAi rfl rfl h7 ?_; refine zA rfl (run_neerr (hE.atW hs) (by rcases hrc.1 with h | h | h <;> (rw [h]; decide)) (by decide) rfl rfl) ?_; refine zA rfl (zAk (v := .bool _) rfl h7 rfl) ?_; refine zA6 ?_; refine zB rfl ?_ ?_
   ·
    intro h11; have g11 := zEt h11
    have h0 : c ≠ 0 := by simpa using h7
    have h1 : c ≠ 107 := by simpa using h11
    rw [if_neg (fun h => h.elim h0 h1)] at hk
    cases hk
    refine zA3 (zA1 ?_); refine zA rfl (zA2 (v := zAh ad _) rfl) ?_; refine zA rfl (zA0 (v := zAh ad _) rfl) ?_; refine zA6 ?_; refine zAc ?_; refine zBd (v := zAh ad _) rfl rfl ?_; exact ⟨_, rfl, rfl, hs⟩
   ·
    intro h11; have g11 := zEs h11
    have h1 : c = 107 := by simpa using h11
    rw [if_pos (.inr h1)] at hk; refine zAd ?_; refine zA3 (zA1 ?_); refine zA rfl (zA2 (v := .pointer (some _)) rfl) ?_; refine zAb rfl en78 (syncDir_sl hE hs (by omega) hk) ?_; clear hs; rintro _ w ⟨rfl, hs⟩; refine zA rfl (zA0 (v := zAh ad _) rfl) ?_; refine zA6 ?_; refine zAc ?_; refine zBd (v := zAh ad _) rfl rfl ?_; exact ⟨_, rfl, rfl, hs⟩
  ·
   intro h7; have g7 := zEs h7
   have h0 : c = 0 := by simpa using h7
   rw [if_pos (.inl h0)] at hk; refine zA9 rfl rfl rfl h7 ?_; refine zA9 rfl rfl rfl h7 ?_; refine zA9 rfl rfl rfl h7 ?_; refine zA rfl (zAg (v := .bool _) rfl h7 rfl) ?_; refine zA6 ?_; refine zB4 rfl rfl ?_; refine zAd ?_; refine zA3 (zA1 ?_); refine zA rfl (zA2 (v := .pointer (some _)) rfl) ?_; refine zAb rfl en78 (syncDir_sl hE hs (by omega) hk) ?_; clear hs; rintro _ w ⟨rfl, hs⟩; refine zA rfl (zA0 (v := zAh ad _) rfl) ?_; refine zA6 ?_; refine zAc ?_; refine zBd (v := zAh ad _) rfl rfl ?_; exact ⟨_, rfl, rfl, hs⟩
end
section
open Go.RowKit
attribute [local irreducible] zAh eV
variable {g w : World} {L M : List HP} {ad : Nat → Addr} {p : Nat} {d : Dk}
abbrev zS : Nat × Bool × Int × Int × Int × Int := (0, false, 0, 0, 0, 0)
abbrev nU : List ByteArray := [nUp]
theorem nU_new : ∀ n ∈ nU, zC5 nUp ≠ n := fun n hn => by
  simp only [List.mem_cons, List.not_mem_nil, or_false] at hn; subst hn; exact newN_ne _
theorem nU_valid : zBq nUp.data.toList = true ∧ zBq (zC5 nUp).data.toList = true := by decide +kernel
theorem nums4_len {l : List Int} (h : l.length = 4) : (zFp l).length ≤ 50 := by have := numsL_len l; omega
theorem PtI.jwrite {f : ByteArray → Option (List UInt8)} (h : PtI nU 100 f d) {l : List Int} (hl : l.length = 4) (hr : 300 ≤ d.room) :
    ∃ k e, d.jwrite l = (k, e) ∧ e.room = d.room ∧ e.calls ≤ d.calls + 6 ∧
      ((l.all inR = true ∧ k = 0 ∧ e.down = false ∧ (d.armed = 0 → e.armed = 0) ∧ (e.ok → PtI nU 100 (zEb f nUp (zFp l)) e)) ∨
       (l.all inR = true ∧ k = 110 ∧ e.down = true ∧ d.armed ≠ 0 ∧ (e.ok → ∀ picks, PtI nU 100 f (e.crash picks) ∨ PtI nU 100 (zEb f nUp (zFp l)) (e.crash picks))) ∨
       (l.all inR = false ∧ k = 105 ∧ e = d)) := by
  cases hin : l.all inR with
  | false => exact ⟨105, d, by simp [Dk.jwrite, hin], rfl, by omega, .inr (.inr ⟨rfl, rfl, rfl⟩)⟩
  | true =>
    have hn := nums4_len hl; obtain ⟨k, e, hw, hro, hd⟩ := h.write (s := nUp) (b := zFp l) (by simp) nU_new nU_valid.1 nU_valid.2 (by omega) (by show 2 * 1 * 100 + 100 ≤ d.room; omega); refine ⟨k, e, by simp [Dk.jwrite, hin, hw], hro, Dk.write_calls hw, ?_⟩
    rcases hd with ⟨h1, h2, h3, h4⟩ | ⟨h1, h2, h3, h4⟩
    · exact .inl ⟨rfl, h1, h2, h3, h4⟩
    · exact .inr (.inl ⟨rfl, h1, h2, h3, h4⟩)
theorem PtI.jread {f : ByteArray → Option (List UInt8)} (h : PtI nU 100 f d) {x y z u : Int} (hf : f nUp = some (zFp [x, y, z, u])) (hl : ∀ q ∈ [x, y, z, u], zDi q) (ha : [x, y, z, u].all inR = true) : jst (d.pread nUp) = (0, true, x, y, z, u) := by
  rw [h.read (by simp), hf]; exact jst_some (rnums_nums hl (by simp)) ha
theorem PtI.jnone {f : ByteArray → Option (List UInt8)} (h : PtI nU 100 f d) (hf : f nUp = none) : jst (d.pread nUp) = zS := by
  rw [h.read (by simp), hf]; have hv : vget [] = (101, 0, 0) := zFx rfl
  have h2 : rnums [] = (101, []) := by simp [rnums, vnum, hv, rloop]
  exact zG7 h2 (by decide) (.inl (by decide))
theorem upU (f : ByteArray → Option (List UInt8)) (v : List UInt8) : zEb f nUp v nUp = some v := by simp [zEb]
theorem inR_I {x : Int} (h : inR x = true) : zDi x := by have := inR_iff.1 h; exact ⟨by omega, by omega⟩
theorem all_I {l : List Int} (h : l.all inR = true) : ∀ q ∈ l, zDi q := fun q hq => inR_I (List.all_eq_true.1 h q hq)
end
section
open Go.RowKit Go.ChangeShapes
def codeName : Nat → String
  | 101 => "cordwood/api.ErrEnd"
  | 102 => "cordwood/api.ErrSum"
  | 103 => "cordwood/api.ErrShape"
  | 104 => "cordwood/api.ErrMany"
  | 105 => "cordwood/api.ErrRange"
  | 106 => "cordwood/api.ErrName"
  | 107 => "cordwood/api.ErrNone"
  | 108 => "cordwood/api.ErrThere"
  | 109 => "cordwood/api.ErrFull"
  | 110 => "cordwood/api.ErrCrash"
  | 111 => "cordwood/api.ErrStore"
  | 112 => "cordwood/api.ErrKind"
  | 113 => "cordwood/api.ErrState"
  | 114 => "cordwood/api.ErrFenced"
  | 115 => "cordwood/api.ErrOutside"
  | 116 => "cordwood/api.ErrUnavail"
  | 117 => "cordwood/api.ErrWord"
  | 118 => "cordwood/api.ErrNumber"
  | _ => "cordwood/api.ErrClosed"
def isSent : DataW Unit → Bool
  | .iface n (.ptr (.agg [.lit (.string _)])) => n == "*errors.errorString"
  | _ => false
theorem isSent_open {d : DataW Unit} (h : isSent d = true) : ∃ text, d = .iface "*errors.errorString" (.ptr (.agg [.lit (.string text)])) := by
  unfold isSent at h
  split at h
  · obtain rfl := eq_of_beq h; exact ⟨_, rfl⟩
  · cases h
theorem rowE (u : TypeId) (h : Tryz.prog.typeName? 3 u = some "*errors.errorString") : u = 286 :=
  have star : "*" ++ "errors.errorString" = "*errors.errorString" := by decide
  typeName_ptr_named (nm := "errors.errorString") (by rw [star]; kernel_rfl) (by kernel_rfl) (by decide) u (by rw [star]; exact h)
def SentAt (W : World) (n : String) (a : Addr) : Prop :=
  ∃ g, Tryz.prog.globalNamed n = some g ∧ W.cell? ⟨g, 0, none⟩ = some (.iface 286 (.pointer (some a))) ∧ ∃ s, W.cell? a = some (.string s)
theorem errF : ∃ f : Field, Tryz.prog.underlying 303 = some (.struct #[f]) ∧ f.type = 9 ∧ f.offset = 0 := ⟨_, uz303, rfl, rfl⟩
theorem cellsE : Tryz.prog.cellsOf 303 = 1 := by kernel_rfl
theorem cellsS : Tryz.prog.cellsOf 9 = 1 := by kernel_rfl
set_option maxRecDepth 100000 in
theorem sents {W : World} : ∀ {l : List (String × DataW Unit)} {ps : List MemPlace}, DataW.LaidVars Tryz.prog W l ps → (∀ x ∈ l, isSent x.2 = true) →
    (∀ x ∈ l, ∀ g, Tryz.prog.globalNamed x.1 = some g → (Tryz.prog.globals[g]?).map (·.type) = some 27) →
    (∀ b off, MemPlace.cell b off ∈ ps → (∃ c t, W.heap[b]? = some (.cells c t (0, 0))) ∧ ∀ u v, W.cell? ⟨b, off, none⟩ = some (.iface u v) → Value.okWide Tryz.prog W .any 0 u v) → ps.Nodup →
    ∃ ads : List Addr, ads.length = l.length ∧ (∀ i (h : i < l.length) (h' : i < ads.length), SentAt W l[i].1 ads[i]) ∧ ads.Nodup ∧ (∀ a ∈ ads, MemPlace.cell a.block a.off ∈ ps)
  | [], ps, h, _, _, _, _ => ⟨[], rfl, (fun i h => absurd h (by simp)), List.nodup_nil, (fun a h => by cases h)⟩
  | (n, d) :: r, ps, h, hs, hg, hrows, hnd => by
    obtain ⟨g0, t0, cs0, f0, p0, q0, hg0, ht0, hv0, hd0, hr, rfl⟩ := h; obtain rfl := Option.some.inj ((hg (n, d) List.mem_cons_self g0 hg0).symm.trans ht0); obtain ⟨text, rfl⟩ := isSent_open (hs (n, d) List.mem_cons_self); obtain ⟨l0⟩ := cs0; obtain ⟨ef, hef, hft, hfo⟩ := errF
    have ok0 : ∀ u v, l0 = [.iface u v] → Value.okWide Tryz.prog W .any 0 u v := fun u v e => by
      subst e; exact (hrows g0 0 (by simp [MemPlace.row])).2 u v (by simpa using World.var?_cell hg0 hv0 0)
    obtain ⟨a0, s0, rfl, hc0, hs0, hz0, rfl⟩ := errorString_of_trod zCe rowE uz286 hef hft hfo uz9 cellsE cellsS hd0 ok0; obtain ⟨ads, hlen, hat, hnod, hin⟩ := sents hr (fun x hx => hs x (.tail _ hx)) (fun x hx => hg x (.tail _ hx)) (fun b off hm => hrows b off (List.mem_append_right _ hm)) (hnd.sublist (List.sublist_append_right _ _)); refine ⟨a0 :: ads, by simp [hlen], fun i h h' => ?_, ?_, fun a ha => ?_⟩
    · cases i with
      | zero => exact ⟨g0, hg0, by simpa using World.var?_cell hg0 hv0 0, s0, hc0⟩
      | succ i => exact hat i (by simpa using h) (by simpa using h')
    · refine List.nodup_cons.2 ⟨fun hm => ?_, hnod⟩
      have h1 := hin a0 hm
      have h2 : MemPlace.cell a0.block a0.off ∈ MemPlace.row ⟨g0, 0, none⟩ 1 ++ MemPlace.row a0 1 := by simp [MemPlace.row]
      exact (List.nodup_append.1 hnd).2.2 _ h2 _ h1 rfl
    · rcases List.mem_cons.1 ha with rfl | ha
      · simp [MemPlace.row]
      · exact List.mem_append_right _ (hin a ha)
theorem errs_of_laid {L : List Nat} {l : List (String × DataW Unit)} {W : World} (h : laidMetH Tryz.prog l W)
    (hl : l.map (·.1) = L.map codeName) (hs : l.all (fun x => isSent x.2) = true) (hL : L.all (fun c => decide (c ∈ allCodes)) = true) (hnd : decide L.Nodup = true) :
    ∃ ad, Errs L ad W.heap.size W := by
  have hs' : ∀ x ∈ l, isSent x.2 = true := List.all_eq_true.1 hs
  have hL' : ∀ c ∈ L, c ∈ allCodes := fun c hc => of_decide_eq_true (List.all_eq_true.1 hL c hc)
  have hnd' : L.Nodup := of_decide_eq_true hnd
  have hplain : laidMetH Tryz.prog l W = laidMet Tryz.prog l W := MakeChecks.laidMetH_plain _ _ _ (List.all_eq_true.2 fun x hx => by
    obtain ⟨t, e⟩ := isSent_open (hs' x hx)
    rw [e]; rfl)
  rw [hplain] at h; obtain ⟨ps, hv, hn, hrows⟩ := h
  have gl : ∀ c ∈ allCodes, Tryz.prog.globalNamed (codeName c) = some (gidx c) ∧ (Tryz.prog.globals[gidx c]?).map (·.type) = some 27 := by
    intro c hc
    have hb : ∀ c, decide (Tryz.prog.globalNamed (codeName c) = some (gidx c)) = true → decide ((Tryz.prog.globals[gidx c]?).map (·.type) = some 27) = true → Tryz.prog.globalNamed (codeName c) = some (gidx c) ∧ (Tryz.prog.globals[gidx c]?).map (·.type) = some 27 := fun c h1 h2 => ⟨of_decide_eq_true h1, of_decide_eq_true h2⟩
    simp only [allCodes, List.mem_cons, List.not_mem_nil, or_false] at hc
    rcases hc with rfl | rfl | rfl | rfl | rfl | rfl | rfl | rfl | rfl | rfl | rfl | rfl | rfl | rfl | rfl | rfl | rfl | rfl | rfl <;> exact hb _ (by kernel_rfl) (by kernel_rfl)
  have hlen : l.length = L.length := by simpa using congrArg List.length hl
  have hname : ∀ i (h : i < l.length) (h' : i < L.length), l[i].1 = codeName L[i] := fun i h h' => by
    have := congrArg (·[i]?) hl
    simpa [h, h'] using this
  obtain ⟨ads, hal, hat, hanod, hin⟩ := sents hv hs' (fun x hx g hg => by
    obtain ⟨i, hi, rfl⟩ := List.getElem_of_mem hx
    have hi' : i < L.length := by omega
    rw [hname i hi hi'] at hg; have := gl L[i] (hL' _ (List.getElem_mem hi')); obtain rfl := Option.some.inj (this.1.symm.trans hg)
    exact this.2) hrows hn
  have hidx : ∀ c ∈ L, ∃ i, ∃ (h : i < L.length) (h' : i < ads.length), L[i] = c ∧ L.idxOf c = i := fun c hc => by
    have h := List.idxOf_lt_length_of_mem hc; exact ⟨L.idxOf c, h, by omega, List.getElem_idxOf h, rfl⟩
  refine ⟨fun c => ads.getD (L.idxOf c) default, ⟨fun c hc e => ?_, fun c hc => ?_, fun c hc => ?_, fun c hc d hd e => ?_, fun c hc => ?_⟩⟩
  · subst e; have := hL' 0 hc; revert this; decide
  all_goals obtain ⟨i, hi, hi', hci, hx⟩ := hidx c hc
  · obtain ⟨g, hg, hcell, _⟩ := hat i (by omega) hi'
    rw [hname i (by omega) hi, hci, (gl c (hL' c hc)).1] at hg; obtain rfl := Option.some.inj hg
    have hp : c ≠ 0 := fun e => by subst e; have := hL' 0 hc; revert this; decide
    rw [hcell]; simp only [zAh, hp, if_false]; rw [hx, List.getD_eq_getElem?_getD, List.getElem?_eq_getElem hi']
    rfl
  · obtain ⟨⟨cs, t, hb⟩, _⟩ := hrows _ _ (hin ads[i] (List.getElem_mem hi'))
    refine ⟨cs, t, ?_⟩; rw [hx, List.getD_eq_getElem?_getD, List.getElem?_eq_getElem hi']; exact hb
  · obtain ⟨j, hj, hj', hdj, hy⟩ := hidx d hd
    simp only [hx, hy, List.getD_eq_getElem?_getD, List.getElem?_eq_getElem hi', List.getElem?_eq_getElem hj', Option.getD_some] at e; have := (List.getElem_inj hanod).1 e; subst this; exact hci.symm.trans hdj
  · obtain ⟨g, hg, hcell, s, hs⟩ := hat i (by omega) hi'
    rw [hname i (by omega) hi, hci, (gl c (hL' c hc)).1] at hg; obtain rfl := Option.some.inj hg
    have hlt : ∀ {a : Addr} {v : Value}, W.cell? a = some v → a.block < W.heap.size := fun {a v} h => by
      rcases Nat.lt_or_ge a.block W.heap.size with h' | h'
      · exact h'
      · simp [World.cell?, Array.getElem?_eq_none h'] at h
    refine ⟨hlt hcell, ?_⟩; rw [hx, List.getD_eq_getElem?_getD, List.getElem?_eq_getElem hi']; exact hlt hs
theorem seq_of_cells {W : World} {x : Addr} {len cap : Nat} {f : Nat → Value} (hl : len ≤ cap) (h : ∀ i, i < cap → W.cell? (x.add i) = some (f i)) :
    zEm W (.slice (some x) len cap) ((List.range len).map f) := by
  refine ⟨_, _, _, rfl, by simp, hl, (fun h => by cases h), ?_⟩
  rcases Nat.eq_zero_or_pos cap with h0 | h0
  · exact .inl h0
  right
  obtain ⟨b, off, sp⟩ := x; have h1 := h 0 h0
  have hsp : sp = none ∧ ∃ cs E fz, W.heap[b]? = some (.cells cs E fz) := by
    simp only [World.cell?, Addr.add, if_true] at h1
    split at h1
    · rename_i c t f' hh
      cases sp with
      | none => exact ⟨rfl, c, t, f', hh⟩
      | some q => simp at h1
    · cases h1
  obtain ⟨rfl, cs, E, fz, hb⟩ := hsp
  have hc : ∀ i, i < cap → cs[off + i]? = some (f i) := fun i hi => by
    have := h i hi; simp only [World.cell?, Addr.add_lit] at this; rw [hb] at this
    simpa using this
  refine ⟨b, off, cs, E, fz, rfl, hb, ?_, fun i hi => ?_⟩
  · have := (Array.getElem?_eq_some_iff.1 (hc (cap - 1) (by omega))).1
    omega
  · simp only [List.length_map, List.length_range] at hi
    rw [hc i (by omega)]
    simp [hi]
def IsRow (k : IntKind) (w : World) (a : Option Addr) (len cap : Nat) (zs : List Int) : Prop :=
  (a = none ∧ len = 0 ∧ cap = 0 ∧ zs = []) ∨
  ∃ x, a = some x ∧ len ≤ cap ∧ cap ≤ maxLen ∧ zs.length = cap ∧ (∀ i, i < zs.length → w.cell? (x.add i) = some (.int k (zs.getD i 0))) ∧ ∀ n ∈ zs, (Lit.int k n).wf = true
theorem IsRow.len {k : IntKind} {w : World} {a : Option Addr} {len cap : Nat} {zs : List Int} (h : IsRow k w a len cap zs) : len ≤ cap ∧ cap ≤ maxLen ∧ (zs.take len).length = len := by
  rcases h with ⟨rfl, rfl, rfl, rfl⟩ | ⟨x, rfl, h1, h2, h3, _, _⟩
  · exact ⟨Nat.le_refl _, Nat.zero_le _, rfl⟩
  · exact ⟨h1, h2, by simp; omega⟩
theorem IsRow.seq {k : IntKind} {w : World} {a : Option Addr} {len cap : Nat} {zs : List Int} (h : IsRow k w a len cap zs) : zEm w (.slice a len cap) ((zs.take len).map (Value.int k)) := by
  rcases h with ⟨rfl, rfl, rfl, rfl⟩ | ⟨x, rfl, h1, h2, h3, h4, _⟩
  · exact zEm.nil w
  · have := seq_of_cells (W := w) (x := x) (f := fun i => .int k (zs.getD i 0)) h1 (fun i hi => h4 i (by omega))
    have e : (List.range len).map (fun i => Value.int k (zs.getD i 0)) = (zs.take len).map (Value.int k) := by
      apply List.ext_getElem?
      intro i; simp only [List.getElem?_map, List.getElem?_range, List.getElem?_take]
      by_cases hi : i < len
      · have hz : i < zs.length := by omega
        simp [hi, List.getElem?_eq_getElem hz]
      · simp [hi]
    rwa [e] at this
theorem IsRow.wf {k : IntKind} {w : World} {a : Option Addr} {len cap : Nat} {zs : List Int} (h : IsRow k w a len cap zs) : ∀ z ∈ zs.take len, (Lit.int k z).wf = true := by
  rcases h with ⟨rfl, rfl, rfl, rfl⟩ | ⟨x, rfl, _, _, _, _, h5⟩
  · intro z hz; cases hz
  · intro z hz; exact h5 z (List.mem_of_mem_take hz)
theorem IsRow.bytes {w : World} {a : Option Addr} {len cap : Nat} {zs : List Int} (h : IsRow .u8 w a len cap zs) : zEm w (.slice a len cap) (zAm ((zs.take len).map fun z => UInt8.ofNat z.toNat)) := by
  have h1 := h.seq; have h2 := h.wf
  have e : (zs.take len).map (Value.int .u8) = zAm ((zs.take len).map fun z => UInt8.ofNat z.toNat) := by
    simp only [zAm, List.map_map]
    refine List.map_congr_left fun z hz => ?_
    have := h2 z hz; simp only [Lit.wf, IntKind.min, IntKind.max, Bool.and_eq_true, decide_eq_true_eq] at this
    have h0 : 0 ≤ z ∧ z < 256 := by revert this; simp [IntKind.signed, IntKind.bits]; omega
    simp only [Function.comp, u8v, Value.int.injEq, true_and]
    have : (UInt8.ofNat z.toNat).toNat = z.toNat := by simp; omega
    rw [this]; omega
  rwa [e] at h1
set_option maxRecDepth 100000 in
theorem blk_of_ok {W : World} {base : Nat} {t e : TypeId} {a : Option Addr} {n c : Nat} (ht : Tryz.prog.underlying t = some (.slice e)) (h : Value.okWide Tryz.prog W .any base t (.slice a n c)) : ∀ b, blk (.slice a n c) = some b → b < W.heap.size := by
  intro b hb
  cases a with
  | none => cases hb
  | some x =>
    simp only [blk, Option.some.injEq] at hb; subst hb; simp only [Value.okWide, ht, Cell.okWide, Cell.ok] at h; obtain ⟨_, _, _, _, row, cells, hs, _⟩ := h
    rcases Nat.lt_or_ge x.block W.heap.size with h' | h'
    · exact h'
    · simp [World.shape?, Array.getElem?_eq_none h'] at hs
end
section
open Go.RowKit
attribute [local irreducible] zAh
variable {g w : World} {L M : List HP} {ad : Nat → Addr}
def Came0 (g : World) (v : Value) (l : List Value) : Prop := ∀ w' : World, (∀ b, b < g.heap.size → w'.heap[b]? = g.heap[b]?) → zEm w' v l
theorem Came0.seq {v : Value} {l : List Value} (h : Came0 g v l) (hs : Mem g w L) : zEm w v l := h w hs.old
theorem Came.zero {v : Value} {l : List Value} (h : Came g v l) : Came0 g v l := fun w' k => h.1.heap fun b hb => k b (h.2 b hb)
theorem Came0.rd {v : Value} {l : List Value} (h : Came0 g v l) (L : List HP) : Rd g L v l := fun w hs => h w hs.old
abbrev El := Option Addr × Nat × List UInt8
def elV (x : El) : Value := .slice x.1 x.2.2.length x.2.1
structure Rows2 (g : World) (v : Value) (z : List El) : Prop where
  came : Came g v (z.map elV)
  each : ∀ x ∈ z, Came0 g (elV x) (zAm x.2.2)
def RowsW (w : World) (v : Value) (z : List El) : Prop := zEm w v (z.map elV) ∧ ∀ x ∈ z, Came0 w (elV x) (zAm x.2.2)
theorem RowsW.rows {a : Option Addr} {n c : Nat} {z : List El} (h : RowsW w (.slice a n c) z) (hb : ∀ b, blk (.slice a n c) = some b → b < w.heap.size) : Rows2 w (.slice a n c) z ∧ n = z.length := ⟨⟨⟨h.1, hb⟩, h.2⟩, by have := h.1.len; simpa using this.symm⟩
theorem choose_rows {α : Type} {len : Nat} {p : Nat → α → Prop} (h : ∀ i, i < len → ∃ z, p i z) : ∃ zs : List α, zs.length = len ∧ ∀ i z, zs[i]? = some z → p i z := by
  induction len with
  | zero => exact ⟨[], rfl, fun i z hz => by simp at hz⟩
  | succ n ih =>
    obtain ⟨zs, h1, h2⟩ := ih fun i hi => h i (by omega)
    obtain ⟨z, hz⟩ := h n (by omega); refine ⟨zs ++ [z], by simp [h1], fun i y hy => ?_⟩
    by_cases hi : i < zs.length
    · rw [List.getElem?_append_left hi] at hy; exact h2 i y hy
    · rw [List.getElem?_append_right (by omega)] at hy
      have : i = n := by
        have := (List.getElem?_eq_some_iff.1 hy).1
        simp at this; omega
      subst this; rw [h1, Nat.sub_self] at hy
      simp at hy
      subst hy; exact hz
open Go.Deep in
theorem open_structs {H : Type} {enc : TypeId × Value → H} {P : Program} {w : World} {base : Nat} {spare : Nat → Bool} {held : Bool} {t e : TypeId} {fs : Array Field} {k : Nat} {α : Type} (en : α → List Value) (good : α → Prop) {fuel : Nat} {a : Option Addr} {n c : Nat} {x : DataW H × List MemPlace}
    (ht : P.underlying t = some (.slice e)) (he : P.underlying e = some (.struct fs)) (hk : P.cellsOf e = k) (hk0 : 0 < k)
    (hrow : ∀ (row : List Value) (m : Nat), row.length = k → (∀ (i : Nat) (f : Field), fs[i]? = some f → ∃ y, DataW.trod enc P w base spare held m f.type ((row.drop f.offset).take (P.cellsOf f.type)) = some y) → ∃ z, row = en z ∧ good z)
    (h : DataW.trod enc P w base spare held fuel t [.slice a n c] = some x) : ∃ zs : List α, zGa w k (.slice a n c) (zs.map en) ∧ ∀ z ∈ zs, good z := by
  rcases open_slice ht h with ⟨h0, _⟩ | ⟨a', len, cap, m, n', D, Pl, hcs, hb, hl, hm, hmm, rfl, hx⟩
  · simp only [List.cons.injEq, Value.slice.injEq, and_true] at h0
    obtain ⟨rfl, rfl, rfl⟩ := h0; exact ⟨[], ⟨none, 0, 0, rfl, rfl, Nat.le_refl _, .inl rfl⟩, fun z hz => by simp at hz⟩
  · simp only [List.cons.injEq, Value.slice.injEq, and_true] at hcs
    obtain ⟨rfl, rfl, rfl⟩ := hcs
    have hlm : n ≤ m := by rw [hmm]; split <;> omega
    have each : ∀ i, i < n → ∃ z, (∀ j v, (en z)[j]? = some v → w.cell? (a'.add (i * k + j)) = some v) ∧ (en z).length = k ∧ good z := fun i hi => by
      obtain ⟨row, h1, h2⟩ := hx i (by omega); rw [hk] at h1; obtain ⟨_, hlen, hcell⟩ := World.cells?_some h1; obtain ⟨xs, q, hq, hxy, _, hxl, hf⟩ := DataW.trod_struct he h2
      obtain ⟨z, rfl, hz⟩ := hrow row q hlen fun i f hfi => by
        have hi2 : i < xs.length := by rw [hxl]; exact (Array.getElem?_eq_some_iff.1 hfi).1
        exact ⟨xs[i], by rw [hf i f hfi, List.getElem?_eq_getElem hi2]⟩
      refine ⟨z, fun j v hj => ?_, hlen, hz⟩; have hjl := (List.getElem?_eq_some_iff.1 hj).1; rw [← add_add, hcell j (by omega)]; exact hj
    obtain ⟨zs, hz1, hz2⟩ := choose_rows each; refine ⟨zs, ⟨some a', n, c, rfl, by simp [hz1], hl, ?_⟩, fun z hz => ?_⟩
    · rcases Nat.eq_zero_or_pos n with h0 | h0
      · left
        have : zs = [] := List.eq_nil_of_length_eq_zero (by omega)
        rw [this]; rfl
      · right
        obtain ⟨z0, hz0⟩ : ∃ z, zs[0]? = some z := ⟨_, List.getElem?_eq_getElem (by omega)⟩; obtain ⟨e1, e2, _⟩ := hz2 0 z0 hz0; obtain ⟨v0, hv0⟩ : ∃ v, (en z0)[0]? = some v := ⟨_, List.getElem?_eq_getElem (by omega)⟩; have hc := e1 0 v0 hv0; obtain ⟨b, off, sp⟩ := a'
        have hsp : sp = none := by
          cases sp with
          | none => rfl
          | some s =>
            simp only [World.cell?, Addr.add, Nat.zero_mul, Nat.add_zero, if_true] at hc
            split at hc
            · simp at hc
            · cases hc
        subst hsp; have hbl := World.block_lt_of_cell? w _ hc
        have hbk : ((⟨b, off, none⟩ : Addr).add (0 * k + 0)).block = b := by unfold Addr.add; split <;> rfl
        rw [hbk] at hbl; refine ⟨b, off, rfl, hbl, fun q row hq j v hj => ?_⟩; rw [List.getElem?_map] at hq; obtain ⟨z, hzq, rfl⟩ := Option.map_eq_some_iff.1 hq; have := (hz2 q z hzq).1 j v hj; rw [Addr.add_lit] at this; rw [Nat.add_assoc]; exact this
    · obtain ⟨i, hi⟩ := List.getElem?_of_mem hz
      exact (hz2 i z hi).2.2
end
section
open Go.RowKit
attribute [local irreducible] zAh eV
variable {g w : World} {L M : List HP} {ad : Nat → Addr} {p : Nat} {d : Dk}
abbrev S4 := Int × Int × Int × Int
def s4L (s : S4) : List Int := [s.1, s.2.1, s.2.2.1, s.2.2.2]
def s4V (s : S4) : List Value := [.int .i64 s.1, .int .i64 s.2.1, .int .i64 s.2.2.1, .int .i64 s.2.2.2]
def s40 : S4 := (0, 0, 0, 0)
abbrev S4ok (s : S4) : Prop := ∀ x ∈ s4L s, zDi x
def clrF (f : ByteArray → Option (List UInt8)) (s : ByteArray) : ByteArray → Option (List UInt8) := fun n => if n = s then none else f n
theorem PtI.jgone {f : ByteArray → Option (List UInt8)} (h : PtI nU 100 f d) (ha : d.armed = 0) : ∃ e, d.jremove = (0, e) ∧ e.calls ≤ d.calls + 2 ∧ e.armed = 0 ∧ (e.ok → PtI nU 100 (clrF f nUp) e) := by
  have hu := h.calm.up
  have hun : ∀ (e : Dk), zAw e.names nUp = none → ∀ n ∈ nU, Under e n (clrF f nUp n) := fun e he n hn => by
    simp only [List.mem_cons, List.not_mem_nil, or_false] at hn; subst hn; simp only [clrF, if_true]; exact he
  cases hn : zAw d.names nUp with
  | none =>
    have hr : d.remove nUp = (107, d) := by simp only [Dk.remove, Dk.find_none hu ha hn]
    have hj : d.jremove = d.syncDir := by simp [Dk.jremove, hr]
    rw [hj, Dk.syncDir_up hu ha]; exact ⟨_, rfl, by simp only; omega, ha, fun he => ⟨⟨⟨he, hu⟩, rfl, rfl⟩, hun _ hn, h.keys, h.len⟩⟩
  | some i =>
    have hr := Dk.remove_up hu ha hn
    have hj : d.jremove = (d.change ⟨ByteArray.empty, nUp, none⟩).syncDir := by simp [Dk.jremove, hr]
    have hnm : (d.change ⟨ByteArray.empty, nUp, none⟩).names = zDa d.names nUp := by
      simp only [Dk.change, Chg.app]; rw [if_neg (by decide)]
    rw [hj, Dk.syncDir_up (d := d.change ⟨ByteArray.empty, nUp, none⟩) hu ha]; refine ⟨_, rfl, by simp only [Dk.change]; omega, ha, fun he => ⟨⟨⟨he, hu⟩, rfl, rfl⟩, hun _ ?_, fun n hk => ?_, h.len⟩⟩
    · show zAw (d.change ⟨ByteArray.empty, nUp, none⟩).names nUp = none
      rw [hnm]; exact zCl h.calm.ok.nnd nUp
    · have hk : n ∈ zAl (d.change ⟨ByteArray.empty, nUp, none⟩).names := hk
      rw [hnm] at hk; obtain ⟨v, hv⟩ := zD7 hk; exact h.keys n (List.mem_map_of_mem (f := Prod.fst) (adel_in (zCq hv)))
def JkD (F : ByteArray → Option (List UInt8)) (d : Dk) : Option S4 → Prop
  | none => d.down = false ∧ PtI nU 100 F d
  | some s => d.down = true ∧ (s4L s).all inR = true ∧ ∀ picks, PtI nU 100 F (d.crash picks) ∨ PtI nU 100 (zEb F nUp (zFp (s4L s))) (d.crash picks)
structure JkI (F : ByteArray → Option (List UInt8)) (cur : Option S4) : Prop where
  rel : F nUp = cur.map fun s => zFp (s4L s)
  ok : ∀ s, cur = some s → (s4L s).all inR = true
def curJ (cur : Option S4) : Nat × Bool × Int × Int × Int × Int := match cur with
  | none => zS
  | some s => (0, true, s.1, s.2.1, s.2.2.1, s.2.2.2)
theorem JkI.read {F : ByteArray → Option (List UInt8)} {cur : Option S4} (h : JkI F cur) (hp : PtI nU 100 F d) : jst (d.pread nUp) = curJ cur := by
  cases cur with
  | none => exact hp.jnone h.rel
  | some s => exact hp.jread (x := s.1) (y := s.2.1) (z := s.2.2.1) (u := s.2.2.2) h.rel (all_I (h.ok s rfl)) (h.ok s rfl)
theorem JkI.upd {F : ByteArray → Option (List UInt8)} {s : S4} (h : (s4L s).all inR = true) : JkI (zEb F nUp (zFp (s4L s))) (some s) := ⟨upU _ _, fun t ht => by cases ht; exact h⟩
theorem JkD.crash {F : ByteArray → Option (List UInt8)} {cur nx : Option S4} (h : JkI F cur) (hd : JkD F d nx) (picks : List Int) : ∃ G c, PtI nU 100 G (d.crash picks) ∧ JkI G c ∧ (c = cur ∨ ∃ s, nx = some s ∧ c = some s) := by
  cases nx with
  | none => exact ⟨F, cur, hd.2.crash picks, h, .inl rfl⟩
  | some s =>
    obtain ⟨_, h1, h2⟩ := hd
    rcases h2 picks with h3 | h3
    · exact ⟨F, cur, h3, h, .inl rfl⟩
    · exact ⟨_, some s, h3, JkI.upd h1, .inr ⟨s, rfl, rfl⟩⟩
def StRows (w : World) (v : Value) (zs : List S4) : Prop := zGa w 4 v (zs.map s4V) ∧ ∀ s ∈ zs, S4ok s
end
section
open Go.RowKit
variable {d e : Dk} {N : List ByteArray} {B : Nat} {f : ByteArray → Option (List UInt8)}
abbrev UpN : List ByteArray := [mtN, snN, nUp]
theorem up_mt : mtN ∈ UpN := List.mem_cons_self ..
theorem up_sn : snN ∈ UpN := List.mem_cons_of_mem _ (List.mem_cons_self ..)
theorem up_up : nUp ∈ UpN := List.mem_cons_of_mem _ (List.mem_cons_of_mem _ (List.mem_cons_self ..))
theorem upN_new : ∀ n ∈ UpN, zC5 nUp ≠ n := by decide +kernel
theorem mt_up : mtN ≠ nUp := by decide +kernel
theorem clrF_other {s n : ByteArray} (h : n ≠ s) : clrF f s n = f n := by simp [clrF, h]
theorem clrF_same (s : ByteArray) : clrF f s s = none := by simp [clrF]
theorem RawI.jgone (h : RawI N B f d) (ha : d.armed = 0) (hs : nUp ∈ N) : ∃ e, d.jremove = (0, e) ∧ e.room = d.room ∧ e.calls ≤ d.calls + 2 ∧ e.armed = 0 ∧ (e.ok → RawI N B (clrF f nUp) e) := by
  have hu := h.up
  cases hn : zAw d.names nUp with
  | none =>
    have hr : d.remove nUp = (107, d) := by simp only [Dk.remove, Dk.find_none hu ha hn]
    have hj : d.jremove = d.syncDir := by simp [Dk.jremove, hr]
    rw [hj, Dk.syncDir_up hu ha]
    have hf : clrF f nUp = f := by
      funext n
      by_cases e1 : n = nUp
      · subst e1
        rw [clrF_same]; have h1 := h.st.under nUp hs
        cases hv : f nUp with
        | none => rfl
        | some v => rw [hv] at h1; obtain ⟨i, q, k1, _⟩ := h1; rw [hn] at k1; cases k1
      · exact clrF_other e1
    rw [hf]; exact ⟨_, rfl, rfl, by simp only; omega, ha, fun he => ⟨he, hu, rfl, rfl, fun n hn => (h.st.under n hn).same rfl fun i F _ hF _ => hF, h.st.apart, h.st.keys, h.st.len⟩⟩
  | some i =>
    have hr := Dk.remove_up hu ha hn
    have hj : d.jremove = (d.change ⟨ByteArray.empty, nUp, none⟩).syncDir := by simp [Dk.jremove, hr]
    have hnm : (d.change ⟨ByteArray.empty, nUp, none⟩).names = zDa d.names nUp := by
      simp only [Dk.change, Chg.app]; rw [if_neg (by decide)]
    rw [hj, Dk.syncDir_up (d := d.change ⟨ByteArray.empty, nUp, none⟩) hu ha]; obtain ⟨e, he⟩ : ∃ e, e = ({ d.change ⟨ByteArray.empty, nUp, none⟩ with kept := (d.change ⟨ByteArray.empty, nUp, none⟩).names, changes := [], calls := (d.change ⟨ByteArray.empty, nUp, none⟩).calls + 1 } : Dk) := ⟨_, rfl⟩; rw [← he]
    have n1 : e.names = zDa d.names nUp := by rw [he]; exact hnm
    have n2 : e.kept = e.names := by rw [he]
    have n3 : e.changes = [] := by rw [he]
    have n4 : e.fs = d.fs := by rw [he]; rfl
    have hs1 : zAw e.names nUp = none := by rw [n1]; exact zCl h.ok.nnd nUp
    have ho : ∀ n, n ≠ nUp → zAw e.names n = zAw d.names n := fun n hne => by rw [n1]; exact zG2 hne
    refine ⟨e, rfl, by rw [he]; rfl, by rw [he]; simp only [Dk.change]; omega, by rw [he]; exact ha, fun hok => ⟨hok, by rw [he]; exact hu, n2.symm, n3, fun n hn => ?_, fun n hn m hm j g1 g2 => ?_, fun n hk => ?_, fun j F hF => h.st.len j F (by rw [← n4]; exact hF)⟩⟩
    · by_cases e1 : n = nUp
      · subst e1; rw [clrF_same]; exact hs1
      · rw [clrF_other e1]; exact (h.st.under n hn).same (ho n e1) fun j F _ hF _ => by rw [n4]; exact hF
    · have e1 : n ≠ nUp := fun e1 => by rw [e1, hs1] at g1; cases g1
      have e2 : m ≠ nUp := fun e1 => by rw [e1, hs1] at g2; cases g2
      rw [ho n e1] at g1; rw [ho m e2] at g2; exact h.st.apart n hn m hm j g1 g2
    · obtain ⟨v, hv⟩ := zD7 hk
      rw [n1] at hv; exact h.st.keys n (List.mem_map_of_mem (f := Prod.fst) (adel_in (zCq hv)))
theorem RawI.jput (h : RawI N B f d) (hs : nUp ∈ N) (hN : ∀ n ∈ N, zC5 nUp ≠ n) {s : S4} (h4 : (s4L s).all inR = true) (hB : 60 ≤ B) (hr : 2 * N.length * B + B ≤ d.room) :
    ∃ k e, d.jwrite (s4L s) = (k, e) ∧ e.room = d.room ∧ e.calls ≤ d.calls + 6 ∧ (k = 0 ∧ e.down = false ∧ (d.armed = 0 → e.armed = 0) ∧ (e.ok → RawI N B (zEb f nUp (zBx (zFp (s4L s)))) e) ∨ k = 110 ∧ e.down = true ∧ d.armed ≠ 0 ∧ (e.ok → ∀ picks, RawI N B f (e.crash picks) ∨ RawI N B (zEb f nUp (zBx (zFp (s4L s)))) (e.crash picks))) := by
  have hl := numsL_len (s4L s); have h5 : (s4L s).length = 4 := rfl
  have h6 : d.jwrite (s4L s) = d.write nUp (zFp (s4L s)) := by unfold Dk.jwrite; rw [if_pos h4]
  rw [h6]; exact h.write hs hN nU_valid.1 nU_valid.2 (by omega) hr
theorem RawI.jnone (h : RawI N B f d) (hs : nUp ∈ N) (hf : f nUp = none) : jst (d.pread nUp) = zS := by
  rw [h.pread_none hs hf]; obtain ⟨k2, l2, hk⟩ : ∃ k2 l2, rnums [] = (k2, l2) := ⟨_, _, rfl⟩; exact zG7 hk (by decide) (.inl (by decide))
end
section
open Go.RowKit
structure Up where
  name : ByteArray
  parts : List (Int × List UInt8)
structure St where
  objs : List (ByteArray × List UInt8)
  ups : List (Int × Up)
  ids : Nat
  script : List Int
  calls : Nat
  failed : Nat
def Kept (w : World) (dt : List Nat) (v : Value) (l : List UInt8) : Prop := zEm w v (zAm l) ∧ ∀ b, blk v = some b → b ∈ dt
def UpAt (w : World) (dt : List Nat) (e : Nat × Nat) (u : Up) : Prop :=
  e.1 ∈ dt ∧ w.heap[e.1]? = some (.cells #[.string u.name, .map (some e.2)] 280 (0, 0)) ∧ ∃ ps, zEe w (Value.int .i64) e.2 ps ∧ ARel (Kept w dt) ps u.parts
def upPtr (e : Int × Nat × Nat) : Int × Value := (e.1, .pointer (some ⟨e.2.1, 0, none⟩))
def StoreCells (mo mu : Nat) (ids : Nat) (sv : Value) (calls failed : Nat) : Array Value :=
  #[.map (some mo), .map (some mu), .int .i64 ids, sv, .int .i64 calls, .int .i64 failed]
structure StIn (w : World) (p : Nat) (st : St) (fp dt : List Nat) (mo mu : Nat) (sv : Value) (es : List (ByteArray × Value)) (us : List (Int × Nat × Nat)) : Prop where
  cells : w.heap[p]? = some (.cells (StoreCells mo mu st.ids sv st.calls st.failed) 92 (0, 0))
  mapO : zEe w Value.string mo es
  objs : ARel (Kept w dt) es st.objs
  mapU : zEe w (Value.int .i64) mu (us.map upPtr)
  ups : ARel (UpAt w dt) us st.ups
  script : ownV w sv (zDw st.script)
  scriptB : ∀ b, blk sv = some b → b ∈ fp ∧ b ≠ p ∧ b ≠ mo ∧ b ≠ mu ∧ ∀ e ∈ us, b ≠ e.2.2
  moF : mo ∈ fp
  muF : mu ∈ fp
  pmF : ∀ e ∈ us, e.2.2 ∈ fp
  nodup : (mo :: mu :: us.map (·.2.2)).Nodup
structure StoreAt (B : Nat) (w : World) (p : Nat) (st : St) (fp dt : List Nat) : Prop where
  body : ∃ mo mu sv es us, StIn w p st fp dt mo mu sv es us
  self : p ∈ fp
  apart : ∀ k ∈ fp, k ∉ dt
  ge : ∀ k ∈ fp, B ≤ k
  lt : ∀ k, k ∈ fp ∨ k ∈ dt → k < w.heap.size
theorem Kept.keep {F : Nat → Prop} {w w' : World} {dt dt' : List Nat} {v : Value} {l : List UInt8} (h : Kept w dt v l) (k : Keeps F w w') (hF : ∀ b ∈ dt, ¬ F b) (hd : ∀ b ∈ dt, b ∈ dt') : Kept w' dt' v l :=
  ⟨h.1.keep k fun b hb => hF b (h.2 b hb), fun b hb => hd b (h.2 b hb)⟩
theorem UpAt.keep {F : Nat → Prop} {w w' : World} {dt dt' : List Nat} {e : Nat × Nat} {u : Up} (h : UpAt w dt e u) (k : Keeps F w w') (hF : ∀ b ∈ dt, ¬ F b) (hm : ¬ F e.2) (hd : ∀ b ∈ dt, b ∈ dt') : UpAt w' dt' e u := by
  obtain ⟨h1, h2, ps, h3, h4⟩ := h; exact ⟨hd _ h1, k.get h2 (hF _ h1), ps, h3.keep k hm, h4.mono fun _ _ _ _ _ h => h.keep k hF hd⟩
theorem ups_keep {F : Nat → Prop} {w w' : World} {dt dt' : List Nat} {us : List (Int × Nat × Nat)} {ups : List (Int × Up)} (h : ARel (UpAt w dt) us ups) (k : Keeps F w w') (hF : ∀ b ∈ dt, ¬ F b) (hm : ∀ e ∈ us, ¬ F e.2.2) (hd : ∀ b ∈ dt, b ∈ dt') : ARel (UpAt w' dt') us ups :=
  h.mono fun _ _ _ ha _ h => h.keep k hF (hm _ ha) hd
theorem zEe.ne_cells {κ : Type} {w : World} {enc : κ → Value} {m p : Nat} {es : List (κ × Value)} {cs : Array Value} {E : TypeId} {fz : Nat × Nat} (h : zEe w enc m es) (hp : w.heap[p]? = some (.cells cs E fz)) : m ≠ p := by
  rintro rfl; obtain ⟨arr, clock, hb, _⟩ := h; rw [hb] at hp
  cases hp
theorem StIn.pm_ne {w : World} {p : Nat} {st : St} {fp dt : List Nat} {mo mu : Nat} {sv : Value} {es : List (ByteArray × Value)} {us : List (Int × Nat × Nat)} (h : StIn w p st fp dt mo mu sv es us) {e : Int × Nat × Nat} (he : e ∈ us) : e.2.2 ≠ p := by
  have := h.ups; intro q
  have hm : ∃ ps, zEe w (Value.int .i64) e.2.2 ps := by
    have key := arel_ind (R := UpAt w dt) (M := fun (us : List (Int × Nat × Nat)) (_ : List (Int × Up)) => ∀ e ∈ us, ∃ ps, zEe w (Value.int .i64) e.2.2 ps) (fun _ h => by cases h)
      (fun k a b l m hr _ ih e he => by
        rcases List.mem_cons.1 he with rfl | he
        · obtain ⟨_, _, ps, h3, _⟩ := hr; exact ⟨ps, h3⟩
        · exact ih e he) us st.ups this
    exact key e he
  obtain ⟨ps, hm⟩ := hm; exact hm.ne_cells h.cells q
theorem StIn.keep {F : Nat → Prop} {w w' : World} {p : Nat} {st : St} {fp dt : List Nat} {mo mu : Nat} {sv : Value} {es : List (ByteArray × Value)} {us : List (Int × Nat × Nat)} (h : StIn w p st fp dt mo mu sv es us) (k : Keeps F w w')
    (hp : ¬ F p) (hf : ∀ b ∈ fp, ¬ F b) (hd : ∀ b ∈ dt, ¬ F b) : StIn w' p st fp dt mo mu sv es us where
  cells := k.get h.cells hp
  mapO := h.mapO.keep k (hf _ h.moF)
  objs := h.objs.mono fun _ _ _ _ _ x => x.keep k hd fun _ h => h
  mapU := h.mapU.keep k (hf _ h.muF)
  ups := ups_keep h.ups k hd (fun e he => hf _ (h.pmF e he)) fun _ h => h
  script := h.script.keep k fun _ hb => hf _ (h.scriptB _ hb).1
  scriptB := h.scriptB
  moF := h.moF
  muF := h.muF
  pmF := h.pmF
  nodup := h.nodup
theorem StoreAt.keep {F : Nat → Prop} {B : Nat} {w w' : World} {p : Nat} {st : St} {fp dt : List Nat} (h : StoreAt B w p st fp dt) (k : Keeps F w w') (hF : ∀ b, b ∈ fp ∨ b ∈ dt → ¬ F b) : StoreAt B w' p st fp dt where
  body := by obtain ⟨mo, mu, sv, es, us, hi⟩ := h.body; exact ⟨mo, mu, sv, es, us, hi.keep k (hF _ (.inl h.self)) (fun b hb => hF b (.inl hb)) (fun b hb => hF b (.inr hb))⟩
  self := h.self
  apart := h.apart
  ge := h.ge
  lt b hb := Nat.lt_of_lt_of_le (h.lt b hb) k.size
theorem StIn.turn {w w' : World} {p : Nat} {st st' : St} {fp dt : List Nat} {mo mu : Nat} {sv sv' : Value} {es : List (ByteArray × Value)} {us : List (Int × Nat × Nat)} (h : StIn w p st fp dt mo mu sv es us) (k : Keeps (· = p) w w') (hpf : p ∈ fp) (hap : ∀ k ∈ fp, k ∉ dt)
    (hc : w'.heap[p]? = some (.cells (StoreCells mo mu st'.ids sv' st'.calls st'.failed) 92 (0, 0))) (ho : st'.objs = st.objs) (hu : st'.ups = st.ups) (hs : ownV w' sv' (zDw st'.script)) (hsb : ∀ b, blk sv' = some b → b ∈ fp ∧ b ≠ p ∧ b ≠ mo ∧ b ≠ mu ∧ ∀ e ∈ us, b ≠ e.2.2) :
    StIn w' p st' fp dt mo mu sv' es us where
  cells := hc
  mapO := h.mapO.keep k (h.mapO.ne_cells h.cells)
  objs := ho ▸ h.objs.mono fun _ _ _ _ _ x => x.keep k (fun _ hb e => hap p hpf (e ▸ hb)) fun _ h => h
  mapU := h.mapU.keep k (h.mapU.ne_cells h.cells)
  ups := hu ▸ ups_keep h.ups k (fun _ hb e => hap p hpf (e ▸ hb)) (fun _ he => h.pm_ne he) fun _ h => h
  script := hs
  scriptB := hsb
  moF := h.moF
  muF := h.muF
  pmF := h.pmF
  nodup := h.nodup
end
section
open Go.RowKit
def St.empty : St := { objs := [], ups := [], ids := 0, script := [], calls := 0, failed := 0 }
def StNew (B : Nat) (w : World) (e : Ending) (w' : World) : Prop :=
  ∃ p fp, e = .returned (.pointer (some ⟨p, 0, none⟩)) ∧ StoreAt B w' p St.empty fp [] ∧ Below w.heap.size w w' ∧ ∀ k ∈ fp, w.heap.size ≤ k
def BytesPost (w : World) (o : Option (List UInt8)) (e : Ending) (w' : World) : Prop :=
  ∃ v', e = .returned (.tuple #[v', .bool o.isSome]) ∧ ownV w' v' (zAm (o.getD [])) ∧ Below w.heap.size w w' ∧ ∀ b, blk v' = some b → w.heap.size ≤ b ∧ b < w'.heap.size
def St.small (st : St) : Prop := (∀ n b, (n, b) ∈ st.objs → b.length ≤ 1073741824) ∧ ∀ i u, (i, u) ∈ st.ups → ∀ k b, (k, b) ∈ u.parts → b.length ≤ 4194304
end
section
open Go.RowKit
structure StTurned (B : Nat) (w : World) (p : Nat) (fp dt : List Nat) (st' : St) (w' : World) (fp' dt' : List Nat) : Prop where
  at_ : StoreAt B w' p st' fp' dt'
  keeps : Keeps (· ∈ fp) w w'
  fpNew : ∀ k ∈ fp', k ∈ fp ∨ w.heap.size ≤ k
  dtNew : ∀ k ∈ dt', k ∈ dt ∨ w.heap.size ≤ k
theorem StTurned.trans {B : Nat} {w w1 w2 : World} {p : Nat} {fp dt fp1 dt1 fp2 dt2 : List Nat} {st1 st2 : St} (h : StTurned B w p fp dt st1 w1 fp1 dt1) (k : StTurned B w1 p fp1 dt1 st2 w2 fp2 dt2) : StTurned B w p fp dt st2 w2 fp2 dt2 where
  at_ := k.at_
  keeps := h.keeps.trans' k.keeps fun i hi hg => (h.fpNew i hg).resolve_right (by omega)
  fpNew i hi := (k.fpNew i hi).elim (h.fpNew i) fun hs => .inr (Nat.le_trans h.keeps.size hs)
  dtNew i hi := (k.dtNew i hi).elim (h.dtNew i) fun hs => .inr (Nat.le_trans h.keeps.size hs)
theorem StTurned.below {B : Nat} {w w' : World} {p : Nat} {fp dt fp' dt' : List Nat} {st st' : St} (h : StTurned B w p fp dt st' w' fp' dt') (h0 : StoreAt B w p st fp dt) (hB : B ≤ w.heap.size) : Below B w w' :=
  h.keeps.below hB fun i hi hf => by have := h0.ge i hf; omega
def ScriptPost (B : Nat) (w : World) (p : Nat) (fp dt : List Nat) (st' : St) (e : Ending) (w' : World) : Prop :=
  e = .returned (.tuple #[]) ∧ ∃ fp', StTurned B w p fp dt st' w' fp' dt
end
section
open Go.RowKit
def St.next (st : St) : Int := st.script.headD 0
def St.begin (st : St) : St := { st with calls := st.calls + 1, script := st.script.tail, failed := st.failed + (if st.next = 1 ∨ st.next = 2 then 1 else 0) }
section
variable {L : List Nat} {ad : Nat → Addr} {B : Nat} {w : World} {p : Nat} {st : St} {fp dt : List Nat} {R : Ending → World → Prop} {f : FuncId} {cap : Array Value}
end
end
section
open Go.RowKit
def St.run (st : St) (good : St → Nat × St) : Nat × St :=
  if st.next = 1 then (111, st.begin) else (if st.next = 2 then 111 else (good st.begin).1, (good st.begin).2)
def ErrPost (ad : Nat → Addr) (B : Nat) (w : World) (p : Nat) (fp dt : List Nat) (r : Nat × St) (e : Ending) (w' : World) : Prop :=
  e = .returned (zAh ad r.1) ∧ ∃ fp' dt', StTurned B w p fp dt r.2 w' fp' dt'
section
variable {L : List Nat} {ad : Nat → Addr} {B : Nat} {w : World} {p : Nat} {st : St} {fp dt : List Nat} {R : Ending → World → Prop} {f : FuncId} {cap : Array Value}
end
def St.put1 (n : ByteArray) (b : List UInt8) (st : St) : Nat × St := if zBq n.data.toList then (0, { st with objs := zBv st.objs n b }) else (106, st)
end
section
open Go.RowKit
def bstr (l : List UInt8) : ByteArray := ⟨l.toArray⟩
def sOne : St := { St.empty with script := [2] }
def sTwo : St := { objs := [(⟨#[97]⟩, [120])], ups := [], ids := 0, script := [], calls := 1, failed := 1 }
end
section
open Go.RowKit
def zB2 (size each : Nat) : Nat := (size + each - 1) / each
theorem partsN_eq {size each : Nat} (h1 : 1 ≤ each) : zB2 size each = if 0 < size % each then size / each + 1 else size / each := by
  have hd := Nat.div_add_mod size each; have hm := Nat.mod_lt size (show each > 0 by omega)
  unfold zB2
  split
  · have e : size + each - 1 = each * (size / each + 1) + (size % each - 1) := by
      rw [Nat.mul_add]; omega
    rw [e, Nat.mul_add_div (by omega), Nat.div_eq_of_lt (show size % each - 1 < each by omega)]
  · have e : size + each - 1 = each * (size / each) + (each - 1) := by omega
    rw [e, Nat.mul_add_div (by omega), Nat.div_eq_of_lt (show each - 1 < each by omega)]
    all_goals rfl
theorem parts_any (size each : Nat) (h1 : 1 ≤ each) (h2 : each ≤ 1048576) (hs : size ≤ 1048576) (w : World) :
    Calls Tryz.prog 90 #[.int .i64 size, .int .i64 each] w fun e w' => e = .returned (.int .i64 (zB2 size each : Nat)) ∧ w = w' := by
  have HP := Lib.hid (partsN_eq (size := size) h1)
  have hb0 : ((each : Int) == 0) = false := by simp; omega
  obtain ⟨q, hq⟩ : ∃ q, q = size / each := ⟨_, rfl⟩; obtain ⟨r, hr⟩ : ∃ r, r = size % each := ⟨_, rfl⟩
  have e1 : ((size : Int) / (each : Int)) = (q : Int) := by rw [hq]; exact (Int.natCast_ediv size each).symm
  have e2 : ((size : Int) % (each : Int)) = (r : Int) := by rw [hr]; exact (Int.natCast_emod size each).symm
  have hqb : q ≤ size := by rw [hq]; exact Nat.div_le_self _ _
  have HQ := Lib.hid (And.intro hq hr); clear hq hr
  by_cases hr0 : 0 < r
  · go_enter Tryz.func90, Tryz.ntmps90
    go_wp2
    go_ret
    refine ⟨ret_int ?_, rfl⟩; rw [HP.out, ← HQ.out.1, ← HQ.out.2, if_pos hr0]
    rfl
  · go_enter Tryz.func90, Tryz.ntmps90
    go_wp2
    go_ret
    refine ⟨ret_int ?_, rfl⟩; rw [HP.out, ← HQ.out.1, ← HQ.out.2, if_neg hr0]
theorem parts_same (size each : Nat) (h1 : 1 ≤ each) (h2 : each ≤ 1048576) (hs : size ≤ 1048576) (w : World) :
    Calls Tryz.prog 90 #[.int .i64 size, .int .i64 each] w fun e w' => e = .returned (.int .i64 (zB2 size each : Nat)) ∧ w' = w :=
  (parts_any size each h1 h2 hs w).mono fun _ _ h => ⟨h.1, h.2.symm⟩
def zFu (name : ByteArray) (size : Nat) (sum : Nat) (each parts : Nat) : Array Value := #[.string name, .int .i64 size, .int .u32 (sum : Int), .int .i64 each, .int .i64 parts]
set_option maxRecDepth 100000 in
theorem fair_any {w : World} {name : ByteArray} {size sum each parts : Nat} (h1 : 1 ≤ each) (h2 : each ≤ 1048576) (hs : size ≤ 1048576) (hp : parts = zB2 size each) (hm : parts ≤ 256) :
    Calls Tryz.prog 144 #[.agg (zFu name size sum each parts)] w fun e w' => e = .returned (.bool true) ∧ Below w.heap.size w w' := by
  have HP := Lib.hid hp; clear hp
  unfold zFu
  go_enter Tryz.func144, Tryz.ntmps144
  go_wp2_with fail
  have k0 : Keeps (fun _ => False) w (w.alloc (.cells #[.string name, .int .i64 size, .int .u32 (sum : Int), .int .i64 each, .int .i64 parts] 109)) := (Keeps.refl _ _).alloc _; have b0 : (w.alloc (.cells #[.string name, .int .i64 size, .int .u32 (sum : Int), .int .i64 each, .int .i64 parts] 109)).heap[w.heap.size]? = some (.cells #[.string name, .int .i64 size, .int .u32 (sum : Int), .int .i64 each, .int .i64 parts] 109 (0, 0)) := World.alloc_heap_new w _; generalize (w.alloc (.cells #[.string name, .int .i64 size, .int .u32 (sum : Int), .int .i64 each, .int .i64 parts] 109)) = w0 at *; have c1 : w0.cell? ⟨w.heap.size, 1, none⟩ = some (.int .i64 size) := zCa b0 rfl
  have c3 : w0.cell? ⟨w.heap.size, 3, none⟩ = some (.int .i64 each) := zCa b0 rfl; have c4 : w0.cell? ⟨w.heap.size, 4, none⟩ = some (.int .i64 parts) := zCa b0 rfl
  have q1 : (1 : Int) ≤ (each : Int) := by omega
  have q2 : (each : Int) ≤ 1048576 := by omega
  have q3 : (parts : Int) ≤ 256 := by omega
  have q4 : (0 : Int) ≤ (size : Int) := by omega
  have g1 : decide ((1 : Int) ≤ (each : Int)) = true := decide_eq_true q1; have g2 : decide ((each : Int) ≤ 1048576) = true := decide_eq_true q2; have g3 : decide ((parts : Int) ≤ 256) = true := decide_eq_true q3; have K0 := Lib.hid k0; clear k0 b0
  have g4 : ((parts : Int) == ((zB2 size each : Nat) : Int)) = true := by rw [← HP.out]; simp
  go_quiet (first | (go_at_call 90; exact Calls.quiet_of_same (parts_same size each h1 h2 hs _)))
  go_wp2
  go_ret
  exact ⟨rfl, (K0.out.drewN nq).below (Nat.le_refl _) fun _ _ => id⟩
end
section
open Go.RowKit
def RangePost (w : World) (from_ to_ : Int) (is : Bool) (e : Ending) (w' : World) : Prop := e = .returned (.tuple #[.int .i64 from_, .int .i64 to_, .bool is]) ∧ Below w.heap.size w w'
set_option maxHeartbeats 800000 in
set_option maxRecDepth 100000 in
theorem range_in {w : World} {name : ByteArray} {size sum each parts n : Nat} (h1 : 1 ≤ each) (h2 : each ≤ 1048576) (hs : size ≤ 1048576) (hp : parts = zB2 size each) (hm : parts ≤ 256) (hn : n < parts) :
    Calls Tryz.prog 146 #[.agg (zFu name size sum each parts), .int .i64 n] w (RangePost w ((n * each : Nat) : Int) ((min ((n + 1) * each) size : Nat) : Int) true) := by
  have HP := Lib.hid hp; clear hp; have hmul : n * each ≤ 268435456 := Nat.le_trans (Nat.mul_le_mul (show n ≤ 256 by omega) h2) (by decide); have hmul2 : (n + 1) * each ≤ 270532608 := Nat.le_trans (Nat.mul_le_mul (show n + 1 ≤ 257 by omega) h2) (by decide); have e1 : ((n : Int) * (each : Int)) = ((n * each : Nat) : Int) := (Int.natCast_mul n each).symm
  have e2 : (((n : Int) + 1) * (each : Int)) = (((n + 1) * each : Nat) : Int) := by rw [Int.natCast_mul]; rfl
  generalize n * each = m1 at *; generalize (n + 1) * each = m2 at *
  unfold zFu
  go_enter Tryz.func146, Tryz.ntmps146
  go_wp2_with (first | (go_at_call 144; refine (fair_any (name := name) (sum := sum) h1 h2 hs HP.out hm).mono ?_; rintro e w1 ⟨rfl, hb1⟩; have bx := World.alloc_heap_new w (.cells #[.string name, .int .i64 size, .int .u32 (sum : Int), .int .i64 each, .int .i64 parts] 109); have c1 : w1.cell? ⟨w.heap.size, 1, none⟩ = some (.int .i64 size) := (hb1.cell (p := ⟨w.heap.size, 1, none⟩) (lt_of_block bx)).trans (zCa bx rfl); have c3 : w1.cell? ⟨w.heap.size, 3, none⟩ = some (.int .i64 each) := (hb1.cell (p := ⟨w.heap.size, 3, none⟩) (lt_of_block bx)).trans (zCa bx rfl); have c4 : w1.cell? ⟨w.heap.size, 4, none⟩ = some (.int .i64 parts) := (hb1.cell (p := ⟨w.heap.size, 4, none⟩) (lt_of_block bx)).trans (zCa bx rfl); have Hb1 := Lib.hid ((((Keeps.refl (fun _ => False) w).alloc (.cells #[.string name, .int .i64 size, .int .u32 (sum : Int), .int .i64 each, .int .i64 parts] 109)).below (Nat.le_refl _) fun _ _ => id).trans (hb1.mono (by simp))); clear hb1 bx))
  have wr : ∀ z : Int, 0 ≤ z → z ≤ 1000000000 → IntKind.i64.wrap z = z := fun z h0 h1 => by
    have : z % 18446744073709551616 = z := Int.emod_eq_of_lt h0 (by omega)
    simp [IntKind.wrap, IntKind.bits, IntKind.signed, this]
    omega
  have v1 := wr m1 (by omega) (by omega); have v2 := wr ((n : Int) + 1) (by omega) (by omega); have v3 := wr m2 (by omega) (by omega); clear wr
  by_cases hmm : m2 ≤ size
  · rw [show min m2 size = m2 from Nat.min_eq_left hmm]
    have hz : (m2 : Int) ≤ (size : Int) := by omega
    go_region_held3 (fun w' => w'.cell? ⟨w.heap.size, 1, none⟩ = some (.int .i64 size) ∧ w'.cell? ⟨w.heap.size, 3, none⟩ = some (.int .i64 each) ∧ w'.cell? ⟨w.heap.size, 4, none⟩ = some (.int .i64 parts)) (go_keep) (first | (fail))
    go_wp2
    go_ret3
    first | exact ⟨rfl, Hb1.out.drew⟩ | (refine ⟨?_, Hb1.out.drew⟩; rw [show min m2 size = m2 from Nat.min_eq_left hmm, Int.min_eq_left hz]; rfl)
  · have hz : (size : Int) < (m2 : Int) := by omega
    have hz2 : ¬ (m2 : Int) < (size : Int) := by omega
    have hz3 : min (m2 : Int) (size : Int) = (size : Int) := Int.min_eq_right (by omega)
    go_region_held3 (fun w' => w'.cell? ⟨w.heap.size, 1, none⟩ = some (.int .i64 size) ∧ w'.cell? ⟨w.heap.size, 3, none⟩ = some (.int .i64 each) ∧ w'.cell? ⟨w.heap.size, 4, none⟩ = some (.int .i64 parts)) (go_keep) (first | (fail))
    go_wp2
    go_ret3
    refine ⟨?_, Hb1.out.drew⟩; rw [show min m2 size = size from Nat.min_eq_right (by omega)]
    rfl
theorem range_out {w : World} {name : ByteArray} {size sum each parts : Nat} {n : Int} (h1 : 1 ≤ each) (h2 : each ≤ 1048576) (hs : size ≤ 1048576) (hp : parts = zB2 size each) (hm : parts ≤ 256) (hn : n < 0 ∨ (parts : Int) ≤ n) :
    Calls Tryz.prog 146 #[.agg (zFu name size sum each parts), .int .i64 n] w (RangePost w 0 0 false) := by
  have HP := Lib.hid hp; clear hp
  unfold zFu
  rcases hn with hn | hn
  · go_enter Tryz.func146, Tryz.ntmps146
    go_wp2_with (first | (go_at_call 144; refine (fair_any (name := name) (sum := sum) h1 h2 hs HP.out hm).mono ?_; rintro e w1 ⟨rfl, hb1⟩; have bx := World.alloc_heap_new w (.cells #[.string name, .int .i64 size, .int .u32 (sum : Int), .int .i64 each, .int .i64 parts] 109); have c1 : w1.cell? ⟨w.heap.size, 1, none⟩ = some (.int .i64 size) := (hb1.cell (p := ⟨w.heap.size, 1, none⟩) (lt_of_block bx)).trans (zCa bx rfl); have c3 : w1.cell? ⟨w.heap.size, 3, none⟩ = some (.int .i64 each) := (hb1.cell (p := ⟨w.heap.size, 3, none⟩) (lt_of_block bx)).trans (zCa bx rfl); have c4 : w1.cell? ⟨w.heap.size, 4, none⟩ = some (.int .i64 parts) := (hb1.cell (p := ⟨w.heap.size, 4, none⟩) (lt_of_block bx)).trans (zCa bx rfl); have Hb1 := Lib.hid ((((Keeps.refl (fun _ => False) w).alloc (.cells #[.string name, .int .i64 size, .int .u32 (sum : Int), .int .i64 each, .int .i64 parts] 109)).below (Nat.le_refl _) fun _ _ => id).trans (hb1.mono (by simp))); clear hb1 bx))
    go_ret3
    exact ⟨rfl, Hb1.out⟩
  · go_enter Tryz.func146, Tryz.ntmps146
    go_wp2_with (first | (go_at_call 144; refine (fair_any (name := name) (sum := sum) h1 h2 hs HP.out hm).mono ?_; rintro e w1 ⟨rfl, hb1⟩; have bx := World.alloc_heap_new w (.cells #[.string name, .int .i64 size, .int .u32 (sum : Int), .int .i64 each, .int .i64 parts] 109); have c1 : w1.cell? ⟨w.heap.size, 1, none⟩ = some (.int .i64 size) := (hb1.cell (p := ⟨w.heap.size, 1, none⟩) (lt_of_block bx)).trans (zCa bx rfl); have c3 : w1.cell? ⟨w.heap.size, 3, none⟩ = some (.int .i64 each) := (hb1.cell (p := ⟨w.heap.size, 3, none⟩) (lt_of_block bx)).trans (zCa bx rfl); have c4 : w1.cell? ⟨w.heap.size, 4, none⟩ = some (.int .i64 parts) := (hb1.cell (p := ⟨w.heap.size, 4, none⟩) (lt_of_block bx)).trans (zCa bx rfl); have Hb1 := Lib.hid ((((Keeps.refl (fun _ => False) w).alloc (.cells #[.string name, .int .i64 size, .int .u32 (sum : Int), .int .i64 each, .int .i64 parts] 109)).below (Nat.le_refl _) fun _ _ => id).trans (hb1.mono (by simp))); clear hb1 bx))
    go_ret3
    exact ⟨rfl, Hb1.out⟩
end
section
open Go.RowKit
attribute [local irreducible] zAh
variable {g w : World} {L : List HP} {ad : Nat → Addr}
theorem of_sl (hs : Mem g w L) {pv b : Value} {l : List UInt8} (hp : Rd g L pv [b]) (hb : Rd g L b (zAm l)) (hlen : l.length ≤ 1073741824) : Calls Tryz.prog 88 #[pv] w (Ret fun v w' => v = .int .u32 ((zBz 0 l : Nat) : Int) ∧ Mem g w' L) :=
  hs.calls (of_any0 (hp w hs) (hb w hs) hlen)
theorem resRow1 {n : Nat} {P : Program} {fn : Func} {R : Ending → World → Prop} {ρ : Env} {t u : Tmp} {T : TypeId} (h : fn.results = #[.cell t T, .tmp u]) {b : Nat} {cs : List Value} {T' : TypeId} {v : Value} {fs : Array Field} (hs : Mem g w L) (i : Nat) (hi : L[i]? = some (cells b cs T'))
    (hp : ρ t = .pointer (some ⟨b, 0, none⟩)) (hT : P.underlying T = some (.struct fs)) (hsz : (P.info? T).map (·.size) = some cs.length) (hv : ρ u = v) (hR : R (.returned (.tuple #[.agg cs.toArray, v])) w) : ResE (n := n) P fn R ρ w := fun a ha => by
  obtain ⟨F, h1, _⟩ := hs.read hi
  have hagg : (isAgg T).run P w = .ok true w := by simp [isAgg, run_underlying hT]
  have h3 := zE8 (P := P) (T := T) (vs := cs.toArray) hagg (by simpa using hsz) h1; have k1 := ha.get t; have k2 := ha.get u; rw [hp, Array.getD_eq_getD_getElem?] at k1; rw [hv, Array.getD_eq_getD_getElem?] at k2; exact ⟨_, by simp [results, h, k1, k2, asAddr, h3], hR⟩
def planC (nm : ByteArray) (sz sm ea pa : Int) : List Value := [.string nm, .int .i64 sz, .int .u32 sm, .int .i64 ea, .int .i64 pa]
def mkR (name : ByteArray) (l : List UInt8) (each : Int) : Nat × ByteArray × Int × Int × Int × Int :=
  if zBq name.data.toList = false then (106, ByteArray.empty, 0, 0, 0, 0) else if each < 1 ∨ 1048576 < each then (105, ByteArray.empty, 0, 0, 0, 0) else if 256 < zB2 l.length each.toNat then (104, ByteArray.empty, 0, 0, 0, 0)
  else (0, name, l.length, ((zBz 0 l : Nat) : Int), each, (zB2 l.length each.toNat : Nat))
theorem pmake_sl (hE : ErrG ad g) (hs : Mem g w L) {name : ByteArray} {a : Option Addr} {n c : Nat} {l : List UInt8} {each : Int} (hb : Rd g L (.slice a n c) (zAm l)) (hn : n = l.length) (hlen : l.length ≤ 1048576) (heach : zDi each) :
    Calls Tryz.prog 48 #[.string name, .slice a n c, .int .i64 each] w (Ret fun v w' => ∃ c nm sz sm ea pa, mkR name l each = (c, nm, sz, sm, ea, pa) ∧ v = .tuple #[.agg (planC nm sz sm ea pa).toArray, zAh ad c] ∧ Mem g w' L) := by
  subst hn; obtain ⟨he1, he2⟩ := heach; refine zAf Tryz.func48 rfl rfl ?_
  skip
  refine zA3 (zA1 ?_); refine zBn hs rfl ze109 ?_; clear hs; intro b6 w hs
  try simp only [zzs, zzz] at hs
  refine zA rfl (zA0 (v := .nilIface) rfl) ?_; refine zA6 ?_; refine zA3 ?_; refine zA3 (zA1 ?_); refine zA rfl (zA2 (v := .string _) rfl) ?_; refine zAb rfl en89 (zFn hs name) ?_; clear hs; rintro _ w ⟨rfl, hs⟩; refine zA rfl (zBt rfl) ?_; refine zA6 ?_; refine zB rfl ?_ ?_
  ·
   intro h10; replace h10 := zEu h10; refine zA3 ?_; refine zAp zBk hs.tail ?_; intro w tr hK; replace hs := tr _ hs; clear tr; refine zA5 0 rfl rfl (fun w hs => zBs zE ze109 pl109 rfl) hK ?_; refine zA5 1 rfl rfl (fun w hs => zA7 zCe rfl rfl (hE.cellW hs 106 (by decide) rfl)) hK ?_; refine zAe [2] ?_; refine ⟨⟨_, rfl, ?_⟩, trivial⟩; refine zAn hs 0 rfl rfl rfl zG3 rfl rfl ?_; clear hs; intro w hs
   try simp only [zzs, zzz] at hs
   clear hK; have hK := hs.tail; refine zA6 ⟨hK, ?_⟩; refine zA5 3 rfl rfl (fun w hs => zA0 (v := zAh ad _) rfl) hK ?_; refine zAr (by kernel_rfl) ?_; clear hK; refine zAc ?_; refine resRow1 rfl hs 0 rfl rfl zE zG3 rfl ⟨_, rfl, 106, ByteArray.empty, 0, 0, 0, 0, ?_, rfl, hs.tail⟩
   simp [mkR, h10]
  ·
   intro h10; replace h10 := zE0 h10; refine zAd ?_; refine zA3 ?_; refine zA3 (zA1 ?_); refine zA rfl (zA2 (v := .int .i64 _) rfl) ?_; refine zA rfl (zB9 rfl rfl) ?_; refine zA rfl (zA2 (v := .bool _) rfl) ?_; refine zB0 (t := _) (d := 16) rfl ?_ ?_
   ·
    intro h15; have g15 := of_decide_eq_true h15; refine zA9 rfl rfl rfl h15 ?_; refine zA9 rfl rfl rfl h15 ?_; refine zA rfl (zAk (v := .bool _) rfl h15 rfl) ?_; refine zA6 ?_; refine zB6 rfl rfl ?_; refine zA3 ?_; refine zAp zBk hs.tail ?_; intro w tr hK; replace hs := tr _ hs; clear tr; refine zA5 0 rfl rfl (fun w hs => zBs zE ze109 pl109 rfl) hK ?_; refine zA5 1 rfl rfl (fun w hs => zA7 zCe rfl rfl (hE.cellW hs 105 (by decide) rfl)) hK ?_; refine zAe [2] ?_; refine ⟨⟨_, rfl, ?_⟩, trivial⟩; refine zAn hs 0 rfl rfl rfl zG3 rfl rfl ?_; clear hs; intro w hs
    try simp only [zzs, zzz] at hs
    clear hK; have hK := hs.tail; refine zA6 ⟨hK, ?_⟩; refine zA5 3 rfl rfl (fun w hs => zA0 (v := zAh ad _) rfl) hK ?_; refine zAr (by kernel_rfl) ?_; clear hK; refine zAc ?_; refine resRow1 rfl hs 0 rfl rfl zE zG3 rfl ⟨_, rfl, 105, ByteArray.empty, 0, 0, 0, 0, ?_, rfl, hs.tail⟩
    simp [mkR, h10, g15]
   ·
    intro h15; have g15 := of_decide_eq_false h15; obtain ⟨e, rfl⟩ : ∃ e : Nat, each = e := ⟨each.toNat, by omega⟩; refine zAi rfl rfl h15 ?_; refine zA rfl (zA2 (v := .int .i64 _) rfl) ?_; refine zAi rfl rfl h15 ?_; refine zA rfl (zBl rfl rfl) ?_; refine zA rfl (zAg (v := .bool _) rfl h15 rfl) ?_; refine zA6 ?_; refine zB rfl ?_ ?_
    ·
     intro h18; have g18 := of_decide_eq_true h18; refine zA3 ?_; refine zAp zBk hs.tail ?_; intro w tr hK; replace hs := tr _ hs; clear tr; refine zA5 0 rfl rfl (fun w hs => zBs zE ze109 pl109 rfl) hK ?_; refine zA5 1 rfl rfl (fun w hs => zA7 zCe rfl rfl (hE.cellW hs 105 (by decide) rfl)) hK ?_; refine zAe [2] ?_; refine ⟨⟨_, rfl, ?_⟩, trivial⟩; refine zAn hs 0 rfl rfl rfl zG3 rfl rfl ?_; clear hs; intro w hs
     try simp only [zzs, zzz] at hs
     clear hK; have hK := hs.tail; refine zA6 ⟨hK, ?_⟩; refine zA5 3 rfl rfl (fun w hs => zA0 (v := zAh ad _) rfl) hK ?_; refine zAr (by kernel_rfl) ?_; clear hK; refine zAc ?_; refine resRow1 rfl hs 0 rfl rfl zE zG3 rfl ⟨_, rfl, 105, ByteArray.empty, 0, 0, 0, 0, ?_, rfl, hs.tail⟩
     unfold mkR; rw [if_neg (by simp [h10]), if_pos (by omega)]
    ·
     intro h18; have g18 := of_decide_eq_false h18; have hp := parts_any l.length e (by omega) (by omega) hlen; refine zAd ?_; refine zA3 (zA1 ?_); refine zA rfl (zA2 (v := .slice _ _ _) rfl) ?_; refine zA rfl (zAt zCk rfl) ?_; refine zA rfl (zA2 (v := .int .i64 _) rfl) ?_; refine zAb rfl en90 (hs.callsE (hp _)) ?_; clear hs; rintro _ w ⟨rfl, hs⟩; refine zA rfl (zA0 (v := .int .i64 _) rfl) ?_; refine zA6 ?_; refine zA3 ?_; refine zA3 (zA1 ?_); refine zA rfl (zA2 (v := .int .i64 _) rfl) ?_; refine zA rfl (zBl rfl rfl) ?_; refine zA6 ?_; refine zB rfl ?_ ?_
     ·
      intro h27; have g27 := of_decide_eq_true h27; refine zA3 ?_; refine zAp zBk hs.tail ?_; intro w tr hK; replace hs := tr _ hs; clear tr; refine zA5 0 rfl rfl (fun w hs => zBs zE ze109 pl109 rfl) hK ?_; refine zA5 1 rfl rfl (fun w hs => zA7 zCe rfl rfl (hE.cellW hs 104 (by decide) rfl)) hK ?_; refine zAe [2] ?_; refine ⟨⟨_, rfl, ?_⟩, trivial⟩; refine zAn hs 0 rfl rfl rfl zG3 rfl rfl ?_; clear hs; intro w hs
      try simp only [zzs, zzz] at hs
      clear hK; have hK := hs.tail; refine zA6 ⟨hK, ?_⟩; refine zA5 3 rfl rfl (fun w hs => zA0 (v := zAh ad _) rfl) hK ?_; refine zAr (by kernel_rfl) ?_; clear hK; refine zAc ?_; refine resRow1 rfl hs 0 rfl rfl zE zG3 rfl ⟨_, rfl, 104, ByteArray.empty, 0, 0, 0, 0, ?_, rfl, hs.tail⟩
      unfold mkR; rw [if_neg (by simp [h10]), if_neg (by omega), if_pos (by simp; omega)]
     ·
      intro h27; have g27 := of_decide_eq_false h27; refine zAd ?_; refine zA3 (zA1 ?_); refine zA rfl (zA2 (v := .string _) rfl) ?_; refine zA rfl (zA2 (v := .slice _ _ _) rfl) ?_; refine zA rfl (zAt zCk rfl) ?_; refine zA rfl (zA2 (v := .slice _ _ _) rfl) ?_; refine zB1 hs rfl ([.slice a l.length c]) zG1 zs22 rfl (by simp [Value.cells]) rfl rfl rfl ?_; clear hs; intro b34 w hs
      try simp only [zzs, zzz] at hs
      refine zAb rfl en88 (of_sl hs (Rd.cells 0 rfl rfl) hb.cons.cons (by omega)) ?_; clear hs; rintro _ w ⟨rfl, hs⟩; refine zA rfl (zA2 (v := .int .i64 _) rfl) ?_; refine zA rfl (zA2 (v := .int .i64 _) rfl) ?_; refine zA rfl (zC0 ([.string name, .int .i64 l.length, .int .u32 ((zBz 0 l : Nat) : Int), .int .i64 e, .int .i64 (zB2 l.length e : Nat)]) zE ze109 pl109 rfl (by simp [Value.cells]) rfl rfl) ?_; refine zAn hs 1 rfl rfl rfl zG3 rfl rfl ?_; clear hs; intro w hs
      try simp only [zzs, zzz] at hs
      refine zA rfl (zA0 (v := .nilIface) rfl) ?_; refine zA6 ?_; refine zAc ?_; refine resRow1 rfl hs 1 rfl rfl zE zG3 rfl ⟨_, rfl, 0, name, l.length, ((zBz 0 l : Nat) : Int), e, (zB2 l.length e : Nat), ?_, (by rw [zAz]; rfl), hs.tail.tail⟩
      unfold mkR; rw [if_neg (by simp [h10]), if_neg (by omega), if_neg (by simp; omega)]; simp
theorem range_sl (hs : Mem g w L) {name : ByteArray} {size sum each parts : Nat} {n : Int} (h1 : 1 ≤ each) (h2 : each ≤ 1048576) (h3 : size ≤ 1048576) (hp : parts = zB2 size each) (hm : parts ≤ 256) :
    Calls Tryz.prog 146 #[.agg (planC name size sum each parts).toArray, .int .i64 n] w (Ret fun v w' => ∃ f t : Int, (0 ≤ n → n < parts → f = ((n.toNat * each : Nat) : Int) ∧ t = ((min ((n.toNat + 1) * each) size : Nat) : Int)) ∧ v = .tuple #[.int .i64 f, .int .i64 t, .bool (decide (0 ≤ n ∧ n < parts))] ∧ Mem g w' L) := by
  by_cases h : 0 ≤ n ∧ n < parts
  · obtain ⟨k, rfl⟩ : ∃ k : Nat, n = k := ⟨n.toNat, by omega⟩
    refine (hs.calls (range_in (name := name) (sum := sum) h1 h2 h3 hp hm (n := k) (by omega))).mono ?_; rintro e w' ⟨v, rfl, rfl, hs⟩; exact ⟨_, rfl, _, _, fun _ _ => ⟨rfl, rfl⟩, by simp [h], hs⟩
  · refine (hs.calls (range_out (name := name) (sum := sum) h1 h2 h3 hp hm (n := n) (by omega))).mono ?_
    rintro e w' ⟨v, rfl, rfl, hs⟩; exact ⟨_, rfl, 0, 0, fun a b => absurd ⟨a, b⟩ h, by simp [h], hs⟩
end
section
open Go.RowKit
attribute [local irreducible] zAh
variable {g w : World} {L M : List HP} {ad : Nat → Addr} {p : Nat} {st : St}
abbrev rdB (v : Value) (b : List UInt8) : HP := rd v (zAm b)
abbrev objsC (es : List (ByteArray × Value)) (objs : List (ByteArray × List UInt8)) : HP := famC rdB es objs
abbrev partsC (ps : List (Int × Value)) (l : List (Int × List UInt8)) : HP := famC rdB ps l
abbrev smapS (m : Nat) (es : List (ByteArray × Value)) : HP := mapC Value.string m es
abbrev mapI (m : Nat) (es : List (Int × Value)) : HP := mapC (Value.int .i64) m es
def upC (e : Nat × Nat) (u : Up) : HP := ex fun ps : List (Int × Value) => stars [cells e.1 [.string u.name, .map (some e.2)] 280, mapI e.2 ps, partsC ps u.parts]
def storeL (mo mu : Nat) (ids : Nat) (sv : Value) (calls failed : Nat) : List Value := [.map (some mo), .map (some mu), .int .i64 ids, sv, .int .i64 calls, .int .i64 failed]
abbrev zCt (p : Nat) (st : St) (mo mu : Nat) (sv : Value) (es : List (ByteArray × Value)) (us : List (Int × Nat × Nat)) : List HP :=
  [cells p (storeL mo mu st.ids sv st.calls st.failed) 92, smapS mo es, objsC es st.objs, mapI mu (us.map upPtr), famC upC us st.ups, own sv (zDw st.script)]
def zB8 (p : Nat) (st : St) : HP := ex fun x : Nat × Nat × Value × List (ByteArray × Value) × List (Int × Nat × Nat) => stars (zCt p st x.1 x.2.1 x.2.2.1 x.2.2.2.1 x.2.2.2.2)
theorem own_slice {i : Nat} {v : Value} {l : List Value} (hs : Mem g w L) (hi : L[i]? = some (own v l)) : ∃ a n c, v = .slice a n c ∧ n = l.length := by
  obtain ⟨F, ⟨⟨a, n, c, h1, h2, _⟩, _⟩⟩ := hs.read hi; exact ⟨a, n, c, h1, h2⟩
theorem Mem.openS (hs : Mem g w (zB8 p st :: L)) : ∃ mo mu a n c es us, n = st.script.length ∧ Mem g w (zCt p st mo mu (.slice a n c) es us ++ L) := by
  obtain ⟨⟨mo, mu, sv, es, us⟩, h⟩ := hs.unex; have h := h.unstars; obtain ⟨a, n, c, rfl, hn⟩ := own_slice h (i := 5) rfl; exact ⟨mo, mu, a, n, c, es, us, by simpa [zDw] using hn, h⟩
theorem Mem.closeS {mo mu : Nat} {sv : Value} {es : List (ByteArray × Value)} {us : List (Int × Nat × Nat)} (hs : Mem g w (zCt p st mo mu sv es us ++ L)) : Mem g w (zB8 p st :: L) := Mem.ex (mo, mu, sv, es, us) hs.stars
theorem Mem.closeS1 {C : HP} {mo mu : Nat} {sv : Value} {es : List (ByteArray × Value)} {us : List (Int × Nat × Nat)} (hs : Mem g w (C :: (zCt p st mo mu sv es us ++ L))) : Mem g w (C :: zB8 p st :: L) :=
  (Mem.closeS (L := C :: L) (hs.arr [1, 2, 3, 4, 5, 6, 0] 7 (by decide))).arr [1, 0] 2 (by decide)
theorem new_sl (hs : Mem g w L) : Calls Tryz.prog 11 #[] w (Ret fun v w' => ∃ p, v = .pointer (some ⟨p, 0, none⟩) ∧ Mem g w' (zB8 p St.empty :: L)) := by
  refine zAf Tryz.func11 rfl rfl ?_
  skip
  refine zA3 (zA1 ?_); refine zA rfl (zA0 (v := .pointer none) rfl) ?_; refine zA6 (zA3 (zA1 ?_)); refine zF5 Value.string hs rfl ?_; clear hs; intro m1 w hs
  try simp only [zzs, zzz] at hs
  refine zF5 (Value.int .i64) hs rfl ?_; clear hs; intro m2 w hs
  try simp only [zzs, zzz] at hs
  refine zA rfl (zBs (cs := [.map (some m1), .map (some m2), .int .i64 0, .slice none 0 0, .int .i64 0, .int .i64 0]) uz92 ze92 pl92 rfl) ?_; refine zBh (v := .agg _) hs rfl rfl ?_; clear hs; intro b4 w hs; refine zA rfl (zA0 (v := .pointer (some _)) rfl) ?_; refine zA6 ?_; refine zAc ?_; refine zBd (v := .pointer (some _)) rfl rfl ?_; refine ⟨_, rfl, b4, rfl, Mem.closeS (st := St.empty) (mo := m1) (mu := m2) (sv := .slice none 0 0) (es := []) (us := []) ?_⟩; exact (((hs.addE (zD8 _)).addE (famC_nil _)).addE (famC_nil _)).arr [3, 5, 0, 4, 1, 2] 6 (by decide)
theorem calls_sl (hs : Mem g w (zB8 p st :: L)) : Calls Tryz.prog 28 #[.pointer (some ⟨p, 0, none⟩)] w (Ret fun v w' => v = .int .i64 st.calls ∧ Mem g w' (zB8 p st :: L)) := by
  obtain ⟨mo, mu, a, n, c, es, us, hn, hs⟩ := hs.openS; refine zAf Tryz.func28 rfl rfl ?_
  skip
  refine zA3 (zA1 ?_); refine zA rfl (zA0 (v := .int .i64 _) rfl) ?_; refine zA6 (zA3 (zA1 ?_)); refine zA rfl (zA2 (v := .pointer (some _)) rfl) ?_; refine zA rfl (zA8 rfl) ?_; refine zA rfl (zA4 (o' := 4) uz92 rfl sz3 rfl rfl rfl) ?_; refine zA rfl (zA7 uz3 rfl rfl (hs.cellAt 0 rfl rfl)) ?_; refine zA rfl (zA0 (v := .int .i64 _) rfl) ?_; refine zA6 ?_; refine zAc ?_; refine zBd (v := .int .i64 _) rfl rfl ?_; exact ⟨_, rfl, rfl, hs.closeS⟩
section
variable {f : FuncId} {cap : Array Value}
theorem call_sl (hE : ErrG ad g) (hs : Mem g w (zB8 p st :: M)) (hcl : st.calls < 4611686018427387904) (hfl : st.failed < 4611686018427387904) {R : Nat → World → Prop} (hf : ∀ args w, (callFunc f args).run Tryz.prog w = .ok (.enter f args) w)
    (hR : st.next = 1 → ∀ w1, Mem g w1 (zB8 p st.begin :: M) → R 111 w1)
    (hdo : st.next ≠ 1 → ∀ w1, Mem g w1 (zB8 p st.begin :: M) → Calls Tryz.prog f cap w1 (Ret fun v w2 => ∃ c, v = zAh ad c ∧ Mem g w2 [] ∧ R (if st.next = 2 then 111 else c) w2)) :
    Calls Tryz.prog 206 #[.pointer (some ⟨p, 0, none⟩), .func (.func f) #[] cap] w (Ret fun v w' => ∃ c, v = zAh ad c ∧ R c w') := by
  obtain ⟨mo, mu, a, n, c, es, us, hn, hs⟩ := hs.openS
  have hb0 : st.script = [] → st.next = 0 ∧ st.begin = { st with calls := st.calls + 1 } := fun h => by simp [St.next, St.begin, h]
  have hb1 : ∀ x r, st.script = x :: r → st.next = x ∧ st.begin = { st with calls := st.calls + 1, script := r, failed := st.failed + (if x = 1 ∨ x = 2 then 1 else 0) } := fun x r h => by simp [St.next, St.begin, h]
  refine zAf Tryz.func206 rfl rfl ?_
  skip
  refine zA3 (zA1 ?_); refine zA rfl (zA0 (v := .nilIface) rfl) ?_; refine zA6 (zA3 (zA1 ?_)); refine zA rfl (zA2 (v := .pointer (some _)) rfl) ?_; refine zA rfl (zA8 rfl) ?_; refine zA rfl (zA4 (o' := 4) uz92 rfl sz3 rfl rfl rfl) ?_; refine zA rfl (zA7 uz3 rfl rfl (hs.cellAt 0 rfl rfl)) ?_; refine zA rfl (zAu rfl rfl rfl (inI (by omega) (by omega))) ?_; refine zA rfl (zA8 rfl) ?_; refine zA rfl (zA4 (o' := 4) uz92 rfl sz3 rfl rfl rfl) ?_; refine zB5 (v := .int .i64 _) hs 0 rfl sz3 rfl rfl rfl rfl ?_; clear hs; intro w hs
  try simp only [zzs, zzz] at hs
  refine zA6 (zA3 (zA1 ?_)); refine zA rfl (zA0 (v := .int .i64 _) rfl) ?_; refine zA6 ?_; refine zA3 ?_; refine zA3 (zA1 ?_); refine zA rfl (zA2 (v := .pointer (some _)) rfl) ?_; refine zA rfl (zA8 rfl) ?_; refine zA rfl (zA4 (o' := 3) uz92 rfl sz74 rfl rfl rfl) ?_; refine zA rfl (zA7 uz74 rfl rfl (hs.cellAt 0 rfl rfl)) ?_; refine zA rfl (zAt uz74 rfl) ?_; refine zA rfl (zBl rfl rfl) ?_; refine zA6 ?_; refine zB rfl ?_ ?_
  ·
   intro h18; have g18 := of_decide_eq_true h18
   obtain ⟨x, r, hx⟩ : ∃ x r, st.script = x :: r := by cases h : st.script with | nil => rw [h] at hn; simp at hn; omega | cons x r => exact ⟨x, r, rfl⟩
   obtain ⟨hnx, hbe⟩ := hb1 x r hx
   have hnr : n = r.length + 1 := by rw [hn, hx]; rfl
   simp only [zCt, List.cons_append, List.nil_append, hx, zDw, List.map_cons] at hs; obtain ⟨b, off, rfl, hcell⟩ := hs.ownCells 5 rfl (by simp); refine zA3 (zA1 ?_); refine zA rfl (zA2 (v := .pointer (some _)) rfl) ?_; refine zA rfl (zA8 rfl) ?_; refine zA rfl (zA4 (o' := 3) uz92 rfl sz74 rfl rfl rfl) ?_; refine zA rfl (zA7 uz74 rfl rfl (hs.cellAt 0 rfl rfl)) ?_; refine zA rfl (zBb uz74 sz3 rfl rfl (i := 0) rfl (by omega) rfl) ?_; refine zA rfl (zA7 uz3 rfl rfl (hcell 0 _ rfl)) ?_; refine zA rfl (zA0 (v := .int .i64 _) rfl) ?_; refine zA6 ?_; refine zA1 ?_; refine zA rfl (zA2 (v := .pointer (some _)) rfl) ?_; refine zA rfl (zA2 (v := .pointer (some _)) rfl) ?_; refine zA rfl (zA8 rfl) ?_
   refine zA rfl (zA4 (o' := 3) uz92 rfl sz74 rfl rfl rfl) ?_; refine zA rfl (zA7 uz74 rfl rfl (hs.cellAt 0 rfl rfl)) ?_; refine zA rfl (zG5 uz74 sz3 rfl rfl (lo := 1) rfl (by omega)) ?_; refine zA rfl (zA8 rfl) ?_; refine zA rfl (zA4 (o' := 3) uz92 rfl sz74 rfl rfl rfl) ?_; refine zB5 (v := .slice _ _ _) hs 0 rfl sz74 rfl rfl rfl rfl ?_; clear hs; intro w hs
   try simp only [zzs, zzz] at hs
   refine zA6 ?_; replace hs := hs.cut 5 rfl (lo := 1) (hi := n) (by omega) (Nat.le_refl _); rw [List.take_of_length_le (by simp; omega)] at hs; refine zA3 ?_; refine zA3 (zA1 ?_); refine zA rfl (zA2 (v := .int .i64 _) rfl) ?_; refine zA6 ?_; refine zAo ?_; refine zA3 (zA1 ?_); refine zA rfl (zBo rfl rfl) ?_; refine zA rfl (zA0 (v := .bool _) rfl) ?_; refine zA6 ?_; refine zB rfl ?_ ?_
   ·
    intro h35; have g35 := of_decide_eq_true h35; refine zA3 (zA1 ?_); refine zA rfl (zA2 (v := .pointer (some _)) rfl) ?_; refine zA rfl (zA8 rfl) ?_; refine zA rfl (zA4 (o' := 5) uz92 rfl sz3 rfl rfl rfl) ?_; refine zA rfl (zA7 uz3 rfl rfl (hs.cellAt 0 rfl rfl)) ?_; refine zA rfl (zAu rfl rfl rfl (inI (by omega) (by omega))) ?_; refine zA rfl (zA8 rfl) ?_; refine zA rfl (zA4 (o' := 5) uz92 rfl sz3 rfl rfl rfl) ?_; refine zB5 (v := .int .i64 _) hs 0 rfl sz3 rfl rfl rfl rfl ?_; clear hs; intro w hs
    try simp only [zzs, zzz] at hs
    refine zA6 (zA3 (zA1 ?_)); refine zA rfl (zA7 zCe rfl rfl (hE.cellW hs 111 (by decide) rfl)) ?_; refine zA rfl (zA0 (v := zAh ad _) rfl) ?_; refine zA6 ?_; refine zAc ?_; refine zBd (v := zAh ad _) rfl rfl ?_; exact ⟨_, rfl, 111, rfl, hR (by omega) _ (by rw [hbe, g35]; exact hs.closeS)⟩
   ·
    intro h35; have g35 := of_decide_eq_false h35; refine zA3 (zA1 ?_); refine zA rfl (zBo rfl rfl) ?_; refine zA rfl (zA0 (v := .bool _) rfl) ?_; refine zA6 ?_; refine zB rfl ?_ ?_
    ·
     intro h45; have g45 := of_decide_eq_true h45; refine zA3 (zA1 ?_); refine zA rfl (zA2 (v := .pointer (some _)) rfl) ?_; refine zA rfl (zA8 rfl) ?_; refine zA rfl (zA4 (o' := 5) uz92 rfl sz3 rfl rfl rfl) ?_; refine zA rfl (zA7 uz3 rfl rfl (hs.cellAt 0 rfl rfl)) ?_; refine zA rfl (zAu rfl rfl rfl (inI (by omega) (by omega))) ?_; refine zA rfl (zA8 rfl) ?_; refine zA rfl (zA4 (o' := 5) uz92 rfl sz3 rfl rfl rfl) ?_; refine zB5 (v := .int .i64 _) hs 0 rfl sz3 rfl rfl rfl rfl ?_; clear hs; intro w hs
     try simp only [zzs, zzz] at hs
     refine zA6 (zA3 (zA1 ?_)); refine zA rfl (zA2 (v := .func _ _ _) rfl) ?_; refine zE7 rfl hf rfl (hdo (by omega) w (by rw [hbe, g45]; exact hs.closeS)) ?_; clear hs; rintro _ w ⟨c1, rfl, hs, hR2⟩; refine zA6 (zA3 (zA1 ?_)); refine zA rfl (zA7 zCe rfl rfl (hE.cellW hs 111 (by decide) rfl)) ?_; refine zA rfl (zA0 (v := zAh ad _) rfl) ?_; refine zA6 ?_; refine zAc ?_; refine zBd (v := zAh ad _) rfl rfl ?_; exact ⟨_, rfl, 111, rfl, by rw [if_pos (by omega)] at hR2; exact hR2⟩
    ·
     intro h45; have g45 := of_decide_eq_false h45; refine zAd ?_; refine zA3 (zA1 ?_); refine zA rfl (zA2 (v := .func _ _ _) rfl) ?_; refine zE7 rfl hf rfl (hdo (by omega) w (by rw [hbe, if_neg (by omega)]; exact hs.closeS)) ?_; clear hs; rintro _ w ⟨c1, rfl, hs, hR2⟩; refine zA rfl (zA0 (v := zAh ad _) rfl) ?_; refine zA6 ?_; refine zAc ?_; refine zBd (v := zAh ad _) rfl rfl ?_; exact ⟨_, rfl, c1, rfl, by rw [if_neg (by omega)] at hR2; exact hR2⟩
  ·
   intro h18; have g18 := of_decide_eq_false h18; obtain ⟨hnx, hbe⟩ := hb0 (List.eq_nil_of_length_eq_zero (by omega)); refine zAd ?_; refine zA3 ?_; refine zA3 (zA1 ?_); refine zA rfl (zA2 (v := .int .i64 _) rfl) ?_; refine zA6 ?_; refine zAo ?_; refine zA3 (zA1 ?_); refine zA rfl (zBo rfl rfl) ?_; refine zA rfl (zA0 (v := .bool _) rfl) ?_; refine zA6 ?_; refine zB4 rfl (rfl) ?_; refine zA3 (zA1 ?_); refine zA rfl (zBo rfl rfl) ?_; refine zA rfl (zA0 (v := .bool _) rfl) ?_; refine zA6 ?_; refine zB4 rfl (rfl) ?_; refine zAd ?_; refine zA3 (zA1 ?_); refine zA rfl (zA2 (v := .func _ _ _) rfl) ?_; refine zE7 rfl hf rfl (hdo (by omega) w (by rw [hbe]; exact hs.closeS)) ?_; clear hs
   rintro _ w ⟨c1, rfl, hs, hR2⟩; refine zA rfl (zA0 (v := zAh ad _) rfl) ?_; refine zA6 ?_; refine zAc ?_; refine zBd (v := zAh ad _) rfl rfl ?_; exact ⟨_, rfl, c1, rfl, by rw [if_neg (by omega)] at hR2; exact hR2⟩
theorem call_err (hE : ErrG ad g) (hs : Mem g w (zB8 p st :: M)) (hcl : st.calls < 4611686018427387904) (hfl : st.failed < 4611686018427387904) (good : St → Nat × St) (hf : ∀ args w, (callFunc f args).run Tryz.prog w = .ok (.enter f args) w)
    (hdo : ∀ w1, Mem g w1 (zB8 p st.begin :: M) → Calls Tryz.prog f cap w1 (Ret fun v w2 => v = zAh ad (good st.begin).1 ∧ Mem g w2 (zB8 p (good st.begin).2 :: M))) :
    Calls Tryz.prog 206 #[.pointer (some ⟨p, 0, none⟩), .func (.func f) #[] cap] w (Ret fun v w' => v = zAh ad (st.run good).1 ∧ Mem g w' (zB8 p (st.run good).2 :: M)) := by
  refine (call_sl hE hs hcl hfl (R := fun c w' => c = (st.run good).1 ∧ Mem g w' (zB8 p (st.run good).2 :: M)) hf ?_ ?_).mono ?_
  · intro hn w1 h1
    simp only [St.run, hn, if_true]; exact ⟨trivial, h1⟩
  · intro hn w1 h1
    refine (hdo w1 h1).mono ?_; rintro e w2 ⟨v, rfl, rfl, h2⟩; refine ⟨_, rfl, _, rfl, h2.nil, ?_⟩; simp only [St.run, hn, if_false]; exact ⟨trivial, h2⟩
  · rintro e w2 ⟨v, rfl, c, rfl, rfl, h2⟩
    exact ⟨_, rfl, rfl, h2⟩
end
theorem Mem.ownRd (hs : Mem g w L) (i : Nat) {v : Value} {l : List Value} (hi : L[i]? = some (own v l)) : Mem g w (L.set i (rd v l)) := by
  obtain ⟨F, ⟨g1, g2⟩, g3⟩ := hs.turn hi; exact g3 w _ F ⟨g1.seq, g1.lt, g2⟩ (fun _ h => .inl h) (Keeps.refl _ _)
end
section
open Go.RowKit
attribute [local irreducible] zAh
variable {g w : World} {L M : List HP} {ad : Nat → Addr} {p : Nat} {st : St}
theorem zEm.form {v : Value} {l : List Value} (h : zEm w v l) : ∃ a c, v = .slice a l.length c := by
  obtain ⟨a, n, c, h1, h2, _⟩ := h; exact ⟨a, c, by rw [h1, h2]⟩
section
variable {κ : Type} [DecidableEq κ] {es : List (κ × Value)} {objs : List (κ × List UInt8)} {n : κ}
theorem Mem.bytesAt (hs : Mem g w L) (i : Nat) (hi : L[i]? = some (famC rdB es objs)) {b : List UInt8} (ho : zAw objs n = some b) : ∃ a c, zAw es n = some (.slice a b.length c) ∧ Rd g L (.slice a b.length c) (zAm b) := by
  obtain ⟨v, hv⟩ := fam_some (hs.famKeys i hi) ho
  have hr : Rd g L v (zAm b) := Ens.fam i hi hv ho fun _ _ h => h.1
  obtain ⟨a, c, rfl⟩ := (hr.seq hs).form
  have : (zAm b).length = b.length := by simp [zAm]
  rw [this] at hv hr; exact ⟨a, c, hv, hr⟩
theorem Mem.bytesNone (hs : Mem g w L) (i : Nat) (hi : L[i]? = some (famC rdB es objs)) (ho : zAw objs n = none) : zAw es n = none := fam_none (hs.famKeys i hi) ho
end
theorem bytes_sl (hs : Mem g w (zB8 p st :: L)) (hsm : st.small) (n : ByteArray) {o : Option (List UInt8)} (ho : zAw st.objs n = o) : Calls Tryz.prog 39 #[.pointer (some ⟨p, 0, none⟩), .string n] w
    (Ret fun v w' => ∃ a c, v = .tuple #[.slice a (o.getD []).length c, .bool o.isSome] ∧ Mem g w' (own (.slice a (o.getD []).length c) (zAm (o.getD [])) :: zB8 p st :: L)) := by
  obtain ⟨mo, mu, sa, sn, sc, es, us, hn, hs⟩ := hs.openS; simp only [zCt, List.cons_append, List.nil_append] at hs
  cases o with
  | none =>
    have he := hs.bytesNone 2 rfl ho; refine zAf Tryz.func39 rfl rfl ?_
    skip
    refine zA3 (zA1 ?_); refine zA rfl (zA0 (v := .slice _ _ _) rfl) ?_; refine zA rfl (zA0 (v := .bool _) rfl) ?_; refine zA6 (zA3 (zA1 ?_)); refine zA rfl (zA2 (v := .pointer (some _)) rfl) ?_; refine zA rfl (zA8 rfl) ?_; refine zA rfl (zA4 (o' := 0) uz92 rfl sz89 rfl rfl rfl) ?_; refine zA rfl (zA7 uz89 rfl rfl (hs.cellAt 0 rfl rfl)) ?_; refine zA rfl (zA2 (v := .string _) rfl) ?_; refine zA rfl (zDo (hs.mapAt 1 rfl) zEa uz89 uz9 ze22 rfl rfl he) ?_; refine zA rfl (zA2 (v := .tuple _) rfl) ?_; refine zA rfl (zAa (v := .slice _ _ _) rfl rfl) ?_; refine zA rfl (zAa (v := .bool _) rfl rfl) ?_; refine zA rfl (zA0 (v := .slice _ _ _) rfl) ?_; refine zA rfl (zA0 (v := .bool _) rfl) ?_
    refine zA6 (zA3 (zA1 ?_)); refine zA rfl (zA2 (v := .slice _ _ _) rfl) ?_; refine zAb rfl en49 (zCj hs (l := []) Rd.nil (by decide)) ?_; clear hs; rintro _ w ⟨a18, c18, rfl, hs⟩; refine zA rfl (zA2 (v := .bool _) rfl) ?_; refine zA rfl (zA0 (v := .slice _ _ _) rfl) ?_; refine zA rfl (zA0 (v := .bool _) rfl) ?_; refine zA6 ?_; refine zAc ?_; refine zDz (v := .slice _ _ _) (v2 := .bool _) rfl rfl rfl ?_; exact ⟨_, rfl, a18, c18, rfl, hs.closeS1⟩
  | some b =>
    obtain ⟨a, c, he, hr⟩ := hs.bytesAt 2 rfl ho; refine zAf Tryz.func39 rfl rfl ?_
    skip
    refine zA3 (zA1 ?_); refine zA rfl (zA0 (v := .slice _ _ _) rfl) ?_; refine zA rfl (zA0 (v := .bool _) rfl) ?_; refine zA6 (zA3 (zA1 ?_)); refine zA rfl (zA2 (v := .pointer (some _)) rfl) ?_; refine zA rfl (zA8 rfl) ?_; refine zA rfl (zA4 (o' := 0) uz92 rfl sz89 rfl rfl rfl) ?_; refine zA rfl (zA7 uz89 rfl rfl (hs.cellAt 0 rfl rfl)) ?_; refine zA rfl (zA2 (v := .string _) rfl) ?_; refine zA rfl (zDo (hs.mapAt 1 rfl) zEa uz89 uz9 ze22 rfl rfl he) ?_; refine zA rfl (zA2 (v := .tuple _) rfl) ?_; refine zA rfl (zAa (v := .slice _ _ _) rfl rfl) ?_; refine zA rfl (zAa (v := .bool _) rfl rfl) ?_; refine zA rfl (zA0 (v := .slice _ _ _) rfl) ?_; refine zA rfl (zA0 (v := .bool _) rfl) ?_
    refine zA6 (zA3 (zA1 ?_)); refine zA rfl (zA2 (v := .slice _ _ _) rfl) ?_; refine zAb rfl en49 (zCj hs (l := b) hr (hsm.1 n b (zCq ho))) ?_; clear hs; rintro _ w ⟨a18, c18, rfl, hs⟩; refine zA rfl (zA2 (v := .bool _) rfl) ?_; refine zA rfl (zA0 (v := .slice _ _ _) rfl) ?_; refine zA rfl (zA0 (v := .bool _) rfl) ?_; refine zA6 ?_; refine zAc ?_; refine zDz (v := .slice _ _ _) (v2 := .bool _) rfl rfl rfl ?_; rw [zAv] at hs; exact ⟨_, rfl, a18, c18, by rw [zAv]; rfl, hs.closeS1⟩
def St.del1 (n : ByteArray) (st : St) : Nat × St := if (zAw st.objs n).isSome then (0, { st with objs := zDa st.objs n }) else (107, st)
def St.head1 (n : ByteArray) (st : St) : Nat × Int × Int := match zAw st.objs n with
  | some b => (0, b.length, ((zBz 0 b : Nat) : Int))
  | none => (107, 0, 0)
theorem headC_sl (hE : ErrG ad g) (hsm : st.small) {nb sb lb ub : Nat} {n : ByteArray} (hs : Mem g w (zB8 p st :: cells ub [.int .u32 0] 64 :: cells lb [.int .i64 0] 3 :: cells nb [.string n] 9 :: cells sb [.pointer (some ⟨p, 0, none⟩)] 30 :: M)) :
    Calls Tryz.prog 217 #[.pointer (some ⟨sb, 0, none⟩), .pointer (some ⟨nb, 0, none⟩), .pointer (some ⟨lb, 0, none⟩), .pointer (some ⟨ub, 0, none⟩)] w
      (Ret fun v w' => v = zAh ad (st.head1 n).1 ∧ Mem g w' (zB8 p st :: cells ub [.int .u32 (st.head1 n).2.2] 64 :: cells lb [.int .i64 (st.head1 n).2.1] 3 :: cells nb [.string n] 9 :: cells sb [.pointer (some ⟨p, 0, none⟩)] 30 :: M)) := by
  obtain ⟨mo, mu, sa, sn, sc, es, us, hn, hs⟩ := hs.openS; simp only [zCt, List.cons_append, List.nil_append] at hs
  cases ho : zAw st.objs n with
  | none =>
    have he := hs.bytesNone 2 rfl ho
    have hp : st.head1 n = (107, 0, 0) := by simp [St.head1, ho]
    rw [hp]; refine zAf Tryz.func217 rfl rfl ?_
    skip
    refine zA3 (zA1 ?_); refine zA rfl (zA0 (v := .nilIface) rfl) ?_; refine zA6 ?_; refine zA3 ?_; refine zAp zBk hs ?_; intro w tr hK; replace hs := tr _ hs; clear tr; refine zA5 0 rfl rfl (fun w hs => zA7 uz30 rfl rfl (hs.cellAt 9 rfl rfl)) hK ?_; refine zA5 1 rfl rfl (fun w hs => zA8 rfl) hK ?_; refine zA5 2 rfl rfl (fun w hs => zA4 (o' := 0) uz92 rfl sz89 rfl rfl rfl) hK ?_; refine zA5 3 rfl rfl (fun w hs => zA7 uz89 rfl rfl (hs.cellAt 0 rfl rfl)) hK ?_; refine zA5 4 rfl rfl (fun w hs => zA7 uz9 rfl rfl (hs.cellAt 8 rfl rfl)) hK ?_; refine zA5 5 rfl rfl (fun w hs => zDo (hs.mapAt 1 rfl) zEa uz89 uz9 ze22 rfl rfl he) hK ?_
    refine zA5 6 rfl rfl (fun w hs => zA2 (v := .tuple _) rfl) hK ?_; refine zA5 7 rfl rfl (fun w hs => zAa (v := .slice _ _ _) rfl rfl) hK ?_; refine zA5 8 rfl rfl (fun w hs => zAa (v := .bool _) rfl rfl) hK ?_; refine zA5 9 rfl rfl (fun w hs => zA0 (v := .slice _ _ _) rfl) hK ?_; refine zA5 10 rfl rfl (fun w hs => zA0 (v := .bool _) rfl) hK ?_; refine zAr (by kernel_rfl) ?_; clear hK; refine zA3 ?_; refine zA3 (zA1 ?_); refine zA rfl (zA2 (v := .bool _) rfl) ?_; refine zA rfl (zBt rfl) ?_; refine zA6 ?_; refine zB6 rfl (zCd (rfl)) ?_; refine zA3 (zA1 ?_); refine zA rfl (zA7 zCe rfl rfl (hE.cellW hs 107 (by decide) rfl)) ?_; refine zA rfl (zA0 (v := zAh ad _) rfl) ?_; refine zA6 ?_
    refine zAc ?_; refine zBd (v := zAh ad _) rfl rfl ?_; exact ⟨_, rfl, rfl, hs.closeS⟩
  | some b =>
    obtain ⟨a, c, he, hr⟩ := hs.bytesAt 2 rfl ho
    have hp : st.head1 n = (0, (b.length : Int), ((zBz 0 b : Nat) : Int)) := by simp [St.head1, ho]
    have hl := hsm.1 n b (zCq ho); rw [hp]; refine zAf Tryz.func217 rfl rfl ?_
    skip
    refine zA3 (zA1 ?_); refine zA rfl (zA0 (v := .nilIface) rfl) ?_; refine zA6 ?_; refine zA3 ?_; refine zAp zBk hs ?_; intro w tr hK; replace hs := tr _ hs; clear tr; refine zA5 0 rfl rfl (fun w hs => zA7 uz30 rfl rfl (hs.cellAt 9 rfl rfl)) hK ?_; refine zA5 1 rfl rfl (fun w hs => zA8 rfl) hK ?_; refine zA5 2 rfl rfl (fun w hs => zA4 (o' := 0) uz92 rfl sz89 rfl rfl rfl) hK ?_; refine zA5 3 rfl rfl (fun w hs => zA7 uz89 rfl rfl (hs.cellAt 0 rfl rfl)) hK ?_; refine zA5 4 rfl rfl (fun w hs => zA7 uz9 rfl rfl (hs.cellAt 8 rfl rfl)) hK ?_; refine zA5 5 rfl rfl (fun w hs => zDo (hs.mapAt 1 rfl) zEa uz89 uz9 ze22 rfl rfl he) hK ?_
    refine zA5 6 rfl rfl (fun w hs => zA2 (v := .tuple _) rfl) hK ?_; refine zA5 7 rfl rfl (fun w hs => zAa (v := .slice _ _ _) rfl rfl) hK ?_; refine zA5 8 rfl rfl (fun w hs => zAa (v := .bool _) rfl rfl) hK ?_; refine zA5 9 rfl rfl (fun w hs => zA0 (v := .slice _ _ _) rfl) hK ?_; refine zA5 10 rfl rfl (fun w hs => zA0 (v := .bool _) rfl) hK ?_; refine zAr (by kernel_rfl) ?_; clear hK; refine zA3 ?_; refine zA3 (zA1 ?_); refine zA rfl (zA2 (v := .bool _) rfl) ?_; refine zA rfl (zBt rfl) ?_; refine zA6 ?_; refine zB4 rfl (zBj (rfl)) ?_; refine zAd ?_; refine zA3 (zA1 ?_); refine zA rfl (zA2 (v := .slice _ _ _) rfl) ?_; refine zA rfl (zAt zCk rfl) ?_
    refine zA rfl (zA2 (v := .slice _ _ _) rfl) ?_; refine zB1 hs rfl ([.slice a b.length c]) zG1 zs22 rfl (by simp [Value.cells]) rfl rfl rfl ?_; clear hs; intro b22 w hs
    try simp only [zzs, zzz] at hs
    refine zAb rfl en88 (of_sl hs (Rd.cells 0 rfl rfl) hr.cons hl) ?_; clear hs; rintro _ w ⟨rfl, hs⟩; refine zB5 (v := .int .i64 _) hs 8 rfl sz3 rfl rfl rfl rfl ?_; clear hs; intro w hs
    try simp only [zzs, zzz] at hs
    refine zB5 (v := .int .u32 _) hs 7 rfl sz64 rfl rfl rfl rfl ?_; clear hs; intro w hs
    try simp only [zzs, zzz] at hs
    refine zA6 (zA3 (zA1 ?_)); refine zA rfl (zA0 (v := .nilIface) rfl) ?_; refine zA6 ?_; refine zAc ?_; refine zBd (v := .nilIface) rfl rfl ?_; exact ⟨_, rfl, (zAz ad).symm, hs.tail.closeS⟩
def St.headR (n : ByteArray) (st : St) : Int × Int × Nat × St :=
  if st.next = 1 ∨ st.next = 2 then (0, 0, 111, st.begin) else if (st.begin.head1 n).1 = 0 then ((st.begin.head1 n).2.1, (st.begin.head1 n).2.2, (st.begin.head1 n).1, st.begin) else (0, 0, (st.begin.head1 n).1, st.begin)
theorem head_sl (hE : ErrG ad g) (hsm : st.small) (hs : Mem g w (zB8 p st :: M)) (hcl : st.calls < 4611686018427387904) (hfl : st.failed < 4611686018427387904) (n : ByteArray) {x y : Int} {k : Nat} {st2 : St} (hk : st.headR n = (x, y, k, st2)) :
    Calls Tryz.prog 211 #[.pointer (some ⟨p, 0, none⟩), .string n] w
      (Ret fun v w' => v = .tuple #[.int .i64 x, .int .u32 y, zAh ad k] ∧ Mem g w' (zB8 p st2 :: M)) := by
  have hbs : st.begin.small := hsm
  have k1 : (st.headR n).1 = x := by rw [hk]
  have k2 : (st.headR n).2.1 = y := by rw [hk]
  have k3 : (st.headR n).2.2.1 = k := by rw [hk]
  have k4 : (st.headR n).2.2.2 = st2 := by rw [hk]
  subst k1 k2 k3 k4; refine zAf Tryz.func211 rfl rfl ?_
  skip
  refine zA3 (zA1 ?_); refine zBh (v := .pointer (some _)) hs rfl rfl ?_; clear hs; intro b2 w hs
  try simp only [zzs, zzz] at hs
  refine zBh (v := .string _) hs rfl rfl ?_; clear hs; intro b3 w hs
  try simp only [zzs, zzz] at hs
  refine zA rfl (zA0 (v := .int .i64 _) rfl) ?_; refine zA rfl (zA0 (v := .int .u32 _) rfl) ?_; refine zA rfl (zA0 (v := .nilIface) rfl) ?_; refine zA6 (zA3 (zA1 ?_)); refine zBn hs rfl ze3 ?_; clear hs; intro b7 w hs
  try simp only [zzs, zzz] at hs
  refine zBn hs rfl ze64 ?_; clear hs; intro b8 w hs
  try simp only [zzs, zzz] at hs
  refine zB5 (v := .int .i64 _) hs 1 rfl sz3 rfl rfl rfl rfl ?_; clear hs; intro w hs
  try simp only [zzs, zzz] at hs
  refine zB5 (v := .int .u32 _) hs 0 rfl sz64 rfl rfl rfl rfl ?_; clear hs; intro w hs
  try simp only [zzs, zzz] at hs
  refine zA6 ?_; refine zA3 ?_; replace hs := hs.pick 4 rfl; simp only [List.eraseIdx_cons_succ, List.eraseIdx_cons_zero] at hs; refine zA1 ?_; refine zA rfl (zA7 uz30 rfl rfl (hs.cellAt 4 rfl rfl)) ?_; refine zA rfl (zC) ?_
  refine zAb rfl en206 (call_sl (R := fun c w' => ∃ l u, (if c = 0 then (l, u, c, st.begin) else (0, 0, c, st.begin)) = st.headR n ∧ Mem g w' (zB8 p st.begin :: cells b8 [.int .u32 u] 64 :: cells b7 [.int .i64 l] 3 :: M)) (cap := #[.pointer (some ⟨b2, 0, none⟩), .pointer (some ⟨b3, 0, none⟩), .pointer (some ⟨b7, 0, none⟩), .pointer (some ⟨b8, 0, none⟩)]) hE hs hcl hfl en217 (fun h1 w1 hs => ⟨0, 0, by simp [St.headR, h1], (hs.drop 4).drop 3⟩) (fun h1 w1 hs => (headC_sl hE hbs hs).mono (by rintro e w2 ⟨v, rfl, rfl, hs⟩; refine ⟨_, rfl, _, rfl, hs.nil, _, _, ?_, (hs.drop 4).drop 3⟩; by_cases h2 : st.next = 2 <;> simp [St.headR, h1, h2]))) ?_; clear hs; rintro _ w ⟨c12, rfl, l12, u12, hh, hs⟩
  refine zA rfl (zA0 (v := zAh ad _) rfl) ?_; refine zA6 ?_; refine zA3 ?_; refine zA3 (zA1 ?_); refine zA rfl (zA2 (v := zAh ad _) rfl) ?_; refine zA rfl (zAx (ad := ad) rfl) ?_; refine zA6 ?_; refine zB rfl ?_ ?_
  ·
   intro h14; have g14 := zEt h14; refine zA3 (zA1 ?_); refine zA rfl (zA2 (v := zAh ad _) rfl) ?_; refine zA rfl (zA0 (v := .int .i64 _) rfl) ?_; refine zA rfl (zA0 (v := .int .u32 _) rfl) ?_; refine zA rfl (zA0 (v := zAh ad _) rfl) ?_; refine zA6 ?_; refine zAc ?_; refine res3 (v := .int .i64 _) (v2 := .int .u32 _) (v3 := zAh ad _) rfl rfl rfl rfl ?_; rw [if_neg g14] at hh; rw [← hh]; exact ⟨_, rfl, rfl, (hs.drop 1).drop 1⟩
  ·
   intro h14; have g14 := zEs h14; refine zAd ?_; refine zA3 ?_; refine zAp zBk hs ?_; intro w tr hK; replace hs := tr _ hs; clear tr; refine zA5 0 rfl rfl (fun w hs => zA7 uz3 rfl rfl (hs.cellAt 2 rfl rfl)) hK ?_; refine zA5 1 rfl rfl (fun w hs => zA7 uz64 rfl rfl (hs.cellAt 1 rfl rfl)) hK ?_; refine zA5 2 rfl rfl (fun w hs => zA0 (v := .int .i64 _) rfl) hK ?_; refine zA5 3 rfl rfl (fun w hs => zA0 (v := .int .u32 _) rfl) hK ?_; refine zA5 4 rfl rfl (fun w hs => zA0 (v := .nilIface) rfl) hK ?_; refine zAr (by kernel_rfl) ?_; clear hK; refine zAc ?_; refine res3 (v := .int .i64 _) (v2 := .int .u32 _) (v3 := .nilIface) rfl rfl rfl rfl ?_; rw [if_pos g14] at hh; rw [← hh]
   exact ⟨_, rfl, by show _ = Value.tuple #[.int .i64 l12, .int .u32 u12, zAh ad c12]; rw [g14, zAz], (hs.drop 1).drop 1⟩
def St.get1 (n : ByteArray) (off m : Int) (st : St) : Nat × List UInt8 := match zAw st.objs n with
  | some b => if off < 0 ∨ m < 0 ∨ (b.length : Int) < off ∨ (b.length : Int) - off < m then (105, []) else (0, (b.take (off.toNat + m.toNat)).drop off.toNat)
  | none => (107, [])
def St.getR (n : ByteArray) (off m : Int) (st : St) : List UInt8 × Nat × St := if st.next = 1 ∨ st.next = 2 then ([], 111, st.begin) else ((st.begin.get1 n off m).2, (st.begin.get1 n off m).1, st.begin)
end
end Go.Proofs.YthejaanobeonnaaGreatDoor
