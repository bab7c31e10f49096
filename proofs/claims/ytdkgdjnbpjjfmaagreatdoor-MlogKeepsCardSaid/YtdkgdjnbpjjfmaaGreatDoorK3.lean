/- The disk in plain words: files by their numbers, names that lead to them, what is kept, changes. The disk in plain words: what every call keeps. The disk in plain words: a crash. The disk in plain words: what a call does while the power is there. The disk in memory: chunks. The disk, over chunks: New, begin, file, find, apply, change. crc.Seal, crc.Open, slices.Equal of bytes, over chunks; vint.Put. Manifests as bytes. vint.Get, GetInt; the reader of numbers. Numbers as bytes and back, in plain words. The reader, where nothing is amiss. Numbers of so many bytes; entries as bytes. DERIVED: THE SHELF's CONTRACTS AT THIS DUMP, IN PLAIN WORDS (tools/lay-plain.mjs out of 'YtdkgdjnbpjjfmaaGreatDoorSh0S.lean', which tools/lay-shelf.mjs wrote): THE SAME DECLARATIONS UNDER THE SAME NAMES: 'import', 'namespace', 'open', 'def', 'theorem' AND NOTHING ELSE: no command of the shelf's: FOR A HAND-IN. Each laying: the table of numbers ('.._ren') and one theorem, a field a fact of the dump's own or the kernel's comparison; each contract: ONE APPLICATION. A map's keys, in order: what all maps share. A view's keys, in order. A view as bytes. A number of the statements, exactly. -/
import Derived.Test.YtdkgdjnbpjjfmaaGreatDoorK2
import Derived.Test.YtdkgdjnbpjjfmaaGreatDoorK1
import Derived.Shelf.SlIter.Nil
import Derived.Shelf.SortM.SortNone
import Derived.Shelf.SlIterI.Nil
import Derived.Shelf.SortM.Plain
namespace Go.Proofs.YtdkgdjnbpjjfmaaGreatDoor
set_option linter.all false
open Go.RowKit

structure Fl where
  id : Nat
  b : List UInt8
  syn : Nat
structure Chg where
  name : ByteArray
  gone : ByteArray
  f : Option Nat
structure Dk where
  room : Nat
  names : List (ByteArray × Nat)
  kept : List (ByteArray × Nat)
  changes : List Chg
  files : Nat
  armed : Nat
  down : Bool
  calls : Nat
  fs : List (Nat × Fl)
def Dk.empty (room : Nat) : Dk := ⟨room, [], [], [], 0, 0, false, 0, []⟩
/-- Behind the begin of a call that changes. -/
def Dk.begin (d : Dk) : Nat × Dk := if d.down then (110, d) else if d.armed = 0 then (0, d) else if d.armed = 1 then (110, { d with armed := 0, down := true }) else (0, { d with armed := d.armed - 1 })
/-- A file, by its name. -/
def Dk.file (n : ByteArray) (d : Dk) : Nat × Option Nat := if d.down then (110, none) else match zB0 d.names n with
  | some i => (0, some i)
  | none => (107, none)
def Chg.app (c : Chg) (l : List (ByteArray × Nat)) : List (ByteArray × Nat) :=
  let l1 := if c.gone = ByteArray.empty then l else zDq l c.gone
  match c.f with
  | some i => zCc l1 c.name i
  | none => l1
def Dk.change (c : Chg) (d : Dk) : Dk := { d with names := c.app d.names, changes := d.changes ++ [c], calls := d.calls + 1 }
def Dk.len (d : Dk) (i : Nat) : Nat := ((zB0 d.fs i).map (·.b.length)).getD 0
def Dk.used (d : Dk) : Nat := (d.names.map fun x => d.len x.2).sum
/-- Go on with a file; what it is refused with. -/
def Dk.find (n : ByteArray) (d : Dk) : Nat × Option Nat × Dk := if d.begin.1 = 0 then ((d.begin.2.file n).1, (d.begin.2.file n).2, d.begin.2) else (110, none, d.begin.2)
def Dk.setF (d : Dk) (i : Nat) (f : Fl) : Dk := { d with fs := zCc d.fs i f }
def Dk.fl (d : Dk) (i : Nat) : Fl := (zB0 d.fs i).getD ⟨0, [], 0⟩
def Dk.create (n : ByteArray) (d : Dk) : Nat × Dk :=
  if d.begin.1 ≠ 0 then (110, d.begin.2) else
  let d1 := d.begin.2
  if zC6 n.data.toList = false then (106, d1) else if (zB0 d1.names n).isSome then (108, d1) else
  (0, ({ d1 with files := d1.files + 1, fs := d1.fs ++ [(d1.files + 1, ⟨d1.files + 1, [], 0⟩)] } : Dk).change ⟨n, ByteArray.empty, some (d1.files + 1)⟩)
def Dk.append (n : ByteArray) (b : List UInt8) (d : Dk) : Nat × Dk :=
  match d.find n with
  | (_, some i, d1) => if d1.room < d1.used + b.length then (109, d1) else (0, { d1.setF i { d1.fl i with b := (d1.fl i).b ++ b } with calls := d1.calls + 1 })
  | (c, none, d1) => (c, d1)
def Dk.cut (n : ByteArray) (k : Int) (d : Dk) : Nat × Dk :=
  match d.find n with
  | (_, some i, d1) => if k < 0 ∨ ((d1.fl i).b.length : Int) < k then (105, d1) else (0, { d1.setF i { d1.fl i with b := (d1.fl i).b.take k.toNat, syn := k.toNat } with calls := d1.calls + 1 })
  | (c, none, d1) => (c, d1)
def Dk.sync (n : ByteArray) (d : Dk) : Nat × Dk :=
  match d.find n with
  | (_, some i, d1) => (0, { d1.setF i { d1.fl i with syn := (d1.fl i).b.length } with calls := d1.calls + 1 })
  | (c, none, d1) => (c, d1)
def Dk.rename (n m : ByteArray) (d : Dk) : Nat × Dk :=
  match d.find n with
  | (_, some i, d1) => if zC6 m.data.toList = false then (106, d1) else (0, d1.change ⟨m, if n = m then ByteArray.empty else n, some i⟩)
  | (c, none, d1) => (c, d1)
def Dk.remove (n : ByteArray) (d : Dk) : Nat × Dk :=
  match d.find n with
  | (_, some _, d1) => (0, d1.change ⟨ByteArray.empty, n, none⟩)
  | (c, none, d1) => (c, d1)
def Dk.syncDir (d : Dk) : Nat × Dk := if d.begin.1 ≠ 0 then (110, d.begin.2) else (0, { d.begin.2 with kept := d.begin.2.names, changes := [], calls := d.begin.2.calls + 1 })
def Dk.readR (n : ByteArray) (off k : Int) (d : Dk) : Nat × List UInt8 :=
  match d.file n with
  | (_, some i) => if off < 0 ∨ k < 0 ∨ ((d.fl i).b.length : Int) < off ∨ ((d.fl i).b.length : Int) - off < k then (105, []) else (0, ((d.fl i).b.take (off.toNat + k.toNat)).drop off.toNat)
  | (c, none) => (c, [])
def zDf (picks : List Int) (k n : Nat) : Nat := match picks[k]? with
  | some x => (x % ((n : Int) + 1)).toNat
  | none => 0
def zC1 (l : List (ByteArray × Nat)) (cs : List Chg) : List (ByteArray × Nat) := cs.foldl (fun l c => c.app l) l
/-- The files that are kept, by their numbers. -/
def zEj (fs : List (Nat × Fl)) (kept : List (ByteArray × Nat)) : List Nat := (zAh fs).filter fun i => decide (i ∈ kept.map (·.2))
def Fl.crashed (f : Fl) (picks : List Int) (k : Nat) : Fl := { f with b := f.b.take (f.syn + zDf picks (k + 1) (f.b.length - f.syn)), syn := (f.b.take (f.syn + zDf picks (k + 1) (f.b.length - f.syn))).length }
def zC5 (picks : List Int) : Nat → List Nat → List (Nat × Fl) → List (Nat × Fl)
  | _, [], fs => fs
  | k, i :: l, fs => zC5 picks (k + 1) l (match zB0 fs i with | some f => zCc fs i (f.crashed picks k) | none => fs)
def Dk.crash (picks : List Int) (d : Dk) : Dk :=
  let kept := zC1 d.kept (d.changes.take (zDf picks 0 d.changes.length))
  { d with kept := kept, names := kept, changes := [], armed := 0, down := false, fs := zC5 picks 0 (zEj d.fs kept) d.fs }
/-- It hangs together. -/
structure Dk.okB (d : Dk) : Prop where
  room : d.room ≤ 4194304
  ids : (zAh d.fs).Pairwise (· < ·) ∧ ∀ i ∈ zAh d.fs, 1 ≤ i ∧ i ≤ d.files
  fid : ∀ i f, zB0 d.fs i = some f → f.id = i ∧ f.syn ≤ f.b.length ∧ f.b.length ≤ 4194304
  nnd : (zAh d.names).Nodup
  knd : (zAh d.kept).Nodup
  nin : ∀ x ∈ d.names, x.2 ∈ zAh d.fs
  kin : ∀ x ∈ d.kept, x.2 ∈ zAh d.fs
  cin : ∀ c ∈ d.changes, ∀ i, c.f = some i → i ∈ zAh d.fs
/-- And its numbers are no more than its calls. -/
structure Dk.ok (d : Dk) : Prop extends Dk.okB d where
  fcl : d.files ≤ d.calls
  nl : d.names.length ≤ d.calls
  kl : d.kept.length + d.changes.length ≤ d.calls
  al : d.armed ≤ 9223372036854775807
end Go.Proofs.YtdkgdjnbpjjfmaaGreatDoor
namespace Go.Proofs.YtdkgdjnbpjjfmaaGreatDoor
set_option linter.all false
open Go.RowKit
variable {d : Dk} {n m : ByteArray} {i : Nat}

theorem zDg {κ α : Type} [DecidableEq κ] {l : List (κ × α)} {k : κ} {v : α} (h : zB0 l k = some v) : k ∈ zAh l := List.mem_map_of_mem (zDd h)
theorem zCf {κ α : Type} [DecidableEq κ] {l : List (κ × α)} {k : κ} (h : k ∈ zAh l) : ∃ v, zB0 l k = some v := by
  cases hc : zB0 l k with
  | some v => exact ⟨v, rfl⟩
  | none => exact absurd h ((zBb _ _).1 hc)
theorem aput_keys {κ α : Type} [DecidableEq κ] {l : List (κ × α)} {k : κ} {v : α} (h : k ∈ zAh l) : zAh (zCc l k v) = zAh l := by rw [zFx, if_pos h]
theorem aput_nodup {κ α : Type} [DecidableEq κ] {l : List (κ × α)} {k : κ} {v : α} (h : (zAh l).Nodup) : (zAh (zCc l k v)).Nodup := by
  rw [zFx]
  split
  · exact h
  · rename_i hn
    rw [List.nodup_append]
    refine ⟨h, by simp, fun a ha c hc e => ?_⟩
    simp only [List.mem_cons, List.not_mem_nil, or_false] at hc
    subst hc
    exact hn (e ▸ ha)
theorem aput_in {κ α : Type} [DecidableEq κ] {l : List (κ × α)} {k : κ} {v : α} {x : κ × α} (h : x ∈ zCc l k v) : x = (k, v) ∨ x ∈ l := by
  induction l with
  | nil => simp [zCc] at h; exact .inl h
  | cons y l ih =>
    obtain ⟨a, b⟩ := y
    simp only [zCc] at h
    split at h
    · rcases List.mem_cons.1 h with h | h
      · exact .inl h
      · exact .inr (List.mem_cons_of_mem _ h)
    · rcases List.mem_cons.1 h with h | h
      · exact .inr (by rw [h]; exact List.mem_cons_self ..)
      · rcases ih h with h | h
        · exact .inl h
        · exact .inr (List.mem_cons_of_mem _ h)
theorem adel_in {κ α : Type} [DecidableEq κ] {l : List (κ × α)} {k : κ} {x : κ × α} (h : x ∈ zDq l k) : x ∈ l := by
  induction l with
  | nil => simp [zDq] at h
  | cons y l ih =>
    obtain ⟨a, b⟩ := y
    simp only [zDq] at h
    split at h
    · exact List.mem_cons_of_mem _ h
    · rcases List.mem_cons.1 h with h | h
      · rw [h]; exact List.mem_cons_self ..
      · exact List.mem_cons_of_mem _ (ih h)
theorem aput_end {κ α : Type} [DecidableEq κ] {l : List (κ × α)} {k : κ} {v : α} (h : k ∉ zAh l) : zCc l k v = l ++ [(k, v)] := by
  induction l with
  | nil => rfl
  | cons x l ih =>
    obtain ⟨a, b⟩ := x
    simp only [zAh, List.map_cons, List.mem_cons, not_or] at h
    simp only [List.cons_append, zCc]
    rw [if_neg (fun e => h.1 e.symm), ih h.2]

theorem Dk.okB.key (h : d.okB) (hi : i ∈ zAh d.fs) : 1 ≤ i ∧ i ≤ d.files := h.ids.2 i hi
theorem Dk.okB.fresh (h : d.okB) : d.files + 1 ∉ zAh d.fs := fun hm => by have := h.key hm; omega
theorem Dk.okB.fl_some (h : d.okB) (hi : i ∈ zAh d.fs) : zB0 d.fs i = some (d.fl i) := by
  obtain ⟨f, hf⟩ := zCf hi
  simp [Dk.fl, hf]
theorem Dk.begin_same (d : Dk) : d.begin.2.room = d.room ∧ d.begin.2.names = d.names ∧ d.begin.2.kept = d.kept ∧ d.begin.2.changes = d.changes ∧ d.begin.2.files = d.files ∧ d.begin.2.fs = d.fs ∧ d.begin.2.calls = d.calls ∧ d.begin.2.armed ≤ d.armed := by
  unfold Dk.begin
  split
  · exact ⟨rfl, rfl, rfl, rfl, rfl, rfl, rfl, Nat.le_refl _⟩
  · split
    · exact ⟨rfl, rfl, rfl, rfl, rfl, rfl, rfl, Nat.le_refl _⟩
    · split
      · exact ⟨rfl, rfl, rfl, rfl, rfl, rfl, rfl, Nat.zero_le _⟩
      · exact ⟨rfl, rfl, rfl, rfl, rfl, rfl, rfl, Nat.sub_le _ _⟩
theorem Dk.begin_code (d : Dk) : d.begin.1 = 0 ∨ d.begin.1 = 110 := by
  unfold Dk.begin
  split
  · exact .inr rfl
  · split
    · exact .inl rfl
    · split
      · exact .inr rfl
      · exact .inl rfl
/-- What hangs together hangs on these alone. -/
theorem Dk.okB.same {e : Dk} (h : d.okB) (h1 : e.room = d.room) (h2 : e.names = d.names) (h3 : e.kept = d.kept) (h4 : e.changes = d.changes) (h5 : e.files = d.files) (h6 : e.fs = d.fs) : e.okB :=
  ⟨h1 ▸ h.room, by rw [h6, h5]; exact h.ids, by rw [h6]; exact h.fid, by rw [h2]; exact h.nnd, by rw [h3]; exact h.knd, by rw [h2, h6]; exact h.nin, by rw [h3, h6]; exact h.kin, by rw [h4, h6]; exact h.cin⟩
theorem Dk.okB.begin (h : d.okB) : d.begin.2.okB := by
  obtain ⟨h1, h2, h3, h4, h5, h6, _⟩ := d.begin_same
  exact h.same h1 h2 h3 h4 h5 h6
theorem Chg.app_nodup {c : Chg} {l : List (ByteArray × Nat)} (h : (zAh l).Nodup) : (zAh (c.app l)).Nodup := by
  have h1 : (zAh (if c.gone = ByteArray.empty then l else zDq l c.gone)).Nodup := by
    split
    · exact h
    · rw [keys_del h]; exact h.filter _
  unfold Chg.app
  cases c.f with
  | none => exact h1
  | some i => exact aput_nodup h1
theorem Chg.app_in {c : Chg} {l : List (ByteArray × Nat)} {S : Nat → Prop} (h : ∀ x ∈ l, S x.2) (hc : ∀ i, c.f = some i → S i) : ∀ x ∈ c.app l, S x.2 := by
  have h1 : ∀ x ∈ (if c.gone = ByteArray.empty then l else zDq l c.gone), S x.2 := by
    split
    · exact h
    · exact fun x hx => h x (adel_in hx)
  intro x hx
  unfold Chg.app at hx
  cases hf : c.f with
  | none => rw [hf] at hx; exact h1 x hx
  | some i =>
    rw [hf] at hx
    rcases aput_in hx with e | hx
    · rw [e]; exact hc i hf
    · exact h1 x hx
theorem Dk.okB.change (h : d.okB) {c : Chg} (hc : ∀ i, c.f = some i → i ∈ zAh d.fs) : (d.change c).okB :=
  ⟨h.room, h.ids, h.fid, Chg.app_nodup h.nnd, h.knd, Chg.app_in h.nin hc, h.kin, fun x hx i hi => by
    rcases List.mem_append.1 hx with hx | hx
    · exact h.cin x hx i hi
    · simp only [List.mem_cons, List.not_mem_nil, or_false] at hx; subst hx; exact hc i hi⟩
theorem Dk.okB.addF (h : d.okB) : ({ d with files := d.files + 1, fs := d.fs ++ [(d.files + 1, ⟨d.files + 1, [], 0⟩)] } : Dk).okB := by
  have hk : zAh (d.fs ++ [(d.files + 1, (⟨d.files + 1, [], 0⟩ : Fl))]) = zAh d.fs ++ [d.files + 1] := by simp [zAh]
  refine ⟨h.room, ?_, fun i f hf => ?_, h.nnd, h.knd, fun x hx => ?_, fun x hx => ?_, fun c hc i hi => ?_⟩
  · show (zAh (d.fs ++ _)).Pairwise _ ∧ ∀ i ∈ zAh (d.fs ++ _), 1 ≤ i ∧ i ≤ d.files + 1
    rw [hk]
    refine ⟨List.pairwise_append.2 ⟨h.ids.1, by simp, fun a ha b hb => ?_⟩, fun i hi => ?_⟩
    · simp only [List.mem_cons, List.not_mem_nil, or_false] at hb
      have := h.key ha
      omega
    · rcases List.mem_append.1 hi with hi | hi
      · have := h.key hi; omega
      · simp only [List.mem_cons, List.not_mem_nil, or_false] at hi; omega
  · have hf : zB0 (d.fs ++ [(d.files + 1, (⟨d.files + 1, [], 0⟩ : Fl))]) i = some f := hf
    rw [← aput_end h.fresh] at hf
    by_cases e : i = d.files + 1
    · subst e; rw [zB5] at hf; cases hf; exact ⟨rfl, Nat.le_refl _, by simp⟩
    · rw [zB1 _ _ e] at hf; exact h.fid i f hf
  · show _ ∈ zAh (d.fs ++ _); rw [hk]; exact List.mem_append_left _ (h.nin x hx)
  · show _ ∈ zAh (d.fs ++ _); rw [hk]; exact List.mem_append_left _ (h.kin x hx)
  · show _ ∈ zAh (d.fs ++ _); rw [hk]; exact List.mem_append_left _ (h.cin c hc i hi)
theorem Dk.okB.setF (h : d.okB) (hi : i ∈ zAh d.fs) {f : Fl} (hf : f.id = i ∧ f.syn ≤ f.b.length ∧ f.b.length ≤ 4194304) (k : Nat) : ({ d.setF i f with calls := k } : Dk).okB := by
  have hk : zAh (zCc d.fs i f) = zAh d.fs := aput_keys hi
  refine ⟨h.room, by show (zAh (zCc d.fs i f)).Pairwise _ ∧ ∀ j ∈ zAh (zCc d.fs i f), _; rw [hk]; exact h.ids, fun j x hx => ?_, h.nnd, h.knd, fun x hx => by show _ ∈ zAh (zCc d.fs i f); rw [hk]; exact h.nin x hx, fun x hx => by show _ ∈ zAh (zCc d.fs i f); rw [hk]; exact h.kin x hx, fun c hc j hj => by show _ ∈ zAh (zCc d.fs i f); rw [hk]; exact h.cin c hc j hj⟩
  have hx : zB0 (zCc d.fs i f) j = some x := hx
  by_cases e : j = i
  · subst e; rw [zB5] at hx; cases hx; exact hf
  · rw [zB1 _ _ e] at hx; exact h.fid j x hx
theorem sum_mem {α : Type} (f : α → Nat) : ∀ {l : List α} {x : α}, x ∈ l → f x ≤ (l.map f).sum
  | y :: l, x, h => by
    simp only [List.map_cons, List.sum_cons]
    rcases List.mem_cons.1 h with rfl | h
    · omega
    · have := sum_mem f h; omega
theorem Dk.len_used (h : zB0 d.names n = some i) : d.len i ≤ d.used := sum_mem (fun x : ByteArray × Nat => d.len x.2) (zDd h)
theorem Dk.okB.len_eq (h : d.okB) (hi : i ∈ zAh d.fs) : d.len i = (d.fl i).b.length := by unfold Dk.len; rw [h.fl_some hi]; rfl
/-- What find tells. -/
theorem Dk.find_some {c : Nat} {d1 : Dk} (h : d.find n = (c, some i, d1)) : c = 0 ∧ d.begin = (0, d1) ∧ d1.down = false ∧ zB0 d1.names n = some i := by
  unfold Dk.find at h
  split at h
  · rename_i h0
    have hb : d.begin = (0, d.begin.2) := by rw [← h0]
    simp only [Prod.mk.injEq] at h
    obtain ⟨h1, h2, rfl⟩ := h
    unfold Dk.file at h1 h2
    cases hd : d.begin.2.down with
    | true => rw [hd] at h2; simp at h2
    | false =>
      rw [hd] at h1 h2
      simp only [Bool.false_eq_true, if_false] at h1 h2
      cases ha : zB0 d.begin.2.names n with
      | none => rw [ha] at h2; simp at h2
      | some j =>
        rw [ha] at h1 h2
        simp only [Option.some.injEq] at h2
        subst h2
        exact ⟨h1.symm, hb, rfl, rfl⟩
  · simp at h
theorem adel_len {κ α : Type} [DecidableEq κ] (l : List (κ × α)) (k : κ) : (zDq l k).length ≤ l.length := by
  induction l with
  | nil => simp [zDq]
  | cons x l ih =>
    obtain ⟨a, b⟩ := x
    simp only [zDq]
    split
    · simp
    · simpa using ih
theorem zFy {κ α : Type} [DecidableEq κ] : ∀ {l : List (κ × α)} {k : κ} {v : α}, zB0 l k = some v → (zDq l k).length < l.length
  | (a, b) :: l, k, v, h => by
    simp only [zB0] at h
    simp only [zDq]
    split at h
    · rename_i e; rw [if_pos e]; simp
    · rename_i e; rw [if_neg e]; have := zFy h; simpa using this
theorem aput_len {κ α : Type} [DecidableEq κ] (l : List (κ × α)) (k : κ) (v : α) : (zCc l k v).length ≤ l.length + 1 := by
  induction l with
  | nil => simp [zCc]
  | cons x l ih =>
    obtain ⟨a, b⟩ := x
    simp only [zCc]
    split
    · simp
    · simpa using ih
theorem Chg.app_len (c : Chg) (l : List (ByteArray × Nat)) : (c.app l).length ≤ l.length + 1 := by
  have h1 : (if c.gone = ByteArray.empty then l else zDq l c.gone).length ≤ l.length := by
    split
    · exact Nat.le_refl _
    · exact adel_len _ _
  unfold Chg.app
  cases c.f with
  | none => exact Nat.le_succ_of_le h1
  | some i => exact Nat.le_trans (aput_len _ _ _) (by omega)
theorem Dk.ok.begin (h : d.ok) : d.begin.2.ok := by
  obtain ⟨h1, h2, h3, h4, h5, h6, h7, h8⟩ := d.begin_same
  exact ⟨h.tookB.begin, by rw [h5, h7]; exact h.fcl, by rw [h2, h7]; exact h.nl, by rw [h3, h4, h7]; exact h.kl, by have := h.al; omega⟩
theorem Dk.ok.change (h : d.ok) {c : Chg} (hc : ∀ i, c.f = some i → i ∈ zAh d.fs) : (d.change c).ok := by
  have h1 := c.app_len d.names
  have h2 := h.fcl
  have h3 := h.nl
  have h4 := h.kl
  refine ⟨h.tookB.change hc, ?_, ?_, ?_, h.al⟩
  · show d.files ≤ d.calls + 1; omega
  · show (c.app d.names).length ≤ d.calls + 1; omega
  · show d.kept.length + (d.changes ++ [c]).length ≤ d.calls + 1; simp; omega
/-- With a new file. -/
def Dk.addF (d : Dk) : Dk := { d with files := d.files + 1, fs := d.fs ++ [(d.files + 1, ⟨d.files + 1, [], 0⟩)] }
theorem Dk.ok.create (h : d.ok) {c : Chg} (hc : ∀ i, c.f = some i → i = d.files + 1) : (d.addF.change c).ok := by
  have h1 := c.app_len d.names
  have h2 := h.fcl
  have h3 := h.nl
  have h4 := h.kl
  refine ⟨h.tookB.addF.change fun i hi => ?_, ?_, ?_, ?_, h.al⟩
  · rw [hc i hi]; simp [zAh]
  · show d.files + 1 ≤ d.calls + 1; omega
  · show (c.app d.names).length ≤ d.calls + 1; omega
  · show d.kept.length + (d.changes ++ [c]).length ≤ d.calls + 1; simp; omega
theorem Dk.ok.setF (h : d.ok) (hi : i ∈ zAh d.fs) {f : Fl} (hf : f.id = i ∧ f.syn ≤ f.b.length ∧ f.b.length ≤ 4194304) : ({ d.setF i f with calls := d.calls + 1 } : Dk).ok := by
  have h2 := h.fcl
  have h3 := h.nl
  have h4 := h.kl
  refine ⟨h.tookB.setF hi hf _, ?_, ?_, ?_, h.al⟩
  · show d.files ≤ d.calls + 1; omega
  · show d.names.length ≤ d.calls + 1; omega
  · show d.kept.length + d.changes.length ≤ d.calls + 1; omega
theorem Dk.ok.syncDir (h : d.ok) : ({ d with kept := d.names, changes := [], calls := d.calls + 1 } : Dk).ok := by
  have h2 := h.fcl
  have h3 := h.nl
  refine ⟨⟨h.room, h.ids, h.fid, h.nnd, h.nnd, h.nin, h.nin, fun c hc => by simp at hc⟩, ?_, ?_, ?_, h.al⟩
  · show d.files ≤ d.calls + 1; omega
  · show d.names.length ≤ d.calls + 1; omega
  · show d.names.length + 0 ≤ d.calls + 1; omega
/-- What find leaves. -/
theorem Dk.find_dk {c : Nat} {o : Option Nat} {d1 : Dk} (h : d.find n = (c, o, d1)) : d1 = d.begin.2 := by
  unfold Dk.find at h
  split at h <;> (simp only [Prod.mk.injEq] at h; exact h.2.2.symm)
theorem Dk.ok.find (h : d.ok) {c : Nat} {o : Option Nat} {d1 : Dk} (hf : d.find n = (c, o, d1)) : d1.ok := Dk.find_dk hf ▸ h.begin
theorem Dk.okB.named (h : d.okB) (hn : zB0 d.names n = some i) : i ∈ zAh d.fs := h.nin _ (zDd hn)
theorem Dk.used_le (h : d.ok) : d.used ≤ d.calls * 4194304 := by
  have : ∀ l : List (ByteArray × Nat), (∀ x ∈ l, x.2 ∈ zAh d.fs) → (l.map fun x => d.len x.2).sum ≤ l.length * 4194304 := by
    intro l
    induction l with
    | nil => intro _; simp
    | cons x l ih =>
      intro hl
      have h1 := ih fun y hy => hl y (List.mem_cons_of_mem _ hy)
      have hx := hl x (List.mem_cons_self ..)
      have h2 := h.tookB.len_eq hx
      have h3 := (h.fid _ _ (h.tookB.fl_some hx)).2.2
      simp only [List.map_cons, List.sum_cons, List.length_cons]
      omega
  have h1 := this d.names h.nin
  exact Nat.le_trans h1 (Nat.mul_le_mul_right _ h.nl)
end Go.Proofs.YtdkgdjnbpjjfmaaGreatDoor
namespace Go.Proofs.YtdkgdjnbpjjfmaaGreatDoor
set_option linter.all false
open Go.RowKit
variable {d : Dk} {picks : List Int} {n i k : Nat}

theorem pickN_le (picks : List Int) (k n : Nat) : zDf picks k n ≤ n := by
  unfold zDf
  cases picks[k]? with
  | none => exact Nat.zero_le _
  | some x =>
    have h1 := Int.emod_nonneg x (b := (n : Int) + 1) (by omega)
    have h2 := Int.emod_lt_of_pos x (b := (n : Int) + 1) (by omega)
    show (x % ((n : Int) + 1)).toNat ≤ n
    omega
theorem applyAll_take {l : List (ByteArray × Nat)} {cs : List Chg} {c : Chg} (h : cs[k]? = some c) : zC1 l (cs.take (k + 1)) = c.app (zC1 l (cs.take k)) := by
  rw [List.take_add_one, h]
  simp [zC1, List.foldl_append]
theorem applyAll_props {cs : List Chg} {S : Nat → Prop} : ∀ {l : List (ByteArray × Nat)}, (zAh l).Nodup → (∀ x ∈ l, S x.2) → (∀ c ∈ cs, ∀ i, c.f = some i → S i) → (zAh (zC1 l cs)).Nodup ∧ (∀ x ∈ zC1 l cs, S x.2) ∧ (zC1 l cs).length ≤ l.length + cs.length := by
  induction cs with
  | nil => exact fun h1 h2 _ => ⟨h1, h2, Nat.le_refl _⟩
  | cons c cs ih =>
    intro l h1 h2 h3
    have h4 := ih (l := c.app l) (Chg.app_nodup h1) (Chg.app_in h2 (h3 c (List.mem_cons_self ..))) fun c' hc => h3 c' (List.mem_cons_of_mem _ hc)
    have h5 := c.app_len l
    refine ⟨h4.1, h4.2.1, ?_⟩
    have h6 := h4.2.2
    simp only [zC1, List.foldl_cons, List.length_cons] at h6 ⊢
    omega

/-! ### the files that are kept -/
theorem Dk.okB.keys_rise (h : d.okB) : (zAh d.fs).Pairwise (· < ·) := h.ids.1
theorem keptIds_mem {fs : List (Nat × Fl)} {kept : List (ByteArray × Nat)} : i ∈ zEj fs kept ↔ i ∈ zAh fs ∧ i ∈ kept.map (·.2) := by simp [zEj]
/-- Numbers in order, each once, are the kept ones. -/
theorem ids_eq (h : d.okB) {kept : List (ByteArray × Nat)} (hk : ∀ x ∈ kept, x.2 ∈ zAh d.fs) {ids ids' : List Nat} (hp : ids'.Perm ids) (hs : ids'.Pairwise (· ≤ ·)) (hn : ids.Nodup) (hm : ∀ i, i ∈ ids ↔ i ∈ kept.map (·.2)) : ids' = zEj d.fs kept := by
  have h1 : (zEj d.fs kept).Pairwise (· < ·) := h.keys_rise.filter _
  have h2 : ids.Perm (zEj d.fs kept) := (List.perm_ext_iff_of_nodup hn (h1.imp fun h => Nat.ne_of_lt h)).2 fun i => by
    rw [keptIds_mem, hm]
    constructor
    · intro hi
      obtain ⟨x, hx, rfl⟩ := List.mem_map.1 hi
      exact ⟨hk x hx, hi⟩
    · exact fun h => h.2
  exact (hp.trans h2).eq_of_pairwise (fun a b _ _ h1 h2 => Nat.le_antisymm h1 h2) hs (h1.imp fun h => Nat.le_of_lt h)

/-! ### what is cut off -/
def crashStep (picks : List Int) (k i : Nat) (fs : List (Nat × Fl)) : List (Nat × Fl) := match zB0 fs i with | some f => zCc fs i (f.crashed picks k) | none => fs
theorem zF5 (i : Nat) : ∀ (l : List Nat) (k : Nat) (fs : List (Nat × Fl)), zC5 picks k (l ++ [i]) fs = crashStep picks (k + l.length) i (zC5 picks k l fs)
  | [], k, fs => rfl
  | j :: l, k, fs => by
    simp only [List.cons_append, zC5, List.length_cons]
    rw [zF5 i l (k + 1), show k + 1 + l.length = k + (l.length + 1) by omega]
theorem zFa : ∀ (l : List Nat) (k : Nat) (fs : List (Nat × Fl)), zAh (zC5 picks k l fs) = zAh fs
  | [], _, _ => rfl
  | j :: l, k, fs => by
    simp only [zC5]
    rw [zFa l]
    cases h : zB0 fs j with
    | none => rfl
    | some f => exact aput_keys (zDg h)
theorem zG2 : ∀ (l : List Nat) (k : Nat) (fs : List (Nat × Fl)), i ∉ l → zB0 (zC5 picks k l fs) i = zB0 fs i
  | [], _, _, _ => rfl
  | j :: l, k, fs, h => by
    simp only [List.mem_cons, not_or] at h
    simp only [zC5]
    rw [zG2 l _ _ h.2]
    cases hj : zB0 fs j with
    | none => rfl
    | some f => exact zB1 _ _ h.1
theorem crashFs_at : ∀ (l : List Nat) (k : Nat) (fs : List (Nat × Fl)) {q : Nat} {f : Fl}, l.Nodup → l[q]? = some i → zB0 fs i = some f → zB0 (zC5 picks k l fs) i = some (f.crashed picks (k + q))
  | [], _, _, _, _, _, h, _ => by simp at h
  | j :: l, k, fs, 0, f, hn, h, hf => by
    simp only [List.getElem?_cons_zero, Option.some.injEq] at h
    subst h
    simp only [zC5, hf]
    rw [zG2 l _ _ (List.nodup_cons.1 hn).1, zB5]
    rfl
  | j :: l, k, fs, q + 1, f, hn, h, hf => by
    simp only [List.getElem?_cons_succ] at h
    have hne : i ≠ j := fun e => (List.nodup_cons.1 hn).1 (e ▸ List.mem_of_getElem? h)
    simp only [zC5]
    rw [show k + (q + 1) = k + 1 + q by omega]
    refine crashFs_at l (k + 1) _ (List.nodup_cons.1 hn).2 h ?_
    cases hj : zB0 fs j with
    | none => exact hf
    | some f' => rw [← hf]; exact zB1 _ _ hne
theorem Fl.crashed_fine {f : Fl} (h : f.syn ≤ f.b.length) (picks : List Int) (k : Nat) : (f.crashed picks k).id = f.id ∧ (f.crashed picks k).syn ≤ (f.crashed picks k).b.length ∧ (f.crashed picks k).b.length ≤ f.b.length := by
  refine ⟨rfl, Nat.le_refl _, ?_⟩
  show (f.b.take _).length ≤ _
  simp
  omega
theorem zEd {P : Nat → Fl → Prop} (hP : ∀ i f picks k, P i f → P i (f.crashed picks k)) : ∀ (l : List Nat) (k : Nat) (fs : List (Nat × Fl)), (∀ i f, zB0 fs i = some f → P i f) → ∀ i f, zB0 (zC5 picks k l fs) i = some f → P i f
  | [], _, _, h => h
  | j :: l, k, fs, h => by
    refine zEd hP l _ _ fun i f hf => ?_
    cases hj : zB0 fs j with
    | none => simp only [hj] at hf; exact h i f hf
    | some f' =>
      simp only [hj] at hf
      by_cases e : i = j
      · subst e; rw [zB5] at hf; cases hf; exact hP _ _ _ _ (h _ _ hj)
      · rw [zB1 _ _ e] at hf; exact h i f hf
theorem Dk.ok.crash (h : d.ok) (picks : List Int) : (d.crash picks).ok := by
  have h1 := applyAll_props (cs := d.changes.take (zDf picks 0 d.changes.length)) (l := d.kept) (S := fun i => i ∈ zAh d.fs) h.knd h.kin fun c hc i hi => h.cin c (List.mem_of_mem_take hc) i hi
  have h2 := h.kl
  have h3 := h.fcl
  have h4 : (d.changes.take (zDf picks 0 d.changes.length)).length ≤ d.changes.length := by simp; omega
  have h5 := h1.2.2
  refine ⟨⟨h.room, ?_, ?_, h1.1, h1.1, ?_, ?_, ?_⟩, h3, ?_, ?_, Nat.zero_le _⟩
  · show (zAh (zC5 _ _ _ _)).Pairwise _ ∧ ∀ i ∈ zAh (zC5 _ _ _ _), _; rw [zFa]; exact h.ids
  · exact zEd (P := fun i f => f.id = i ∧ f.syn ≤ f.b.length ∧ f.b.length ≤ 4194304) (fun i f picks k hf => by
      have := Fl.crashed_fine hf.2.1 picks k
      exact ⟨this.1.trans hf.1, this.2.1, Nat.le_trans this.2.2 hf.2.2⟩) _ _ _ h.fid
  · intro x hx; show _ ∈ zAh (zC5 _ _ _ _); rw [zFa]; exact h1.2.1 x hx
  · intro x hx; show _ ∈ zAh (zC5 _ _ _ _); rw [zFa]; exact h1.2.1 x hx
  · intro c hc; simp [Dk.crash] at hc
  · show (zC1 _ _).length ≤ d.calls; omega
  · show (zC1 _ _).length + 0 ≤ d.calls; omega
end Go.Proofs.YtdkgdjnbpjjfmaaGreatDoor
namespace Go.Proofs.YtdkgdjnbpjjfmaaGreatDoor
set_option linter.all false
open Go.RowKit
variable {d : Dk} {n m : ByteArray} {i : Nat} {b : List UInt8}

theorem Dk.begin_up (h1 : d.down = false) (h2 : d.armed = 0) : d.begin = (0, d) := by simp [Dk.begin, h1, h2]
theorem Dk.find_up (h1 : d.down = false) (h2 : d.armed = 0) (hn : zB0 d.names n = some i) : d.find n = (0, some i, d) := by simp [Dk.find, Dk.begin_up h1 h2, Dk.file, h1, hn]
theorem Dk.append_up (h1 : d.down = false) (h2 : d.armed = 0) (hn : zB0 d.names n = some i) (hr : d.used + b.length ≤ d.room) : d.append n b = (0, { d.setF i { d.fl i with b := (d.fl i).b ++ b } with calls := d.calls + 1 }) := by
  simp only [Dk.append, Dk.find_up h1 h2 hn]
  rw [if_neg (by omega)]
theorem Dk.sync_up (h1 : d.down = false) (h2 : d.armed = 0) (hn : zB0 d.names n = some i) : d.sync n = (0, { d.setF i { d.fl i with syn := (d.fl i).b.length } with calls := d.calls + 1 }) := by simp only [Dk.sync, Dk.find_up h1 h2 hn]
theorem Dk.create_up (h1 : d.down = false) (h2 : d.armed = 0) (hv : zC6 n.data.toList = true) (hn : zB0 d.names n = none) : d.create n = (0, ({ d with files := d.files + 1, fs := d.fs ++ [(d.files + 1, ⟨d.files + 1, [], 0⟩)] } : Dk).change ⟨n, ByteArray.empty, some (d.files + 1)⟩) := by simp [Dk.create, Dk.begin_up h1 h2, hv, hn]
theorem Dk.remove_up (h1 : d.down = false) (h2 : d.armed = 0) (hn : zB0 d.names n = some i) : d.remove n = (0, d.change ⟨ByteArray.empty, n, none⟩) := by simp only [Dk.remove, Dk.find_up h1 h2 hn]
theorem Dk.syncDir_up (h1 : d.down = false) (h2 : d.armed = 0) : d.syncDir = (0, { d with kept := d.names, changes := [], calls := d.calls + 1 }) := by simp [Dk.syncDir, Dk.begin_up h1 h2]
end Go.Proofs.YtdkgdjnbpjjfmaaGreatDoor
namespace Go.Proofs.YtdkgdjnbpjjfmaaGreatDoor
set_option linter.all false
open Go.RowKit
variable {g w : World} {L M : List HP} {p : Nat} {d : Dk} {ptr : List (Nat × Nat)}

def fptr (ptr : List (Nat × Nat)) (i : Nat) : Value := .pointer ((zB0 ptr i).map fun b => ⟨b, 0, none⟩)
theorem zEh {i b : Nat} (h : zB0 ptr i = some b) : fptr ptr i = .pointer (some ⟨b, 0, none⟩) := by simp [fptr, h]
/-- Names as they stand in a map. -/
def nmV (ptr : List (Nat × Nat)) (l : List (ByteArray × Nat)) : List (ByteArray × Value) := l.map fun x => (x.1, fptr ptr x.2)
theorem nmV_get (l : List (ByteArray × Nat)) (n : ByteArray) : zB0 (nmV ptr l) n = (zB0 l n).map (fptr ptr) := by
  induction l with
  | nil => rfl
  | cons x l ih =>
    obtain ⟨a, b⟩ := x
    simp only [nmV, List.map_cons, zB0] at ih ⊢
    split
    · rfl
    · exact ih
theorem nmV_put (l : List (ByteArray × Nat)) (n : ByteArray) (i : Nat) : nmV ptr (zCc l n i) = zCc (nmV ptr l) n (fptr ptr i) := by
  induction l with
  | nil => rfl
  | cons x l ih =>
    obtain ⟨a, b⟩ := x
    simp only [nmV, List.map_cons, zCc] at ih ⊢
    split
    · simp
    · simp only [List.map_cons, ih]
theorem nmV_del (l : List (ByteArray × Nat)) (n : ByteArray) : nmV ptr (zDq l n) = zDq (nmV ptr l) n := by
  induction l with
  | nil => rfl
  | cons x l ih =>
    obtain ⟨a, b⟩ := x
    simp only [nmV, List.map_cons, zDq] at ih ⊢
    split
    · rfl
    · simp only [List.map_cons, ih]
/-- A new file turns no name. -/
theorem nmV_more {l : List (ByteArray × Nat)} {k b : Nat} (h : ∀ x ∈ l, x.2 ≠ k) : nmV (zCc ptr k b) l = nmV ptr l := by
  unfold nmV
  refine List.map_congr_left fun x hx => ?_
  simp only [fptr]
  rw [zB1 _ _ (h x hx)]
/-- A file: its block, its bytes. -/
def fiC (b : Nat) (f : Fl) : HP := ex fun v : Option Addr × Nat => stars [cells b [.int .i64 f.id, .slice v.1 f.b.length v.2, .int .i64 f.syn] 94, own (.slice v.1 f.b.length v.2) (zAm f.b)]
theorem Mem.openF {b : Nat} {f : Fl} (hs : Mem g w (fiC b f :: L)) : ∃ a c, Mem g w (cells b [.int .i64 f.id, .slice a f.b.length c, .int .i64 f.syn] 94 :: own (.slice a f.b.length c) (zAm f.b) :: L) := by
  obtain ⟨⟨a, c⟩, h⟩ := hs.unex
  exact ⟨a, c, h.unstars⟩
theorem Mem.closeF {b : Nat} {f : Fl} {a : Option Addr} {c : Nat} (hs : Mem g w (cells b [.int .i64 f.id, .slice a f.b.length c, .int .i64 f.syn] 94 :: own (.slice a f.b.length c) (zAm f.b) :: L)) : Mem g w (fiC b f :: L) :=
  Mem.ex (f := fun v : Option Addr × Nat => Go.Proofs.YtdkgdjnbpjjfmaaGreatDoor.stars [cells b [.int .i64 f.id, .slice v.1 f.b.length v.2, .int .i64 f.syn] 94, own (.slice v.1 f.b.length v.2) (zAm f.b)]) (a, c) (Mem.stars (M := [cells b [.int .i64 f.id, .slice a f.b.length c, .int .i64 f.syn] 94, own (.slice a f.b.length c) (zAm f.b)]) hs)
/-- A change, as it stands in memory. -/
def chgV (ptr : List (Nat × Nat)) (c : Chg) : List Value := [.string c.name, .string c.gone, match c.f with | some i => fptr ptr i | none => .pointer none]
theorem chgV_more {cs : List Chg} {k b : Nat} (h : ∀ c ∈ cs, ∀ i, c.f = some i → i ≠ k) : cs.map (chgV (zCc ptr k b)) = cs.map (chgV ptr) := by
  refine List.map_congr_left fun c hc => ?_
  unfold chgV
  cases hf : c.f with
  | none => rfl
  | some i => simp only [fptr]; rw [zB1 _ _ (h c hc i hf)]
abbrev mapS (m : Nat) (es : List (ByteArray × Value)) : HP := mapC Value.string m es
def diskL (mn mk : Nat) (d : Dk) (sa : Option Addr) (sc : Nat) : List Value := [.int .i64 d.room, .map (some mn), .map (some mk), .slice sa d.changes.length sc, .int .i64 d.files, .int .i64 d.armed, .bool d.down, .int .i64 d.calls]
/-- The chunks of a disk. -/
abbrev zC4 (p : Nat) (d : Dk) (mn mk : Nat) (sa : Option Addr) (sc : Nat) (ptr : List (Nat × Nat)) : List HP :=
  [cells p (diskL mn mk d sa sc) 72, mapS mn (nmV ptr d.names), mapS mk (nmV ptr d.kept), zEk 3 (.slice sa d.changes.length sc) (d.changes.map (chgV ptr)), famC fiC ptr d.fs]
def zBn (p : Nat) (d : Dk) : HP := ex fun x : Nat × Nat × Option Addr × Nat × List (Nat × Nat) => also (stars (zC4 p d x.1 x.2.1 x.2.2.1 x.2.2.2.1 x.2.2.2.2)) d.ok
theorem Mem.openD (hs : Mem g w (zBn p d :: L)) : d.ok ∧ ∃ mn mk sa sc ptr, Mem g w (zC4 p d mn mk sa sc ptr ++ L) := by
  obtain ⟨⟨mn, mk, sa, sc, ptr⟩, h⟩ := hs.unex
  obtain ⟨h1, h2⟩ := h.unalso
  exact ⟨h1, mn, mk, sa, sc, ptr, h2.unstars⟩
theorem Mem.closeD {mn mk : Nat} {sa : Option Addr} {sc : Nat} (ho : d.ok) (hs : Mem g w (zC4 p d mn mk sa sc ptr ++ L)) : Mem g w (zBn p d :: L) :=
  Mem.ex (f := fun x : Nat × Nat × Option Addr × Nat × List (Nat × Nat) => Go.Proofs.YtdkgdjnbpjjfmaaGreatDoor.also (Go.Proofs.YtdkgdjnbpjjfmaaGreatDoor.stars (zC4 p d x.1 x.2.1 x.2.2.1 x.2.2.2.1 x.2.2.2.2)) d.ok) (mn, mk, sa, sc, ptr) (Mem.also ho hs.stars)
/-- Files lie apart: who lies in one block is one. -/
theorem fam_inj {i j b : Nat} (hs : Mem g w L) (k : Nat) (hk : L[k]? = some (famC fiC ptr d.fs)) (hi : zB0 ptr i = some b) (hj : zB0 ptr j = some b) : i = j := by
  obtain ⟨F, G, h1, h2, h3, h4, h5⟩ := hs.read hk
  refine Classical.byContradiction fun hne => ?_
  obtain ⟨f, hf⟩ := zCf (h1 ▸ zDg hi : i ∈ zAh d.fs)
  obtain ⟨f', hf'⟩ := zCf (h1 ▸ zDg hj : j ∈ zAh d.fs)
  obtain ⟨v, F1, F2, ⟨_, e1⟩, _, _, e2⟩ := h2 i b f id hi hf
  obtain ⟨v', F1', F2', ⟨_, e1'⟩, _, _, e2'⟩ := h2 j b f' id hj hf'
  exact h3 i j b hne ((e2 b).2 (.inl ((e1 b).2 rfl))) ((e2' b).2 (.inl ((e1' b).2 rfl)))
/-- What is known of a file that has a number. -/
theorem Dk.okB.ptrOf (ho : d.okB) (hs : Mem g w L) (k : Nat) (hk : L[k]? = some (famC fiC ptr d.fs)) {i : Nat} (hi : i ∈ zAh d.fs) : ∃ b, zB0 ptr i = some b ∧ fptr ptr i = .pointer (some ⟨b, 0, none⟩) ∧ zB0 d.fs i = some (d.fl i) := by
  have h1 := hs.famKeys k hk
  obtain ⟨b, hb⟩ := zCf (h1 ▸ hi : i ∈ zAh ptr)
  exact ⟨b, hb, zEh hb, ho.fl_some hi⟩
/-- A file's length as it lies there. -/
theorem Mem.flCells (hs : Mem g w L) (k : Nat) (hk : L[k]? = some (famC fiC ptr d.fs)) {i b : Nat} {f : Fl} (hb : zB0 ptr i = some b) (hf : zB0 d.fs i = some f) : ∃ a c, w.cell? ⟨b, 0, none⟩ = some (.int .i64 f.id) ∧ w.cell? ⟨b, 1, none⟩ = some (.slice a f.b.length c) ∧ w.cell? ⟨b, 2, none⟩ = some (.int .i64 f.syn) := by
  have h1 := hs.famTake k hk hb hf
  obtain ⟨a, c, h2⟩ := h1.openF
  exact ⟨a, c, h2.cellAt 0 rfl (o := 0) rfl, h2.cellAt 0 rfl (o := 1) rfl, h2.cellAt 0 rfl (o := 2) rfl⟩
end Go.Proofs.YtdkgdjnbpjjfmaaGreatDoor
namespace Go.Proofs.YtdkgdjnbpjjfmaaGreatDoor
set_option linter.all false
open Go.RowKit
attribute [local irreducible] zAq
variable {g w : World} {L M : List HP} {ad : Nat → Addr} {p mn mk sc : Nat} {sa : Option Addr} {d : Dk} {ptr : List (Nat × Nat)}

/-- The codes that the disk speaks of. -/
def zDv : List Nat := [105, 106, 107, 108, 109, 110]
theorem disk_all {c : Nat} (h : c ∈ zDv) : c ∈ zBr := by
  simp only [zDv, zBr, List.mem_cons, List.not_mem_nil, or_false] at *; omega
abbrev ErrK (ad : Nat → Addr) (g : World) : Prop := Errs zDv ad g.heap.size g
theorem Errs.disk {ad : Nat → Addr} {B : Nat} {w : World} (h : Errs zBr ad B w) : Errs zDv ad B w :=
  ⟨fun c hc => h.pos c (disk_all hc), fun c hc => h.cell c (disk_all hc), fun c hc => h.block c (disk_all hc), fun c hc d hd => h.inj c (disk_all hc) d (disk_all hd), fun c hc => h.lt c (disk_all hc)⟩
theorem Dk.empty_ok {r : Nat} (h : r ≤ 4194304) : (Dk.empty r).ok := by
  refine ⟨⟨h, ⟨by simp [Dk.empty, zAh], fun i hi => by simp [Dk.empty, zAh] at hi⟩, fun i f hf => (by cases hf), by simp [Dk.empty, zAh], by simp [Dk.empty, zAh], fun x hx => (by simp [Dk.empty] at hx), fun x hx => (by simp [Dk.empty] at hx), fun x hx => (by simp [Dk.empty] at hx)⟩, Nat.le_refl _, Nat.le_refl _, Nat.le_refl _, by simp [Dk.empty]⟩
theorem rows_nil (w : World) : (zEk 3 (.slice none 0 0) []).ok (fun _ => False) w := zF8 3 w
theorem newd_sl (hs : Mem g w L) {r : Nat} (h1 : 1 ≤ r) (h2 : r ≤ 4194304) : Calls Tryz.prog 9 #[.int .i64 r] w (Ret fun v w' => ∃ p, v = .tuple #[.pointer (some ⟨p, 0, none⟩), .nilIface] ∧ Mem g w' (zBn p (Dk.empty r) :: L)) := by
  refine zAl Tryz.func9 rfl rfl ?_
  skip
  refine zA5 (zA1 ?_)
  refine zA rfl (zA2 (v := .pointer none) rfl) ?_
  refine zA rfl (zA2 (v := .nilIface) rfl) ?_
  refine zA4 ?_
  refine zA5 ?_
  refine zA5 (zA1 ?_)
  refine zA rfl (zA0 (v := .int .i64 _) rfl) ?_
  refine zA rfl (zB4 rfl rfl) ?_
  refine zA rfl (zA0 (v := .bool _) rfl) ?_
  refine zAi rfl rfl (decide_eq_false (by omega)) ?_
  refine zA rfl (zA0 (v := .int .i64 _) rfl) ?_
  refine zAi rfl rfl (decide_eq_false (by omega)) ?_
  refine zA rfl (zBq rfl rfl) ?_
  refine zA rfl (zAk (v := .bool _) rfl (decide_eq_false (by omega)) rfl) ?_
  refine zA4 ?_
  refine zAv rfl (decide_eq_false (by omega)) ?_
  refine zAd ?_
  refine zA5 (zA1 ?_)
  refine zA rfl (zA0 (v := .int .i64 _) rfl) ?_
  refine lw_makeMap Value.string hs rfl ?_
  clear hs
  intro m12 w hs
  try simp only [List.set_cons_succ, List.set_cons_zero] at hs
  refine lw_makeMap Value.string hs rfl ?_
  clear hs
  intro m13 w hs
  try simp only [List.set_cons_succ, List.set_cons_zero] at hs
  refine zA rfl (zCo (cs := [.int .i64 r, .map (some m12), .map (some m13), .slice none 0 0, .int .i64 0, .int .i64 0, .bool false, .int .i64 0]) zEn ze72 pl72 rfl) ?_
  refine zCk (v := .agg _) hs rfl rfl ?_
  clear hs
  intro b15 w hs
  refine zA rfl (zA2 (v := .pointer (some _)) rfl) ?_
  refine zA rfl (zA2 (v := .nilIface) rfl) ?_
  refine zA4 ?_
  refine zAf ?_
  refine res2 (v := .pointer (some _)) (v2 := .nilIface) rfl rfl rfl ?_
  refine ⟨_, rfl, b15, rfl, Mem.closeD (mn := m12) (mk := m13) (sa := none) (sc := 0) (ptr := []) (Dk.empty_ok h2) ?_⟩
  exact ((hs.addE (rows_nil _)).addE (famC_nil (R := fiC) _)).arr [2, 4, 3, 1, 0] 5 (by decide)

theorem begin_sl (hE : ErrK ad g) (ho : d.ok) (hs : Mem g w (zC4 p d mn mk sa sc ptr ++ L)) : Calls Tryz.prog 73 #[.pointer (some ⟨p, 0, none⟩)] w (Ret fun v w' => v = zAq ad d.begin.1 ∧ Mem g w' (zC4 p d.begin.2 mn mk sa sc ptr ++ L)) := by
  have hal := ho.al
  refine zAl Tryz.func73 rfl rfl ?_
  skip
  refine zA5 (zA1 ?_)
  refine zA rfl (zA2 (v := .nilIface) rfl) ?_
  refine zA4 ?_
  refine zA5 ?_
  refine zA5 (zA1 ?_)
  refine zA rfl (zA0 (v := .pointer (some _)) rfl) ?_
  refine zA rfl (zA8 rfl) ?_
  refine zA rfl (zA3 (o' := 6) zEn rfl sz4 rfl rfl rfl) ?_
  refine zA rfl (zA7 uz4 rfl rfl (hs.cellAt 0 rfl rfl)) ?_
  refine zA4 ?_
  refine zB7 rfl ?_ ?_
  ·
   intro h6
   refine zA5 (zA1 ?_)
   refine zA rfl (zA7 zD1 rfl rfl (hE.cellW hs 110 (by decide) rfl)) ?_
   refine zA rfl (zA2 (v := zAq ad _) rfl) ?_
   refine zA4 ?_
   refine zAf ?_
   refine zBj (v := zAq ad _) rfl rfl ?_
   have e : d.begin = (110, d) := by simp [Dk.begin, h6]
   rw [e]
   exact ⟨_, rfl, rfl, hs⟩
  ·
   intro h6
   refine zAd ?_
   refine zA5 ?_
   refine zA5 (zA1 ?_)
   refine zA rfl (zA0 (v := .pointer (some _)) rfl) ?_
   refine zA rfl (zA8 rfl) ?_
   refine zA rfl (zA3 (o' := 5) zEn rfl sz3 rfl rfl rfl) ?_
   refine zA rfl (zA7 uz3 rfl rfl (hs.cellAt 0 rfl rfl)) ?_
   refine zA rfl (zBq rfl rfl) ?_
   refine zA4 ?_
   refine zB7 rfl ?_ ?_
   ·
    intro h12
    have g12 := of_decide_eq_true h12
    refine zA5 (zA1 ?_)
    refine zA rfl (zA0 (v := .pointer (some _)) rfl) ?_
    refine zA rfl (zA8 rfl) ?_
    refine zA rfl (zA3 (o' := 5) zEn rfl sz3 rfl rfl rfl) ?_
    refine zA rfl (zA7 uz3 rfl rfl (hs.cellAt 0 rfl rfl)) ?_
    refine zA rfl (zCj rfl rfl (c := ((d.armed - 1 : Nat) : Int)) (by omega) (inI (by omega) (by omega))) ?_
    refine zA rfl (zA8 rfl) ?_
    refine zA rfl (zA3 (o' := 5) zEn rfl sz3 rfl rfl rfl) ?_
    refine zAs (v := .int .i64 _) hs 0 rfl sz3 rfl rfl rfl rfl ?_
    clear hs
    intro w hs
    try simp only [List.set_cons_succ, List.set_cons_zero] at hs
    refine zA4 (zA5 (zA1 ?_))
    refine zA rfl (zA0 (v := .pointer (some _)) rfl) ?_
    refine zA rfl (zA8 rfl) ?_
    refine zA rfl (zA3 (o' := 5) zEn rfl sz3 rfl rfl rfl) ?_
    refine zA rfl (zA7 uz3 rfl rfl (hs.cellAt 0 rfl rfl)) ?_
    refine zA rfl (zBu rfl rfl) ?_
    refine zA4 ?_
    refine zB7 rfl ?_ ?_
    ·
     intro h24
     have g24 := of_decide_eq_true h24
     refine zA5 (zA1 ?_)
     refine zA rfl (zA0 (v := .pointer (some _)) rfl) ?_
     refine zA rfl (zA8 rfl) ?_
     refine zA rfl (zA3 (o' := 6) zEn rfl sz4 rfl rfl rfl) ?_
     refine zAs (v := .bool _) hs 0 rfl sz4 rfl rfl rfl rfl ?_
     clear hs
     intro w hs
     try simp only [List.set_cons_succ, List.set_cons_zero] at hs
     refine zA4 (zA5 (zA1 ?_))
     refine zA rfl (zA7 zD1 rfl rfl (hE.cellW hs 110 (by decide) rfl)) ?_
     refine zA rfl (zA2 (v := zAq ad _) rfl) ?_
     refine zA4 ?_
     refine zAf ?_
     refine zBj (v := zAq ad _) rfl rfl ?_
     have e : d.begin = (110, { d with armed := 0, down := true }) := by simp [Dk.begin, h6, show ¬ d.armed = 0 by omega, show d.armed = 1 by omega]
     rw [show d.armed - 1 = 0 by omega] at hs
     rw [e]
     exact ⟨_, rfl, rfl, hs⟩
    ·
     intro h24
     have g24 := of_decide_eq_false h24
     refine zAd ?_
     refine zA5 (zA1 ?_)
     refine zA rfl (zA2 (v := .nilIface) rfl) ?_
     refine zA4 ?_
     refine zAf ?_
     refine zBj (v := .nilIface) rfl rfl ?_
     have e : d.begin = (0, { d with armed := d.armed - 1 }) := by simp [Dk.begin, h6, show ¬ d.armed = 0 by omega, show ¬ d.armed = 1 by omega]
     rw [e]
     exact ⟨_, rfl, (zB2 ad).symm, hs⟩
   ·
    intro h12
    have g12 := of_decide_eq_false h12
    refine zAd ?_
    refine zA5 (zA1 ?_)
    refine zA rfl (zA2 (v := .nilIface) rfl) ?_
    refine zA4 ?_
    refine zAf ?_
    refine zBj (v := .nilIface) rfl rfl ?_
    have e : d.begin = (0, d) := by simp [Dk.begin, h6, show d.armed = 0 by omega]
    rw [e]
    exact ⟨_, rfl, (zB2 ad).symm, hs⟩

/-- What file and find tell. -/
def FileRet (g : World) (ad : Nat → Addr) (L : List HP) (p mn mk : Nat) (sa : Option Addr) (sc : Nat) (ptr : List (Nat × Nat)) (d : Dk) (r : Nat × Option Nat) (v : Value) (w' : World) : Prop :=
  (∃ c, c ∈ zDv ∧ c ≠ 0 ∧ r = (c, none) ∧ v = .tuple #[.pointer none, zAq ad c] ∧ Mem g w' (zC4 p d mn mk sa sc ptr ++ L)) ∨
  (∃ i b, r = (0, some i) ∧ i ∈ zAh d.fs ∧ zB0 ptr i = some b ∧ zB0 d.fs i = some (d.fl i) ∧ v = .tuple #[.pointer (some ⟨b, 0, none⟩), .nilIface] ∧ Mem g w' (zC4 p d mn mk sa sc ptr ++ L))
theorem file_sl (hE : ErrK ad g) (ho : d.ok) (n : ByteArray) (hs : Mem g w (zC4 p d mn mk sa sc ptr ++ L)) : Calls Tryz.prog 44 #[.pointer (some ⟨p, 0, none⟩), .string n] w (Ret (FileRet g ad L p mn mk sa sc ptr d (d.file n))) := by
  cases hd : d.down with
  | true =>
    refine zAl Tryz.func44 rfl rfl ?_
    skip
    refine zA5 (zA1 ?_)
    refine zA rfl (zA2 (v := .pointer none) rfl) ?_
    refine zA rfl (zA2 (v := .nilIface) rfl) ?_
    refine zA4 ?_
    refine zA5 ?_
    refine zA5 (zA1 ?_)
    refine zA rfl (zA0 (v := .pointer (some _)) rfl) ?_
    refine zA rfl (zA8 rfl) ?_
    refine zA rfl (zA3 (o' := 6) zEn rfl sz4 rfl rfl rfl) ?_
    refine zA rfl (zA7 uz4 rfl rfl (hs.cellAt 0 rfl rfl)) ?_
    refine zA4 ?_
    refine zBa rfl (hd) ?_
    refine zA5 ?_
    refine zAz zBx hs ?_
    intro w tr hK
    replace hs := tr _ hs
    clear tr
    refine zA6 0 rfl rfl (fun w hs => zA7 zD1 rfl rfl (hE.cellW hs 110 (by decide) rfl)) hK ?_
    refine zA6 1 rfl rfl (fun w hs => zA2 (v := .pointer none) rfl) hK ?_
    refine zA6 2 rfl rfl (fun w hs => zA2 (v := zAq ad _) rfl) hK ?_
    refine zAu (by kernel_rfl) ?_
    clear hK
    refine zAf ?_
    refine res2 (v := .pointer none) (v2 := zAq ad _) rfl rfl rfl ?_
    exact ⟨_, rfl, .inl ⟨110, by decide, by decide, by simp [Dk.file, hd], rfl, hs⟩⟩
  | false =>
    cases hn : zB0 d.names n with
    | none =>
      refine zAl Tryz.func44 rfl rfl ?_
      skip
      refine zA5 (zA1 ?_)
      refine zA rfl (zA2 (v := .pointer none) rfl) ?_
      refine zA rfl (zA2 (v := .nilIface) rfl) ?_
      refine zA4 ?_
      refine zA5 ?_
      refine zA5 (zA1 ?_)
      refine zA rfl (zA0 (v := .pointer (some _)) rfl) ?_
      refine zA rfl (zA8 rfl) ?_
      refine zA rfl (zA3 (o' := 6) zEn rfl sz4 rfl rfl rfl) ?_
      refine zA rfl (zA7 uz4 rfl rfl (hs.cellAt 0 rfl rfl)) ?_
      refine zA4 ?_
      refine zAv rfl (hd) ?_
      refine zAd ?_
      refine zA5 (zA1 ?_)
      refine zA rfl (zA0 (v := .pointer (some _)) rfl) ?_
      refine zA rfl (zA8 rfl) ?_
      refine zA rfl (zA3 (o' := 1) zEn rfl sz69 rfl rfl rfl) ?_
      refine zA rfl (zA7 uz69 rfl rfl (hs.cellAt 0 rfl rfl)) ?_
      refine zA rfl (zA0 (v := .string _) rfl) ?_
      refine zA rfl (zFn (hs.mapAt 1 rfl) zFi uz69 uz9 ze90 rfl rfl (o := none) (by rw [nmV_get, hn]; rfl)) ?_
      refine zA rfl (zA2 (v := .pointer none) rfl) ?_
      refine zA4 ?_
      refine zA5 ?_
      refine zA5 (zA1 ?_)
      refine zA rfl (zA0 (v := .pointer none) rfl) ?_
      refine zA rfl (zEa uz90 rfl rfl) ?_
      refine zA4 ?_
      refine zBa rfl (rfl) ?_
      refine zA5 ?_
      refine zAz zBx hs ?_
      intro w tr hK
      replace hs := tr _ hs
      clear tr
      refine zA6 0 rfl rfl (fun w hs => zA7 zD1 rfl rfl (hE.cellW hs 107 (by decide) rfl)) hK ?_
      refine zA6 1 rfl rfl (fun w hs => zA2 (v := .pointer none) rfl) hK ?_
      refine zA6 2 rfl rfl (fun w hs => zA2 (v := zAq ad _) rfl) hK ?_
      refine zAu (by kernel_rfl) ?_
      clear hK
      refine zAf ?_
      refine res2 (v := .pointer none) (v2 := zAq ad _) rfl rfl rfl ?_
      exact ⟨_, rfl, .inl ⟨107, by decide, by decide, by simp [Dk.file, hd, hn], rfl, hs⟩⟩
    | some i =>
      obtain ⟨b, hb, hp, hf⟩ := ho.ptrOf hs 4 rfl (ho.named hn)
      refine zAl Tryz.func44 rfl rfl ?_
      skip
      refine zA5 (zA1 ?_)
      refine zA rfl (zA2 (v := .pointer none) rfl) ?_
      refine zA rfl (zA2 (v := .nilIface) rfl) ?_
      refine zA4 ?_
      refine zA5 ?_
      refine zA5 (zA1 ?_)
      refine zA rfl (zA0 (v := .pointer (some _)) rfl) ?_
      refine zA rfl (zA8 rfl) ?_
      refine zA rfl (zA3 (o' := 6) zEn rfl sz4 rfl rfl rfl) ?_
      refine zA rfl (zA7 uz4 rfl rfl (hs.cellAt 0 rfl rfl)) ?_
      refine zA4 ?_
      refine zAv rfl (hd) ?_
      refine zAd ?_
      refine zA5 (zA1 ?_)
      refine zA rfl (zA0 (v := .pointer (some _)) rfl) ?_
      refine zA rfl (zA8 rfl) ?_
      refine zA rfl (zA3 (o' := 1) zEn rfl sz69 rfl rfl rfl) ?_
      refine zA rfl (zA7 uz69 rfl rfl (hs.cellAt 0 rfl rfl)) ?_
      refine zA rfl (zA0 (v := .string _) rfl) ?_
      refine zA rfl (zFn (hs.mapAt 1 rfl) zFi uz69 uz9 ze90 rfl rfl (o := some (.pointer (some ⟨b, 0, none⟩))) (by rw [nmV_get, hn, Option.map_some, hp])) ?_
      refine zA rfl (zA2 (v := .pointer (some _)) rfl) ?_
      refine zA4 ?_
      refine zA5 ?_
      refine zA5 (zA1 ?_)
      refine zA rfl (zA0 (v := .pointer (some _)) rfl) ?_
      refine zA rfl (zEa uz90 rfl rfl) ?_
      refine zA4 ?_
      refine zAv rfl rfl ?_
      refine zAd ?_
      refine zA5 (zA1 ?_)
      refine zA rfl (zA0 (v := .pointer (some _)) rfl) ?_
      refine zA rfl (zA2 (v := .pointer (some _)) rfl) ?_
      refine zA rfl (zA2 (v := .nilIface) rfl) ?_
      refine zA4 ?_
      refine zAf ?_
      refine res2 (v := .pointer (some _)) (v2 := .nilIface) rfl rfl rfl ?_
      exact ⟨_, rfl, .inr ⟨i, b, by simp [Dk.file, hd, hn], ho.named hn, hb, hf, rfl, hs⟩⟩
theorem find_sl (hE : ErrK ad g) (ho : d.ok) (n : ByteArray) (hs : Mem g w (zC4 p d mn mk sa sc ptr ++ L)) {c0 : Nat} {o : Option Nat} {d1 : Dk} (hf : d.find n = (c0, o, d1)) : Calls Tryz.prog 45 #[.pointer (some ⟨p, 0, none⟩), .string n] w (Ret (FileRet g ad L p mn mk sa sc ptr d1 (c0, o))) := by
  obtain rfl := Dk.find_dk hf
  have hc := d.begin_code
  refine zAl Tryz.func45 rfl rfl ?_
  skip
  refine zA5 (zA1 ?_)
  refine zA rfl (zA2 (v := .pointer none) rfl) ?_
  refine zA rfl (zA2 (v := .nilIface) rfl) ?_
  refine zA4 ?_
  refine zA5 ?_
  refine zA5 (zA1 ?_)
  refine zA rfl (zA0 (v := .pointer (some _)) rfl) ?_
  refine zA9 rfl en73 (begin_sl hE ho hs) ?_
  clear hs
  rintro _ w ⟨rfl, hs⟩
  refine zA rfl (zA2 (v := zAq ad _) rfl) ?_
  refine zA4 (zA5 (zA1 ?_))
  refine zA rfl (zA0 (v := zAq ad _) rfl) ?_
  refine zA rfl (zAy (ad := ad) rfl) ?_
  refine zA4 ?_
  refine zB7 rfl ?_ ?_
  ·
   intro h10
   have g10 := ne_t h10
   refine zA5 (zA1 ?_)
   refine zA rfl (zA0 (v := zAq ad _) rfl) ?_
   refine zA rfl (zA2 (v := .pointer none) rfl) ?_
   refine zA rfl (zA2 (v := zAq ad _) rfl) ?_
   refine zA4 ?_
   refine zAf ?_
   refine res2 (v := .pointer none) (v2 := zAq ad _) rfl rfl rfl ?_
   have hb : d.begin.1 = 110 := by simp at h10; omega
   rw [hb]
   refine ⟨_, rfl, .inl ⟨110, by decide, by decide, ?_, rfl, hs⟩⟩
   simp [Dk.find, hb] at hf
   simp [← hf.1, ← hf.2]
  ·
   intro h10
   have g10 := ne_f h10
   refine zAd ?_
   refine zA5 (zA1 ?_)
   refine zA rfl (zA0 (v := .pointer (some _)) rfl) ?_
   refine zA rfl (zA0 (v := .string _) rfl) ?_
   refine zA9 rfl en44 (file_sl hE ho.begin n hs) ?_
   clear hs
   rintro _ w ((⟨c14, hc14, h014, hr14, rfl, hs⟩) | (⟨i14, b14, hr14, hk14, hb14, hf14, rfl, hs⟩))
   ·
    refine zA rfl (zAa (v := .pointer none) rfl rfl) ?_
    refine zA rfl (zAa (v := zAq ad _) rfl rfl) ?_
    refine zA rfl (zA2 (v := .pointer none) rfl) ?_
    refine zA rfl (zA2 (v := zAq ad _) rfl) ?_
    refine zA4 ?_
    refine zAf ?_
    refine res2 (v := .pointer none) (v2 := zAq ad _) rfl rfl rfl ?_
    have hb : d.begin.1 = 0 := by simpa using h10
    simp only [Dk.find, hb, if_true, Prod.mk.injEq] at hf
    exact ⟨_, rfl, .inl ⟨c14, hc14, h014, by rw [← hf.1, ← hf.2.1]; exact hr14, rfl, hs⟩⟩
   ·
    refine zA rfl (zAa (v := .pointer (some _)) rfl rfl) ?_
    refine zA rfl (zAa (v := .nilIface) rfl rfl) ?_
    refine zA rfl (zA2 (v := .pointer (some _)) rfl) ?_
    refine zA rfl (zA2 (v := .nilIface) rfl) ?_
    refine zA4 ?_
    refine zAf ?_
    refine res2 (v := .pointer (some _)) (v2 := .nilIface) rfl rfl rfl ?_
    have hb : d.begin.1 = 0 := by simpa using h10
    simp only [Dk.find, hb, if_true, Prod.mk.injEq] at hf
    exact ⟨_, rfl, .inr ⟨i14, b14, by rw [← hf.1, ← hf.2.1]; exact hr14, hk14, hb14, hf14, rfl, hs⟩⟩

/-! ### apply, change -/
theorem dapply_sl {m : Nat} {l : List (ByteArray × Nat)} (hs : Mem g w (mapS m (nmV ptr l) :: L)) (c : Chg) (hp : ∀ i, c.f = some i → ∃ b, zB0 ptr i = some b) {row : List Value} (hrow : chgV ptr c = row) : Calls Tryz.prog 62 #[.map (some m), .agg row.toArray] w (Ret fun v w' => v = .tuple #[] ∧ Mem g w' (mapS m (nmV ptr (c.app l)) :: L)) := by
  subst hrow
  obtain ⟨nm, gn, f⟩ := c
  cases f with
  | none =>
    simp only [chgV]
    refine zAl Tryz.func62 rfl rfl ?_
    skip
    refine zA5 (zA1 ?_)
    refine zCk (v := .agg _) hs rfl rfl ?_
    clear hs
    intro b3 w hs
    refine zA4 ?_
    refine zA5 ?_
    refine zA5 (zA1 ?_)
    refine zA rfl (zA3 (o' := 1) zF4 rfl sz9 rfl rfl rfl) ?_
    refine zA rfl (zA7 uz9 rfl rfl (hs.cellAt 0 rfl rfl)) ?_
    refine zA rfl (run_nes rfl rfl) ?_
    refine zA4 ?_
    refine zB7 rfl ?_ ?_
    ·
     intro h6
     have g6 := ne_t h6
     refine zA1 ?_
     refine zA rfl (zA0 (v := .map _) rfl) ?_
     refine zA rfl (zA3 (o' := 1) zF4 rfl sz9 rfl rfl rfl) ?_
     refine zA rfl (zA7 uz9 rfl rfl (hs.cellAt 0 rfl rfl)) ?_
     refine lw_delete hs rfl 1 rfl zFi uz69 uz9 rfl rfl ?_
     clear hs
     intro w hs
     try simp only [List.set_cons_succ, List.set_cons_zero] at hs
     refine zA4 (zA5 (zA1 ?_))
     refine zA rfl (zA3 (o' := 2) zF4 rfl sz90 rfl rfl rfl) ?_
     refine zA rfl (zA7 uz90 rfl rfl (hs.cellAt 0 rfl rfl)) ?_
     refine zA rfl (zDt uz90 rfl rfl) ?_
     refine zA4 ?_
     refine zAv rfl (rfl) ?_
     refine zAd ?_
     refine res0  rfl ?_
     exact ⟨_, rfl, rfl, by have h1 := hs.tail; rw [← nmV_del] at h1; simp only [Chg.app]; rw [if_neg (show gn ≠ ByteArray.empty from g6)]; exact h1⟩
    ·
     intro h6
     have g6 := ne_f h6
     refine zAd ?_
     refine zA5 (zA1 ?_)
     refine zA rfl (zA3 (o' := 2) zF4 rfl sz90 rfl rfl rfl) ?_
     refine zA rfl (zA7 uz90 rfl rfl (hs.cellAt 0 rfl rfl)) ?_
     refine zA rfl (zDt uz90 rfl rfl) ?_
     refine zA4 ?_
     refine zAv rfl (rfl) ?_
     refine zAd ?_
     refine res0  rfl ?_
     exact ⟨_, rfl, rfl, by have h1 := hs.tail; simp only [Chg.app]; rw [if_pos (show gn = ByteArray.empty from g6)]; exact h1⟩
  | some i =>
    obtain ⟨b, hb⟩ := hp i rfl
    simp only [chgV, zEh hb]
    refine zAl Tryz.func62 rfl rfl ?_
    skip
    refine zA5 (zA1 ?_)
    refine zCk (v := .agg _) hs rfl rfl ?_
    clear hs
    intro b3 w hs
    refine zA4 ?_
    refine zA5 ?_
    refine zA5 (zA1 ?_)
    refine zA rfl (zA3 (o' := 1) zF4 rfl sz9 rfl rfl rfl) ?_
    refine zA rfl (zA7 uz9 rfl rfl (hs.cellAt 0 rfl rfl)) ?_
    refine zA rfl (run_nes rfl rfl) ?_
    refine zA4 ?_
    refine zB7 rfl ?_ ?_
    ·
     intro h6
     have g6 := ne_t h6
     refine zA1 ?_
     refine zA rfl (zA0 (v := .map _) rfl) ?_
     refine zA rfl (zA3 (o' := 1) zF4 rfl sz9 rfl rfl rfl) ?_
     refine zA rfl (zA7 uz9 rfl rfl (hs.cellAt 0 rfl rfl)) ?_
     refine lw_delete hs rfl 1 rfl zFi uz69 uz9 rfl rfl ?_
     clear hs
     intro w hs
     try simp only [List.set_cons_succ, List.set_cons_zero] at hs
     refine zA4 (zA5 (zA1 ?_))
     refine zA rfl (zA3 (o' := 2) zF4 rfl sz90 rfl rfl rfl) ?_
     refine zA rfl (zA7 uz90 rfl rfl (hs.cellAt 0 rfl rfl)) ?_
     refine zA rfl (zDt uz90 rfl rfl) ?_
     refine zA4 ?_
     refine zBa rfl rfl ?_
     refine zA1 ?_
     refine zA rfl (zA0 (v := .map _) rfl) ?_
     refine zA rfl (zA3 (o' := 0) zF4 rfl sz9 rfl rfl rfl) ?_
     refine zA rfl (zA7 uz9 rfl rfl (hs.cellAt 0 rfl rfl)) ?_
     refine zA rfl (zA3 (o' := 2) zF4 rfl sz90 rfl rfl rfl) ?_
     refine zA rfl (zA7 uz90 rfl rfl (hs.cellAt 0 rfl rfl)) ?_
     refine zDp (v := .pointer (some _)) hs 1 rfl zFi uz69 uz9 rfl rfl rfl ?_
     clear hs
     intro w hs
     try simp only [List.set_cons_succ, List.set_cons_zero] at hs
     refine zA4 ?_
     refine res0  rfl ?_
     exact ⟨_, rfl, rfl, by have h1 := hs.tail; rw [← nmV_del, ← zEh hb, ← nmV_put] at h1; simp only [Chg.app]; rw [if_neg (show gn ≠ ByteArray.empty from g6)]; exact h1⟩
    ·
     intro h6
     have g6 := ne_f h6
     refine zAd ?_
     refine zA5 (zA1 ?_)
     refine zA rfl (zA3 (o' := 2) zF4 rfl sz90 rfl rfl rfl) ?_
     refine zA rfl (zA7 uz90 rfl rfl (hs.cellAt 0 rfl rfl)) ?_
     refine zA rfl (zDt uz90 rfl rfl) ?_
     refine zA4 ?_
     refine zBa rfl rfl ?_
     refine zA1 ?_
     refine zA rfl (zA0 (v := .map _) rfl) ?_
     refine zA rfl (zA3 (o' := 0) zF4 rfl sz9 rfl rfl rfl) ?_
     refine zA rfl (zA7 uz9 rfl rfl (hs.cellAt 0 rfl rfl)) ?_
     refine zA rfl (zA3 (o' := 2) zF4 rfl sz90 rfl rfl rfl) ?_
     refine zA rfl (zA7 uz90 rfl rfl (hs.cellAt 0 rfl rfl)) ?_
     refine zDp (v := .pointer (some _)) hs 1 rfl zFi uz69 uz9 rfl rfl rfl ?_
     clear hs
     intro w hs
     try simp only [List.set_cons_succ, List.set_cons_zero] at hs
     refine zA4 ?_
     refine res0  rfl ?_
     exact ⟨_, rfl, rfl, by have h1 := hs.tail; rw [← zEh hb, ← nmV_put] at h1; simp only [Chg.app]; rw [if_pos (show gn = ByteArray.empty from g6)]; exact h1⟩
theorem zsC : (Tryz.prog.info? 120).map (fun i => (i.zero, i.size)) = some (some (.agg #[.string ByteArray.empty, .string ByteArray.empty, .pointer none]), 3) := by
  have h := in120
  obtain ⟨i, h1, h2⟩ := Option.map_eq_some_iff.1 h
  simp only [Prod.mk.injEq] at h2
  rw [h1, Option.map_some, h2.1, h2.2.1]
theorem row_form {ptr : List (Nat × Nat)} {c : Chg} (hp : ∀ i, c.f = some i → ∃ b, zB0 ptr i = some b) : ∃ P, chgV ptr c = [.string c.name, .string c.gone, P] ∧ P.oneCell' = true := by
  unfold chgV
  cases hf : c.f with
  | none => exact ⟨_, rfl, rfl⟩
  | some i => obtain ⟨b, hb⟩ := hp i hf; exact ⟨_, rfl, by simp [fptr, hb, Value.oneCell']⟩
theorem change_sl (hc : d.calls < 1000000000) (hn : d.changes.length < 1000000000) (hs : Mem g w (zC4 p d mn mk sa sc ptr ++ L)) (c : Chg) (hp : ∀ i, c.f = some i → ∃ b, zB0 ptr i = some b) {row : List Value} (hrow : chgV ptr c = row) : Calls Tryz.prog 75 #[.pointer (some ⟨p, 0, none⟩), .agg row.toArray] w (Ret fun v w' => v = .tuple #[] ∧ ∃ sa' sc', Mem g w' (zC4 p (d.change c) mn mk sa' sc' ptr ++ L)) := by
  subst hrow
  obtain ⟨P, hrow, hP⟩ := row_form hp
  rw [hrow]
  refine zAl Tryz.func75 rfl rfl ?_
  skip
  refine zA5 (zA1 ?_)
  refine zCk (v := .agg _) hs rfl rfl ?_
  clear hs
  intro b3 w hs
  refine zA4 ?_
  refine zA5 ?_
  refine zAz zBx (hs.drop 2) ?_
  intro w tr hK
  replace hs := tr _ hs
  clear tr
  refine zA6 0 rfl rfl (fun w hs => zA0 (v := .pointer (some _)) rfl) hK ?_
  refine zA6 1 rfl rfl (fun w hs => zA8 rfl) hK ?_
  refine zA6 2 rfl rfl (fun w hs => zA3 (o' := 1) zEn rfl sz69 rfl rfl rfl) hK ?_
  refine zA6 3 rfl rfl (fun w hs => zA7 uz69 rfl rfl (hs.cellAt 1 rfl rfl)) hK ?_
  refine zA6 4 rfl rfl (fun w hs => zB3 hs 0 rfl zF4 sz120 rfl) hK ?_
  refine zAb [5] ?_
  refine ⟨⟨_, rfl, ?_⟩, trivial⟩
  refine zA9 rfl en62 (dapply_sl (hs.arr [2, 0, 1, 3, 4, 5] 6 (by decide)) c hp hrow) ?_
  clear hs
  rintro _ w ⟨rfl, hs⟩
  clear hK
  have hK := hs.tail
  refine zA4 ⟨hK, ?_⟩
  refine zAu (by kernel_rfl) ?_
  clear hK
  refine zA5 ?_
  refine zAz zBx ((hs.drop 4).drop 2) ?_
  intro w tr hK
  replace hs := tr _ hs
  clear tr
  refine zA6 0 rfl rfl (fun w hs => zA0 (v := .pointer (some _)) rfl) hK ?_
  refine zA6 1 rfl rfl (fun w hs => zA0 (v := .pointer (some _)) rfl) hK ?_
  refine zA6 2 rfl rfl (fun w hs => zA8 rfl) hK ?_
  refine zA6 3 rfl rfl (fun w hs => zA3 (o' := 3) zEn rfl sz70 rfl rfl rfl) hK ?_
  refine zA6 5 rfl rfl (fun w hs => zB3 hs 1 rfl zF4 sz120 rfl) hK ?_
  refine zAb [4, 6] ?_
  refine ⟨⟨_, rfl, ?_⟩, ⟨_, rfl, ?_⟩, trivial⟩
  ·
   refine zA rfl (zA7 uz70 rfl rfl (hs.cellAt 2 rfl rfl)) ?_
   clear hK
   have hK := (hs.drop 4).drop 2
   refine zA4 ⟨hK, ?_⟩
   refine zAb [6] ?_
   refine ⟨⟨_, rfl, ?_⟩, trivial⟩
   refine zBc hs rfl (row := [.string c.name, .string c.gone, P]) uz70 zsC rfl (by simp [Instr.fill, Value.cells, Array.range_succ, show Array.range 0 = #[] from by simp]) (by decide) (by decide) ?_
   clear hs
   intro b16 w hs
   clear hK
   have hK := (hs.tail.drop 4).drop 2
   refine zA4 ⟨hK, ?_⟩
   refine zAb [7] ?_
   refine ⟨⟨_, rfl, ?_⟩, trivial⟩
   refine zB9 hs rfl 5 0 rfl rfl uz70 uz70 in120 rfl rfl (by simp only [List.all_cons, List.all_nil, hP]; rfl) rfl rfl (by simp only [List.length_map]; omega) (by simp only [List.length_map]; omega) ?_
   clear hs
   intro a17 c17 w hs
   simp only [List.set_cons_succ, List.set_cons_zero] at hs
   clear hK
   have hK := (hs.tail.drop 4).drop 2
   refine zA4 ⟨hK, ?_⟩
   refine zA6 8 rfl rfl (fun w hs => zA8 rfl) hK ?_
   refine zA6 9 rfl rfl (fun w hs => zA3 (o' := 3) zEn rfl sz70 rfl rfl rfl) hK ?_
   refine zAb [10] ?_
   refine ⟨⟨_, rfl, ?_⟩, trivial⟩
   refine zAs (v := .slice _ _ _) hs 3 rfl sz70 rfl rfl rfl rfl ?_
   clear hs
   intro w hs
   try simp only [List.set_cons_succ, List.set_cons_zero] at hs
   clear hK
   have hK := (hs.tail.drop 4).drop 2
   refine zA4 ⟨hK, ?_⟩
   refine zAu (by kernel_rfl) ?_
   clear hK
   refine zA1 ?_
   refine zA rfl (zA0 (v := .pointer (some _)) rfl) ?_
   refine zA rfl (zA8 rfl) ?_
   refine zA rfl (zA3 (o' := 7) zEn rfl sz3 rfl rfl rfl) ?_
   refine zA rfl (zA7 uz3 rfl rfl (hs.cellAt 3 rfl rfl)) ?_
   refine zA rfl (zAn rfl rfl rfl (inI (by omega) (by omega))) ?_
   refine zA rfl (zA8 rfl) ?_
   refine zA rfl (zA3 (o' := 7) zEn rfl sz3 rfl rfl rfl) ?_
   refine zAs (v := .int .i64 _) hs 3 rfl sz3 rfl rfl rfl rfl ?_
   clear hs
   intro w hs
   try simp only [List.set_cons_succ, List.set_cons_zero] at hs
   refine zA4 ?_
   refine res0  rfl ?_
   refine ⟨_, rfl, rfl, a17, c17, ?_⟩
   have e1 : (d.change c).changes.length = (d.changes.map (chgV ptr)).length + 1 := by simp [Dk.change]
   have e2 : (d.change c).changes.map (chgV ptr) = d.changes.map (chgV ptr) ++ [[.string c.name, .string c.gone, P]] := by simp [Dk.change, hrow]
   simp only [zC4, diskL, e1, e2]
   exact hs.arr [3, 1, 4, 5, 6] 7 (by decide)
  ·
   refine zBc hs rfl (row := [.string c.name, .string c.gone, P]) uz70 zsC rfl (by simp [Instr.fill, Value.cells, Array.range_succ, show Array.range 0 = #[] from by simp]) (by decide) (by decide) ?_
   clear hs
   intro b16 w hs
   clear hK
   have hK := (hs.tail.drop 4).drop 2
   refine zA4 ⟨hK, ?_⟩
   refine zAb [4] ?_
   refine ⟨⟨_, rfl, ?_⟩, trivial⟩
   refine zA rfl (zA7 uz70 rfl rfl (hs.cellAt 3 rfl rfl)) ?_
   clear hK
   have hK := (hs.tail.drop 4).drop 2
   refine zA4 ⟨hK, ?_⟩
   refine zAb [7] ?_
   refine ⟨⟨_, rfl, ?_⟩, trivial⟩
   refine zB9 hs rfl 5 0 rfl rfl uz70 uz70 in120 rfl rfl (by simp only [List.all_cons, List.all_nil, hP]; rfl) rfl rfl (by simp only [List.length_map]; omega) (by simp only [List.length_map]; omega) ?_
   clear hs
   intro a17 c17 w hs
   simp only [List.set_cons_succ, List.set_cons_zero] at hs
   clear hK
   have hK := (hs.tail.drop 4).drop 2
   refine zA4 ⟨hK, ?_⟩
   refine zA6 8 rfl rfl (fun w hs => zA8 rfl) hK ?_
   refine zA6 9 rfl rfl (fun w hs => zA3 (o' := 3) zEn rfl sz70 rfl rfl rfl) hK ?_
   refine zAb [10] ?_
   refine ⟨⟨_, rfl, ?_⟩, trivial⟩
   refine zAs (v := .slice _ _ _) hs 3 rfl sz70 rfl rfl rfl rfl ?_
   clear hs
   intro w hs
   try simp only [List.set_cons_succ, List.set_cons_zero] at hs
   clear hK
   have hK := (hs.tail.drop 4).drop 2
   refine zA4 ⟨hK, ?_⟩
   refine zAu (by kernel_rfl) ?_
   clear hK
   refine zA1 ?_
   refine zA rfl (zA0 (v := .pointer (some _)) rfl) ?_
   refine zA rfl (zA8 rfl) ?_
   refine zA rfl (zA3 (o' := 7) zEn rfl sz3 rfl rfl rfl) ?_
   refine zA rfl (zA7 uz3 rfl rfl (hs.cellAt 3 rfl rfl)) ?_
   refine zA rfl (zAn rfl rfl rfl (inI (by omega) (by omega))) ?_
   refine zA rfl (zA8 rfl) ?_
   refine zA rfl (zA3 (o' := 7) zEn rfl sz3 rfl rfl rfl) ?_
   refine zAs (v := .int .i64 _) hs 3 rfl sz3 rfl rfl rfl rfl ?_
   clear hs
   intro w hs
   try simp only [List.set_cons_succ, List.set_cons_zero] at hs
   refine zA4 ?_
   refine res0  rfl ?_
   refine ⟨_, rfl, rfl, a17, c17, ?_⟩
   have e1 : (d.change c).changes.length = (d.changes.map (chgV ptr)).length + 1 := by simp [Dk.change]
   have e2 : (d.change c).changes.map (chgV ptr) = d.changes.map (chgV ptr) ++ [[.string c.name, .string c.gone, P]] := by simp [Dk.change, hrow]
   simp only [zC4, diskL, e1, e2]
   exact hs.arr [3, 1, 4, 5, 6] 7 (by decide)
end Go.Proofs.YtdkgdjnbpjjfmaaGreatDoor
namespace Go.Proofs.YtdkgdjnbpjjfmaaGreatDoor
set_option linter.all false
open Go.RowKit
attribute [local irreducible] zAq
variable {g w : World} {L M : List HP} {ad : Nat → Addr}

/-- The codes that what is kept aside speaks of. -/
def zFu : List Nat := [101, 102, 105, 106, 107, 108, 109, 110]
abbrev ErrP (ad : Nat → Addr) (g : World) : Prop := Errs zFu ad g.heap.size g
theorem zEq {c : Nat} (h : c ∈ zDv) : c ∈ zFu := by
  simp only [zDv, zFu, List.mem_cons, List.not_mem_nil, or_false] at *; omega
theorem Errs.ofPoint {ad : Nat → Addr} {B : Nat} {w : World} (h : Errs zFu ad B w) : Errs zDv ad B w :=
  ⟨fun c hc => h.pos c (zEq hc), fun c hc => h.cell c (zEq hc), fun c hc => h.block c (zEq hc), fun c hc d hd => h.inj c (zEq hc) d (zEq hd), fun c hc => h.lt c (zEq hc)⟩
def le4 (s : Nat) : List UInt8 := [UInt8.ofNat s, UInt8.ofNat (s / 2 ^ 8), UInt8.ofNat (s / 2 ^ 16), UInt8.ofNat (s / 2 ^ 24)]
/-- Bytes with their sum behind them. -/
def zBp (b : List UInt8) : List UInt8 := b ++ le4 (zFf 0 b)
def openL (b : List UInt8) : Nat × List UInt8 := if b.length < 4 then (101, []) else if zBp (b.take (b.length - 4)) = b then (0, b.take (b.length - 4)) else (102, [])
theorem zBw (b : List UInt8) : (zBp b).length = b.length + 4 := by simp [zBp, le4]
theorem open_seal (b : List UInt8) : openL (zBp b) = (0, b) := by
  have h : (zBp b).take ((zBp b).length - 4) = b := by rw [zBw]; simp [zBp]
  unfold openL
  rw [if_neg (by rw [zBw]; omega), h, if_pos rfl]
theorem cof_sl (hs : Mem g w L) {b : Nat} {T : TypeId} {v : Value} {l : List UInt8} (i : Nat) (hi : L[i]? = some (cells b [v] T)) (hr : Rd g L v (zAm l)) (hlen : l.length ≤ 1073741824) : Calls Tryz.prog 122 #[.slice (some ⟨b, 0, none⟩) 1 1] w (Ret fun v w' => v = .int .u32 (zFf 0 l : Nat) ∧ Mem g w' L) := by
  have h1 : Rd g L (.slice (some ⟨b, 0, none⟩) 1 1) [v] := Rd.cells (n := 1) i hi rfl
  exact hs.calls (of_any0 (h1 w hs) (hr w hs) hlen)
theorem seal_sl (hs : Mem g w L) {a : Option Addr} {n c : Nat} {l : List UInt8} (hr : Rd g L (.slice a n c) (zAm l)) (hn : n = l.length) (hlen : l.length ≤ 100000000) : Calls Tryz.prog 82 #[.slice a n c] w (Ret fun v w' => ∃ a' c', v = .slice a' (zBp l).length c' ∧ Mem g w' (own (.slice a' (zBp l).length c') (zAm (zBp l)) :: L)) := by
  subst hn
  obtain ⟨s, hS⟩ : ∃ s, zFf 0 l = s := ⟨_, rfl⟩
  have hs32 : s < 4294967296 := hS ▸ crcMore_lt (by decide) l
  refine zAl Tryz.func82 rfl rfl ?_
  skip
  refine zA5 (zA1 ?_)
  refine zA rfl (zA2 (v := .slice _ _ _) rfl) ?_
  refine zA4 (zA5 (zA1 ?_))
  refine zA rfl (zA0 (v := .slice _ _ _) rfl) ?_
  refine zC8 hs rfl ([.slice a l.length c]) uz176 zs23 rfl (by simp [Value.cells]) rfl rfl rfl ?_
  clear hs
  intro b5 w hs
  try simp only [List.set_cons_succ, List.set_cons_zero] at hs
  refine zA9 rfl en122 (cof_sl hs 0 rfl hr.cons (by omega)) ?_
  clear hs
  rintro _ w ⟨rfl, hs⟩
  rw [hS]
  refine zA rfl (zA2 (v := .int .u32 _) rfl) ?_
  refine zA4 (zA5 (zA1 ?_))
  refine zA rfl (zA0 (v := .slice _ _ _) rfl) ?_
  refine zA9 rfl en46 (zE9 hs (l := l) hr.cons (by omega)) ?_
  clear hs
  rintro _ w ⟨a8, c8, rfl, hs⟩
  refine zA rfl (zA0 (v := .int .u32 _) rfl) ?_
  refine zA rfl (zAo zFj uz5 rfl (c := (((UInt8.ofNat s).toNat : Nat) : Int)) (wrapB s)) ?_
  refine zA rfl (zA0 (v := .int .u32 _) rfl) ?_
  refine zA rfl (run_shr rfl rfl (n := 8) (c := ((s / 2 ^ 8 : Nat) : Int)) rfl (by decide) (by omega)) ?_
  refine zA rfl (zAo zFj uz5 rfl (c := (((UInt8.ofNat (s / 2 ^ 8)).toNat : Nat) : Int)) (wrapB _)) ?_
  refine zA rfl (zA0 (v := .int .u32 _) rfl) ?_
  refine zA rfl (run_shr rfl rfl (n := 16) (c := ((s / 2 ^ 16 : Nat) : Int)) rfl (by decide) (by omega)) ?_
  refine zA rfl (zAo zFj uz5 rfl (c := (((UInt8.ofNat (s / 2 ^ 16)).toNat : Nat) : Int)) (wrapB _)) ?_
  refine zA rfl (zA0 (v := .int .u32 _) rfl) ?_
  refine zA rfl (run_shr rfl rfl (n := 24) (c := ((s / 2 ^ 24 : Nat) : Int)) rfl (by decide) (by omega)) ?_
  refine zA rfl (zAo zFj uz5 rfl (c := (((UInt8.ofNat (s / 2 ^ 24)).toNat : Nat) : Int)) (wrapB _)) ?_
  refine zC8 hs rfl ((zAm (le4 s))) zBz zs5 rfl (zEg (zBt _)) rfl rfl rfl ?_
  clear hs
  intro b20 w hs
  try simp only [List.set_cons_succ, List.set_cons_zero] at hs
  refine zCi hs rfl 1 rfl zBz in5 rfl rfl rfl (zC2 (P := Tryz.prog) zBz ((Rd.cells (n := 4) (cs := zAm (le4 s)) 0 rfl rfl).seq hs) (zBt (le4 s))) (by simp only [zAr, le4, List.length_cons, List.length_nil]; omega) (by simp only [zAr, le4, List.length_cons, List.length_nil]; omega) ?_
  clear hs
  intro a21 c21 w hs
  simp only [List.set_cons_succ, List.set_cons_zero] at hs
  refine zA rfl (zA2 (v := .slice _ _ _) rfl) ?_
  refine zA4 ?_
  refine zAf ?_
  refine zBj (v := .slice _ _ _) rfl rfl ?_
  have e : zAm l ++ zAm (le4 s) = zAm (zBp l) := by rw [← zCe, zBp, hS]
  have e2 : (zAm l).length + (zAm (le4 s)).length = (zBp l).length := by rw [zAr, zAr, zBw]; rfl
  rw [e, e2] at hs
  exact ⟨_, rfl, a21, c21, by rw [e2], hs.arr [1] 3 (by decide)⟩
theorem equalB_sl (hs : Mem g w L) {a b : Option Addr} {n m c d : Nat} {la lb : List UInt8} (ha : Rd g L (.slice a n c) (zAm la)) (hb : Rd g L (.slice b m d) (zAm lb)) (hn : n = la.length) (hm : m = lb.length) (hlen : la.length ≤ 1073741824) :
    Calls Tryz.prog 143 #[.slice a n c, .slice b m d] w (Ret fun v w' => v = .bool (decide (la = lb)) ∧ Mem g w' L) := by
  subst hn hm
  refine zAl Tryz.func143 rfl rfl ?_
  skip
  refine zA5 (zA1 ?_)
  refine zA rfl (zA2 (v := .bool _) rfl) ?_
  refine zA4 ?_
  refine zA5 ?_
  refine zA5 (zA1 ?_)
  refine zA rfl (zA0 (v := .slice _ _ _) rfl) ?_
  refine zA rfl (zAw zBz rfl) ?_
  refine zA rfl (zA0 (v := .slice _ _ _) rfl) ?_
  refine zA rfl (zAw zBz rfl) ?_
  refine zA rfl (zD7 rfl rfl) ?_
  refine zA4 ?_
  refine zB7 rfl ?_ ?_
  ·
   intro h10
   have g10 := ne_t h10
   refine zA5 (zA1 ?_)
   refine zA rfl (zA2 (v := .bool _) rfl) ?_
   refine zA4 ?_
   refine zAf ?_
   refine zBj (v := .bool _) rfl rfl ?_
   exact ⟨_, rfl, zCs (by rw [decide_eq_false (fun e => g10 (by rw [e]))]), hs⟩
  ·
   intro h10
   have g10 := ne_f h10
   refine zAd ?_
   refine zA5 ?_
   refine zA5 (zA1 ?_)
   refine zA rfl (zA0 (v := .slice _ _ _) rfl) ?_
   refine zA rfl (zAw zBz rfl) ?_
   refine zA rfl (zA0 (v := .int .i64 _) rfl) ?_
   refine zA4 ?_
   refine zAt ?_
   refine zBs (X := Nat) [4, 5, 13, 14, 15, 16, 17, 18, 19, 20, 21, 22, 23, 24, 25] (fun k => [(13, .int .i64 (k : Nat))]) (fun k w => k ≤ la.length ∧ la.take k = lb.take k ∧ Mem g w L) (fun k => la.length - k) (0) ?_ ?_ ?_
   · exact ⟨rfl, trivial⟩
   · exact ⟨Nat.zero_le _, rfl, hs⟩
   clear hs
   rintro x ξ w hI
   obtain ⟨hk, hq, hs⟩ := hI
   refine zA5 (zA1 ?_)
   refine zA rfl (zB4 rfl rfl) ?_
   refine zA4 ?_
   refine zA5 ?_
   refine zB7 rfl ?_ ?_
   ·
    intro h14
    have g14 := of_decide_eq_true h14
    obtain ⟨xa, hxa⟩ : ∃ xa, la[x]? = some xa := ⟨la[x]'(by omega), List.getElem?_eq_getElem _⟩
    obtain ⟨xb, hxb⟩ : ∃ xb, lb[x]? = some xb := ⟨lb[x]'(by omega), List.getElem?_eq_getElem _⟩
    obtain ⟨b1, o1, rfl, _⟩ := ha.cells' hs (by rw [zAr]; omega)
    obtain ⟨b2, o2, rfl, _⟩ := hb.cells' hs (by rw [zAr]; omega)
    refine zAd ?_
    refine zA5 ?_
    refine zAt ?_
    refine zA5 (zA1 ?_)
    refine zA rfl (zA0 (v := .int .i64 _) rfl) ?_
    refine zA rfl (zA2 (v := .int .i64 _) rfl) ?_
    refine zA4 ?_
    refine zA5 ?_
    refine zAz zBx hs ?_
    intro w tr hK
    replace hs := tr _ hs
    clear tr
    refine zA6 0 rfl rfl (fun w hs => zA0 (v := .slice _ _ _) rfl) hK ?_
    refine zA6 1 rfl rfl (fun w hs => zA0 (v := .int .i64 _) rfl) hK ?_
    refine zA6 2 rfl rfl (fun w hs => zBl zBz sz5 rfl rfl rfl (by omega) rfl) hK ?_
    refine zA6 3 rfl rfl (fun w hs => zA7 uz5 rfl rfl (ha.cellAt hs (zEw hxa))) hK ?_
    refine zA6 4 rfl rfl (fun w hs => zA0 (v := .slice _ _ _) rfl) hK ?_
    refine zA6 5 rfl rfl (fun w hs => zA0 (v := .int .i64 _) rfl) hK ?_
    refine zA6 6 rfl rfl (fun w hs => zBl zBz sz5 rfl rfl rfl (by omega) rfl) hK ?_
    refine zA6 7 rfl rfl (fun w hs => zA7 uz5 rfl rfl (hb.cellAt hs (zEw hxb))) hK ?_
    refine zA6 8 rfl rfl (fun w hs => zD7 rfl rfl) hK ?_
    refine zAu (by kernel_rfl) ?_
    clear hK
    refine zB7 rfl ?_ ?_
    ·
     intro h24
     have g24 := ne_t h24
     refine zA5 (zA1 ?_)
     refine zA rfl (zA2 (v := .bool _) rfl) ?_
     refine zA4 ?_
     refine zAf ?_
     refine zBj (v := .bool _) rfl rfl ?_
     exact ⟨_, rfl, zCs (by rw [decide_eq_false (fun e => by subst e; rw [hxa] at hxb; cases hxb; exact g24 rfl)]), hs⟩
    ·
     intro h24
     have g24 := ne_f h24
     refine zAd ?_
     refine zA1 ?_
     refine zA rfl (zAn rfl rfl rfl (inI (by omega) (by omega))) ?_
     refine zA rfl (zA0 (v := .int .i64 _) rfl) ?_
     refine zA4 ?_
     exact ⟨x + 1, by omega, ⟨by omega, by rw [List.take_add_one, List.take_add_one, hxa, hxb, hq, u8v_inj g24], hs⟩, ⟨rfl, trivial⟩, by repeat (first | exact Out.mix _ _ _ | refine Out.updo rfl ?_ | refine Out.upd rfl ?_ | refine Out.mixIn rfl ?_)⟩
   ·
    intro h14
    have g14 := of_decide_eq_false h14
    refine zBk rfl ?_
    refine zA5 (zA1 ?_)
    refine zA rfl (zA2 (v := .bool _) rfl) ?_
    refine zA4 ?_
    refine zAf ?_
    refine zBj (v := .bool _) rfl rfl ?_
    have h1 : x = la.length := by omega
    rw [h1, List.take_of_length_le (Nat.le_refl _), List.take_of_length_le (by omega)] at hq
    exact ⟨_, rfl, zCs (decide_eq_true hq).symm, hs⟩
theorem copen_sl (hE : ErrP ad g) (hs : Mem g w L) {a : Option Addr} {n c : Nat} {l : List UInt8} (hr : Rd g L (.slice a n c) (zAm l)) (hn : n = l.length) (hc : n ≤ c) (hlen : l.length ≤ 100000000) {k : Nat} {b : List UInt8} (hk : openL l = (k, b)) : Calls Tryz.prog 108 #[.slice a n c] w (Ret fun v w' => ∃ a' c', v = .tuple #[.slice a' b.length c', zAq ad k] ∧ Mem g w' (own (.slice a' b.length c') (zAm b) :: L)) := by
  subst hn
  refine zAl Tryz.func108 rfl rfl ?_
  skip
  refine zA5 (zA1 ?_)
  refine zA rfl (zA2 (v := .slice _ _ _) rfl) ?_
  refine zA rfl (zA2 (v := .nilIface) rfl) ?_
  refine zA4 ?_
  refine zA5 ?_
  refine zA5 (zA1 ?_)
  refine zA rfl (zA0 (v := .slice _ _ _) rfl) ?_
  refine zA rfl (zAw zBz rfl) ?_
  refine zA rfl (zB4 rfl rfl) ?_
  refine zA4 ?_
  refine zB7 rfl ?_ ?_
  ·
   intro h7
   have g7 := of_decide_eq_true h7
   have e : openL l = (101, []) := by unfold openL; rw [if_pos (by omega)]
   rw [e] at hk
   cases hk
   refine zA5 ?_
   refine zAz zBx hs ?_
   intro w tr hK
   replace hs := tr _ hs
   clear tr
   refine zA6 0 rfl rfl (fun w hs => zA7 zD1 rfl rfl (hE.cellW hs 101 (by decide) rfl)) hK ?_
   refine zA6 1 rfl rfl (fun w hs => zA2 (v := .slice _ _ _) rfl) hK ?_
   refine zA6 2 rfl rfl (fun w hs => zA2 (v := zAq ad _) rfl) hK ?_
   refine zAu (by kernel_rfl) ?_
   clear hK
   refine zAf ?_
   refine res2 (v := .slice _ _ _) (v2 := zAq ad _) rfl rfl rfl ?_
   exact ⟨_, rfl, none, 0, rfl, hs.addE (zE3 _)⟩
  ·
   intro h7
   have g7 := of_decide_eq_false h7
   refine zAd ?_
   refine zA5 (zA1 ?_)
   refine zA rfl (zA0 (v := .slice _ _ _) rfl) ?_
   refine zA rfl (zA0 (v := .slice _ _ _) rfl) ?_
   refine zA rfl (zAw zBz rfl) ?_
   refine zA rfl (zCj rfl rfl (c := ((l.length - 4 : Nat) : Int)) (by omega) (inI (by omega) (by omega))) ?_
   refine zA rfl (zDl zBz sz5 rfl rfl (hi := l.length - 4) rfl (by omega)) ?_
   refine zA rfl (zA2 (v := .slice _ _ _) rfl) ?_
   refine zA4 ?_
   refine zA5 ?_
   refine zA5 (zA1 ?_)
   refine zA rfl (zA0 (v := .slice _ _ _) rfl) ?_
   refine zA9 rfl en82 (seal_sl hs (l := (l.take (l.length - 4)).drop 0) (hr.subB (by omega) (by omega)) (by simp) (by simp; omega)) ?_
   clear hs
   rintro _ w ⟨a15, c15, rfl, hs⟩
   refine zA rfl (zA0 (v := .slice _ _ _) rfl) ?_
   refine zA9 rfl en143 (equalB_sl hs (la := zBp (l.take (l.length - 4))) (lb := l) (hs.rdOwn 0 rfl) hr.cons rfl rfl (by rw [zBw, List.length_take]; omega)) ?_
   clear hs
   rintro _ w ⟨rfl, hs⟩
   refine zA rfl (zBm rfl) ?_
   refine zA4 ?_
   refine zB7 rfl ?_ ?_
   ·
    intro h17
    replace h17 := zF h17
    have hne := of_decide_eq_false h17
    have e : openL l = (102, []) := by unfold openL; rw [if_neg (by omega), if_neg hne]
    rw [e] at hk
    cases hk
    refine zA5 ?_
    refine zAz zBx hs ?_
    intro w tr hK
    replace hs := tr _ hs
    clear tr
    refine zA6 0 rfl rfl (fun w hs => zA7 zD1 rfl rfl (hE.cellW hs 102 (by decide) rfl)) hK ?_
    refine zA6 1 rfl rfl (fun w hs => zA2 (v := .slice _ _ _) rfl) hK ?_
    refine zA6 2 rfl rfl (fun w hs => zA2 (v := zAq ad _) rfl) hK ?_
    refine zAu (by kernel_rfl) ?_
    clear hK
    refine zAf ?_
    refine res2 (v := .slice _ _ _) (v2 := zAq ad _) rfl rfl rfl ?_
    exact ⟨_, rfl, none, 0, rfl, (hs.tail).addE (zE3 _)⟩
   ·
    intro h17
    replace h17 := zE4 h17
    have heq := of_decide_eq_true h17
    have e : openL l = (0, l.take (l.length - 4)) := by unfold openL; rw [if_neg (by omega), if_pos heq]
    rw [e] at hk
    cases hk
    refine zAd ?_
    refine zA5 (zA1 ?_)
    refine zA rfl (zA0 (v := .slice _ _ _) rfl) ?_
    refine zA9 rfl en46 (zE9 hs (l := (l.take (l.length - 4)).drop 0) (hr.cons.subB (by omega) (by omega)) (by simp; omega)) ?_
    clear hs
    rintro _ w ⟨a21, c21, rfl, hs⟩
    refine zA rfl (zA2 (v := .slice _ _ _) rfl) ?_
    refine zA rfl (zA2 (v := .nilIface) rfl) ?_
    refine zA4 ?_
    refine zAf ?_
    refine res2 (v := .slice _ _ _) (v2 := .nilIface) rfl rfl rfl ?_
    rw [zAr] at hs ⊢
    exact ⟨_, rfl, a21, c21, by rw [zB2]; rfl, hs.drop 1⟩

end Go.Proofs.YtdkgdjnbpjjfmaaGreatDoor
namespace Go.Proofs.YtdkgdjnbpjjfmaaGreatDoor
set_option linter.all false
open Go.RowKit
attribute [local irreducible] zAq
variable {g w : World} {L M : List HP} {ad : Nat → Addr} {p : Nat} {V : Vw}

def idB (n : Int) : List UInt8 := zB n.toNat
def prB (q : Pr) : List UInt8 := idB q.1 ++ idB q.2
def epB (l : List Pr) : List UInt8 := l.flatMap prB
def oB (o : Ob) : List UInt8 := zB o.1.size ++ o.1.data.toList ++ idB o.2.1 ++ zB o.2.2
def obB (l : List Ob) : List UInt8 := l.flatMap oB
def hdB (x : Mf) : List UInt8 := idB x.id ++ idB x.base ++ idB x.fin ++ zB (zig x.time) ++ zB x.eps.length
def mfBody (x : Mf) : List UInt8 := hdB x ++ epB x.eps ++ zB x.obs.length ++ obB x.obs
def mfB (x : Mf) : List UInt8 := zBp (mfBody x)
theorem zCh (n : Nat) : (zB n).length ≤ 10 := vputF_len 10 n
theorem zEu (n : Int) : (idB n).length ≤ 10 := zCh _
theorem hdB_len (x : Mf) : (hdB x).length ≤ 50 := by
  have h1 := zEu x.id; have h2 := zEu x.base; have h3 := zEu x.fin; have h4 := zCh (zig x.time); have h5 := zCh x.eps.length
  simp only [hdB, List.length_append]; omega
theorem prB_len (q : Pr) : (prB q).length ≤ 20 := by
  have h1 := zEu q.1; have h2 := zEu q.2
  simp only [prB, List.length_append]; omega
theorem epB_len : ∀ l : List Pr, (epB l).length ≤ 20 * l.length
  | [] => by simp [epB]
  | q :: l => by
    have h1 := epB_len l; have h2 := prB_len q
    simp only [epB, List.flatMap_cons, List.length_append, List.length_cons] at h1 ⊢
    omega
theorem oB_len {o : Ob} (h : zD3 o = 0) : (oB o).length ≤ 94 := by
  have h1 := zCh o.1.size; have h2 := zEu o.2.1; have h3 := zCh o.2.2
  have h4 : o.1.data.toList.length ≤ 64 := by
    unfold zD3 at h
    split at h
    · cases h
    · rename_i hv
      have hv : zC6 o.1.data.toList = true := by simpa using hv
      simp only [zC6, Bool.and_eq_true, decide_eq_true_eq] at hv
      omega
  simp only [oB, List.length_append]; omega
theorem obB_len : ∀ l : List Ob, (∀ o ∈ l, zD3 o = 0) → (obB l).length ≤ 94 * l.length
  | [], _ => by simp [obB]
  | o :: l, h => by
    have h1 := obB_len l fun x hx => h x (List.mem_cons_of_mem _ hx); have h2 := oB_len (h o (List.mem_cons_self ..))
    simp only [obB, List.flatMap_cons, List.length_append, List.length_cons] at h1 ⊢
    omega
theorem epB_next {l : List Pr} {k : Nat} {q : Pr} (h : l[k]? = some q) : epB (l.take (k + 1)) = epB (l.take k) ++ idB q.1 ++ idB q.2 := by
  simp [epB, List.take_add_one, h, prB]
theorem obB_next {l : List Ob} {k : Nat} {o : Ob} (h : l[k]? = some o) : obB (l.take (k + 1)) = obB (l.take k) ++ zB o.1.size ++ o.1.data.toList ++ idB o.2.1 ++ zB o.2.2 := by
  simp [obB, List.take_add_one, h, oB]
/-- What a manifest that may be is. -/
structure Fine (x : Mf) : Prop where
  id : 0 ≤ x.id ∧ x.id ≤ 2147483647
  base : 0 ≤ x.base ∧ x.base ≤ 1099511627776
  fin : 0 ≤ x.fin ∧ x.fin ≤ 1099511627776
  time : -1099511627776 ≤ x.time ∧ x.time ≤ 1099511627776
  eps : x.eps.length ≤ 256
  pr : ∀ q ∈ x.eps, (0 ≤ q.1 ∧ q.1 ≤ 1073741824) ∧ 0 ≤ q.2 ∧ q.2 ≤ 1099511627776
  obs : 1 ≤ x.obs.length ∧ x.obs.length ≤ 8
  ob : ∀ o ∈ x.obs, zD3 o = 0
theorem mf_fine {x : Mf} (h : (mfF x).1 = 0) : Fine x := by
  have h8 := mf_len h
  have hid := mf_id h
  unfold mfF at h
  split at h
  · cases h
  · rename_i h1
    simp only [zBe, zE1, Bool.or_eq_true, Bool.not_eq_true', Bool.and_eq_false_iff, decide_eq_true_eq, decide_eq_false_iff_not, not_or] at h1
    split at h
    · rename_i h2; exact absurd h h2
    · rename_i h2
      split at h
      · cases h
      · have hp : ∀ q ∈ x.eps, prOk q = true := by
          have h2 : epF x.eps = 0 := by simpa using h2
          unfold epF at h2
          split at h2
          · cases h2
          · split at h2
            · cases h2
            · rename_i h3; simpa [List.all_eq_true] using h3
        have hob : (1 ≤ x.obs.length ∧ x.obs.length ≤ 8) ∧ ∀ o ∈ x.obs, zD3 o = 0 := by
          unfold obF at h
          split at h
          · cases h
          · rename_i h4
            refine ⟨by omega, ?_⟩
            split at h
            · rename_i i hi
              rw [List.findIdx?_eq_some_iff_getElem] at hi
              obtain ⟨hl, hb, _⟩ := hi
              have hg : x.obs.getD i (ByteArray.empty, 0, 0) = x.obs[i] := by rw [List.getD_eq_getElem?_getD, List.getElem?_eq_getElem hl]; rfl
              simp only [hg] at h
              simp [h] at hb
            · rename_i hn
              rw [List.findIdx?_eq_none_iff] at hn
              intro o ho
              simpa using hn o ho
        refine ⟨hid, by omega, by omega, by omega, h8.1, fun q hq => ?_, hob.1, hob.2⟩
        have := hp q hq
        simp only [prOk, rightE, zE1, Bool.and_eq_true, decide_eq_true_eq] at this
        omega
theorem zEr {x : Mf} (h : Fine x) : (mfBody x).length ≤ 6000 := by
  have h1 := hdB_len x; have h2 := epB_len x.eps; have h3 := zCh x.obs.length; have h4 := obB_len x.obs h.ob; have h5 := h.eps; have h6 := h.obs
  simp only [mfBody, List.length_append]; omega
theorem wrapN {n : Int} (h : 0 ≤ n ∧ n ≤ 1099511627776) : IntKind.u64.wrap n = ((n.toNat : Nat) : Int) := by rw [zB6]; omega
theorem ob_fine {o : Ob} (h : zD3 o = 0) : 0 ≤ o.2.1 ∧ o.2.1 ≤ 1073741824 := by
  unfold zD3 at h
  split at h
  · cases h
  · split at h
    · cases h
    · omega
theorem src_str {P : Program} {tx : TypeId} (hk : P.underlying tx = some .string) (s : ByteArray) (w : World) : Src P 1 tx (.string s) (zAm s.data.toList).length (zAm s.data.toList) w := by
  have h := Src.ofString (P := P) w hk s
  have e : byteCells s = zAm s.data.toList := rfl
  have e2 : s.size = (zAm s.data.toList).length := by rw [zAr]; exact Array.length_toList.symm
  rw [e, e2] at h
  exact h
set_option maxHeartbeats 2000000 in
theorem maniB_sl (hE : ErrV ad g) (hs : Mem g w L) {m : Mf} {e o : SA} (hm : MfR g L m e o) (h0 : mfF m = (0, none)) (hu : ∀ q ∈ m.obs, q.2.2 < 4294967296) : Calls Tryz.prog 80 #[.agg (mfL m e o).toArray] w (Ret fun v w' => ∃ a c, v = .tuple #[.slice a (mfB m).length c, .nilIface] ∧ Mem g w' (own (.slice a (mfB m).length c) (zAm (mfB m)) :: L)) := by
  have hF := mf_fine (x := m) (by rw [h0])
  have hbl := zEr hF
  have hhd := hdB_len m
  have h8 := hF.obs
  have h256 := hF.eps
  have hid := hF.id
  have hba := hF.base
  have hfi := hF.fin
  have hti := hF.time
  have i1 := zEu m.id; have i2 := zEu m.base; have i3 := zEu m.fin; have i4 := zCh (zig m.time); have i5 := zCh m.eps.length; have i6 := zCh m.obs.length
  refine zAl Tryz.func80 rfl rfl ?_
  skip
  refine zA5 (zA1 ?_)
  refine zCk (v := .agg _) hs rfl rfl ?_
  clear hs
  intro b1 w hs
  try simp only [List.set_cons_succ, List.set_cons_zero] at hs
  refine zA rfl (zA2 (v := .slice _ _ _) rfl) ?_
  refine zA rfl (zA2 (v := .nilIface) rfl) ?_
  refine zA4 ?_
  refine zA5 ?_
  refine zA5 (zA1 ?_)
  refine zA rfl (zB3 hs 0 rfl zC3 zE0 rfl) ?_
  refine zA9 rfl en40 (validM_sl hE hs hm.cons (by omega)) ?_
  clear hs
  rintro _ w ⟨eb, rfl, hs⟩
  rw [h0, flC_bare] at hs
  rw [h0, flV_bare]
  replace hs := hs.tail
  refine zA rfl (zA2 (v := zAq ad _) rfl) ?_
  refine zA4 (zA5 (zA1 ?_))
  refine zA rfl (zA0 (v := zAq ad _) rfl) ?_
  refine zA rfl (zAy (ad := ad) rfl) ?_
  refine zA4 ?_
  refine zAv rfl (rfl) ?_
  refine zAd ?_
  refine zA5 (zA1 ?_)
  refine zA rfl (zA3 (o' := 0) zC3 rfl sz3 rfl rfl rfl) ?_
  refine zA rfl (zA7 uz3 rfl rfl (hs.cellAt 0 rfl rfl)) ?_
  refine zA rfl (zAo uz3 zC0 rfl (c := ((m.id.toNat : Nat) : Int)) (wrapN (by omega))) ?_
  refine zA9 rfl en52 (zDy hs (lb := []) (n := m.id.toNat) Rd.nil rfl (by decide) (by omega)) ?_
  clear hs
  rintro _ w ⟨a18, c18, rfl, hs⟩
  rw [List.nil_append] at hs ⊢
  refine zA rfl (zA2 (v := .slice _ _ _) rfl) ?_
  refine zA4 (zA5 (zA1 ?_))
  refine zA rfl (zA0 (v := .slice _ _ _) rfl) ?_
  refine zA rfl (zA3 (o' := 1) zC3 rfl sz2 rfl rfl rfl) ?_
  refine zA rfl (zA7 uz2 rfl rfl (hs.cellAt 1 rfl rfl)) ?_
  refine zA rfl (zAo uz2 zC0 rfl (c := ((m.base.toNat : Nat) : Int)) (wrapN hba)) ?_
  refine zA9 rfl en52 (zDy hs (lb := idB m.id) (n := m.base.toNat) (hs.rdOwn 0 rfl) rfl (by omega) (by omega)) ?_
  clear hs
  rintro _ w ⟨a23, c23, rfl, hs⟩
  replace hs := hs.drop 1
  refine zA rfl (zA2 (v := .slice _ _ _) rfl) ?_
  refine zA4 (zA5 (zA1 ?_))
  refine zA rfl (zA0 (v := .slice _ _ _) rfl) ?_
  refine zA rfl (zA3 (o' := 2) zC3 rfl sz2 rfl rfl rfl) ?_
  refine zA rfl (zA7 uz2 rfl rfl (hs.cellAt 1 rfl rfl)) ?_
  refine zA rfl (zAo uz2 zC0 rfl (c := ((m.fin.toNat : Nat) : Int)) (wrapN hfi)) ?_
  refine zA9 rfl en52 (zDy hs (lb := idB m.id ++ idB m.base) (n := m.fin.toNat) (hs.rdOwn 0 rfl) rfl (by simp only [List.length_append]; omega) (by omega)) ?_
  clear hs
  rintro _ w ⟨a28, c28, rfl, hs⟩
  replace hs := hs.drop 1
  refine zA rfl (zA2 (v := .slice _ _ _) rfl) ?_
  refine zA4 (zA5 (zA1 ?_))
  refine zA rfl (zA0 (v := .slice _ _ _) rfl) ?_
  refine zA rfl (zA3 (o' := 3) zC3 rfl sz2 rfl rfl rfl) ?_
  refine zA rfl (zA7 uz2 rfl rfl (hs.cellAt 1 rfl rfl)) ?_
  refine zA9 rfl en121 (putint_sl hs (lb := idB m.id ++ idB m.base ++ idB m.fin) (z := zig m.time) (hs.rdOwn 0 rfl) rfl (by simp only [List.length_append]; omega) rfl rfl rfl rfl (zig_bits ⟨by omega, by omega⟩) (zig_lt ⟨by omega, by omega⟩)) ?_
  clear hs
  rintro _ w ⟨a32, c32, rfl, hs⟩
  replace hs := hs.drop 1
  refine zA rfl (zA2 (v := .slice _ _ _) rfl) ?_
  refine zA4 (zA5 (zA1 ?_))
  refine zA rfl (zA0 (v := .slice _ _ _) rfl) ?_
  refine zA rfl (zA3 (o' := 4) zC3 rfl sz36 rfl rfl rfl) ?_
  refine zA rfl (zA7 zD5 rfl rfl (hs.cellAt 1 rfl rfl)) ?_
  refine zA rfl (zAw zD5 rfl) ?_
  refine zA rfl (zAo uz3 zC0 rfl (c := ((m.eps.length : Nat) : Int)) (wrapN (by omega))) ?_
  refine zA9 rfl en52 (zDy hs (lb := idB m.id ++ idB m.base ++ idB m.fin ++ zB (zig m.time)) (n := m.eps.length) (hs.rdOwn 0 rfl) rfl (by simp only [List.length_append]; omega) (by omega)) ?_
  clear hs
  rintro _ w ⟨a38, c38, rfl, hs⟩
  replace hs := hs.drop 1
  have h9 : idB m.id ++ idB m.base ++ idB m.fin ++ zB (zig m.time) ++ zB m.eps.length = hdB m ++ epB (m.eps.take 0) := by simp [epB, hdB]
  rw [h9] at hs ⊢
  refine zA rfl (zA2 (v := .slice _ _ _) rfl) ?_
  refine zA4 ?_
  refine zA5 ?_
  refine zA5 (zA1 ?_)
  refine zA rfl (zA3 (o' := 4) zC3 rfl sz36 rfl rfl rfl) ?_
  refine zA rfl (zA7 zD5 rfl rfl (hs.cellAt 1 rfl rfl)) ?_
  refine zA rfl (zAw zD5 rfl) ?_
  refine zA rfl (zA0 (v := .int .i64 _) rfl) ?_
  refine zA4 ?_
  refine zAt ?_
  refine zBs (X := Nat × SA) [5, 7, 42, 43, 44, 45, 46, 47, 48, 49, 50, 51, 52, 53, 54, 55] (fun q => [(5, .slice q.2.1 (hdB m ++ epB (m.eps.take q.1)).length q.2.2), (42, .int .i64 (q.1 : Nat))]) (fun q w => q.1 ≤ m.eps.length ∧ Mem g w (own (.slice q.2.1 (hdB m ++ epB (m.eps.take q.1)).length q.2.2) (zAm (hdB m ++ epB (m.eps.take q.1))) :: cells b1 (mfL m e o) 39 :: L)) (fun q => m.eps.length - q.1) ((0, (a38, c38))) ?_ ?_ ?_
  · exact ⟨rfl, rfl, trivial⟩
  · exact ⟨Nat.zero_le _, hs⟩
  clear hs
  rintro x ξ w hI
  obtain ⟨k, s⟩ := x
  obtain ⟨hk, hs⟩ := hI
  simp only at hk hs
  show cw _ _ _ _ _ _ (updL (mix _ ξ _) [(5, .slice s.1 (hdB m ++ epB (m.eps.take k)).length s.2), (42, .int .i64 (k : Nat))]) w
  refine zA5 (zA1 ?_)
  refine zA rfl (zB4 rfl rfl) ?_
  refine zA4 ?_
  refine zA5 ?_
  refine zB7 rfl ?_ ?_
  ·
   intro h43
   have g43 := of_decide_eq_true h43
   obtain ⟨y, hy⟩ : ∃ y, m.eps[k]? = some y := ⟨_, List.getElem?_eq_getElem (by omega)⟩
   obtain ⟨b0, o0, hb0⟩ := hm.eps.cons.cons.at hs (by rw [zE5]; omega)
   have hpy := hF.pr y (List.mem_of_getElem? hy)
   have hnx := epB_next hy
   have hel := epB_len (m.eps.take k)
   have hkl : (m.eps.take k).length = k := by rw [List.length_take]; omega
   have j1 := zEu y.1
   have j2 := zEu y.2
   obtain ⟨ea, ec⟩ := e
   simp only at hb0
   subst hb0
   refine zAd ?_
   refine zA5 ?_
   refine zAt ?_
   refine zA5 (zA1 ?_)
   refine zA rfl (zAx zD5 zEc rfl rfl rfl (by omega) rfl) ?_
   refine zA rfl (zCw (cs := prL y) zDm zEc rfl (fun j v hj => hm.eps.cons.cons.cell hs (zDu hy) hj)) ?_
   refine zBd hs rfl ze141 ?_
   clear hs
   intro b7 w hs
   try simp only [List.set_cons_succ, List.set_cons_zero] at hs
   refine zAp hs 0 rfl rfl rfl zEc rfl rfl ?_
   clear hs
   intro w hs
   try simp only [List.set_cons_succ, List.set_cons_zero] at hs
   refine zA4 ?_
   refine zAz zBx (hs.drop 1) ?_
   intro w tr hK
   replace hs := tr _ hs
   clear tr
   refine zA6 0 rfl rfl (fun w hs => zA0 (v := .slice _ _ _) rfl) hK ?_
   refine zA6 1 rfl rfl (fun w hs => zA3 (o' := 0) zDm rfl sz3 rfl rfl rfl) hK ?_
   refine zA6 2 rfl rfl (fun w hs => zA7 uz3 rfl rfl (hs.cellAt 0 rfl rfl)) hK ?_
   refine zA6 3 rfl rfl (fun w hs => zAo uz3 zC0 rfl (c := ((y.1.toNat : Nat) : Int)) (wrapN (by omega))) hK ?_
   refine zA6 5 rfl rfl (fun w hs => zA3 (o' := 1) zDm rfl sz2 rfl rfl rfl) hK ?_
   refine zA6 6 rfl rfl (fun w hs => zA7 uz2 rfl rfl (hs.cellAt 0 rfl rfl)) hK ?_
   refine zA6 7 rfl rfl (fun w hs => zAo uz2 zC0 rfl (c := ((y.2.toNat : Nat) : Int)) (wrapN (by omega))) hK ?_
   refine zAb [4] ?_
   refine ⟨⟨_, rfl, ?_⟩, trivial⟩
   refine zA9 rfl en52 (zDy hs (lb := hdB m ++ epB (m.eps.take k)) (n := y.1.toNat) (hs.rdOwn 1 rfl) rfl (by simp only [List.length_append]; omega) (by omega)) ?_
   clear hs
   rintro _ w ⟨a50, c50, rfl, hs⟩
   clear hK
   have hK := (hs.drop 2).tail
   refine zA4 ⟨hK, ?_⟩
   refine zAb [8] ?_
   refine ⟨⟨_, rfl, ?_⟩, trivial⟩
   refine zA9 rfl en52 (zDy hs (lb := hdB m ++ epB (m.eps.take k) ++ idB y.1) (n := y.2.toNat) (hs.rdOwn 0 rfl) rfl (by simp only [List.length_append]; omega) (by omega)) ?_
   clear hs
   rintro _ w ⟨a54, c54, rfl, hs⟩
   clear hK
   have hK := ((hs.drop 3).drop 1).tail
   refine zA4 ⟨hK, ?_⟩
   refine zA6 9 rfl rfl (fun w hs => zA2 (v := .slice _ _ _) rfl) hK ?_
   refine zAu (by kernel_rfl) ?_
   clear hK
   refine zA1 ?_
   refine zA rfl (zAn rfl rfl rfl (inI (by omega) (by omega))) ?_
   refine zA rfl (zA0 (v := .int .i64 _) rfl) ?_
   refine zA4 ?_
   have e9 : hdB m ++ epB (m.eps.take k) ++ idB y.1 ++ zB y.2.toNat = hdB m ++ epB (m.eps.take (k + 1)) := by rw [hnx]; simp [idB]
   rw [e9] at hs
   exact ⟨(k + 1, (a54, c54)), by simp only; omega, ⟨by simp only; omega, hs.arr [0, 4] 5 (by decide)⟩, ⟨show Value.slice a54 (hdB m ++ epB (m.eps.take k) ++ idB y.1 ++ zB y.2.toNat).length c54 = Value.slice a54 (hdB m ++ epB (m.eps.take (k + 1))).length c54 from by rw [e9], rfl, trivial⟩, by repeat (first | exact Out.mix _ _ _ | refine Out.updo rfl ?_ | refine Out.upd rfl ?_ | refine Out.mixIn rfl ?_)⟩
  ·
   intro h43
   have g43 := of_decide_eq_false h43
   have hke : k = m.eps.length := by omega
   subst hke
   rw [List.take_length] at hs ⊢
   have hel := epB_len m.eps
   refine zBk rfl ?_
   refine zA5 (zA1 ?_)
   refine zA rfl (zA0 (v := .slice _ _ _) rfl) ?_
   refine zA rfl (zA3 (o' := 5) zC3 rfl zDr rfl rfl rfl) ?_
   refine zA rfl (zA7 zC7 rfl rfl (hs.cellAt 1 rfl rfl)) ?_
   refine zA rfl (zAw zC7 rfl) ?_
   refine zA rfl (zAo uz3 zC0 rfl (c := ((m.obs.length : Nat) : Int)) (wrapN (by omega))) ?_
   refine zA9 rfl en52 (zDy hs (lb := hdB m ++ epB m.eps) (n := m.obs.length) (hs.rdOwn 0 rfl) rfl (by simp only [List.length_append]; omega) (by omega)) ?_
   clear hs
   rintro _ w ⟨a61, c61, rfl, hs⟩
   replace hs := hs.drop 1
   obtain ⟨B, hB⟩ : ∃ B, B = hdB m ++ epB m.eps ++ zB m.obs.length := ⟨_, rfl⟩
   rw [← hB] at hs ⊢
   have hBl : B.length ≤ 5300 := by rw [hB]; simp only [List.length_append]; omega
   have h10 : B = B ++ obB (m.obs.take 0) := (List.append_nil B).symm
   rw [h10] at hs ⊢
   refine zA rfl (zA2 (v := .slice _ _ _) rfl) ?_
   refine zA4 ?_
   refine zA5 ?_
   refine zA5 (zA1 ?_)
   refine zA rfl (zA3 (o' := 5) zC3 rfl zDr rfl rfl rfl) ?_
   refine zA rfl (zA7 zC7 rfl rfl (hs.cellAt 1 rfl rfl)) ?_
   refine zA rfl (zAw zC7 rfl) ?_
   refine zA rfl (zA0 (v := .int .i64 _) rfl) ?_
   refine zA4 ?_
   refine zAt ?_
   refine zBs (X := Nat × SA) [5, 9, 65, 66, 67, 68, 69, 70, 71, 72, 73, 74, 75, 76, 77, 78, 79, 80, 81, 82, 83, 84, 85, 86, 87, 88] (fun q => [(5, .slice q.2.1 (B ++ obB (m.obs.take q.1)).length q.2.2), (65, .int .i64 (q.1 : Nat))]) (fun q w => q.1 ≤ m.obs.length ∧ Mem g w (own (.slice q.2.1 (B ++ obB (m.obs.take q.1)).length q.2.2) (zAm (B ++ obB (m.obs.take q.1))) :: cells b1 (mfL m e o) 39 :: L)) (fun q => m.obs.length - q.1) ((0, (a61, c61))) ?_ ?_ ?_
   · exact ⟨rfl, rfl, trivial⟩
   · exact ⟨Nat.zero_le _, hs⟩
   clear hs
   rintro x ξ w hI
   obtain ⟨k, s⟩ := x
   obtain ⟨hk, hs⟩ := hI
   simp only at hk hs
   show cw _ _ _ _ _ _ (updL (mix _ ξ _) [(5, .slice s.1 (B ++ obB (m.obs.take k)).length s.2), (65, .int .i64 (k : Nat))]) w
   refine zA5 (zA1 ?_)
   refine zA rfl (zB4 rfl rfl) ?_
   refine zA4 ?_
   refine zA5 ?_
   refine zB7 rfl ?_ ?_
   ·
    intro h66
    have g66 := of_decide_eq_true h66
    obtain ⟨y, hy⟩ : ∃ y, m.obs[k]? = some y := ⟨_, List.getElem?_eq_getElem (by omega)⟩
    obtain ⟨b0, o0, hb0⟩ := hm.obs.cons.cons.at hs (by rw [zEy]; omega)
    have hpy := hF.ob y (List.mem_of_getElem? hy)
    have hpo := ob_fine hpy
    have huy := hu y (List.mem_of_getElem? hy)
    have hnx := obB_next hy
    have hel := obB_len (m.obs.take k) (fun q hq => hF.ob q (List.mem_of_mem_take hq))
    have hkl : (m.obs.take k).length = k := by rw [List.length_take]; omega
    have hol := oB_len hpy
    simp only [oB, List.length_append] at hol
    have hys : y.1.size = y.1.data.toList.length := Array.length_toList.symm
    obtain ⟨oa, oc⟩ := o
    simp only at hb0
    subst hb0
    refine zAd ?_
    refine zA5 ?_
    refine zAt ?_
    refine zA5 (zA1 ?_)
    refine zA rfl (zAx zC7 zFh rfl rfl rfl (by omega) rfl) ?_
    refine zA rfl (zCw (cs := obL y) zD6 zFh rfl (fun j v hj => hm.obs.cons.cons.cell hs (obL_at hy) hj)) ?_
    refine zBd hs rfl zFt ?_
    clear hs
    intro b9 w hs
    try simp only [List.set_cons_succ, List.set_cons_zero] at hs
    refine zAp hs 0 rfl rfl rfl zFh rfl rfl ?_
    clear hs
    intro w hs
    try simp only [List.set_cons_succ, List.set_cons_zero] at hs
    refine zA4 (zA5 (zA1 ?_))
    refine zA rfl (zA0 (v := .slice _ _ _) rfl) ?_
    refine zA rfl (zA3 (o' := 0) zD6 rfl sz9 rfl rfl rfl) ?_
    refine zA rfl (zA7 uz9 rfl rfl (hs.cellAt 0 rfl rfl)) ?_
    refine zA rfl (run_lenT uz9 rfl) ?_
    refine zA rfl (zAo uz3 zC0 rfl (c := ((y.1.size : Nat) : Int)) (wrapN (by omega))) ?_
    refine zA9 rfl en52 (zDy hs (lb := B ++ obB (m.obs.take k)) (n := y.1.size) (hs.rdOwn 1 rfl) rfl (by simp only [List.length_append]; omega) (by omega)) ?_
    clear hs
    rintro _ w ⟨a74, c74, rfl, hs⟩
    refine zA rfl (zA2 (v := .slice _ _ _) rfl) ?_
    refine zA4 (zA5 (zA1 ?_))
    refine zA rfl (zA0 (v := .slice _ _ _) rfl) ?_
    refine zA rfl (zA3 (o' := 0) zD6 rfl sz9 rfl rfl rfl) ?_
    refine zA rfl (zA7 uz9 rfl rfl (hs.cellAt 1 rfl rfl)) ?_
    refine zCi hs rfl 0 rfl zBz in5 rfl rfl rfl (src_str uz9 y.1 _) (by simp only [zAr, List.length_append]; omega) (by simp only [zAr, List.length_append]; omega) ?_
    clear hs
    intro a78 c78 w hs
    simp only [List.set_cons_succ, List.set_cons_zero] at hs
    have e8 : zAm (B ++ obB (m.obs.take k) ++ zB y.1.size) ++ zAm y.1.data.toList = zAm (B ++ obB (m.obs.take k) ++ zB y.1.size ++ y.1.data.toList) := (zCe _ _).symm
    have e7 : (zAm (B ++ obB (m.obs.take k) ++ zB y.1.size)).length + (zAm y.1.data.toList).length = (B ++ obB (m.obs.take k) ++ zB y.1.size ++ y.1.data.toList).length := by simp only [zAr, List.length_append]
    rw [e7] at hs ⊢
    rw [e8] at hs
    refine zA rfl (zA2 (v := .slice _ _ _) rfl) ?_
    refine zA4 ?_
    refine zAz zBx hs.tail ?_
    intro w tr hK
    replace hs := tr _ hs
    clear tr
    refine zA6 0 rfl rfl (fun w hs => zA0 (v := .slice _ _ _) rfl) hK ?_
    refine zA6 1 rfl rfl (fun w hs => zA3 (o' := 1) zD6 rfl sz3 rfl rfl rfl) hK ?_
    refine zA6 2 rfl rfl (fun w hs => zA7 uz3 rfl rfl (hs.cellAt 0 rfl rfl)) hK ?_
    refine zA6 3 rfl rfl (fun w hs => zAo uz3 zC0 rfl (c := ((y.2.1.toNat : Nat) : Int)) (wrapN (by omega))) hK ?_
    refine zA6 5 rfl rfl (fun w hs => zA3 (o' := 2) zD6 rfl sz111 rfl rfl rfl) hK ?_
    refine zA6 6 rfl rfl (fun w hs => zA7 zFj rfl rfl (hs.cellAt 0 rfl rfl)) hK ?_
    refine zA6 7 rfl rfl (fun w hs => zAo zFj zC0 rfl (c := ((y.2.2 : Nat) : Int)) (by rw [zB6]; omega)) hK ?_
    refine zAb [4] ?_
    refine ⟨⟨_, rfl, ?_⟩, trivial⟩
    refine zA9 rfl en52 (zDy hs (lb := B ++ obB (m.obs.take k) ++ zB y.1.size ++ y.1.data.toList) (n := y.2.1.toNat) (hs.rdOwn 0 rfl) rfl (by simp only [List.length_append]; omega) (by omega)) ?_
    clear hs
    rintro _ w ⟨a83, c83, rfl, hs⟩
    clear hK
    have hK := (hs.drop 1).tail
    refine zA4 ⟨hK, ?_⟩
    refine zAb [8] ?_
    refine ⟨⟨_, rfl, ?_⟩, trivial⟩
    refine zA9 rfl en52 (zDy hs (lb := B ++ obB (m.obs.take k) ++ zB y.1.size ++ y.1.data.toList ++ idB y.2.1) (n := y.2.2) (hs.rdOwn 0 rfl) rfl (by simp only [List.length_append]; omega) (by omega)) ?_
    clear hs
    rintro _ w ⟨a87, c87, rfl, hs⟩
    clear hK
    have hK := ((hs.drop 2).drop 1).tail
    refine zA4 ⟨hK, ?_⟩
    refine zA6 9 rfl rfl (fun w hs => zA2 (v := .slice _ _ _) rfl) hK ?_
    refine zAu (by kernel_rfl) ?_
    clear hK
    refine zA1 ?_
    refine zA rfl (zAn rfl rfl rfl (inI (by omega) (by omega))) ?_
    refine zA rfl (zA0 (v := .int .i64 _) rfl) ?_
    refine zA4 ?_
    have e9 : B ++ obB (m.obs.take k) ++ zB y.1.size ++ y.1.data.toList ++ idB y.2.1 ++ zB y.2.2 = B ++ obB (m.obs.take (k + 1)) := by rw [hnx]; simp only [List.append_assoc]
    rw [e9] at hs
    exact ⟨(k + 1, (a87, c87)), by simp only; omega, ⟨by simp only; omega, hs.arr [0, 5] 6 (by decide)⟩, ⟨show Value.slice a87 (B ++ obB (m.obs.take k) ++ zB y.1.size ++ y.1.data.toList ++ idB y.2.1 ++ zB y.2.2).length c87 = Value.slice a87 (B ++ obB (m.obs.take (k + 1))).length c87 from by rw [e9], rfl, trivial⟩, by repeat (first | exact Out.mix _ _ _ | refine Out.updo rfl ?_ | refine Out.upd rfl ?_ | refine Out.mixIn rfl ?_)⟩
   ·
    intro h66
    have g66 := of_decide_eq_false h66
    have hke : k = m.obs.length := by omega
    subst hke
    rw [List.take_length] at hs ⊢
    have e9 : B ++ obB m.obs = mfBody m := by rw [hB]; rfl
    rw [e9] at hs ⊢
    refine zBk rfl ?_
    refine zA5 (zA1 ?_)
    refine zA rfl (zA0 (v := .slice _ _ _) rfl) ?_
    refine zA9 rfl en82 (seal_sl hs (l := mfBody m) (hs.rdOwn 0 rfl) rfl (by omega)) ?_
    clear hs
    rintro _ w ⟨a90, c90, rfl, hs⟩
    refine zA rfl (zA2 (v := .slice _ _ _) rfl) ?_
    refine zA rfl (zA2 (v := .nilIface) rfl) ?_
    refine zA4 ?_
    refine zAf ?_
    refine res2 (v := .slice _ _ _) (v2 := .nilIface) rfl rfl rfl ?_
    exact ⟨_, rfl, a90, c90, rfl, hs.arr [0] 3 (by decide)⟩
end Go.Proofs.YtdkgdjnbpjjfmaaGreatDoor
namespace Go.Proofs.YtdkgdjnbpjjfmaaGreatDoor
set_option linter.all false
open Go.RowKit
attribute [local irreducible] zAq
variable {g w : World} {L M : List HP} {ad : Nat → Addr}

/-! ### numbers out of bytes, in plain words -/
/-- The error's number, the number, how many bytes. -/
def vgetF : Nat → Nat → Nat → List UInt8 → Nat × Nat × Nat
  | 0, _, _, _ => (103, 0, 0)
  | f + 1, i, n, b => match b[i]? with
    | none => (101, 0, 0)
    | some c => if i = 9 ∧ 1 < c.toNat then (103, 0, 0) else if 128 ≤ c.toNat then vgetF f (i + 1) (n + c.toNat % 128 * 2 ^ (7 * i)) b else if 0 < i ∧ c.toNat = 0 then (103, 0, 0) else (0, n + c.toNat % 128 * 2 ^ (7 * i), i + 1)
def vget (b : List UInt8) : Nat × Nat × Nat := vgetF 10 0 0 b
theorem zEp {b : List UInt8} {f i n : Nat} {c : UInt8} (h : b[i]? = some c) : vgetF (f + 1) i n b = if i = 9 ∧ 1 < c.toNat then (103, 0, 0) else if 128 ≤ c.toNat then vgetF f (i + 1) (n + c.toNat % 128 * 2 ^ (7 * i)) b else if 0 < i ∧ c.toNat = 0 then (103, 0, 0) else (0, n + c.toNat % 128 * 2 ^ (7 * i), i + 1) := by
  conv => lhs; unfold vgetF
  rw [h]
theorem vgetF_none {b : List UInt8} {f i n : Nat} (h : b[i]? = none) : vgetF (f + 1) i n b = (101, 0, 0) := by
  conv => lhs; unfold vgetF
  rw [h]
/-- A number with a sign, out of one without. -/
def zag (n : Nat) : Int := if n % 2 = 0 then ((n / 2 : Nat) : Int) else -((n / 2 : Nat) : Int) - 1
theorem or_u64 (a b : Nat) (ha : a < 18446744073709551616) (hb : b < 18446744073709551616) : bits .or .u64 (a : Int) (b : Int) = ((a ||| b : Nat) : Int) := by
  have hx : a ||| b < 2 ^ 64 := Nat.or_lt_two_pow (by omega) (by omega)
  show IntKind.u64.wrap ((BitVec.ofInt 64 (a : Int) ||| BitVec.ofInt 64 (b : Int)).toNat : Int) = _
  rw [BitVec.toNat_or, u64_nat a ha, u64_nat b hb, zB6]
  omega
theorem and_u64 (a b : Nat) (ha : a < 18446744073709551616) (hb : b < 18446744073709551616) : bits .and .u64 (a : Int) (b : Int) = ((a &&& b : Nat) : Int) := by
  have hx : a &&& b ≤ a := Nat.and_le_left
  show IntKind.u64.wrap ((BitVec.ofInt 64 (a : Int) &&& BitVec.ofInt 64 (b : Int)).toNat : Int) = _
  rw [BitVec.toNat_and, u64_nat a ha, u64_nat b hb, zB6]
  omega
theorem or_add {n c i : Nat} (hn : n < 2 ^ i) : n ||| (c * 2 ^ i) = n + c * 2 ^ i := by
  rw [← Nat.shiftLeft_eq, Nat.or_comm, ← Nat.shiftLeft_add_eq_or_of_lt hn, Nat.add_comm]
theorem low7b (c : UInt8) : bits .and .u8 ((c.toNat : Nat) : Int) 127 = ((c.toNat % 128 : Nat) : Int) := by
  have h : ∀ m : Nat, m < 256 → bits .and .u8 (m : Int) 127 = ((m % 128 : Nat) : Int) := by decide +kernel
  exact h c.toNat (UInt8.toNat_lt c)
/-- One group of seven bits is laid in. -/
theorem seven_in {n i : Nat} {c : UInt8} (hn : n < 2 ^ (7 * i)) (hi : i ≤ 9) (hc : i = 9 → c.toNat ≤ 1) : n + c.toNat % 128 * 2 ^ (7 * i) < 18446744073709551616 ∧ c.toNat % 128 * 2 ^ (7 * i) < 18446744073709551616 ∧ n + c.toNat % 128 * 2 ^ (7 * i) < 2 ^ (7 * (i + 1)) := by
  have h7 : 2 ^ (7 * (i + 1)) = 128 * 2 ^ (7 * i) := by rw [Nat.mul_add, Nat.pow_add]; omega
  have hm : c.toNat % 128 ≤ 127 := by omega
  have hle : c.toNat % 128 * 2 ^ (7 * i) ≤ 127 * 2 ^ (7 * i) := Nat.mul_le_mul_right _ hm
  rcases Nat.lt_or_ge i 9 with h | h
  · have : 2 ^ (7 * i) ≤ 2 ^ 56 := Nat.pow_le_pow_right (by decide) (by omega)
    refine ⟨by omega, by omega, by omega⟩
  · have e : i = 9 := by omega
    subst e
    have h1 := hc rfl
    have h2 : c.toNat % 128 ≤ 1 := by omega
    have h3 : c.toNat % 128 * 2 ^ 63 ≤ 1 * 2 ^ 63 := Nat.mul_le_mul_right _ h2
    have e1 : 2 ^ (7 * 9) = 2 ^ 63 := rfl
    rw [e1] at *
    refine ⟨by omega, by omega, by omega⟩
/-- The codes of numbers. -/
def vintCodes : List Nat := [101, 103, 104, 105]
abbrev ErrW (ad : Nat → Addr) (g : World) : Prop := Errs vintCodes ad g.heap.size g
theorem Errs.sub {A C : List Nat} {ad : Nat → Addr} {B : Nat} {w : World} (h : Errs A ad B w) (hs : ∀ c ∈ C, c ∈ A) : Errs C ad B w :=
  ⟨fun c hc => h.pos c (hs c hc), fun c hc => h.cell c (hs c hc), fun c hc => h.block c (hs c hc), fun c hc d hd => h.inj c (hs c hc) d (hs d hd), fun c hc => h.lt c (hs c hc)⟩
theorem vget_sl (hE : ErrW ad g) (hs : Mem g w L) {a : Option Addr} {m c : Nat} {b : List UInt8} (hr : Rd g L (.slice a m c) (zAm b)) (hm : m = b.length) (hlen : b.length ≤ 1073741824) {k n q : Nat} (hk : vget b = (k, n, q)) :
    Calls Tryz.prog 109 #[.slice a m c] w (Ret fun v w' => v = .tuple #[.int .u64 n, .int .i64 q, zAq ad k] ∧ Mem g w' L) := by
  subst hm
  refine zAl Tryz.func109 rfl rfl ?_
  skip
  refine zA5 (zA1 ?_)
  refine zA rfl (zA2 (v := .int .u64 _) rfl) ?_
  refine zA rfl (zA2 (v := .int .i64 _) rfl) ?_
  refine zA rfl (zA2 (v := .nilIface) rfl) ?_
  refine zA4 (zA5 (zA1 ?_))
  refine zA rfl (zA2 (v := .int .u64 _) rfl) ?_
  refine zA4 ?_
  refine zA5 ?_
  refine zA5 (zA1 ?_)
  refine zA rfl (zA0 (v := .int .i64 _) rfl) ?_
  refine zA4 ?_
  refine zAt ?_
  refine zBs (X := Nat × Nat) [2, 3, 4, 5, 6, 7, 8, 9, 10, 11, 12, 13, 14, 15, 16, 17, 18, 19, 20, 21, 22, 23, 24, 25, 26, 27, 28, 29, 30, 31, 32, 33, 34, 35, 36, 37, 38, 39, 40, 41, 42, 43, 44, 45] (fun x => [(8, .int .i64 (x.1 : Nat)), (5, .int .u64 (x.2 : Nat))]) (fun x w => x.1 ≤ 10 ∧ x.2 < 2 ^ (7 * x.1) ∧ vgetF (10 - x.1) x.1 x.2 b = (k, n, q) ∧ Mem g w L) (fun x => 10 - x.1) ((0, 0)) ?_ ?_ ?_
  · exact ⟨rfl, rfl, trivial⟩
  · exact ⟨Nat.zero_le _, by decide, hk, hs⟩
  clear hs
  rintro x ξ w hI
  obtain ⟨i, s⟩ := x
  obtain ⟨hi, hsm, hv, hs⟩ := hI
  simp only at hi hsm hv hs
  show cw _ _ _ _ _ _ (updL (mix _ ξ _) [(8, .int .i64 (i : Nat)), (5, .int .u64 (s : Nat))]) w
  refine zA5 (zA1 ?_)
  refine zA rfl (zB4 rfl rfl) ?_
  refine zA4 ?_
  refine zA5 ?_
  refine zB7 rfl ?_ ?_
  ·
   intro h9
   have g9 := of_decide_eq_true h9
   rw [show 10 - i = (9 - i) + 1 by omega] at hv
   refine zAd ?_
   refine zA5 ?_
   refine zAt ?_
   refine zA5 (zA1 ?_)
   refine zA rfl (zA0 (v := .int .i64 _) rfl) ?_
   refine zA rfl (zA2 (v := .int .i64 _) rfl) ?_
   refine zA4 ?_
   refine zA5 ?_
   refine zA5 (zA1 ?_)
   refine zA rfl (zA0 (v := .int .i64 _) rfl) ?_
   refine zA rfl (zA0 (v := .slice _ _ _) rfl) ?_
   refine zA rfl (zAw zBz rfl) ?_
   refine zA rfl (zCz rfl rfl) ?_
   refine zA4 ?_
   refine zB7 rfl ?_ ?_
   ·
    intro h14
    have g14 := of_decide_eq_true h14
    rw [vgetF_none (List.getElem?_eq_none (by omega))] at hv
    cases hv
    refine zA5 ?_
    refine zAz zBx hs ?_
    intro w tr hK
    replace hs := tr _ hs
    clear tr
    refine zA6 0 rfl rfl (fun w hs => zA7 zD1 rfl rfl (hE.cellW hs 101 (by decide) rfl)) hK ?_
    refine zA6 1 rfl rfl (fun w hs => zA2 (v := .int .u64 _) rfl) hK ?_
    refine zA6 2 rfl rfl (fun w hs => zA2 (v := .int .i64 _) rfl) hK ?_
    refine zA6 3 rfl rfl (fun w hs => zA2 (v := zAq ad _) rfl) hK ?_
    refine zAu (by kernel_rfl) ?_
    clear hK
    refine zAf ?_
    refine res3 (v := .int .u64 _) (v2 := .int .i64 _) (v3 := zAq ad _) rfl rfl rfl rfl ?_
    exact ⟨_, rfl, rfl, hs⟩
   ·
    intro h14
    have g14 := of_decide_eq_false h14
    obtain ⟨ch, hch⟩ : ∃ ch, b[i]? = some ch := ⟨_, List.getElem?_eq_getElem (by omega)⟩
    rw [zEp hch] at hv
    obtain ⟨b1, o1, rfl, _⟩ := hr.cells' hs (by rw [zAr]; omega)
    have hcb := UInt8.toNat_lt ch
    refine zAd ?_
    refine zA5 (zA1 ?_)
    refine zA rfl (zA0 (v := .slice _ _ _) rfl) ?_
    refine zA rfl (zA0 (v := .int .i64 _) rfl) ?_
    refine zA rfl (zBl zBz sz5 rfl rfl rfl (by omega) rfl) ?_
    refine zA rfl (zA7 uz5 rfl rfl (hr.cellAt hs (zEw hch))) ?_
    refine zA rfl (zA2 (v := .int .u8 _) rfl) ?_
    refine zA4 ?_
    refine zA5 ?_
    refine zA5 (zA1 ?_)
    refine zA rfl (zA0 (v := .int .i64 _) rfl) ?_
    refine zA rfl (zBu rfl rfl) ?_
    refine zA rfl (zA0 (v := .bool _) rfl) ?_
    refine zB8 (t := _) (d := 22) rfl ?_ ?_
    ·
     intro h21
     have g21 := of_decide_eq_true h21
     refine zAi rfl rfl h21 ?_
     refine zA rfl (zA0 (v := .int .u8 _) rfl) ?_
     refine zAi rfl rfl h21 ?_
     refine zA rfl (zBq rfl rfl) ?_
     refine zA rfl (zAj (v := .bool _) rfl h21 rfl) ?_
     refine zA4 ?_
     refine zB7 rfl ?_ ?_
     ·
      intro h24
      have g24 := of_decide_eq_true h24
      rw [if_pos ⟨by omega, by omega⟩] at hv
      cases hv
      refine zBk rfl ?_
      refine zA5 ?_
      refine zAz zBx hs ?_
      intro w tr hK
      replace hs := tr _ hs
      clear tr
      refine zA6 0 rfl rfl (fun w hs => zA7 zD1 rfl rfl (hE.cellW hs 103 (by decide) rfl)) hK ?_
      refine zA6 1 rfl rfl (fun w hs => zA2 (v := .int .u64 _) rfl) hK ?_
      refine zA6 2 rfl rfl (fun w hs => zA2 (v := .int .i64 _) rfl) hK ?_
      refine zA6 3 rfl rfl (fun w hs => zA2 (v := zAq ad _) rfl) hK ?_
      refine zAu (by kernel_rfl) ?_
      clear hK
      refine zAf ?_
      refine res3 (v := .int .u64 _) (v2 := .int .i64 _) (v3 := zAq ad _) rfl rfl rfl rfl ?_
      exact ⟨_, rfl, rfl, hs⟩
     ·
      intro h24
      have g24 := of_decide_eq_false h24
      rw [if_neg (by omega)] at hv
      have hc9 : i = 9 → ch.toNat ≤ 1 := fun _ => by omega
      obtain ⟨hx1, hx2, hx3⟩ := seven_in hsm (by omega) hc9
      refine zAd ?_
      refine zA5 (zA1 ?_)
      refine zA rfl (zA0 (v := .int .u64 _) rfl) ?_
      refine zA rfl (zA0 (v := .int .u8 _) rfl) ?_
      refine zA rfl (zE7 (v := .int .u8 ((ch.toNat % 128 : Nat) : Int)) (by simp) rfl rfl (by rw [← low7b ch]; rfl)) ?_
      refine zA rfl (zAo uz5 zC0 rfl (c := ((ch.toNat % 128 : Nat) : Int)) (by rw [zB6]; omega)) ?_
      refine zA rfl (zA0 (v := .int .i64 _) rfl) ?_
      refine zA rfl (zDz rfl rfl (c := ((7 * i : Nat) : Int)) (by omega) (inI (by omega) (by omega))) ?_
      refine zA rfl (run_shl rfl rfl (n := 7 * i) (c := ((ch.toNat % 128 * 2 ^ (7 * i) : Nat) : Int)) rfl (by show 7 * i ≤ 64; omega) (by rw [zB6, show ((ch.toNat % 128 : Nat) : Int) * 2 ^ (7 * i) = ((ch.toNat % 128 * 2 ^ (7 * i) : Nat) : Int) by push_cast; rfl]; omega)) ?_
      refine zA rfl (zE7 (v := .int .u64 ((s + ch.toNat % 128 * 2 ^ (7 * i) : Nat) : Int)) (by simp) rfl rfl (by rw [← or_add hsm, ← or_u64 s _ (by omega) hx2]; rfl)) ?_
      refine zA rfl (zA2 (v := .int .u64 _) rfl) ?_
      refine zA4 ?_
      refine zA5 ?_
      refine zA5 (zA1 ?_)
      refine zA rfl (zA0 (v := .int .u8 _) rfl) ?_
      refine zA rfl (zCz rfl rfl) ?_
      refine zA4 ?_
      refine zB7 rfl ?_ ?_
      ·
       intro h35
       have g35 := of_decide_eq_true h35
       rw [if_pos (by omega)] at hv
       refine zBk rfl ?_
       refine zA1 ?_
       refine zA rfl (zAn rfl rfl rfl (inI (by omega) (by omega))) ?_
       refine zA rfl (zA0 (v := .int .i64 _) rfl) ?_
       refine zA4 ?_
       exact ⟨(i + 1, s + ch.toNat % 128 * 2 ^ (7 * i)), by simp only; omega, ⟨by simp only; omega, hx3, by show vgetF (10 - (i + 1)) (i + 1) _ b = _; rw [show 10 - (i + 1) = 9 - i by omega]; exact hv, hs⟩, ⟨rfl, rfl, trivial⟩, by repeat (first | exact Out.mix _ _ _ | refine Out.updo rfl ?_ | refine Out.upd rfl ?_ | refine Out.mixIn rfl ?_)⟩
      ·
       intro h35
       have g35 := of_decide_eq_false h35
       rw [if_neg (by omega)] at hv
       refine zAd ?_
       refine zA5 ?_
       refine zA5 (zA1 ?_)
       refine zA rfl (zA0 (v := .int .i64 _) rfl) ?_
       refine zA rfl (zBq rfl rfl) ?_
       refine zA rfl (zA0 (v := .bool _) rfl) ?_
       refine zB8 (t := _) (d := 38) rfl ?_ ?_
       ·
        intro h37
        have g37 := of_decide_eq_true h37
        refine zAi rfl rfl h37 ?_
        refine zA rfl (zA0 (v := .int .u8 _) rfl) ?_
        refine zAi rfl rfl h37 ?_
        refine zA rfl (zBu rfl rfl) ?_
        refine zA rfl (zAj (v := .bool _) rfl h37 rfl) ?_
        refine zA4 ?_
        refine zB7 rfl ?_ ?_
        ·
         intro h40
         have g40 := of_decide_eq_true h40
         rw [if_pos ⟨by omega, by omega⟩] at hv
         cases hv
         refine zBk rfl ?_
         refine zA5 ?_
         refine zAz zBx hs ?_
         intro w tr hK
         replace hs := tr _ hs
         clear tr
         refine zA6 0 rfl rfl (fun w hs => zA7 zD1 rfl rfl (hE.cellW hs 103 (by decide) rfl)) hK ?_
         refine zA6 1 rfl rfl (fun w hs => zA2 (v := .int .u64 _) rfl) hK ?_
         refine zA6 2 rfl rfl (fun w hs => zA2 (v := .int .i64 _) rfl) hK ?_
         refine zA6 3 rfl rfl (fun w hs => zA2 (v := zAq ad _) rfl) hK ?_
         refine zAu (by kernel_rfl) ?_
         clear hK
         refine zAf ?_
         refine res3 (v := .int .u64 _) (v2 := .int .i64 _) (v3 := zAq ad _) rfl rfl rfl rfl ?_
         exact ⟨_, rfl, rfl, hs⟩
        ·
         intro h40
         have g40 := of_decide_eq_false h40
         rw [if_neg (by omega)] at hv
         cases hv
         refine zAd ?_
         refine zA5 (zA1 ?_)
         refine zA rfl (zA0 (v := .int .u64 _) rfl) ?_
         refine zA rfl (zA0 (v := .int .i64 _) rfl) ?_
         refine zA rfl (zAn rfl rfl rfl (inI (by omega) (by omega))) ?_
         refine zA rfl (zA2 (v := .int .u64 _) rfl) ?_
         refine zA rfl (zA2 (v := .int .i64 _) rfl) ?_
         refine zA rfl (zA2 (v := .nilIface) rfl) ?_
         refine zA4 ?_
         refine zAf ?_
         refine res3 (v := .int .u64 _) (v2 := .int .i64 _) (v3 := .nilIface) rfl rfl rfl rfl ?_
         exact ⟨_, rfl, (by rw [zB2]; rfl), hs⟩
       ·
        intro h37
        have g37 := of_decide_eq_false h37
        rw [if_neg (by omega)] at hv
        cases hv
        refine zAc rfl rfl rfl h37 ?_
        refine zAc rfl rfl rfl h37 ?_
        refine zA rfl (zAk (v := .bool _) rfl h37 rfl) ?_
        refine zA4 ?_
        refine zAv rfl rfl ?_
        refine zAd ?_
        refine zA5 (zA1 ?_)
        refine zA rfl (zA0 (v := .int .u64 _) rfl) ?_
        refine zA rfl (zA0 (v := .int .i64 _) rfl) ?_
        refine zA rfl (zAn rfl rfl rfl (inI (by omega) (by omega))) ?_
        refine zA rfl (zA2 (v := .int .u64 _) rfl) ?_
        refine zA rfl (zA2 (v := .int .i64 _) rfl) ?_
        refine zA rfl (zA2 (v := .nilIface) rfl) ?_
        refine zA4 ?_
        refine zAf ?_
        refine res3 (v := .int .u64 _) (v2 := .int .i64 _) (v3 := .nilIface) rfl rfl rfl rfl ?_
        exact ⟨_, rfl, (by rw [zB2]; rfl), hs⟩
    ·
     intro h21
     have g21 := of_decide_eq_false h21
     rw [if_neg (by omega)] at hv
     have hc9 : i = 9 → ch.toNat ≤ 1 := fun h => by omega
     obtain ⟨hx1, hx2, hx3⟩ := seven_in hsm (by omega) hc9
     refine zAc rfl rfl rfl h21 ?_
     refine zAc rfl rfl rfl h21 ?_
     refine zA rfl (zAk (v := .bool _) rfl h21 rfl) ?_
     refine zA4 ?_
     refine zAv rfl rfl ?_
     refine zAd ?_
     refine zA5 (zA1 ?_)
     refine zA rfl (zA0 (v := .int .u64 _) rfl) ?_
     refine zA rfl (zA0 (v := .int .u8 _) rfl) ?_
     refine zA rfl (zE7 (v := .int .u8 ((ch.toNat % 128 : Nat) : Int)) (by simp) rfl rfl (by rw [← low7b ch]; rfl)) ?_
     refine zA rfl (zAo uz5 zC0 rfl (c := ((ch.toNat % 128 : Nat) : Int)) (by rw [zB6]; omega)) ?_
     refine zA rfl (zA0 (v := .int .i64 _) rfl) ?_
     refine zA rfl (zDz rfl rfl (c := ((7 * i : Nat) : Int)) (by omega) (inI (by omega) (by omega))) ?_
     refine zA rfl (run_shl rfl rfl (n := 7 * i) (c := ((ch.toNat % 128 * 2 ^ (7 * i) : Nat) : Int)) rfl (by show 7 * i ≤ 64; omega) (by rw [zB6, show ((ch.toNat % 128 : Nat) : Int) * 2 ^ (7 * i) = ((ch.toNat % 128 * 2 ^ (7 * i) : Nat) : Int) by push_cast; rfl]; omega)) ?_
     refine zA rfl (zE7 (v := .int .u64 ((s + ch.toNat % 128 * 2 ^ (7 * i) : Nat) : Int)) (by simp) rfl rfl (by rw [← or_add hsm, ← or_u64 s _ (by omega) hx2]; rfl)) ?_
     refine zA rfl (zA2 (v := .int .u64 _) rfl) ?_
     refine zA4 ?_
     refine zA5 ?_
     refine zA5 (zA1 ?_)
     refine zA rfl (zA0 (v := .int .u8 _) rfl) ?_
     refine zA rfl (zCz rfl rfl) ?_
     refine zA4 ?_
     refine zB7 rfl ?_ ?_
     ·
      intro h35
      have g35 := of_decide_eq_true h35
      rw [if_pos (by omega)] at hv
      refine zBk rfl ?_
      refine zA1 ?_
      refine zA rfl (zAn rfl rfl rfl (inI (by omega) (by omega))) ?_
      refine zA rfl (zA0 (v := .int .i64 _) rfl) ?_
      refine zA4 ?_
      exact ⟨(i + 1, s + ch.toNat % 128 * 2 ^ (7 * i)), by simp only; omega, ⟨by simp only; omega, hx3, by show vgetF (10 - (i + 1)) (i + 1) _ b = _; rw [show 10 - (i + 1) = 9 - i by omega]; exact hv, hs⟩, ⟨rfl, rfl, trivial⟩, by repeat (first | exact Out.mix _ _ _ | refine Out.updo rfl ?_ | refine Out.upd rfl ?_ | refine Out.mixIn rfl ?_)⟩
     ·
      intro h35
      have g35 := of_decide_eq_false h35
      rw [if_neg (by omega)] at hv
      refine zAd ?_
      refine zA5 ?_
      refine zA5 (zA1 ?_)
      refine zA rfl (zA0 (v := .int .i64 _) rfl) ?_
      refine zA rfl (zBq rfl rfl) ?_
      refine zA rfl (zA0 (v := .bool _) rfl) ?_
      refine zB8 (t := _) (d := 38) rfl ?_ ?_
      ·
       intro h37
       have g37 := of_decide_eq_true h37
       refine zAi rfl rfl h37 ?_
       refine zA rfl (zA0 (v := .int .u8 _) rfl) ?_
       refine zAi rfl rfl h37 ?_
       refine zA rfl (zBu rfl rfl) ?_
       refine zA rfl (zAj (v := .bool _) rfl h37 rfl) ?_
       refine zA4 ?_
       refine zB7 rfl ?_ ?_
       ·
        intro h40
        have g40 := of_decide_eq_true h40
        rw [if_pos ⟨by omega, by omega⟩] at hv
        cases hv
        refine zBk rfl ?_
        refine zA5 ?_
        refine zAz zBx hs ?_
        intro w tr hK
        replace hs := tr _ hs
        clear tr
        refine zA6 0 rfl rfl (fun w hs => zA7 zD1 rfl rfl (hE.cellW hs 103 (by decide) rfl)) hK ?_
        refine zA6 1 rfl rfl (fun w hs => zA2 (v := .int .u64 _) rfl) hK ?_
        refine zA6 2 rfl rfl (fun w hs => zA2 (v := .int .i64 _) rfl) hK ?_
        refine zA6 3 rfl rfl (fun w hs => zA2 (v := zAq ad _) rfl) hK ?_
        refine zAu (by kernel_rfl) ?_
        clear hK
        refine zAf ?_
        refine res3 (v := .int .u64 _) (v2 := .int .i64 _) (v3 := zAq ad _) rfl rfl rfl rfl ?_
        exact ⟨_, rfl, rfl, hs⟩
       ·
        intro h40
        have g40 := of_decide_eq_false h40
        rw [if_neg (by omega)] at hv
        cases hv
        refine zAd ?_
        refine zA5 (zA1 ?_)
        refine zA rfl (zA0 (v := .int .u64 _) rfl) ?_
        refine zA rfl (zA0 (v := .int .i64 _) rfl) ?_
        refine zA rfl (zAn rfl rfl rfl (inI (by omega) (by omega))) ?_
        refine zA rfl (zA2 (v := .int .u64 _) rfl) ?_
        refine zA rfl (zA2 (v := .int .i64 _) rfl) ?_
        refine zA rfl (zA2 (v := .nilIface) rfl) ?_
        refine zA4 ?_
        refine zAf ?_
        refine res3 (v := .int .u64 _) (v2 := .int .i64 _) (v3 := .nilIface) rfl rfl rfl rfl ?_
        exact ⟨_, rfl, (by rw [zB2]; rfl), hs⟩
      ·
       intro h37
       have g37 := of_decide_eq_false h37
       rw [if_neg (by omega)] at hv
       cases hv
       refine zAc rfl rfl rfl h37 ?_
       refine zAc rfl rfl rfl h37 ?_
       refine zA rfl (zAk (v := .bool _) rfl h37 rfl) ?_
       refine zA4 ?_
       refine zAv rfl rfl ?_
       refine zAd ?_
       refine zA5 (zA1 ?_)
       refine zA rfl (zA0 (v := .int .u64 _) rfl) ?_
       refine zA rfl (zA0 (v := .int .i64 _) rfl) ?_
       refine zA rfl (zAn rfl rfl rfl (inI (by omega) (by omega))) ?_
       refine zA rfl (zA2 (v := .int .u64 _) rfl) ?_
       refine zA rfl (zA2 (v := .int .i64 _) rfl) ?_
       refine zA rfl (zA2 (v := .nilIface) rfl) ?_
       refine zA4 ?_
       refine zAf ?_
       refine res3 (v := .int .u64 _) (v2 := .int .i64 _) (v3 := .nilIface) rfl rfl rfl rfl ?_
       exact ⟨_, rfl, (by rw [zB2]; rfl), hs⟩
  ·
   intro h9
   have g9 := of_decide_eq_false h9
   refine zBk rfl ?_
   refine zA5 ?_
   refine zAz zBx hs ?_
   intro w tr hK
   replace hs := tr _ hs
   clear tr
   refine zA6 0 rfl rfl (fun w hs => zA7 zD1 rfl rfl (hE.cellW hs 103 (by decide) rfl)) hK ?_
   refine zA6 1 rfl rfl (fun w hs => zA2 (v := .int .u64 _) rfl) hK ?_
   refine zA6 2 rfl rfl (fun w hs => zA2 (v := .int .i64 _) rfl) hK ?_
   refine zA6 3 rfl rfl (fun w hs => zA2 (v := zAq ad _) rfl) hK ?_
   refine zAu (by kernel_rfl) ?_
   clear hK
   refine zAf ?_
   refine res3 (v := .int .u64 _) (v2 := .int .i64 _) (v3 := zAq ad _) rfl rfl rfl rfl ?_
   obtain rfl : i = 10 := by omega
   cases hv
   exact ⟨_, rfl, rfl, hs⟩

/-! ### GetInt -/
def vgetI (b : List UInt8) : Nat × Int × Nat := ((vget b).1, zag (vget b).2.1, (vget b).2.2)
theorem vgetF_lt : ∀ {f i n : Nat} {b : List UInt8} {k m q : Nat}, i + f = 10 → n < 2 ^ (7 * i) → vgetF f i n b = (k, m, q) → m < 18446744073709551616
  | 0, _, _, _, _, _, _, _, _, h => by cases h; decide
  | f + 1, i, n, b, k, m, q, hi, hn, h => by
    cases hb : b[i]? with
    | none => rw [vgetF_none hb] at h; cases h; decide
    | some c =>
      rw [zEp hb] at h
      split at h
      · cases h; decide
      · rename_i h1
        have hx := seven_in hn (by omega) (fun e => by omega : i = 9 → c.toNat ≤ 1)
        split at h
        · exact vgetF_lt (by omega) hx.2.2 h
        · split at h
          · cases h; decide
          · cases h; exact hx.1
theorem vget_lt {b : List UInt8} {k m q : Nat} (h : vget b = (k, m, q)) : m < 18446744073709551616 := vgetF_lt rfl (by decide) h
theorem wrap_i64 {n : Int} (h : zE6 n) : IntKind.i64.wrap n = n := h.wrap
theorem xor_i64_0 (m : Nat) (h : m < 9223372036854775808) : bits .xor .i64 (m : Int) 0 = (m : Int) := by
  show IntKind.i64.wrap ((BitVec.ofInt 64 (m : Int) ^^^ BitVec.ofInt 64 0).toNat : Int) = _
  rw [show BitVec.ofInt 64 0 = 0#64 from rfl, BitVec.xor_zero, u64_nat m (by omega)]
  exact wrap_i64 ⟨by omega, by omega⟩
theorem xor_i64_1 (m : Nat) (h : m < 9223372036854775808) : bits .xor .i64 (m : Int) (-1) = -(m : Int) - 1 := by
  have hx : (BitVec.ofInt 64 (m : Int) ^^^ BitVec.ofInt 64 (-1)).toNat = 18446744073709551615 - m := by
    rw [show BitVec.ofInt 64 (-1) = BitVec.allOnes 64 from rfl, BitVec.xor_allOnes, BitVec.toNat_not, u64_nat m (by omega)]
  show IntKind.i64.wrap ((BitVec.ofInt 64 (m : Int) ^^^ BitVec.ofInt 64 (-1)).toNat : Int) = _
  rw [hx]
  simp only [IntKind.wrap, IntKind.bits, IntKind.signed]
  have h64 : (2 : Int) ^ 64 = 18446744073709551616 := by decide
  have h63 : (2 : Int) ^ (64 - 1) = 9223372036854775808 := by decide
  simp only [h64, h63]
  have e : ((18446744073709551615 - m : Nat) : Int) % 18446744073709551616 = 18446744073709551615 - (m : Int) := by omega
  simp only [e, Bool.true_and, decide_eq_true_eq]
  rw [if_pos (by omega)]
  omega
theorem zag_bits (n : Nat) (h : n < 18446744073709551616) : bits .xor .i64 ((n / 2 : Nat) : Int) (-((n % 2 : Nat) : Int)) = zag n := by
  unfold zag
  rcases Nat.mod_two_eq_zero_or_one n with h2 | h2
  · rw [h2, if_pos rfl]; exact xor_i64_0 _ (by omega)
  · rw [h2, if_neg (by decide)]; exact xor_i64_1 _ (by omega)
theorem vgetI_sl (hE : ErrW ad g) (hs : Mem g w L) {a : Option Addr} {m c : Nat} {b : List UInt8} (hr : Rd g L (.slice a m c) (zAm b)) (hm : m = b.length) (hlen : b.length ≤ 1073741824) {k q : Nat} {z : Int} (hk : vgetI b = (k, z, q)) :
    Calls Tryz.prog 171 #[.slice a m c] w (Ret fun v w' => v = .tuple #[.int .i64 z, .int .i64 q, zAq ad k] ∧ Mem g w' L) := by
  obtain ⟨k0, n, q0, hv⟩ : ∃ k n q, vget b = (k, n, q) := ⟨_, _, _, rfl⟩
  have hn := vget_lt hv
  simp only [vgetI, hv, Prod.mk.injEq] at hk
  obtain ⟨rfl, rfl, rfl⟩ := hk
  have hand : n &&& 1 = n % 2 := Nat.and_one_is_mod n
  refine zAl Tryz.func171 rfl rfl ?_
  skip
  refine zA5 (zA1 ?_)
  refine zA rfl (zA2 (v := .int .i64 _) rfl) ?_
  refine zA rfl (zA2 (v := .int .i64 _) rfl) ?_
  refine zA rfl (zA2 (v := .nilIface) rfl) ?_
  refine zA4 (zA5 (zA1 ?_))
  refine zA rfl (zA0 (v := .slice _ _ _) rfl) ?_
  refine zA9 rfl en109 (vget_sl hE hs hr hm hlen hv) ?_
  clear hs
  rintro _ w ⟨rfl, hs⟩
  refine zA rfl (zA0 (v := .tuple _) rfl) ?_
  refine zA rfl (zAa (v := .int .u64 _) rfl rfl) ?_
  refine zA rfl (zAa (v := .int .i64 _) rfl rfl) ?_
  refine zA rfl (zAa (v := zAq ad _) rfl rfl) ?_
  refine zA rfl (zA2 (v := .int .u64 _) rfl) ?_
  refine zA rfl (zA2 (v := .int .i64 _) rfl) ?_
  refine zA rfl (zA2 (v := zAq ad _) rfl) ?_
  refine zA4 (zA5 (zA1 ?_))
  refine zA rfl (zA0 (v := .int .u64 _) rfl) ?_
  refine zA rfl (run_shr rfl rfl (n := 1) (c := ((n / 2 : Nat) : Int)) rfl (by decide) (by omega)) ?_
  refine zA rfl (zAo zC0 uz2 rfl (c := ((n / 2 : Nat) : Int)) (wrap_i64 ⟨by omega, by omega⟩)) ?_
  refine zA rfl (zA0 (v := .int .u64 _) rfl) ?_
  refine zA rfl (zE7 (v := .int .u64 ((n % 2 : Nat) : Int)) (by simp) rfl rfl (by rw [← hand, ← and_u64 n 1 hn (by decide)]; rfl)) ?_
  refine zA rfl (zAo zC0 uz2 rfl (c := ((n % 2 : Nat) : Int)) (wrap_i64 ⟨by omega, by omega⟩)) ?_
  refine zA rfl (run_neg64 rfl (c := -((n % 2 : Nat) : Int)) rfl (inI (by omega) (by omega))) ?_
  refine zA rfl (zE7 (v := .int .i64 (zag n)) (by simp) rfl rfl (by rw [← zag_bits n hn]; rfl)) ?_
  refine zA rfl (zA0 (v := .int .i64 _) rfl) ?_
  refine zA rfl (zA0 (v := zAq ad _) rfl) ?_
  refine zA rfl (zA2 (v := .int .i64 _) rfl) ?_
  refine zA rfl (zA2 (v := .int .i64 _) rfl) ?_
  refine zA rfl (zA2 (v := zAq ad _) rfl) ?_
  refine zA4 ?_
  refine zAf ?_
  refine res3 (v := .int .i64 _) (v2 := .int .i64 _) (v3 := zAq ad _) rfl rfl rfl rfl ?_
  exact ⟨_, rfl, rfl, hs⟩

/-! ### errors with a place -/
theorem run_neerr {ρ : Env} {dst : Option Tmp} {ty : TypeId} {pos : String} {aft : Array Edge} {x y : Operand} {u : TypeId} {Lc : List Nat} {B : Nat} (h : Errs Lc ad B w) {c d : Nat} (hc : c = 0 ∨ c ∈ Lc) (hd : d ∈ Lc) (hx : ev ρ x = zAq ad c) (hy : ev ρ y = zAq ad d) : (execOp (ev ρ) ⟨dst, .binOp .neq 27 x y u, ty, pos, aft, none⟩).run Tryz.prog w = .ok (.value (.bool (!decide (c = d)))) w := by
  have hgd := guard_code ad .neq 27 x y (w := w) c (h.pos d hd)
  simp only [execOp, hx, hy, Sem.run_bind, hgd, binOp_errN, equal_err h hc hd, Result.andThen_ok, Sem.run_pure]
/-- An error of the reader's: none, the bare one, or one with a place (in block eb). -/
def eV (ad : Nat → Addr) (c eb : Nat) : Value := if c = 0 then .nilIface else if c = 101 then zAq ad 101 else .iface 104 (.pointer (some ⟨eb, 0, none⟩))
theorem eV_0 (eb : Nat) : eV ad 0 eb = .nilIface := rfl
theorem eV_101 (eb : Nat) : eV ad 101 eb = zAq ad 101 := rfl
theorem eV_at {c : Nat} (h0 : c ≠ 0) (h1 : c ≠ 101) (eb : Nat) : eV ad c eb = .iface 104 (.pointer (some ⟨eb, 0, none⟩)) := by simp [eV, h0, h1]
section
variable {ρ : Env} {dst : Option Tmp} {ty : TypeId} {pos : String} {aft : Array Edge} {x : Operand} {u : TypeId} {c eb : Nat}
theorem run_eqE (hx : ev ρ x = eV ad c eb) : (execOp (ev ρ) ⟨dst, .binOp .eql 27 x (.const .nilIface) u, ty, pos, aft, none⟩).run Tryz.prog w = .ok (.value (.bool (decide (c = 0)))) w := by
  unfold eV at hx
  split at hx
  · rename_i h; subst h; exact zE8 hx
  · rename_i h
    split at hx
    · rename_i h1; subst h1; exact zCn hx
    · rw [decide_eq_false h]
      have hy : ev ρ (.const .nilIface) = .nilIface := rfl
      have hg : (eqGuard .eql 27 x (.const .nilIface) (.iface 104 (.pointer (some ⟨eb, 0, none⟩))) .nilIface).run Tryz.prog w = .ok () w := by cases x <;> rfl
      have hb : binOp .eql 27 (.iface 104 (.pointer (some ⟨eb, 0, none⟩))) .nilIface = (do pure (.bool (← Op.equal 27 (.iface 104 (.pointer (some ⟨eb, 0, none⟩))) .nilIface))) := rfl
      have he : (Op.equal 27 (.iface 104 (.pointer (some ⟨eb, 0, none⟩))) .nilIface).run Tryz.prog w = .ok false w := by
        show (Op.equalIn 10000 _ _ _).run Tryz.prog w = _
        rw [Op.equalIn]
        simp [run_underlying zD1]
      simp only [execOp, hx, hy, Sem.run_bind, hg, hb, he, Result.andThen_ok, Sem.run_pure]
theorem run_neE (hx : ev ρ x = eV ad c eb) : (execOp (ev ρ) ⟨dst, .binOp .neq 27 x (.const .nilIface) u, ty, pos, aft, none⟩).run Tryz.prog w = .ok (.value (.bool (!decide (c = 0)))) w := by
  unfold eV at hx
  split at hx
  · rename_i h; subst h; exact zBi hx
  · rename_i h
    split at hx
    · rename_i h1; subst h1; exact zAy hx
    · rw [decide_eq_false h]
      have hy : ev ρ (.const .nilIface) = .nilIface := rfl
      have hg : (eqGuard .neq 27 x (.const .nilIface) (.iface 104 (.pointer (some ⟨eb, 0, none⟩))) .nilIface).run Tryz.prog w = .ok () w := by cases x <;> rfl
      have hb : binOp .neq 27 (.iface 104 (.pointer (some ⟨eb, 0, none⟩))) .nilIface = (do pure (.bool (!(← Op.equal 27 (.iface 104 (.pointer (some ⟨eb, 0, none⟩))) .nilIface)))) := rfl
      have he : (Op.equal 27 (.iface 104 (.pointer (some ⟨eb, 0, none⟩))) .nilIface).run Tryz.prog w = .ok false w := by
        show (Op.equalIn 10000 _ _ _).run Tryz.prog w = _
        rw [Op.equalIn]
        simp [run_underlying zD1]
      simp only [execOp, hx, hy, Sem.run_bind, hg, hb, he, Result.andThen_ok, Sem.run_pure]
end
/-- What a placed error points at. -/
def errC (ad : Nat → Addr) (eb at_ c : Nat) : HP := if c = 0 ∨ c = 101 then emp else cells eb [.int .i64 at_, zAq ad c] 109
theorem emp_ok (w : World) : emp.ok (fun _ => False) w := fun _ h => h
theorem errC_bare {eb at_ c : Nat} (h : c = 0 ∨ c = 101) : errC ad eb at_ c = emp := if_pos h
theorem errC_at {eb at_ c : Nat} (h : ¬ (c = 0 ∨ c = 101)) : errC ad eb at_ c = cells eb [.int .i64 at_, zAq ad c] 109 := if_neg h
/-- The reader: its bytes, where it is, what was amiss. -/
def RdrC (rb : Nat) (ad : Nat → Addr) (b : List UInt8) (st : Nat × Nat) : HP := ex fun x : Option Addr × Nat × Nat => also (stars [cells rb [.slice x.1 b.length x.2.1, .int .i64 st.1, eV ad st.2 x.2.2] 171, own (.slice x.1 b.length x.2.1) (zAm b), errC ad x.2.2 st.1 st.2]) (st.1 ≤ b.length)
theorem Mem.openR {rb : Nat} {b : List UInt8} {st : Nat × Nat} (hs : Mem g w (RdrC rb ad b st :: L)) : st.1 ≤ b.length ∧ ∃ a c eb, b.length ≤ c ∧ Mem g w (cells rb [.slice a b.length c, .int .i64 st.1, eV ad st.2 eb] 171 :: own (.slice a b.length c) (zAm b) :: errC ad eb st.1 st.2 :: L) := by
  obtain ⟨⟨a, c, eb⟩, h⟩ := hs.unex
  obtain ⟨h1, h2⟩ := h.unalso
  have h3 := h2.unstars
  exact ⟨h1, a, c, eb, (h3.ownForm 1 rfl).2.1, h3⟩
theorem Mem.closeR {rb : Nat} {b : List UInt8} {st : Nat × Nat} {a : Option Addr} {c eb : Nat} (hl : st.1 ≤ b.length) (hs : Mem g w (cells rb [.slice a b.length c, .int .i64 st.1, eV ad st.2 eb] 171 :: own (.slice a b.length c) (zAm b) :: errC ad eb st.1 st.2 :: L)) : Mem g w (RdrC rb ad b st :: L) :=
  Mem.ex (f := fun x : Option Addr × Nat × Nat => Go.Proofs.YtdkgdjnbpjjfmaaGreatDoor.also (Go.Proofs.YtdkgdjnbpjjfmaaGreatDoor.stars [cells rb [.slice x.1 b.length x.2.1, .int .i64 st.1, eV ad st.2 x.2.2] 171, own (.slice x.1 b.length x.2.1) (zAm b), errC ad x.2.2 st.1 st.2]) (st.1 ≤ b.length)) (a, c, eb) (Mem.also hl (Mem.stars (M := [cells rb [.slice a b.length c, .int .i64 st.1, eV ad st.2 eb] 171, own (.slice a b.length c) (zAm b), errC ad eb st.1 st.2]) hs))
theorem Mem.closeR0 {rb at_ e0 : Nat} {b : List UInt8} {a : Option Addr} {c eb : Nat} (hl : at_ ≤ b.length) (hs : Mem g w (cells rb [.slice a b.length c, .int .i64 at_, .nilIface] 171 :: own (.slice a b.length c) (zAm b) :: errC ad eb e0 0 :: L)) : Mem g w (RdrC rb ad b (at_, 0) :: L) :=
  Mem.closeR (st := (at_, 0)) (a := a) (c := c) (eb := 0) hl hs
attribute [local irreducible] eV
theorem newr_sl (ad : Nat → Addr) (hs : Mem g w L) {a : Option Addr} {m c : Nat} {b : List UInt8} (hr : Rd g L (.slice a m c) (zAm b)) (hm : m = b.length) (hlen : b.length ≤ 1073741824) :
    Calls Tryz.prog 68 #[.slice a m c] w (Ret fun v w' => ∃ rb, v = .pointer (some ⟨rb, 0, none⟩) ∧ Mem g w' (RdrC rb ad b (0, 0) :: L)) := by
  subst hm
  refine zAl Tryz.func68 rfl rfl ?_
  skip
  refine zA5 (zA1 ?_)
  refine zA rfl (zA2 (v := .pointer none) rfl) ?_
  refine zA4 (zA5 (zA1 ?_))
  refine zA rfl (zA0 (v := .slice _ _ _) rfl) ?_
  refine zA9 rfl en46 (zE9 hs (l := b) hr hlen) ?_
  clear hs
  rintro _ w ⟨a4, c4, rfl, hs⟩
  rw [zAr] at hs ⊢
  refine zA rfl (zCo (cs := [.slice a4 b.length c4, .int .i64 0, .nilIface]) zD0 ze171 pl171 rfl) ?_
  refine zCk (v := .agg _) hs rfl rfl ?_
  clear hs
  intro b6 w hs
  refine zA rfl (zA2 (v := .pointer (some _)) rfl) ?_
  refine zA4 ?_
  refine zAf ?_
  refine zBj (v := .pointer (some _)) rfl rfl ?_
  exact ⟨_, rfl, b6, rfl, Mem.closeR (st := (0, 0)) (a := a4) (c := c4) (eb := 0) (Nat.zero_le _) (by show Mem g w (cells b6 [_, _, eV ad 0 0] _ :: _ :: errC ad 0 0 0 :: L); rw [eV_0, errC_bare (.inl rfl)]; exact (hs.addE (emp_ok _)).arr [1, 2, 0] 3 (by decide))⟩
theorem err_sl {rb : Nat} {b : List UInt8} {st : Nat × Nat} (hs : Mem g w (RdrC rb ad b st :: L)) : Calls Tryz.prog 70 #[.pointer (some ⟨rb, 0, none⟩)] w (Ret fun v w' => ∃ eb, v = eV ad st.2 eb ∧ Mem g w' (RdrC rb ad b st :: L)) := by
  obtain ⟨hl, a, c, eb, hc, hs⟩ := hs.openR
  refine zAl Tryz.func70 rfl rfl ?_
  skip
  refine zA5 (zA1 ?_)
  refine zA rfl (zA2 (v := .nilIface) rfl) ?_
  refine zA4 (zA5 (zA1 ?_))
  refine zA rfl (zA0 (v := .pointer (some _)) rfl) ?_
  refine zA rfl (zA8 rfl) ?_
  refine zA rfl (zA3 (o' := 2) zD0 rfl sz27 rfl rfl rfl) ?_
  refine zA rfl (zA7 zD1 rfl rfl (hs.cellAt 0 rfl rfl)) ?_
  refine zA rfl (zA2 (v := eV ad _ _) rfl) ?_
  refine zA4 ?_
  refine zAf ?_
  refine zBj (v := eV ad _ _) rfl rfl ?_
  exact ⟨_, rfl, eb, rfl, Mem.closeR hl hs⟩
theorem left_sl {rb : Nat} {b : List UInt8} {st : Nat × Nat} (hs : Mem g w (RdrC rb ad b st :: L)) (hlen : b.length ≤ 1073741824) : Calls Tryz.prog 114 #[.pointer (some ⟨rb, 0, none⟩)] w (Ret fun v w' => v = .int .i64 ((b.length - st.1 : Nat) : Int) ∧ st.1 ≤ b.length ∧ Mem g w' (RdrC rb ad b st :: L)) := by
  obtain ⟨hl, a, c, eb, hc, hs⟩ := hs.openR
  refine zAl Tryz.func114 rfl rfl ?_
  skip
  refine zA5 (zA1 ?_)
  refine zA rfl (zA2 (v := .int .i64 _) rfl) ?_
  refine zA4 ?_
  refine zA5 ?_
  refine zAz zBx hs ?_
  intro w tr hK
  replace hs := tr _ hs
  clear tr
  refine zA6 0 rfl rfl (fun w hs => zA0 (v := .pointer (some _)) rfl) hK ?_
  refine zA6 1 rfl rfl (fun w hs => zA8 rfl) hK ?_
  refine zA6 2 rfl rfl (fun w hs => zA3 (o' := 0) zD0 rfl sz23 rfl rfl rfl) hK ?_
  refine zA6 3 rfl rfl (fun w hs => zA7 zBz rfl rfl (hs.cellAt 0 rfl rfl)) hK ?_
  refine zA6 4 rfl rfl (fun w hs => zAw zBz rfl) hK ?_
  refine zA6 5 rfl rfl (fun w hs => zA0 (v := .pointer (some _)) rfl) hK ?_
  refine zA6 6 rfl rfl (fun w hs => zA8 rfl) hK ?_
  refine zA6 7 rfl rfl (fun w hs => zA3 (o' := 1) zD0 rfl sz3 rfl rfl rfl) hK ?_
  refine zA6 8 rfl rfl (fun w hs => zA7 uz3 rfl rfl (hs.cellAt 0 rfl rfl)) hK ?_
  refine zA6 9 rfl rfl (fun w hs => zCj rfl rfl (c := ((b.length - st.1 : Nat) : Int)) (by omega) (inI (by omega) (by omega))) hK ?_
  refine zA6 10 rfl rfl (fun w hs => zA2 (v := .int .i64 _) rfl) hK ?_
  refine zAu (by kernel_rfl) ?_
  clear hK
  refine zAf ?_
  refine zBj (v := .int .i64 _) rfl rfl ?_
  exact ⟨_, rfl, rfl, hl, Mem.closeR hl hs⟩
theorem at_sl {rb : Nat} {b : List UInt8} {st : Nat × Nat} (hs : Mem g w (RdrC rb ad b st :: L)) : Calls Tryz.prog 72 #[.pointer (some ⟨rb, 0, none⟩)] w (Ret fun v w' => v = .int .i64 (st.1 : Nat) ∧ Mem g w' (RdrC rb ad b st :: L)) := by
  obtain ⟨hl, a, c, eb, hc, hs⟩ := hs.openR
  refine zAl Tryz.func72 rfl rfl ?_
  skip
  refine zA5 (zA1 ?_)
  refine zA rfl (zA2 (v := .int .i64 _) rfl) ?_
  refine zA4 (zA5 (zA1 ?_))
  refine zA rfl (zA0 (v := .pointer (some _)) rfl) ?_
  refine zA rfl (zA8 rfl) ?_
  refine zA rfl (zA3 (o' := 1) zD0 rfl sz3 rfl rfl rfl) ?_
  refine zA rfl (zA7 uz3 rfl rfl (hs.cellAt 0 rfl rfl)) ?_
  refine zA rfl (zA2 (v := .int .i64 _) rfl) ?_
  refine zA4 ?_
  refine zAf ?_
  refine zBj (v := .int .i64 _) rfl rfl ?_
  exact ⟨_, rfl, rfl, Mem.closeR hl hs⟩
/-- An error is noted. -/
theorem bad_sl (hE : ErrW ad g) {rb at_ : Nat} {b : List UInt8} {k : Nat} (hk : k ∈ vintCodes) (hs : Mem g w (RdrC rb ad b (at_, 0) :: L)) : Calls Tryz.prog 110 #[.pointer (some ⟨rb, 0, none⟩), .int .i64 at_, zAq ad k] w (Ret fun v w' => v = .tuple #[] ∧ Mem g w' (RdrC rb ad b (at_, k) :: L)) := by
  obtain ⟨hl, a, c, eb, hc, hs⟩ := hs.openR
  have hk0 : k ≠ 0 := fun e => by subst e; exact absurd hk (by decide)
  refine zAl Tryz.func110 rfl rfl ?_
  skip
  refine zA5 (zA1 ?_)
  refine zA rfl (zA0 (v := .pointer (some _)) rfl) ?_
  refine zA rfl (zA0 (v := .int .i64 _) rfl) ?_
  refine zA rfl (zA8 rfl) ?_
  refine zA rfl (zA3 (o' := 1) zD0 rfl sz3 rfl rfl rfl) ?_
  refine zAs (v := .int .i64 _) hs 0 rfl sz3 rfl rfl rfl rfl ?_
  clear hs
  intro w hs
  try simp only [List.set_cons_succ, List.set_cons_zero] at hs
  refine zA4 (zA5 (zA1 ?_))
  refine zA rfl (zA0 (v := .pointer (some _)) rfl) ?_
  refine zA rfl (zA0 (v := zAq ad _) rfl) ?_
  refine zA rfl (zA8 rfl) ?_
  refine zA rfl (zA3 (o' := 2) zD0 rfl sz27 rfl rfl rfl) ?_
  refine zAs (v := zAq ad k) hs 0 rfl sz27 rfl rfl rfl (errV_one ad k) ?_
  clear hs
  intro w hs
  simp only [List.set_cons_succ, List.set_cons_zero] at hs
  refine zA4 (zA5 (zA1 ?_))
  refine zA rfl (zA0 (v := zAq ad _) rfl) ?_
  refine zA rfl (zA7 zD1 rfl rfl (hE.cellW hs 101 (by decide) rfl)) ?_
  refine zA rfl (run_neerr (hE.atW hs) (.inr hk) (by decide) rfl rfl) ?_
  refine zA4 ?_
  refine zB7 rfl ?_ ?_
  ·
   intro h16
   have g16 := ne_t h16
   refine zA1 ?_
   refine zA rfl (zA0 (v := .pointer (some _)) rfl) ?_
   refine zA rfl (zA0 (v := .int .i64 _) rfl) ?_
   refine zA rfl (zA0 (v := zAq ad _) rfl) ?_
   refine zA rfl (zBf [.int .i64 at_, zAq ad k] uz109 ze109 pl109 rfl (at_one _ _) rfl rfl) ?_
   refine zCk (v := .agg _) hs rfl rfl ?_
   clear hs
   intro b21 w hs
   refine zA rfl (run_mkI uz104 rfl) ?_
   refine zA rfl (zA8 rfl) ?_
   refine zA rfl (zA3 (o' := 2) zD0 rfl sz27 rfl rfl rfl) ?_
   refine zAs (v := .iface _ (.pointer (some _))) hs 1 rfl sz27 rfl rfl rfl rfl ?_
   clear hs
   intro w hs
   try simp only [List.set_cons_succ, List.set_cons_zero] at hs
   refine zA4 ?_
   refine res0  rfl ?_
   have hne : k ≠ 101 := by simpa using h16
   refine ⟨_, rfl, rfl, Mem.closeR (st := (at_, k)) (a := a) (c := c) (eb := b21) hl ?_⟩
   rw [eV_at hk0 hne, errC_at (by omega)]
   exact hs.arr [1, 2, 0] 4 (by decide)
  ·
   intro h16
   have g16 := ne_f h16
   refine zAd ?_
   refine res0  rfl ?_
   have he : k = 101 := by simpa using h16
   subst he
   refine ⟨_, rfl, rfl, Mem.closeR (st := (at_, 101)) (a := a) (c := c) (eb := eb) hl ?_⟩
   rw [eV_101, errC_bare (.inr rfl)]
   exact hs
/-! ### Num, Int -/
theorem vgetF_q : ∀ {f i n : Nat} {b : List UInt8} {m q : Nat}, vgetF f i n b = (0, m, q) → q ≤ b.length
  | 0, _, _, _, _, _, h => by cases h
  | f + 1, i, n, b, m, q, h => by
    cases hb : b[i]? with
    | none => rw [vgetF_none hb] at h; cases h
    | some c =>
      have hlt := (List.getElem?_eq_some_iff.1 hb).1
      rw [zEp hb] at h
      split at h
      · cases h
      · split at h
        · exact vgetF_q h
        · split at h
          · cases h
          · cases h; omega
theorem vgetF_code : ∀ {f i n : Nat} {b : List UInt8} {k m q : Nat}, vgetF f i n b = (k, m, q) → k = 0 ∨ k = 101 ∨ k = 103
  | 0, _, _, _, _, _, _, h => by cases h; simp
  | f + 1, i, n, b, k, m, q, h => by
    cases hb : b[i]? with
    | none => rw [vgetF_none hb] at h; cases h; simp
    | some c =>
      rw [zEp hb] at h
      split at h
      · cases h; simp
      · split at h
        · exact vgetF_code h
        · split at h
          · cases h; simp
          · cases h; simp
def vnum (most : Nat) (b : List UInt8) (st : Nat × Nat) : Nat × Nat × Nat :=
  if st.2 ≠ 0 then (0, st) else if (vget (b.drop st.1)).1 ≠ 0 then (0, st.1, (vget (b.drop st.1)).1) else if most < (vget (b.drop st.1)).2.1 then (0, st.1, 105) else ((vget (b.drop st.1)).2.1, st.1 + (vget (b.drop st.1)).2.2, 0)
def vintS (b : List UInt8) (st : Nat × Nat) : Int × Nat × Nat :=
  if st.2 ≠ 0 then (0, st) else if (vgetI (b.drop st.1)).1 ≠ 0 then (0, st.1, (vgetI (b.drop st.1)).1) else ((vgetI (b.drop st.1)).2.1, st.1 + (vgetI (b.drop st.1)).2.2, 0)
theorem num_sl (hE : ErrW ad g) {rb : Nat} {b : List UInt8} {st : Nat × Nat} (hs : Mem g w (RdrC rb ad b st :: L)) (hlen : b.length ≤ 1073741824) {most n : Nat} {st2 : Nat × Nat} (hk : vnum most b st = (n, st2)) :
    Calls Tryz.prog 69 #[.pointer (some ⟨rb, 0, none⟩), .int .u64 most] w (Ret fun v w' => v = .int .u64 n ∧ Mem g w' (RdrC rb ad b st2 :: L)) := by
  obtain ⟨at_, code⟩ := st
  by_cases hc0 : code = 0
  · subst hc0
    obtain ⟨k, x, q, hv⟩ : ∃ k x q, vget (b.drop at_) = (k, x, q) := ⟨_, _, _, rfl⟩
    have hcode := vgetF_code hv
    obtain ⟨hl, a, c, eb, hc, hs⟩ := hs.openR
    simp only at hl
    simp only [vnum, hv] at hk
    rw [if_neg (by decide)] at hk
    simp only [eV_0] at hs
    refine zAl Tryz.func69 rfl rfl ?_
    skip
    refine zA5 (zA1 ?_)
    refine zA rfl (zA2 (v := .int .u64 _) rfl) ?_
    refine zA4 ?_
    refine zA5 ?_
    refine zA5 (zA1 ?_)
    refine zA rfl (zA0 (v := .pointer (some _)) rfl) ?_
    refine zA rfl (zA8 rfl) ?_
    refine zA rfl (zA3 (o' := 2) zD0 rfl sz27 rfl rfl rfl) ?_
    refine zA rfl (zA7 zD1 rfl rfl (hs.cellAt 0 rfl rfl)) ?_
    refine zA rfl (zBi rfl) ?_
    refine zA4 ?_
    refine zAv rfl (rfl) ?_
    refine zAd ?_
    refine zA5 ?_
    refine zAz zBx hs ?_
    intro w tr hK
    replace hs := tr _ hs
    clear tr
    refine zA6 0 rfl rfl (fun w hs => zA0 (v := .pointer (some _)) rfl) hK ?_
    refine zA6 1 rfl rfl (fun w hs => zA8 rfl) hK ?_
    refine zA6 2 rfl rfl (fun w hs => zA3 (o' := 0) zD0 rfl sz23 rfl rfl rfl) hK ?_
    refine zA6 3 rfl rfl (fun w hs => zA7 zBz rfl rfl (hs.cellAt 0 rfl rfl)) hK ?_
    refine zA6 4 rfl rfl (fun w hs => zA0 (v := .pointer (some _)) rfl) hK ?_
    refine zA6 5 rfl rfl (fun w hs => zA8 rfl) hK ?_
    refine zA6 6 rfl rfl (fun w hs => zA3 (o' := 1) zD0 rfl sz3 rfl rfl rfl) hK ?_
    refine zA6 7 rfl rfl (fun w hs => zA7 uz3 rfl rfl (hs.cellAt 0 rfl rfl)) hK ?_
    refine zA6 8 rfl rfl (fun w hs => zCv zBz sz5 rfl rfl (lo := at_) rfl (by omega)) hK ?_
    refine zAb [9] ?_
    refine ⟨⟨_, rfl, ?_⟩, trivial⟩
    refine zA9 rfl en109 (vget_sl hE hs (k := k) (n := x) (q := q) (b := (b.take b.length).drop at_) ((hs.rdOwn 1 rfl).subB hl (Nat.le_refl _)) (by simp) (by simp; omega) (by rw [List.take_length]; exact hv)) ?_
    clear hs
    rintro _ w ⟨rfl, hs⟩
    clear hK
    have hK := hs
    refine zA4 ⟨hK, ?_⟩
    refine zA6 10 rfl rfl (fun w hs => zA0 (v := .tuple _) rfl) hK ?_
    refine zA6 11 rfl rfl (fun w hs => zAa (v := .int .u64 _) rfl rfl) hK ?_
    refine zA6 12 rfl rfl (fun w hs => zAa (v := .int .i64 _) rfl rfl) hK ?_
    refine zA6 13 rfl rfl (fun w hs => zAa (v := zAq ad _) rfl rfl) hK ?_
    refine zA6 14 rfl rfl (fun w hs => zA2 (v := .int .u64 _) rfl) hK ?_
    refine zA6 15 rfl rfl (fun w hs => zA2 (v := .int .i64 _) rfl) hK ?_
    refine zA6 16 rfl rfl (fun w hs => zA2 (v := zAq ad _) rfl) hK ?_
    refine zAu (by kernel_rfl) ?_
    clear hK
    refine zA5 ?_
    refine zA5 (zA1 ?_)
    refine zA rfl (zA0 (v := zAq ad _) rfl) ?_
    refine zA rfl (zCn (ad := ad) rfl) ?_
    refine zA rfl (zA0 (v := .bool _) rfl) ?_
    refine zB8 (t := _) (d := 29) rfl ?_ ?_
    ·
     intro h28
     have g28 := of_decide_eq_true h28
     have hz := of_decide_eq_true h28
     subst hz
     rw [if_neg (by decide)] at hk
     refine zAi rfl rfl h28 ?_
     refine zA rfl (zA0 (v := .int .u64 _) rfl) ?_
     refine zAi rfl rfl h28 ?_
     refine zA rfl (zA0 (v := .int .u64 _) rfl) ?_
     refine zAi rfl rfl h28 ?_
     refine zA rfl (zBq rfl rfl) ?_
     refine zA rfl (zAj (v := .bool _) rfl h28 rfl) ?_
     refine zA4 ?_
     refine zB7 rfl ?_ ?_
     ·
      intro h32
      have g32 := of_decide_eq_true h32
      rw [if_pos (by omega)] at hk
      cases hk
      refine zA1 ?_
      refine zA rfl (zA7 zD1 rfl rfl (hE.cellW hs 105 (by decide) rfl)) ?_
      refine zA rfl (zA2 (v := zAq ad _) rfl) ?_
      refine zA4 ?_
      refine zA5 ?_
      refine zA5 (zA1 ?_)
      refine zA rfl (zA0 (v := zAq ad _) rfl) ?_
      refine zA rfl (zAy (ad := ad) rfl) ?_
      refine zA4 ?_
      refine zBa rfl (rfl) ?_
      refine zA5 (zA1 ?_)
      refine zA rfl (zA0 (v := .pointer (some _)) rfl) ?_
      refine zA rfl (zA0 (v := .pointer (some _)) rfl) ?_
      refine zA rfl (zA8 rfl) ?_
      refine zA rfl (zA3 (o' := 1) zD0 rfl sz3 rfl rfl rfl) ?_
      refine zA rfl (zA7 uz3 rfl rfl (hs.cellAt 0 rfl rfl)) ?_
      refine zA rfl (zA0 (v := zAq ad _) rfl) ?_
      refine zA9 rfl en110 (bad_sl hE (k := 105) (by decide) (Mem.closeR0 hl hs)) ?_
      clear hs
      rintro _ w ⟨rfl, hs⟩
      refine zA4 (zA5 (zA1 ?_))
      refine zA rfl (zA2 (v := .int .u64 _) rfl) ?_
      refine zA4 ?_
      refine zAf ?_
      refine zBj (v := .int .u64 _) rfl rfl ?_
      exact ⟨_, rfl, rfl, hs⟩
     ·
      intro h32
      have g32 := of_decide_eq_false h32
      rw [if_neg (by omega)] at hk
      cases hk
      refine zAd ?_
      refine zA5 ?_
      refine zA5 (zA1 ?_)
      refine zA rfl (zA0 (v := zAq ad _) rfl) ?_
      refine zA rfl (zAy (ad := ad) rfl) ?_
      refine zA4 ?_
      refine zAv rfl (rfl) ?_
      refine zAd ?_
      refine zA5 ?_
      have hq := vgetF_q hv
      rw [List.length_drop] at hq
      refine zA1 ?_
      refine zA rfl (zA0 (v := .pointer (some _)) rfl) ?_
      refine zA rfl (zA8 rfl) ?_
      refine zA rfl (zA3 (o' := 1) zD0 rfl sz3 rfl rfl rfl) ?_
      refine zA rfl (zA7 uz3 rfl rfl (hs.cellAt 0 rfl rfl)) ?_
      refine zA rfl (zA0 (v := .int .i64 _) rfl) ?_
      refine zA rfl (zAn rfl rfl (c := ((at_ + q : Nat) : Int)) (by omega) (inI (by omega) (by omega))) ?_
      refine zA rfl (zA8 rfl) ?_
      refine zA rfl (zA3 (o' := 1) zD0 rfl sz3 rfl rfl rfl) ?_
      refine zAs (v := .int .i64 _) hs 0 rfl sz3 rfl rfl rfl rfl ?_
      clear hs
      intro w hs
      try simp only [List.set_cons_succ, List.set_cons_zero] at hs
      refine zA4 (zA5 (zA1 ?_))
      refine zA rfl (zA0 (v := .int .u64 _) rfl) ?_
      refine zA rfl (zA2 (v := .int .u64 _) rfl) ?_
      refine zA4 ?_
      refine zAf ?_
      refine zBj (v := .int .u64 _) rfl rfl ?_
      exact ⟨_, rfl, rfl, Mem.closeR0 (by omega) hs⟩
    ·
     intro h28
     have g28 := of_decide_eq_false h28
     have hz := of_decide_eq_false h28
     rw [if_pos hz] at hk
     cases hk
     refine zAc rfl rfl rfl h28 ?_
     refine zAc rfl rfl rfl h28 ?_
     refine zAc rfl rfl rfl h28 ?_
     refine zA rfl (zAk (v := .bool _) rfl h28 rfl) ?_
     refine zA4 ?_
     refine zAv rfl rfl ?_
     refine zAd ?_
     refine zA5 ?_
     refine zA5 (zA1 ?_)
     refine zA rfl (zA0 (v := zAq ad _) rfl) ?_
     refine zA rfl (zAy (ad := ad) rfl) ?_
     refine zA4 ?_
     refine zBa rfl (by rw [decide_eq_false hz]; rfl) ?_
     refine zA5 (zA1 ?_)
     refine zA rfl (zA0 (v := .pointer (some _)) rfl) ?_
     refine zA rfl (zA0 (v := .pointer (some _)) rfl) ?_
     refine zA rfl (zA8 rfl) ?_
     refine zA rfl (zA3 (o' := 1) zD0 rfl sz3 rfl rfl rfl) ?_
     refine zA rfl (zA7 uz3 rfl rfl (hs.cellAt 0 rfl rfl)) ?_
     refine zA rfl (zA0 (v := zAq ad _) rfl) ?_
     refine zA9 rfl en110 (bad_sl hE (k := k) (by rcases hcode with h | h | h; exact absurd h hz; rw [h]; decide; rw [h]; decide) (Mem.closeR0 hl hs)) ?_
     clear hs
     rintro _ w ⟨rfl, hs⟩
     refine zA4 (zA5 (zA1 ?_))
     refine zA rfl (zA2 (v := .int .u64 _) rfl) ?_
     refine zA4 ?_
     refine zAf ?_
     refine zBj (v := .int .u64 _) rfl rfl ?_
     exact ⟨_, rfl, rfl, hs⟩
  · obtain ⟨hl, a, c, eb, hc, hs⟩ := hs.openR
    simp only [vnum] at hk
    rw [if_pos hc0] at hk
    cases hk
    refine zAl Tryz.func69 rfl rfl ?_
    skip
    refine zA5 (zA1 ?_)
    refine zA rfl (zA2 (v := .int .u64 _) rfl) ?_
    refine zA4 ?_
    refine zA5 ?_
    refine zA5 (zA1 ?_)
    refine zA rfl (zA0 (v := .pointer (some _)) rfl) ?_
    refine zA rfl (zA8 rfl) ?_
    refine zA rfl (zA3 (o' := 2) zD0 rfl sz27 rfl rfl rfl) ?_
    refine zA rfl (zA7 zD1 rfl rfl (hs.cellAt 0 rfl rfl)) ?_
    refine zA rfl (run_neE (ad := ad) rfl) ?_
    refine zA4 ?_
    refine zBa rfl (by rw [decide_eq_false hc0]; rfl) ?_
    refine zA5 (zA1 ?_)
    refine zA rfl (zA2 (v := .int .u64 _) rfl) ?_
    refine zA4 ?_
    refine zAf ?_
    refine zBj (v := .int .u64 _) rfl rfl ?_
    exact ⟨_, rfl, rfl, Mem.closeR hl hs⟩
end Go.Proofs.YtdkgdjnbpjjfmaaGreatDoor
namespace Go.Proofs.YtdkgdjnbpjjfmaaGreatDoor
set_option linter.all false
open Go.RowKit

theorem zag_zig {z : Int} (h : zE6 z) : zag (zig z) = z := by
  obtain ⟨h1, h2⟩ := h
  unfold zag zig
  split
  · split <;> omega
  · split <;> omega
def numsF : List Int → List UInt8
  | [] => []
  | z :: l => zB (zig z) ++ numsF l
def numsL (l : List Int) : List UInt8 := zB l.length ++ numsF l
/-- What was laid is read. -/
theorem vget_put : ∀ {f i n s : Nat} {b rest : List UInt8}, 1 ≤ f → i + f = 10 → n < 2 ^ (7 * f) → n < 2 ^ (64 - 7 * i) → (0 < i → 0 < n) → b.drop i = vputF f n ++ rest → vgetF f i s b = (0, s + n * 2 ^ (7 * i), i + (vputF f n).length)
  | 0, _, _, _, _, _, h, _, _, _, _, _ => by omega
  | f + 1, i, n, s, b, rest, _, hi, hn, hn2, hp, hb => by
    have hat : ∀ c l, b.drop i = c :: l → b[i]? = some c := fun c l h => by
      have := congrArg List.head? h
      simpa [List.head?_drop] using this
    by_cases h : n < 128
    · have e : vputF (f + 1) n = [UInt8.ofNat n] := by unfold vputF; rw [if_pos h]
      rw [e] at hb ⊢
      have hc := hat _ _ hb
      have hcn : (UInt8.ofNat n).toNat = n := by rw [UInt8.toNat_ofNat']; omega
      rw [zEp hc, hcn]
      have h9 : ¬ (i = 9 ∧ 1 < n) := fun ⟨e1, e2⟩ => by subst e1; simp at hn2; omega
      rw [if_neg h9, if_neg (by omega), if_neg (by omega), Nat.mod_eq_of_lt h]
      simp
    · have e : vputF (f + 1) n = UInt8.ofNat (n % 128 + 128) :: vputF f (n / 128) := by conv => lhs; unfold vputF; rw [if_neg h]
      rw [e] at hb ⊢
      have hc := hat _ _ hb
      have hcn : (UInt8.ofNat (n % 128 + 128)).toNat = n % 128 + 128 := by rw [UInt8.toNat_ofNat']; omega
      have hi9 : i < 9 := by
        refine Classical.byContradiction fun hge => ?_
        have : i = 9 := by omega
        subst this
        simp at hn2
        omega
      rw [zEp hc, hcn, if_neg (by omega), if_pos (by omega)]
      have h7 : 2 ^ (7 * (f + 1)) = 128 * 2 ^ (7 * f) := by rw [Nat.mul_add, Nat.pow_add]; omega
      have hq : n / 128 < 2 ^ (7 * f) := by rw [h7] at hn; exact Nat.div_lt_of_lt_mul hn
      have h8 : 2 ^ (64 - 7 * i) = 128 * 2 ^ (64 - 7 * (i + 1)) := by
        rw [show 64 - 7 * i = 7 + (64 - 7 * (i + 1)) by omega, Nat.pow_add]
      have hq2 : n / 128 < 2 ^ (64 - 7 * (i + 1)) := by rw [h8] at hn2; exact Nat.div_lt_of_lt_mul hn2
      have hd : b.drop (i + 1) = vputF f (n / 128) ++ rest := by
        have := congrArg (List.drop 1) hb
        simpa [List.drop_drop] using this
      have hf : 1 ≤ f := by
        refine Classical.byContradiction fun hge => ?_
        have : f = 0 := by omega
        subst this
        simp at hq
        omega
      rw [vget_put hf (by omega) hq hq2 (fun _ => by omega) hd]
      have h9 : 2 ^ (7 * (i + 1)) = 128 * 2 ^ (7 * i) := by rw [Nat.mul_add, Nat.pow_add]; omega
      have hm : (n % 128 + 128) % 128 = n % 128 := by omega
      rw [hm, h9, List.length_cons]
      have hn3 : n % 128 * 2 ^ (7 * i) + n / 128 * (128 * 2 ^ (7 * i)) = n * 2 ^ (7 * i) := by
        have := Nat.mod_add_div n 128
        calc n % 128 * 2 ^ (7 * i) + n / 128 * (128 * 2 ^ (7 * i)) = (n % 128 + 128 * (n / 128)) * 2 ^ (7 * i) := by rw [Nat.add_mul, Nat.mul_comm 128 (n / 128), Nat.mul_assoc]
          _ = n * 2 ^ (7 * i) := by rw [this]
      simp only [Prod.mk.injEq, true_and]
      constructor
      · omega
      · omega
theorem vget_app {n : Nat} (h : n < 18446744073709551616) (rest : List UInt8) : vget (zB n ++ rest) = (0, n, (zB n).length) := by
  have := vget_put (f := 10) (i := 0) (n := n) (s := 0) (b := zB n ++ rest) (rest := rest) (by decide) rfl (by show n < 2 ^ 70; omega) (by show n < 2 ^ 64; omega) (fun h => by omega) rfl
  simpa [vget, zB] using this
/-- Numbers are read, one behind the other. -/
def rloop : Nat → List UInt8 → Nat × Nat → List Int → List Int × Nat × Nat
  | 0, _, st, out => (out, st)
  | f + 1, b, st, out => if st.2 ≠ 0 then (out, st) else rloop f b (vintS b st).2 (out ++ [(vintS b st).1])
/-- The error's number, the numbers. -/
def rnums (b : List UInt8) : Nat × List Int :=
  let r := rloop (vnum 4096 b (0, 0)).1 b (vnum 4096 b (0, 0)).2 []
  if r.2.2 ≠ 0 then (r.2.2, []) else if r.2.1 < b.length then (104, []) else (0, r.1)
end Go.Proofs.YtdkgdjnbpjjfmaaGreatDoor
namespace Go.Proofs.YtdkgdjnbpjjfmaaGreatDoor
set_option linter.all false
open Go.RowKit
attribute [local irreducible] zAq eV
variable {g w : World} {L M : List HP} {ad : Nat → Addr} {rb at_ : Nat} {b rest : List UInt8}

theorem zBo (hE : ErrW ad g) (hs : Mem g w (RdrC rb ad b (at_, 0) :: L)) (hlen : b.length ≤ 1073741824) {n most : Nat} (hb : b.drop at_ = zB n ++ rest) (hn : n < 18446744073709551616) (hm : n ≤ most) :
    Calls Tryz.prog 69 #[.pointer (some ⟨rb, 0, none⟩), .int .u64 most] w (Ret fun v w' => v = .int .u64 n ∧ Mem g w' (RdrC rb ad b (at_ + (zB n).length, 0) :: L)) :=
  num_sl hE hs hlen (by simp only [vnum, hb, vget_app hn rest]; rw [if_neg (by decide), if_neg (by decide), if_neg (by omega)])
theorem errOK_sl (hs : Mem g w (RdrC rb ad b (at_, 0) :: L)) : Calls Tryz.prog 70 #[.pointer (some ⟨rb, 0, none⟩)] w (Ret fun v w' => v = .nilIface ∧ Mem g w' (RdrC rb ad b (at_, 0) :: L)) :=
  (err_sl hs).mono fun _ _ ⟨v, h1, eb, h2, h3⟩ => ⟨v, h1, by rw [h2, eV_0], h3⟩
theorem intOK_sl (hE : ErrW ad g) (hs : Mem g w (RdrC rb ad b (at_, 0) :: L)) (hlen : b.length ≤ 1073741824) {z f t : Int} (hb : b.drop at_ = zB (zig z) ++ rest) (hz : zE6 z) (hft : f ≤ z ∧ z ≤ t) :
    Calls Tryz.prog 144 #[.pointer (some ⟨rb, 0, none⟩), .int .i64 f, .int .i64 t] w (Ret fun v w' => v = .int .i64 z ∧ Mem g w' (RdrC rb ad b (at_ + (zB (zig z)).length, 0) :: L)) := by
  obtain ⟨hl, a, c, eb, hc, hs⟩ := hs.openR
  simp only at hl
  simp only [eV_0] at hs
  have hq := congrArg List.length hb
  rw [List.length_drop, List.length_append] at hq
  have hv : vgetI (b.drop at_) = (0, z, (zB (zig z)).length) := by simp [vgetI, hb, vget_app (zig_lt hz), zag_zig hz]
  refine zAl Tryz.func144 rfl rfl ?_
  skip
  refine zA5 (zA1 ?_)
  refine zA rfl (zA2 (v := .int .i64 _) rfl) ?_
  refine zA4 ?_
  refine zA5 ?_
  refine zA5 (zA1 ?_)
  refine zA rfl (zA0 (v := .pointer (some _)) rfl) ?_
  refine zA rfl (zA8 rfl) ?_
  refine zA rfl (zA3 (o' := 2) zD0 rfl sz27 rfl rfl rfl) ?_
  refine zA rfl (zA7 zD1 rfl rfl (hs.cellAt 0 rfl rfl)) ?_
  refine zA rfl (zBi rfl) ?_
  refine zA4 ?_
  refine zAv rfl (rfl) ?_
  refine zAd ?_
  refine zA5 ?_
  refine zAz zBx hs ?_
  intro w tr hK
  replace hs := tr _ hs
  clear tr
  refine zA6 0 rfl rfl (fun w hs => zA0 (v := .pointer (some _)) rfl) hK ?_
  refine zA6 1 rfl rfl (fun w hs => zA8 rfl) hK ?_
  refine zA6 2 rfl rfl (fun w hs => zA3 (o' := 0) zD0 rfl sz23 rfl rfl rfl) hK ?_
  refine zA6 3 rfl rfl (fun w hs => zA7 zBz rfl rfl (hs.cellAt 0 rfl rfl)) hK ?_
  refine zA6 4 rfl rfl (fun w hs => zA0 (v := .pointer (some _)) rfl) hK ?_
  refine zA6 5 rfl rfl (fun w hs => zA8 rfl) hK ?_
  refine zA6 6 rfl rfl (fun w hs => zA3 (o' := 1) zD0 rfl sz3 rfl rfl rfl) hK ?_
  refine zA6 7 rfl rfl (fun w hs => zA7 uz3 rfl rfl (hs.cellAt 0 rfl rfl)) hK ?_
  refine zA6 8 rfl rfl (fun w hs => zCv zBz sz5 rfl rfl (lo := at_) rfl (by omega)) hK ?_
  refine zAb [9] ?_
  refine ⟨⟨_, rfl, ?_⟩, trivial⟩
  refine zA9 rfl en171 (vgetI_sl hE hs (k := 0) (z := z) (q := (zB (zig z)).length) (b := (b.take b.length).drop at_) ((hs.rdOwn 1 rfl).subB hl (Nat.le_refl _)) (by simp) (by simp; omega) (by rw [List.take_length]; exact hv)) ?_
  clear hs
  rintro _ w ⟨rfl, hs⟩
  clear hK
  have hK := hs
  refine zA4 ⟨hK, ?_⟩
  refine zA6 10 rfl rfl (fun w hs => zA0 (v := .tuple _) rfl) hK ?_
  refine zA6 11 rfl rfl (fun w hs => zAa (v := .int .i64 _) rfl rfl) hK ?_
  refine zA6 12 rfl rfl (fun w hs => zAa (v := .int .i64 _) rfl rfl) hK ?_
  refine zA6 13 rfl rfl (fun w hs => zAa (v := zAq ad _) rfl rfl) hK ?_
  refine zA6 14 rfl rfl (fun w hs => zA2 (v := .int .i64 _) rfl) hK ?_
  refine zA6 15 rfl rfl (fun w hs => zA2 (v := .int .i64 _) rfl) hK ?_
  refine zA6 16 rfl rfl (fun w hs => zA2 (v := zAq ad _) rfl) hK ?_
  refine zAu (by kernel_rfl) ?_
  clear hK
  refine zA5 ?_
  refine zA5 (zA1 ?_)
  refine zA rfl (zA0 (v := zAq ad _) rfl) ?_
  refine zA rfl (zCn (ad := ad) rfl) ?_
  refine zA rfl (zA0 (v := .bool _) rfl) ?_
  refine zAi rfl rfl (rfl) ?_
  refine zA rfl (zA0 (v := .int .i64 _) rfl) ?_
  refine zAi rfl rfl (rfl) ?_
  refine zA rfl (zA0 (v := .int .i64 _) rfl) ?_
  refine zAi rfl rfl (rfl) ?_
  refine zA rfl (zB4 rfl rfl) ?_
  refine zAi rfl rfl (rfl) ?_
  refine zA rfl (zA0 (v := .bool _) rfl) ?_
  refine zAi rfl rfl (decide_eq_false (by omega)) ?_
  refine zA rfl (zA0 (v := .int .i64 _) rfl) ?_
  refine zAi rfl rfl (decide_eq_false (by omega)) ?_
  refine zA rfl (zA0 (v := .int .i64 _) rfl) ?_
  refine zAi rfl rfl (decide_eq_false (by omega)) ?_
  refine zA rfl (zBq rfl rfl) ?_
  refine zAi rfl rfl (rfl) ?_
  refine zA rfl (zAk (v := .bool _) rfl (decide_eq_false (by omega)) rfl) ?_
  refine zA rfl (zAj (v := .bool _) rfl (rfl) rfl) ?_
  refine zA4 ?_
  refine zAv rfl (decide_eq_false (by omega)) ?_
  refine zAd ?_
  refine zA5 ?_
  refine zA5 (zA1 ?_)
  refine zA rfl (zA0 (v := zAq ad _) rfl) ?_
  refine zA rfl (zAy (ad := ad) rfl) ?_
  refine zA4 ?_
  refine zAv rfl (rfl) ?_
  refine zAd ?_
  refine zA5 (zA1 ?_)
  refine zA rfl (zA0 (v := .pointer (some _)) rfl) ?_
  refine zA rfl (zA8 rfl) ?_
  refine zA rfl (zA3 (o' := 1) zD0 rfl sz3 rfl rfl rfl) ?_
  refine zA rfl (zA7 uz3 rfl rfl (hs.cellAt 0 rfl rfl)) ?_
  refine zA rfl (zA0 (v := .int .i64 _) rfl) ?_
  refine zA rfl (zAn rfl rfl (c := ((at_ + (zB (zig z)).length : Nat) : Int)) (by omega) (inI (by omega) (by omega))) ?_
  refine zA rfl (zA8 rfl) ?_
  refine zA rfl (zA3 (o' := 1) zD0 rfl sz3 rfl rfl rfl) ?_
  refine zAs (v := .int .i64 _) hs 0 rfl sz3 rfl rfl rfl rfl ?_
  clear hs
  intro w hs
  try simp only [List.set_cons_succ, List.set_cons_zero] at hs
  refine zA4 (zA5 (zA1 ?_))
  refine zA rfl (zA0 (v := .int .i64 _) rfl) ?_
  refine zA rfl (zA2 (v := .int .i64 _) rfl) ?_
  refine zA4 ?_
  refine zAf ?_
  refine zBj (v := .int .i64 _) rfl rfl ?_
  exact ⟨_, rfl, rfl, Mem.closeR0 (by omega) hs⟩
theorem shl0 (u : Nat) (hu : u < 256) : IntKind.u64.wrap ((u : Int) * 2 ^ 0) = (u : Int) := by rw [zB6]; omega
theorem fixOK_sl (hE : ErrW ad g) (hs : Mem g w (RdrC rb ad b (at_, 0) :: L)) (hlen : b.length ≤ 1073741824) {u : UInt8} (hb : b.drop at_ = u :: rest) :
    Calls Tryz.prog 111 #[.pointer (some ⟨rb, 0, none⟩), .int .i64 1] w (Ret fun v w' => v = .int .u64 (u.toNat : Nat) ∧ Mem g w' (RdrC rb ad b (at_ + 1, 0) :: L)) := by
  obtain ⟨hl, a, c, eb, hc, hs⟩ := hs.openR
  simp only at hl
  simp only [eV_0] at hs
  have hq := congrArg List.length hb
  rw [List.length_drop, List.length_cons] at hq
  have hut := u.toNat_lt
  refine zAl Tryz.func111 rfl rfl ?_
  skip
  refine zA5 (zA1 ?_)
  refine zA rfl (zA2 (v := .int .u64 _) rfl) ?_
  refine zA4 ?_
  refine zA5 ?_
  refine zA5 (zA1 ?_)
  refine zA rfl (zA0 (v := .pointer (some _)) rfl) ?_
  refine zA rfl (zA8 rfl) ?_
  refine zA rfl (zA3 (o' := 2) zD0 rfl sz27 rfl rfl rfl) ?_
  refine zA rfl (zA7 zD1 rfl rfl (hs.cellAt 0 rfl rfl)) ?_
  refine zA rfl (zBi rfl) ?_
  refine zA rfl (zA0 (v := .bool _) rfl) ?_
  refine zAi rfl rfl (rfl) ?_
  refine zA rfl (zA0 (v := .int .i64 _) rfl) ?_
  refine zAi rfl rfl (rfl) ?_
  refine zA rfl (zB4 rfl rfl) ?_
  refine zA rfl (zAk (v := .bool _) rfl (rfl) rfl) ?_
  refine zA rfl (zA0 (v := .bool _) rfl) ?_
  refine zAi rfl rfl (rfl) ?_
  refine zA rfl (zA0 (v := .int .i64 _) rfl) ?_
  refine zAi rfl rfl (rfl) ?_
  refine zA rfl (zBq rfl rfl) ?_
  refine zA rfl (zAk (v := .bool _) rfl (rfl) rfl) ?_
  refine zA4 ?_
  refine zAv rfl (rfl) ?_
  refine zAd ?_
  refine zA5 ?_
  refine zA5 ?_
  replace hs := Mem.closeR0 hl hs
  refine zA1 ?_
  refine zA rfl (zA0 (v := .int .i64 _) rfl) ?_
  refine zA rfl (zA0 (v := .pointer (some _)) rfl) ?_
  refine zA9 rfl en114 (left_sl hs hlen) ?_
  clear hs
  rintro _ w ⟨rfl, hl2, hs⟩
  obtain ⟨hl3, a3, c3, eb3, hc3, hs⟩ := hs.openR
  simp only [eV_0] at hs
  refine zA rfl (zBq rfl rfl) ?_
  refine zA4 ?_
  refine zAv rfl (decide_eq_false (by omega)) ?_
  refine zAd ?_
  refine zA5 (zA1 ?_)
  refine zA rfl (zA2 (v := .int .u64 _) rfl) ?_
  refine zA4 ?_
  refine zA5 ?_
  refine zA5 ?_
  refine zAz zBx hs ?_
  intro w tr hK
  replace hs := tr _ hs
  clear tr
  refine zA6 0 rfl rfl (fun w hs => zA0 (v := .pointer (some _)) rfl) hK ?_
  refine zA6 1 rfl rfl (fun w hs => zA8 rfl) hK ?_
  refine zA6 2 rfl rfl (fun w hs => zA3 (o' := 0) zD0 rfl sz23 rfl rfl rfl) hK ?_
  refine zA6 3 rfl rfl (fun w hs => zA7 zBz rfl rfl (hs.cellAt 0 rfl rfl)) hK ?_
  refine zA6 4 rfl rfl (fun w hs => zA0 (v := .pointer (some _)) rfl) hK ?_
  refine zA6 5 rfl rfl (fun w hs => zA8 rfl) hK ?_
  refine zA6 6 rfl rfl (fun w hs => zA3 (o' := 1) zD0 rfl sz3 rfl rfl rfl) hK ?_
  refine zA6 7 rfl rfl (fun w hs => zA7 uz3 rfl rfl (hs.cellAt 0 rfl rfl)) hK ?_
  refine zA6 8 rfl rfl (fun w hs => zA0 (v := .pointer (some _)) rfl) hK ?_
  refine zA6 9 rfl rfl (fun w hs => zA8 rfl) hK ?_
  refine zA6 10 rfl rfl (fun w hs => zA3 (o' := 1) zD0 rfl sz3 rfl rfl rfl) hK ?_
  refine zA6 11 rfl rfl (fun w hs => zA7 uz3 rfl rfl (hs.cellAt 0 rfl rfl)) hK ?_
  refine zA6 12 rfl rfl (fun w hs => zA0 (v := .int .i64 _) rfl) hK ?_
  refine zA6 13 rfl rfl (fun w hs => zAn rfl rfl (c := ((at_ + 1 : Nat) : Int)) (by omega) (inI (by omega) (by omega))) hK ?_
  refine zA6 14 rfl rfl (fun w hs => run_slice zBz sz5 rfl rfl rfl (lo := at_) (hi := at_ + 1) rfl rfl (by omega) (by omega)) hK ?_
  refine zA6 15 rfl rfl (fun w hs => zAw zBz rfl) hK ?_
  refine zA6 16 rfl rfl (fun w hs => zA0 (v := .int .i64 _) rfl) hK ?_
  refine zAu (by kernel_rfl) ?_
  clear hK
  obtain ⟨sa, sc, hsub⟩ : ∃ sa sc, subS a3 c3 at_ (at_ + 1) = .slice sa 1 sc := ⟨_, _, by unfold subS; rw [show at_ + 1 - at_ = 1 by omega]⟩
  have hrs := fun (L : List HP) => (Rd.own (g := g) (L := cells rb [.slice a3 b.length c3, .int .i64 (at_ : Nat), .nilIface] 171 :: own (.slice a3 b.length c3) (zAm b) :: L) 1 rfl).subB (show at_ ≤ at_ + 1 by omega) (show at_ + 1 ≤ b.length by omega)
  have hx1 : (b.take (at_ + 1)).drop at_ = [u] := by rw [List.drop_take, hb]; simp
  rw [hx1, hsub] at hrs
  rw [hsub]
  refine zAt ?_
  refine zBs (X := Nat) [5, 6, 7, 48, 49, 50, 51, 52, 53, 54, 55, 56, 57, 58, 59, 60] (fun k => [(5, .int .u64 ((if k = 0 then 0 else u.toNat : Nat) : Int)), (48, .int .i64 (k : Nat))]) (fun k w => k ≤ 1 ∧ Mem g w (cells rb [.slice a3 b.length c3, .int .i64 (at_ : Nat), .nilIface] 171 :: own (.slice a3 b.length c3) (zAm b) :: errC ad eb3 at_ 0 :: L)) (fun k => 1 - k) (0) ?_ ?_ ?_
  · exact ⟨rfl, rfl, trivial⟩
  · exact ⟨Nat.zero_le _, hs⟩
  clear hs
  rintro x ξ w hI
  obtain ⟨hk, hs⟩ := hI
  refine zA5 (zA1 ?_)
  refine zA rfl (zB4 rfl rfl) ?_
  refine zA4 ?_
  refine zA5 ?_
  refine zB7 rfl ?_ ?_
  ·
   intro h49
   have g49 := of_decide_eq_true h49
   obtain rfl : x = 0 := by omega
   obtain ⟨b1, o1, rfl, _⟩ := (hrs _).cells' hs (by simp [zAm])
   refine zAd ?_
   refine zA5 ?_
   refine zAt ?_
   refine zA5 (zA1 ?_)
   refine zA rfl (zA0 (v := .int .i64 _) rfl) ?_
   refine zA rfl (zBl zBz sz5 rfl rfl (i := 0) rfl (by decide) rfl) ?_
   refine zA rfl (zA7 uz5 rfl rfl ((hrs _).cellAt hs (zEw (l := [u]) (k := 0) rfl))) ?_
   refine zA rfl (zA2 (v := .int .i64 _) rfl) ?_
   refine zA rfl (zA2 (v := .int .u8 _) rfl) ?_
   refine zA4 ?_
   refine zA1 ?_
   refine zA rfl (zA0 (v := .int .u64 _) rfl) ?_
   refine zA rfl (zA0 (v := .int .u8 _) rfl) ?_
   refine zA rfl (zAo uz5 zC0 rfl (c := ((u.toNat : Nat) : Int)) (by rw [zB6]; omega)) ?_
   refine zA rfl (zA0 (v := .int .i64 _) rfl) ?_
   refine zA rfl (zDz rfl rfl (c := 0) rfl (inI (by omega) (by omega))) ?_
   refine zA rfl (run_shl rfl rfl (n := 0) (c := ((u.toNat : Nat) : Int)) rfl (by decide) (shl0 _ (by omega))) ?_
   refine zA rfl (zE7 (v := .int .u64 ((u.toNat : Nat) : Int)) (by simp) rfl rfl (by have h9 := or_u64 0 u.toNat (by decide) (by omega); rw [Nat.zero_or] at h9; exact (show _ = Result.ok (Value.int IntKind.u64 (bits .or .u64 ((0 : Nat) : Int) ((u.toNat : Nat) : Int))) _ from rfl).trans (by rw [h9]))) ?_
   refine zA rfl (zA2 (v := .int .u64 _) rfl) ?_
   refine zA4 ?_
   refine zA1 ?_
   refine zA rfl (zAn rfl rfl rfl (inI (by omega) (by omega))) ?_
   refine zA rfl (zA0 (v := .int .i64 _) rfl) ?_
   refine zA4 ?_
   exact ⟨1, by omega, ⟨by omega, hs⟩, ⟨rfl, rfl, trivial⟩, by repeat (first | exact Out.mix _ _ _ | refine Out.updo rfl ?_ | refine Out.upd rfl ?_ | refine Out.mixIn rfl ?_)⟩
  ·
   intro h49
   have g49 := of_decide_eq_false h49
   obtain rfl : x = 1 := by omega
   refine zBk rfl ?_
   refine zA5 (zA1 ?_)
   refine zA rfl (zA0 (v := .pointer (some _)) rfl) ?_
   refine zA rfl (zA8 rfl) ?_
   refine zA rfl (zA3 (o' := 1) zD0 rfl sz3 rfl rfl rfl) ?_
   refine zA rfl (zA7 uz3 rfl rfl (hs.cellAt 0 rfl rfl)) ?_
   refine zA rfl (zA0 (v := .int .i64 _) rfl) ?_
   refine zA rfl (zAn rfl rfl (c := ((at_ + 1 : Nat) : Int)) (by omega) (inI (by omega) (by omega))) ?_
   refine zA rfl (zA8 rfl) ?_
   refine zA rfl (zA3 (o' := 1) zD0 rfl sz3 rfl rfl rfl) ?_
   refine zAs (v := .int .i64 _) hs 0 rfl sz3 rfl rfl rfl rfl ?_
   clear hs
   intro w hs
   try simp only [List.set_cons_succ, List.set_cons_zero] at hs
   refine zA4 (zA5 (zA1 ?_))
   refine zA rfl (zA0 (v := .int .u64 _) rfl) ?_
   refine zA rfl (zA2 (v := .int .u64 _) rfl) ?_
   refine zA4 ?_
   refine zAf ?_
   refine zBj (v := .int .u64 _) rfl rfl ?_
   exact ⟨_, rfl, rfl, Mem.closeR0 (by omega) hs⟩
theorem bytesOK_sl (hE : ErrW ad g) (hs : Mem g w (RdrC rb ad b (at_, 0) :: L)) (hlen : b.length ≤ 1073741824) {l : List UInt8} {most : Nat} (hb : b.drop at_ = zB l.length ++ (l ++ rest)) (hm : l.length ≤ most) (hm2 : most ≤ 1000000000) :
    Calls Tryz.prog 112 #[.pointer (some ⟨rb, 0, none⟩), .int .i64 most] w (Ret fun v w' => ∃ s : SA, v = .slice s.1 l.length s.2 ∧ Mem g w' (own (.slice s.1 l.length s.2) (zAm l) :: RdrC rb ad b (at_ + (zB l.length).length + l.length, 0) :: L)) := by
  obtain ⟨hl, a, c, eb, hc, hs⟩ := hs.openR
  simp only at hl
  simp only [eV_0] at hs
  have hq := congrArg List.length hb
  rw [List.length_drop, List.length_append, List.length_append] at hq
  obtain ⟨vl, hvl⟩ : ∃ vl, vl = (zB l.length).length := ⟨_, rfl⟩
  have hx1 : (b.take (at_ + vl + l.length)).drop (at_ + vl) = l := by
    have h1 : b.drop (at_ + vl) = l ++ rest := by rw [← List.drop_drop, hb, hvl, List.drop_left]
    rw [List.drop_take, h1, show at_ + vl + l.length - (at_ + vl) = l.length by omega, List.take_left]
  refine zAl Tryz.func112 rfl rfl ?_
  skip
  refine zA5 (zA1 ?_)
  refine zA rfl (zA2 (v := .slice _ _ _) rfl) ?_
  refine zA4 (zA5 (zA1 ?_))
  refine zA rfl (zA0 (v := .pointer (some _)) rfl) ?_
  refine zA rfl (zA8 rfl) ?_
  refine zA rfl (zA3 (o' := 1) zD0 rfl sz3 rfl rfl rfl) ?_
  refine zA rfl (zA7 uz3 rfl rfl (hs.cellAt 0 rfl rfl)) ?_
  refine zA rfl (zA2 (v := .int .i64 _) rfl) ?_
  refine zA4 ?_
  replace hs := Mem.closeR0 hl hs
  refine zA5 (zA1 ?_)
  refine zA rfl (zA0 (v := .pointer (some _)) rfl) ?_
  refine zA rfl (zA0 (v := .int .i64 _) rfl) ?_
  refine zA rfl (run_max rfl rfl) ?_
  refine zA rfl (zAo uz3 zC0 rfl (c := ((most : Nat) : Int)) (by rw [zB6]; omega)) ?_
  refine zA9 rfl en69 (zBo hE hs hlen hb (by omega) hm) ?_
  clear hs
  rintro _ w ⟨rfl, hs⟩
  obtain ⟨hl2, a2, c2, eb2, hc2, hs⟩ := hs.openR
  simp only [eV_0] at hs
  rw [← hvl] at hs hl2 ⊢
  simp only at hl2
  refine zA rfl (zA2 (v := .int .u64 _) rfl) ?_
  refine zA4 ?_
  refine zA5 ?_
  refine zA5 (zA1 ?_)
  refine zA rfl (zA0 (v := .pointer (some _)) rfl) ?_
  refine zA rfl (zA8 rfl) ?_
  refine zA rfl (zA3 (o' := 2) zD0 rfl sz27 rfl rfl rfl) ?_
  refine zA rfl (zA7 zD1 rfl rfl (hs.cellAt 0 rfl rfl)) ?_
  replace hs := Mem.closeR0 hl2 hs
  refine zA rfl (zE8 rfl) ?_
  refine zA rfl (zA0 (v := .bool _) rfl) ?_
  refine zAi rfl rfl (rfl) ?_
  refine zA rfl (zA0 (v := .int .u64 _) rfl) ?_
  refine zAi rfl rfl (rfl) ?_
  refine zA rfl (zA0 (v := .pointer (some _)) rfl) ?_
  refine zAi rfl rfl (rfl) ?_
  refine zA9 rfl en114 (left_sl hs hlen) ?_
  clear hs
  rintro _ w ⟨rfl, hl3, hs⟩
  obtain ⟨hl4, a4, c4, eb4, hc4, hs⟩ := hs.openR
  simp only [eV_0] at hs
  refine zAi rfl rfl (rfl) ?_
  refine zA rfl (zAo uz3 zC0 rfl (c := ((b.length - (at_ + vl) : Nat) : Int)) (by rw [zB6]; omega)) ?_
  refine zAi rfl rfl (rfl) ?_
  refine zA rfl (zBq rfl rfl) ?_
  refine zA rfl (zAj (v := .bool _) rfl (rfl) rfl) ?_
  refine zA4 ?_
  refine zAv rfl (decide_eq_false (by omega)) ?_
  refine zAd ?_
  refine zA5 ?_
  refine zA5 (zA1 ?_)
  refine zA rfl (zA0 (v := .pointer (some _)) rfl) ?_
  refine zA rfl (zA8 rfl) ?_
  refine zA rfl (zA3 (o' := 2) zD0 rfl sz27 rfl rfl rfl) ?_
  refine zA rfl (zA7 zD1 rfl rfl (hs.cellAt 0 rfl rfl)) ?_
  refine zA rfl (zBi rfl) ?_
  refine zA4 ?_
  refine zAv rfl (rfl) ?_
  refine zAd ?_
  refine zA5 (zA1 ?_)
  refine zA rfl (zA0 (v := .pointer (some _)) rfl) ?_
  refine zA rfl (zA8 rfl) ?_
  refine zA rfl (zA3 (o' := 1) zD0 rfl sz3 rfl rfl rfl) ?_
  refine zA rfl (zA7 uz3 rfl rfl (hs.cellAt 0 rfl rfl)) ?_
  refine zA rfl (zA0 (v := .int .u64 _) rfl) ?_
  refine zA rfl (zAo zC0 uz3 rfl (c := ((l.length : Nat) : Int)) (zE6.wrap ⟨by omega, by omega⟩)) ?_
  refine zA rfl (zAn rfl rfl (c := ((at_ + vl + l.length : Nat) : Int)) (by omega) (inI (by omega) (by omega))) ?_
  refine zA rfl (zA8 rfl) ?_
  refine zA rfl (zA3 (o' := 1) zD0 rfl sz3 rfl rfl rfl) ?_
  refine zAs (v := .int .i64 _) hs 0 rfl sz3 rfl rfl rfl rfl ?_
  clear hs
  intro w hs
  try simp only [List.set_cons_succ, List.set_cons_zero] at hs
  refine zA4 ?_
  refine zA5 ?_
  refine zAz zBx hs ?_
  intro w tr hK
  replace hs := tr _ hs
  clear tr
  refine zA6 0 rfl rfl (fun w hs => zA0 (v := .pointer (some _)) rfl) hK ?_
  refine zA6 1 rfl rfl (fun w hs => zA8 rfl) hK ?_
  refine zA6 2 rfl rfl (fun w hs => zA3 (o' := 0) zD0 rfl sz23 rfl rfl rfl) hK ?_
  refine zA6 3 rfl rfl (fun w hs => zA7 zBz rfl rfl (hs.cellAt 0 rfl rfl)) hK ?_
  refine zA6 4 rfl rfl (fun w hs => zA0 (v := .pointer (some _)) rfl) hK ?_
  refine zA6 5 rfl rfl (fun w hs => zA8 rfl) hK ?_
  refine zA6 6 rfl rfl (fun w hs => zA3 (o' := 1) zD0 rfl sz3 rfl rfl rfl) hK ?_
  refine zA6 7 rfl rfl (fun w hs => zA7 uz3 rfl rfl (hs.cellAt 0 rfl rfl)) hK ?_
  refine zA6 8 rfl rfl (fun w hs => zA0 (v := .int .u64 _) rfl) hK ?_
  refine zA6 9 rfl rfl (fun w hs => zAo zC0 uz3 rfl (c := ((l.length : Nat) : Int)) (zE6.wrap ⟨by omega, by omega⟩)) hK ?_
  refine zA6 10 rfl rfl (fun w hs => zCj rfl rfl (c := ((at_ + vl : Nat) : Int)) (by omega) (inI (by omega) (by omega))) hK ?_
  refine zA6 11 rfl rfl (fun w hs => zA0 (v := .pointer (some _)) rfl) hK ?_
  refine zA6 12 rfl rfl (fun w hs => zA8 rfl) hK ?_
  refine zA6 13 rfl rfl (fun w hs => zA3 (o' := 1) zD0 rfl sz3 rfl rfl rfl) hK ?_
  refine zA6 14 rfl rfl (fun w hs => zA7 uz3 rfl rfl (hs.cellAt 0 rfl rfl)) hK ?_
  refine zA6 15 rfl rfl (fun w hs => run_slice zBz sz5 rfl rfl rfl (lo := at_ + vl) (hi := at_ + vl + l.length) rfl rfl (by omega) (by omega)) hK ?_
  refine zAb [16] ?_
  refine ⟨⟨_, rfl, ?_⟩, trivial⟩
  refine zA9 rfl en46 (zE9 hs (l := (b.take (at_ + vl + l.length)).drop (at_ + vl)) ((hs.rdOwn 1 rfl).subB (by omega) (by omega)) (by rw [hx1]; omega)) ?_
  clear hs
  rintro _ w ⟨a62, c62, rfl, hs⟩
  rw [hx1, zAr] at hs ⊢
  clear hK
  have hK := hs.tail
  refine zA4 ⟨hK, ?_⟩
  refine zA6 17 rfl rfl (fun w hs => zA2 (v := .slice _ _ _) rfl) hK ?_
  refine zAu (by kernel_rfl) ?_
  clear hK
  refine zAf ?_
  refine zBj (v := .slice _ _ _) rfl rfl ?_
  exact ⟨_, rfl, (a62, c62), rfl, (Mem.closeR0 (L := own _ _ :: L) (by omega) (hs.arr [1, 2, 3, 0] 4 (by decide))).arr [1, 0] 2 (by decide)⟩
end Go.Proofs.YtdkgdjnbpjjfmaaGreatDoor
namespace Go.Proofs.YtdkgdjnbpjjfmaaGreatDoor
set_option linter.all false
open Go.RowKit
attribute [local irreducible] zAq eV
variable {g w : World} {L M : List HP} {ad : Nat → Addr} {rb at_ : Nat} {b rest : List UInt8}

/-! ### numbers of so many bytes -/
def leR : Nat → Nat → List UInt8
  | 0, _ => []
  | k + 1, n => UInt8.ofNat n :: leR k (n / 256)
def valL : List UInt8 → Nat
  | [] => 0
  | c :: l => c.toNat + 256 * valL l
theorem zCp : ∀ k n, (leR k n).length = k
  | 0, _ => rfl
  | k + 1, n => by simp [leR, zCp k]
theorem valL_le : ∀ (k : Nat) {n : Nat}, n < 256 ^ k → valL (leR k n) = n
  | 0, n, h => by simp at h; simp [leR, valL, h]
  | k + 1, n, h => by
    have h1 : n / 256 < 256 ^ k := by rw [Nat.pow_succ] at h; exact Nat.div_lt_of_lt_mul (by rw [Nat.mul_comm]; exact h)
    have h2 := UInt8.toNat_ofNat' (n := n)
    simp only [leR, valL, valL_le k h1, h2]
    omega
theorem valL_snoc (c : UInt8) : ∀ l : List UInt8, valL (l ++ [c]) = valL l + c.toNat * 2 ^ (8 * l.length)
  | [] => by simp [valL]
  | a :: l => by
    have h1 : 2 ^ (8 * (l.length + 1)) = 256 * 2 ^ (8 * l.length) := by rw [Nat.mul_add, Nat.pow_add]; omega
    simp only [List.cons_append, valL, valL_snoc c l, List.length_cons]
    rw [h1, Nat.mul_left_comm c.toNat 256]
    generalize c.toNat * 2 ^ (8 * l.length) = z
    omega
theorem valL_lt : ∀ l : List UInt8, valL l < 2 ^ (8 * l.length)
  | [] => by simp [valL]
  | a :: l => by
    have h1 : 2 ^ (8 * (l.length + 1)) = 256 * 2 ^ (8 * l.length) := by rw [Nat.mul_add, Nat.pow_add]; omega
    have h2 := valL_lt l
    have h3 := a.toNat_lt
    simp only [valL, List.length_cons, h1]
    omega
theorem leR_snoc : ∀ (k n : Nat), leR (k + 1) n = leR k n ++ [UInt8.ofNat (n / 2 ^ (8 * k))]
  | 0, n => by simp [leR]
  | k + 1, n => by
    have h1 := leR_snoc k (n / 256)
    have h2 : n / 256 / 2 ^ (8 * k) = n / 2 ^ (8 * (k + 1)) := by rw [Nat.div_div_eq_div_mul, Nat.mul_add, Nat.pow_add, Nat.mul_comm]
    rw [h2] at h1
    show UInt8.ofNat n :: leR (k + 1) (n / 256) = _
    rw [h1]
    rfl

theorem little_sl (hs : Mem g w L) {n k : Nat} (hk : k ≤ 8) (hn : n < 18446744073709551616) : Calls Tryz.prog 81 #[.slice none 0 0, .int .u64 n, .int .i64 k] w (Ret fun v w' => ∃ s : SA, v = .slice s.1 (leR k n).length s.2 ∧ Mem g w' (own (.slice s.1 (leR k n).length s.2) (zAm (leR k n)) :: L)) := by
  refine zAl Tryz.func81 rfl rfl ?_
  skip
  refine zA5 (zA1 ?_)
  refine zA rfl (zA2 (v := .slice _ _ _) rfl) ?_
  refine zA4 ?_
  refine zA5 ?_
  refine zA5 ?_
  replace hs := hs.addE (zE3 _)
  refine zA1 ?_
  refine zA rfl (zA0 (v := .int .i64 _) rfl) ?_
  refine zA rfl (zA0 (v := .int .i64 _) rfl) ?_
  refine zA4 ?_
  refine zAt ?_
  refine zBs (X := Nat × SA) [0, 7, 9, 10, 11, 12, 13, 14, 15, 16, 17, 18, 19, 20] (fun q => [(0, .slice q.2.1 (leR q.1 n).length q.2.2), (9, .int .i64 (q.1 : Nat))]) (fun q w => q.1 ≤ k ∧ Mem g w (own (.slice q.2.1 (leR q.1 n).length q.2.2) (zAm (leR q.1 n)) :: L)) (fun q => k - q.1) ((0, (none, 0))) ?_ ?_ ?_
  · exact ⟨rfl, rfl, trivial⟩
  · exact ⟨Nat.zero_le _, hs⟩
  clear hs
  rintro x ξ w hI
  obtain ⟨i, s⟩ := x
  obtain ⟨hi, hs⟩ := hI
  simp only at hi hs
  show cw _ _ _ _ _ _ (updL (mix _ ξ _) [(0, .slice s.1 (leR i n).length s.2), (9, .int .i64 (i : Nat))]) w
  refine zA5 (zA1 ?_)
  refine zA rfl (zB4 rfl rfl) ?_
  refine zA4 ?_
  refine zA5 ?_
  refine zB7 rfl ?_ ?_
  ·
   intro h10
   have g10 := of_decide_eq_true h10
   have e1 := leR_snoc i n
   have hll := zCp i n
   refine zAd ?_
   refine zA5 ?_
   refine zAt ?_
   refine zA5 (zA1 ?_)
   refine zA rfl (zA0 (v := .int .i64 _) rfl) ?_
   refine zA rfl (zA2 (v := .int .i64 _) rfl) ?_
   refine zA4 ?_
   refine zA1 ?_
   refine zA rfl (zA0 (v := .slice _ _ _) rfl) ?_
   refine zA rfl (zA0 (v := .int .u64 _) rfl) ?_
   refine zA rfl (zA0 (v := .int .i64 _) rfl) ?_
   refine zA rfl (zDz rfl rfl (c := ((8 * i : Nat) : Int)) (by omega) (inI (by omega) (by omega))) ?_
   refine zA rfl (run_shr rfl rfl (n := 8 * i) (c := ((n / 2 ^ (8 * i) : Nat) : Int)) rfl (by show 8 * i ≤ 64; omega) (by push_cast; rfl)) ?_
   refine zA rfl (zAo zC0 uz5 rfl (c := (((UInt8.ofNat (n / 2 ^ (8 * i))).toNat : Nat) : Int)) (wrapB _)) ?_
   refine zC8 hs rfl ((zAm [UInt8.ofNat (n / 2 ^ (8 * i))])) zBz zs5 rfl (zEg (zBt _)) rfl rfl rfl ?_
   clear hs
   intro b18 w hs
   try simp only [List.set_cons_succ, List.set_cons_zero] at hs
   refine zCi hs rfl 1 rfl zBz in5 rfl rfl rfl (zC2 (P := Tryz.prog) zBz ((Rd.cells (n := 1) (cs := zAm [UInt8.ofNat (n / 2 ^ (8 * i))]) 0 rfl rfl).seq hs) (zBt _)) (by simp only [zAr, List.length_cons, List.length_nil]; omega) (by simp only [zAr, List.length_cons, List.length_nil]; omega) ?_
   clear hs
   intro a19 c19 w hs
   simp only [List.set_cons_succ, List.set_cons_zero] at hs
   refine zA rfl (zA2 (v := .slice _ _ _) rfl) ?_
   refine zA4 ?_
   refine zA1 ?_
   refine zA rfl (zAn rfl rfl rfl (inI (by omega) (by omega))) ?_
   refine zA rfl (zA0 (v := .int .i64 _) rfl) ?_
   refine zA4 ?_
   have e2 : (zAm (leR i n)).length + (zAm [UInt8.ofNat (n / 2 ^ (8 * i))]).length = (leR (i + 1) n).length := by rw [e1]; simp [zAr]
   have e3 : zAm (leR i n) ++ zAm [UInt8.ofNat (n / 2 ^ (8 * i))] = zAm (leR (i + 1) n) := by rw [e1, zCe]
   rw [e2, e3] at hs
   exact ⟨(i + 1, (a19, c19)), by simp only; omega, ⟨by simp only; omega, hs.tail⟩, ⟨by rw [← e2]; rfl, rfl, trivial⟩, by repeat (first | exact Out.mix _ _ _ | refine Out.updo rfl ?_ | refine Out.upd rfl ?_ | refine Out.mixIn rfl ?_)⟩
  ·
   intro h10
   have g10 := of_decide_eq_false h10
   refine zBk rfl ?_
   refine zA5 (zA1 ?_)
   refine zA rfl (zA0 (v := .slice _ _ _) rfl) ?_
   refine zA rfl (zA2 (v := .slice _ _ _) rfl) ?_
   refine zA4 ?_
   refine zAf ?_
   refine zBj (v := .slice _ _ _) rfl rfl ?_
   obtain rfl : i = k := by omega
   exact ⟨_, rfl, s, rfl, hs⟩
theorem shlN (u k : Nat) (hu : u < 256) (hk : k ≤ 7) : IntKind.u64.wrap ((u : Int) * 2 ^ (8 * k)) = ((u * 2 ^ (8 * k) : Nat) : Int) := by
  have h1 : 2 ^ (8 * k) ≤ 2 ^ 56 := Nat.pow_le_pow_right (by decide) (by omega)
  have h2 : u * 2 ^ (8 * k) ≤ 255 * 2 ^ 56 := Nat.mul_le_mul (by omega) h1
  rw [zB6]
  have h3 : ((u : Int) * 2 ^ (8 * k)) = ((u * 2 ^ (8 * k) : Nat) : Int) := by push_cast; rfl
  rw [h3]
  omega
theorem fixN_sl (hE : ErrW ad g) (hs : Mem g w (RdrC rb ad b (at_, 0) :: L)) (hlen : b.length ≤ 1073741824) {l : List UInt8} (hb : b.drop at_ = l ++ rest) {n : Nat} (hn : n = l.length) (h8 : n ≤ 8) :
    Calls Tryz.prog 111 #[.pointer (some ⟨rb, 0, none⟩), .int .i64 n] w (Ret fun v w' => v = .int .u64 (valL l : Nat) ∧ Mem g w' (RdrC rb ad b (at_ + n, 0) :: L)) := by
  subst hn
  obtain ⟨hl, a, c, eb, hc, hs⟩ := hs.openR
  simp only at hl
  simp only [eV_0] at hs
  have hq := congrArg List.length hb
  rw [List.length_drop, List.length_append] at hq
  refine zAl Tryz.func111 rfl rfl ?_
  skip
  refine zA5 (zA1 ?_)
  refine zA rfl (zA2 (v := .int .u64 _) rfl) ?_
  refine zA4 ?_
  refine zA5 ?_
  refine zA5 (zA1 ?_)
  refine zA rfl (zA0 (v := .pointer (some _)) rfl) ?_
  refine zA rfl (zA8 rfl) ?_
  refine zA rfl (zA3 (o' := 2) zD0 rfl sz27 rfl rfl rfl) ?_
  refine zA rfl (zA7 zD1 rfl rfl (hs.cellAt 0 rfl rfl)) ?_
  refine zA rfl (zBi rfl) ?_
  refine zA rfl (zA0 (v := .bool _) rfl) ?_
  refine zAi rfl rfl (rfl) ?_
  refine zA rfl (zA0 (v := .int .i64 _) rfl) ?_
  refine zAi rfl rfl (rfl) ?_
  refine zA rfl (zB4 rfl rfl) ?_
  refine zA rfl (zAk (v := .bool _) rfl (rfl) rfl) ?_
  refine zA rfl (zA0 (v := .bool _) rfl) ?_
  refine zAi rfl rfl (decide_eq_false (by omega)) ?_
  refine zA rfl (zA0 (v := .int .i64 _) rfl) ?_
  refine zAi rfl rfl (decide_eq_false (by omega)) ?_
  refine zA rfl (zBq rfl rfl) ?_
  refine zA rfl (zAk (v := .bool _) rfl (decide_eq_false (by omega)) rfl) ?_
  refine zA4 ?_
  refine zAv rfl (decide_eq_false (by omega)) ?_
  refine zAd ?_
  refine zA5 ?_
  refine zA5 ?_
  replace hs := Mem.closeR0 hl hs
  refine zA1 ?_
  refine zA rfl (zA0 (v := .int .i64 _) rfl) ?_
  refine zA rfl (zA0 (v := .pointer (some _)) rfl) ?_
  refine zA9 rfl en114 (left_sl hs hlen) ?_
  clear hs
  rintro _ w ⟨rfl, hl2, hs⟩
  obtain ⟨hl3, a3, c3, eb3, hc3, hs⟩ := hs.openR
  simp only [eV_0] at hs
  refine zA rfl (zBq rfl rfl) ?_
  refine zA4 ?_
  refine zAv rfl (decide_eq_false (by omega)) ?_
  refine zAd ?_
  refine zA5 (zA1 ?_)
  refine zA rfl (zA2 (v := .int .u64 _) rfl) ?_
  refine zA4 ?_
  refine zA5 ?_
  refine zA5 ?_
  refine zAz zBx hs ?_
  intro w tr hK
  replace hs := tr _ hs
  clear tr
  refine zA6 0 rfl rfl (fun w hs => zA0 (v := .pointer (some _)) rfl) hK ?_
  refine zA6 1 rfl rfl (fun w hs => zA8 rfl) hK ?_
  refine zA6 2 rfl rfl (fun w hs => zA3 (o' := 0) zD0 rfl sz23 rfl rfl rfl) hK ?_
  refine zA6 3 rfl rfl (fun w hs => zA7 zBz rfl rfl (hs.cellAt 0 rfl rfl)) hK ?_
  refine zA6 4 rfl rfl (fun w hs => zA0 (v := .pointer (some _)) rfl) hK ?_
  refine zA6 5 rfl rfl (fun w hs => zA8 rfl) hK ?_
  refine zA6 6 rfl rfl (fun w hs => zA3 (o' := 1) zD0 rfl sz3 rfl rfl rfl) hK ?_
  refine zA6 7 rfl rfl (fun w hs => zA7 uz3 rfl rfl (hs.cellAt 0 rfl rfl)) hK ?_
  refine zA6 8 rfl rfl (fun w hs => zA0 (v := .pointer (some _)) rfl) hK ?_
  refine zA6 9 rfl rfl (fun w hs => zA8 rfl) hK ?_
  refine zA6 10 rfl rfl (fun w hs => zA3 (o' := 1) zD0 rfl sz3 rfl rfl rfl) hK ?_
  refine zA6 11 rfl rfl (fun w hs => zA7 uz3 rfl rfl (hs.cellAt 0 rfl rfl)) hK ?_
  refine zA6 12 rfl rfl (fun w hs => zA0 (v := .int .i64 _) rfl) hK ?_
  refine zA6 13 rfl rfl (fun w hs => zAn rfl rfl (c := ((at_ + l.length : Nat) : Int)) (by omega) (inI (by omega) (by omega))) hK ?_
  refine zA6 14 rfl rfl (fun w hs => run_slice zBz sz5 rfl rfl rfl (lo := at_) (hi := at_ + l.length) rfl rfl (by omega) (by omega)) hK ?_
  refine zA6 15 rfl rfl (fun w hs => zAw zBz rfl) hK ?_
  refine zA6 16 rfl rfl (fun w hs => zA0 (v := .int .i64 _) rfl) hK ?_
  refine zAu (by kernel_rfl) ?_
  clear hK
  obtain ⟨sa, sc, hsub⟩ : ∃ sa sc, subS a3 c3 at_ (at_ + l.length) = .slice sa l.length sc := ⟨_, _, by unfold subS; rw [show at_ + l.length - at_ = l.length by omega]⟩
  have hrs := fun (L : List HP) => (Rd.own (g := g) (L := cells rb [.slice a3 b.length c3, .int .i64 (at_ : Nat), .nilIface] 171 :: own (.slice a3 b.length c3) (zAm b) :: L) 1 rfl).subB (show at_ ≤ at_ + l.length by omega) (show at_ + l.length ≤ b.length by omega)
  have hx1 : (b.take (at_ + l.length)).drop at_ = l := by rw [List.drop_take, hb, show at_ + l.length - at_ = l.length by omega, List.take_left]
  rw [hx1, hsub] at hrs
  rw [hsub]
  refine zAt ?_
  refine zBs (X := Nat) [5, 6, 7, 48, 49, 50, 51, 52, 53, 54, 55, 56, 57, 58, 59, 60] (fun k => [(5, .int .u64 ((valL (l.take k) : Nat) : Int)), (48, .int .i64 (k : Nat))]) (fun k w => k ≤ l.length ∧ Mem g w (cells rb [.slice a3 b.length c3, .int .i64 (at_ : Nat), .nilIface] 171 :: own (.slice a3 b.length c3) (zAm b) :: errC ad eb3 at_ 0 :: L)) (fun k => l.length - k) (0) ?_ ?_ ?_
  · exact ⟨rfl, rfl, trivial⟩
  · exact ⟨Nat.zero_le _, hs⟩
  clear hs
  rintro x ξ w hI
  obtain ⟨hk, hs⟩ := hI
  refine zA5 (zA1 ?_)
  refine zA rfl (zB4 rfl rfl) ?_
  refine zA4 ?_
  refine zA5 ?_
  refine zB7 rfl ?_ ?_
  ·
   intro h49
   have g49 := of_decide_eq_true h49
   obtain ⟨u, hu⟩ : ∃ u, l[x]? = some u := ⟨_, List.getElem?_eq_getElem (by omega)⟩
   have hut := u.toNat_lt
   have hx8 : x ≤ 7 := by omega
   have htl : (l.take x).length = x := by rw [List.length_take]; omega
   have hvs : valL (l.take (x + 1)) = valL (l.take x) + u.toNat * 2 ^ (8 * x) := by rw [List.take_add_one, hu]; have h9 := valL_snoc u (l.take x); rw [htl] at h9; exact h9
   have hvl : valL (l.take x) < 2 ^ (8 * x) := by have h9 := valL_lt (l.take x); rw [htl] at h9; exact h9
   have hv64 : valL (l.take x) < 18446744073709551616 := Nat.lt_of_lt_of_le hvl (Nat.le_trans (Nat.pow_le_pow_right (by decide) (show 8 * x ≤ 64 by omega)) (by decide))
   have hs64 : u.toNat * 2 ^ (8 * x) < 18446744073709551616 := Nat.lt_of_le_of_lt (Nat.mul_le_mul (show u.toNat ≤ 255 by omega) (Nat.pow_le_pow_right (by decide) (show 8 * x ≤ 56 by omega))) (by decide)
   obtain ⟨b1, o1, rfl, _⟩ := (hrs _).cells' hs (by rw [zAr]; omega)
   refine zAd ?_
   refine zA5 ?_
   refine zAt ?_
   refine zA5 (zA1 ?_)
   refine zA rfl (zA0 (v := .int .i64 _) rfl) ?_
   refine zA rfl (zBl zBz sz5 rfl rfl rfl (by omega) rfl) ?_
   refine zA rfl (zA7 uz5 rfl rfl ((hrs _).cellAt hs (zEw hu))) ?_
   refine zA rfl (zA2 (v := .int .i64 _) rfl) ?_
   refine zA rfl (zA2 (v := .int .u8 _) rfl) ?_
   refine zA4 ?_
   refine zA1 ?_
   refine zA rfl (zA0 (v := .int .u64 _) rfl) ?_
   refine zA rfl (zA0 (v := .int .u8 _) rfl) ?_
   refine zA rfl (zAo uz5 zC0 rfl (c := ((u.toNat : Nat) : Int)) (by rw [zB6]; omega)) ?_
   refine zA rfl (zA0 (v := .int .i64 _) rfl) ?_
   refine zA rfl (zDz rfl rfl (c := ((8 * x : Nat) : Int)) (by omega) (inI (by omega) (by omega))) ?_
   refine zA rfl (run_shl rfl rfl (n := 8 * x) (c := ((u.toNat * 2 ^ (8 * x) : Nat) : Int)) rfl (by show 8 * x ≤ 64; omega) (shlN _ _ (by omega) hx8)) ?_
   refine zA rfl (zE7 (v := .int .u64 ((valL (l.take (x + 1)) : Nat) : Int)) (by simp) rfl rfl (by have h9 := or_u64 (valL (l.take x)) (u.toNat * 2 ^ (8 * x)) hv64 hs64; rw [or_add hvl, ← hvs] at h9; exact (show _ = Result.ok (Value.int IntKind.u64 (bits .or .u64 ((valL (l.take x) : Nat) : Int) ((u.toNat * 2 ^ (8 * x) : Nat) : Int))) _ from rfl).trans (by rw [h9]))) ?_
   refine zA rfl (zA2 (v := .int .u64 _) rfl) ?_
   refine zA4 ?_
   refine zA1 ?_
   refine zA rfl (zAn rfl rfl rfl (inI (by omega) (by omega))) ?_
   refine zA rfl (zA0 (v := .int .i64 _) rfl) ?_
   refine zA4 ?_
   exact ⟨x + 1, by omega, ⟨by omega, hs⟩, ⟨rfl, rfl, trivial⟩, by repeat (first | exact Out.mix _ _ _ | refine Out.updo rfl ?_ | refine Out.upd rfl ?_ | refine Out.mixIn rfl ?_)⟩
  ·
   intro h49
   have g49 := of_decide_eq_false h49
   obtain rfl : x = l.length := by omega
   rw [List.take_length]
   refine zBk rfl ?_
   refine zA5 (zA1 ?_)
   refine zA rfl (zA0 (v := .pointer (some _)) rfl) ?_
   refine zA rfl (zA8 rfl) ?_
   refine zA rfl (zA3 (o' := 1) zD0 rfl sz3 rfl rfl rfl) ?_
   refine zA rfl (zA7 uz3 rfl rfl (hs.cellAt 0 rfl rfl)) ?_
   refine zA rfl (zA0 (v := .int .i64 _) rfl) ?_
   refine zA rfl (zAn rfl rfl (c := ((at_ + l.length : Nat) : Int)) (by omega) (inI (by omega) (by omega))) ?_
   refine zA rfl (zA8 rfl) ?_
   refine zA rfl (zA3 (o' := 1) zD0 rfl sz3 rfl rfl rfl) ?_
   refine zAs (v := .int .i64 _) hs 0 rfl sz3 rfl rfl rfl rfl ?_
   clear hs
   intro w hs
   try simp only [List.set_cons_succ, List.set_cons_zero] at hs
   refine zA4 (zA5 (zA1 ?_))
   refine zA rfl (zA0 (v := .int .u64 _) rfl) ?_
   refine zA rfl (zA2 (v := .int .u64 _) rfl) ?_
   refine zA4 ?_
   refine zAf ?_
   refine zBj (v := .int .u64 _) rfl rfl ?_
   exact ⟨_, rfl, by simp only [List.take_length], Mem.closeR0 (by omega) hs⟩
/-! ### entries -/
abbrev En := Int × Mf
def zFg (q : Nat) (e : En) : List UInt8 := leR 8 q ++ (UInt8.ofNat e.1.toNat :: mfB e.2)
def frame (q : Nat) (e : En) : List UInt8 := leR 4 (zBp (zFg q e)).length ++ zBp (zFg q e)
def EnOk (e : En) : Prop := mfF e.2 = (0, none) ∧ 1 ≤ e.1 ∧ e.1 ≤ 4 ∧ ∀ o ∈ e.2.obs, o.2.2 < 4294967296
theorem zG0 (q : Nat) (e : En) : (zFg q e).length = (mfB e.2).length + 9 := by simp [zFg, zCp]; omega
theorem frame_len (q : Nat) (e : En) : (frame q e).length = (mfB e.2).length + 17 := by simp [frame, zCp, zBw, zG0]; omega
theorem frame_le {q : Nat} {e : En} (h : EnOk e) : (frame q e).length ≤ 6021 := by
  have := zEr (mf_fine (x := e.2) (by rw [h.1])); have h2 : (mfB e.2).length = (mfBody e.2).length + 4 := zBw _
  rw [frame_len]; omega
theorem known_sl (hs : Mem g w L) (k : Int) : Calls Tryz.prog 79 #[.int .i64 k] w (Ret fun v w' => v = .bool (decide (1 ≤ k) && decide (k ≤ 4)) ∧ Mem g w' L) := by
  refine zAl Tryz.func79 rfl rfl ?_
  skip
  refine zA5 (zA1 ?_)
  refine zA rfl (zA2 (v := .bool _) rfl) ?_
  refine zA4 (zA5 (zA1 ?_))
  refine zA rfl (zA0 (v := .int .i64 _) rfl) ?_
  refine zA rfl (zCz rfl rfl) ?_
  refine zA rfl (zA0 (v := .bool _) rfl) ?_
  refine zB8 (t := _) (d := 5) rfl ?_ ?_
  ·
   intro h4
   have g4 := of_decide_eq_true h4
   refine zAi rfl rfl h4 ?_
   refine zA rfl (zA0 (v := .int .i64 _) rfl) ?_
   refine zAi rfl rfl h4 ?_
   refine zA rfl (zDx rfl rfl) ?_
   refine zA rfl (zAj (v := .bool _) rfl h4 rfl) ?_
   refine zA rfl (zA2 (v := .bool _) rfl) ?_
   refine zA4 ?_
   refine zAf ?_
   refine zBj (v := .bool _) rfl rfl ?_
   exact ⟨_, rfl, zCs (by first | (rw [decide_eq_true (by omega : (1 : Int) ≤ k)]; rfl) | (rw [decide_eq_false (by omega : ¬ (1 : Int) ≤ k)]; rfl)), hs⟩
  ·
   intro h4
   have g4 := of_decide_eq_false h4
   refine zAc rfl rfl rfl h4 ?_
   refine zAc rfl rfl rfl h4 ?_
   refine zA rfl (zAk (v := .bool _) rfl h4 rfl) ?_
   refine zA rfl (zA2 (v := .bool _) rfl) ?_
   refine zA4 ?_
   refine zAf ?_
   refine zBj (v := .bool _) rfl rfl ?_
   exact ⟨_, rfl, zCs (by first | (rw [decide_eq_true (by omega : (1 : Int) ≤ k)]; rfl) | (rw [decide_eq_false (by omega : ¬ (1 : Int) ≤ k)]; rfl)), hs⟩
set_option maxHeartbeats 1000000 in
theorem enBytes_sl (hE : ErrV ad g) (hs : Mem g w L) {q : Nat} (hq : q < 9223372036854775808) {k : Int} {x : Mf} {e o : SA} (hm : MfR g L x e o) (hk : EnOk (k, x)) : Calls Tryz.prog 38 #[.int .i64 q, .agg (.int .i64 k :: mfL x e o).toArray] w (Ret fun v w' => ∃ s : SA, v = .tuple #[.slice s.1 (frame q (k, x)).length s.2, .nilIface] ∧ Mem g w' (own (.slice s.1 (frame q (k, x)).length s.2) (zAm (frame q (k, x))) :: L)) := by
  obtain ⟨h0, hk1, hk2, hsu⟩ := hk
  simp only at h0 hk1 hk2 hsu
  have hml : (mfB x).length = (mfBody x).length + 4 := zBw _
  have hmb := zEr (mf_fine (x := x) (by rw [h0]))
  have h8 := zCp 8 q
  have hst : (UInt8.ofNat k.toNat).toNat = k.toNat := by rw [UInt8.toNat_ofNat']; omega
  refine zAl Tryz.func38 rfl rfl ?_
  skip
  refine zA5 (zA1 ?_)
  refine zCk (v := .agg _) hs rfl rfl ?_
  clear hs
  intro b3 w hs
  try simp only [List.set_cons_succ, List.set_cons_zero] at hs
  refine zA rfl (zA2 (v := .slice _ _ _) rfl) ?_
  refine zA rfl (zA2 (v := .nilIface) rfl) ?_
  refine zA4 ?_
  refine zA5 ?_
  refine zA5 (zA1 ?_)
  refine zA rfl (zA0 (v := .int .i64 _) rfl) ?_
  refine zA rfl (zB4 rfl rfl) ?_
  refine zA4 ?_
  refine zAv rfl (decide_eq_false (by omega)) ?_
  refine zAd ?_
  refine zA5 ?_
  refine zA5 (zA1 ?_)
  refine zA rfl (zA3 (o' := 0) zF1 rfl sz3 rfl rfl rfl) ?_
  refine zA rfl (zA7 uz3 rfl rfl (hs.cellAt 0 rfl rfl)) ?_
  refine zA9 rfl en79 (known_sl hs k) ?_
  clear hs
  rintro _ w ⟨rfl, hs⟩
  refine zA rfl (zBm rfl) ?_
  refine zA4 ?_
  refine zAv rfl (zBg ((by rw [decide_eq_true hk1, decide_eq_true hk2]; rfl))) ?_
  refine zAd ?_
  refine zA5 (zA1 ?_)
  refine zA rfl (zA3 (o' := 1) zF1 rfl zE0 rfl rfl rfl) ?_
  refine zA rfl (zCq hs 0 (mfL x e o) rfl zC3 zE0 rfl rfl) ?_
  refine zA9 rfl en80 (maniB_sl hE hs hm.cons h0 hsu) ?_
  clear hs
  rintro _ w ⟨a20, c20, rfl, hs⟩
  refine zA rfl (zA0 (v := .tuple _) rfl) ?_
  refine zA rfl (zAa (v := .slice _ _ _) rfl rfl) ?_
  refine zA rfl (zAa (v := .nilIface) rfl rfl) ?_
  refine zA rfl (zA2 (v := .slice _ _ _) rfl) ?_
  refine zA rfl (zA2 (v := .nilIface) rfl) ?_
  refine zA4 ?_
  refine zA5 ?_
  refine zA5 (zA1 ?_)
  refine zA rfl (zA0 (v := .nilIface) rfl) ?_
  refine zA rfl (zBi rfl) ?_
  refine zA4 ?_
  refine zAv rfl (rfl) ?_
  refine zAd ?_
  refine zA5 ?_
  refine zAz zBx hs ?_
  intro w tr hK
  replace hs := tr _ hs
  clear tr
  refine zA6 0 rfl rfl (fun w hs => zA0 (v := .int .i64 _) rfl) hK ?_
  refine zA6 1 rfl rfl (fun w hs => zAo uz2 zC0 rfl (c := ((q : Nat) : Int)) (by rw [zB6]; omega)) hK ?_
  refine zA6 3 rfl rfl (fun w hs => zA3 (o' := 0) zF1 rfl sz3 rfl rfl rfl) hK ?_
  refine zA6 4 rfl rfl (fun w hs => zA7 uz3 rfl rfl (hs.cellAt 1 rfl rfl)) hK ?_
  refine zA6 5 rfl rfl (fun w hs => zAo uz3 uz5 rfl (c := (((UInt8.ofNat k.toNat).toNat : Nat) : Int)) (by rw [← wrapB]; congr 1; omega)) hK ?_
  refine zAb [2, 6] ?_
  refine ⟨⟨_, rfl, ?_⟩, ⟨_, rfl, ?_⟩, trivial⟩
  ·
   refine zA9 rfl en81 (little_sl hs (n := q) (k := 8) (by decide) (by omega)) ?_
   clear hs
   rintro _ w ⟨s28, rfl, hs⟩
   clear hK
   have hK := hs.tail
   refine zA4 ⟨hK, ?_⟩
   refine zAb [6] ?_
   refine ⟨⟨_, rfl, ?_⟩, trivial⟩
   refine zC8 hs rfl ((zAm [UInt8.ofNat k.toNat])) zBz zs5 rfl (zEg (zBt _)) rfl rfl rfl ?_
   clear hs
   intro b32 w hs
   try simp only [List.set_cons_succ, List.set_cons_zero] at hs
   clear hK
   have hK := hs.tail.tail
   refine zA4 ⟨hK, ?_⟩
   refine zAb [7] ?_
   refine ⟨⟨_, rfl, ?_⟩, trivial⟩
   refine zCi hs rfl 1 rfl zBz in5 rfl rfl rfl (zC2 (P := Tryz.prog) zBz ((Rd.cells (n := 1) (cs := zAm [UInt8.ofNat k.toNat]) 0 rfl rfl).seq hs) (zBt _)) (by simp only [zAr, List.length_cons, List.length_nil]; omega) (by simp only [zAr, List.length_cons, List.length_nil]; omega) ?_
   clear hs
   intro a33 c33 w hs
   simp only [List.set_cons_succ, List.set_cons_zero] at hs
   have e1 : zAm (leR 8 q) ++ zAm [UInt8.ofNat k.toNat] = zAm (leR 8 q ++ [UInt8.ofNat k.toNat]) := (zCe _ _).symm
   have e2 : (zAm (leR 8 q)).length + (zAm [UInt8.ofNat k.toNat]).length = (leR 8 q ++ [UInt8.ofNat k.toNat]).length := by simp [zAr]
   rw [e2] at hs ⊢
   rw [e1] at hs
   clear hK
   have hK := hs.tail.tail
   refine zA4 ⟨hK, ?_⟩
   refine zA6 8 rfl rfl (fun w hs => zA2 (v := .slice _ _ _) rfl) hK ?_
   refine zAu (by kernel_rfl) ?_
   clear hK
   refine zA5 ?_
   have h9 : Mem g w (own (.slice a33 (leR 8 q ++ [UInt8.ofNat k.toNat]).length c33) (zAm (leR 8 q ++ [UInt8.ofNat k.toNat])) :: cells b32 (zAm [UInt8.ofNat k.toNat]) 5 :: own (.slice a20 (mfB x).length c20) (zAm (mfB x)) :: cells b3 (Value.agg (.int .i64 k :: mfL x e o).toArray).cells.toList 41 :: L) := hs.arr [1, 0] 2 (by decide)
   replace hs := h9
   clear h9
   refine zA1 ?_
   refine zA rfl (zA0 (v := .slice _ _ _) rfl) ?_
   refine zA rfl (zA0 (v := .slice _ _ _) rfl) ?_
   refine zCi hs rfl 0 rfl zBz in5 rfl rfl rfl (zC2 (P := Tryz.prog) zBz ((Rd.own (l := zAm (mfB x)) 2 rfl).seq hs) (zBt _)) (by simp only [zAr, List.length_append, List.length_cons, List.length_nil]; omega) (by simp only [zAr, List.length_append, List.length_cons, List.length_nil]; omega) ?_
   clear hs
   intro a36 c36 w hs
   simp only [List.set_cons_succ, List.set_cons_zero] at hs
   have e1 : zAm (leR 8 q ++ [UInt8.ofNat k.toNat]) ++ zAm (mfB x) = zAm (zFg q (k, x)) := by rw [← zCe]; simp [zFg]
   have e2 : (zAm (leR 8 q ++ [UInt8.ofNat k.toNat])).length + (zAm (mfB x)).length = (zFg q (k, x)).length := by simp [zAr, zFg]; omega
   rw [e2] at hs ⊢
   rw [e1] at hs
   refine zA9 rfl en82 (seal_sl hs (l := zFg q (k, x)) (hs.rdOwn 0 rfl) rfl (by rw [zG0]; simp only; omega)) ?_
   clear hs
   rintro _ w ⟨a37, c37, rfl, hs⟩
   have hsl : (zBp (zFg q (k, x))).length = (mfB x).length + 13 := by rw [zBw, zG0]
   refine zA rfl (zA2 (v := .slice _ _ _) rfl) ?_
   refine zA4 (zA5 (zA1 ?_))
   refine zA rfl (zA0 (v := .slice _ _ _) rfl) ?_
   refine zA rfl (zAw zBz rfl) ?_
   refine zA rfl (zAo uz3 zC0 rfl (c := (((zBp (zFg q (k, x))).length : Nat) : Int)) (by rw [zB6]; omega)) ?_
   refine zA9 rfl en81 (little_sl hs (n := (zBp (zFg q (k, x))).length) (k := 4) (by decide) (by omega)) ?_
   clear hs
   rintro _ w ⟨s41, rfl, hs⟩
   refine zA rfl (zA0 (v := .slice _ _ _) rfl) ?_
   refine zCi hs rfl 0 rfl zBz in5 rfl rfl rfl (zC2 (P := Tryz.prog) zBz ((Rd.own (l := zAm (zBp (zFg q (k, x)))) 1 rfl).seq hs) (zBt _)) (by simp only [zAr, zCp]; omega) (by simp only [zAr, zCp]; omega) ?_
   clear hs
   intro a43 c43 w hs
   simp only [List.set_cons_succ, List.set_cons_zero] at hs
   have e1 : zAm (leR 4 (zBp (zFg q (k, x))).length) ++ zAm (zBp (zFg q (k, x))) = zAm (frame q (k, x)) := by rw [← zCe]; rfl
   have e2 : (zAm (leR 4 (zBp (zFg q (k, x))).length)).length + (zAm (zBp (zFg q (k, x)))).length = (frame q (k, x)).length := by simp [zAr, frame]
   rw [e2] at hs ⊢
   rw [e1] at hs
   refine zA rfl (zA2 (v := .slice _ _ _) rfl) ?_
   refine zA rfl (zA2 (v := .nilIface) rfl) ?_
   refine zA4 ?_
   refine zAf ?_
   refine res2 (v := .slice _ _ _) (v2 := .nilIface) rfl rfl rfl ?_
   exact ⟨_, rfl, (a43, c43), rfl, hs.arr [0] 6 (by decide)⟩
  ·
   refine zC8 hs rfl ((zAm [UInt8.ofNat k.toNat])) zBz zs5 rfl (zEg (zBt _)) rfl rfl rfl ?_
   clear hs
   intro b32 w hs
   try simp only [List.set_cons_succ, List.set_cons_zero] at hs
   clear hK
   have hK := hs.tail
   refine zA4 ⟨hK, ?_⟩
   refine zAb [2] ?_
   refine ⟨⟨_, rfl, ?_⟩, trivial⟩
   refine zA9 rfl en81 (little_sl hs (n := q) (k := 8) (by decide) (by omega)) ?_
   clear hs
   rintro _ w ⟨s28, rfl, hs⟩
   clear hK
   have hK := hs.tail.tail
   refine zA4 ⟨hK, ?_⟩
   refine zAb [7] ?_
   refine ⟨⟨_, rfl, ?_⟩, trivial⟩
   refine zCi hs rfl 0 rfl zBz in5 rfl rfl rfl (zC2 (P := Tryz.prog) zBz ((Rd.cells (n := 1) (cs := zAm [UInt8.ofNat k.toNat]) 1 rfl rfl).seq hs) (zBt _)) (by simp only [zAr, List.length_cons, List.length_nil]; omega) (by simp only [zAr, List.length_cons, List.length_nil]; omega) ?_
   clear hs
   intro a33 c33 w hs
   simp only [List.set_cons_succ, List.set_cons_zero] at hs
   have e1 : zAm (leR 8 q) ++ zAm [UInt8.ofNat k.toNat] = zAm (leR 8 q ++ [UInt8.ofNat k.toNat]) := (zCe _ _).symm
   have e2 : (zAm (leR 8 q)).length + (zAm [UInt8.ofNat k.toNat]).length = (leR 8 q ++ [UInt8.ofNat k.toNat]).length := by simp [zAr]
   rw [e2] at hs ⊢
   rw [e1] at hs
   clear hK
   have hK := hs.tail.tail
   refine zA4 ⟨hK, ?_⟩
   refine zA6 8 rfl rfl (fun w hs => zA2 (v := .slice _ _ _) rfl) hK ?_
   refine zAu (by kernel_rfl) ?_
   clear hK
   refine zA5 (zA1 ?_)
   refine zA rfl (zA0 (v := .slice _ _ _) rfl) ?_
   refine zA rfl (zA0 (v := .slice _ _ _) rfl) ?_
   refine zCi hs rfl 0 rfl zBz in5 rfl rfl rfl (zC2 (P := Tryz.prog) zBz ((Rd.own (l := zAm (mfB x)) 2 rfl).seq hs) (zBt _)) (by simp only [zAr, List.length_append, List.length_cons, List.length_nil]; omega) (by simp only [zAr, List.length_append, List.length_cons, List.length_nil]; omega) ?_
   clear hs
   intro a36 c36 w hs
   simp only [List.set_cons_succ, List.set_cons_zero] at hs
   have e1 : zAm (leR 8 q ++ [UInt8.ofNat k.toNat]) ++ zAm (mfB x) = zAm (zFg q (k, x)) := by rw [← zCe]; simp [zFg]
   have e2 : (zAm (leR 8 q ++ [UInt8.ofNat k.toNat])).length + (zAm (mfB x)).length = (zFg q (k, x)).length := by simp [zAr, zFg]; omega
   rw [e2] at hs ⊢
   rw [e1] at hs
   refine zA9 rfl en82 (seal_sl hs (l := zFg q (k, x)) (hs.rdOwn 0 rfl) rfl (by rw [zG0]; simp only; omega)) ?_
   clear hs
   rintro _ w ⟨a37, c37, rfl, hs⟩
   have hsl : (zBp (zFg q (k, x))).length = (mfB x).length + 13 := by rw [zBw, zG0]
   refine zA rfl (zA2 (v := .slice _ _ _) rfl) ?_
   refine zA4 (zA5 (zA1 ?_))
   refine zA rfl (zA0 (v := .slice _ _ _) rfl) ?_
   refine zA rfl (zAw zBz rfl) ?_
   refine zA rfl (zAo uz3 zC0 rfl (c := (((zBp (zFg q (k, x))).length : Nat) : Int)) (by rw [zB6]; omega)) ?_
   refine zA9 rfl en81 (little_sl hs (n := (zBp (zFg q (k, x))).length) (k := 4) (by decide) (by omega)) ?_
   clear hs
   rintro _ w ⟨s41, rfl, hs⟩
   refine zA rfl (zA0 (v := .slice _ _ _) rfl) ?_
   refine zCi hs rfl 0 rfl zBz in5 rfl rfl rfl (zC2 (P := Tryz.prog) zBz ((Rd.own (l := zAm (zBp (zFg q (k, x)))) 1 rfl).seq hs) (zBt _)) (by simp only [zAr, zCp]; omega) (by simp only [zAr, zCp]; omega) ?_
   clear hs
   intro a43 c43 w hs
   simp only [List.set_cons_succ, List.set_cons_zero] at hs
   have e1 : zAm (leR 4 (zBp (zFg q (k, x))).length) ++ zAm (zBp (zFg q (k, x))) = zAm (frame q (k, x)) := by rw [← zCe]; rfl
   have e2 : (zAm (leR 4 (zBp (zFg q (k, x))).length)).length + (zAm (zBp (zFg q (k, x)))).length = (frame q (k, x)).length := by simp [zAr, frame]
   rw [e2] at hs ⊢
   rw [e1] at hs
   refine zA rfl (zA2 (v := .slice _ _ _) rfl) ?_
   refine zA rfl (zA2 (v := .nilIface) rfl) ?_
   refine zA4 ?_
   refine zAf ?_
   refine res2 (v := .slice _ _ _) (v2 := .nilIface) rfl rfl rfl ?_
   exact ⟨_, rfl, (a43, c43), rfl, hs.arr [0] 6 (by decide)⟩
end Go.Proofs.YtdkgdjnbpjjfmaaGreatDoor
namespace Go.Proofs
open Go.Shelf
def Tryz.keys60_ren : Go.Shelf.Ren := ⟨fun | 7 => 60 | 10 => 103 | n => n, fun | 23 => 69 | 26 => 9 | 3 => 90 | 28 => 116 | 0 => 0 | 27 => 115 | 33 => 133 | 4 => 4 | n => n, fun | n => n⟩
def Tryz.sorted59_ren : Go.Shelf.Ren := ⟨fun | 6 => 59 | 8 => 101 | 9 => 102 | 11 => 131 | 13 => 106 | 12 => 132 | 23 => 141 | 24 => 142 | 14 => 157 | 15 => 158 | 16 => 159 | 17 => 160 | 18 => 161 | 19 => 162 | 20 => 163 | 21 => 164 | 22 => 165 | 25 => 183 | 26 => 167 | 27 => 168 | 28 => 184 | 29 => 185 | 30 => 186 | 31 => 192 | n => n, fun | 26 => 9 | 28 => 116 | 24 => 62 | 0 => 0 | 3 => 3 | 37 => 156 | 48 => 111 | 50 => 100 | 4 => 4 | 40 => 199 | 39 => 198 | 45 => 203 | 5 => 5 | 9 => 9 | 51 => 222 | 55 => 226 | 57 => 239 | 58 => 240 | 33 => 133 | n => n, fun | n => n⟩
def Tryz.sort102_ren : Go.Shelf.Ren := ⟨fun | 6 => 102 | 8 => 106 | 9 => 132 | 19 => 141 | 20 => 142 | 21 => 157 | 22 => 158 | 23 => 159 | 24 => 160 | 25 => 161 | 26 => 162 | 27 => 163 | 28 => 164 | 29 => 165 | 36 => 183 | 31 => 167 | 32 => 168 | 37 => 184 | 38 => 185 | 39 => 186 | 41 => 192 | n => n, fun | 27 => 62 | 29 => 9 | 3 => 3 | 32 => 156 | 26 => 62 | 0 => 0 | 44 => 111 | 46 => 100 | 4 => 4 | 36 => 199 | 35 => 198 | 41 => 203 | 5 => 5 | 9 => 9 | 53 => 222 | 57 => 226 | 63 => 239 | 64 => 240 | n => n, fun | n => n⟩
def Tryz.keys98_ren : Go.Shelf.Ren := ⟨fun | 7 => 98 | 10 => 130 | n => n, fun | 23 => 77 | 26 => 3 | 3 => 85 | 28 => 159 | 0 => 0 | 27 => 158 | 33 => 142 | 4 => 4 | n => n, fun | n => n⟩
theorem Tryz.keys98 : Go.Proofs.SlLaysZI.n7 Tryz.prog Tryz.keys98_ren := {
  mixed := by kernel_rfl
  f7 := ⟨Tryz.f98.name, by decide, Tryz.func98.trans (congrArg some (by kernel_rfl))⟩
  f10 := ⟨Tryz.f130.name, by decide, Tryz.func130.trans (congrArg some (by kernel_rfl))⟩
  t0 := Tryz.underlying0
  a0 := Tryz.isAgg0
  z0 := Tryz.sizeOf0
  v0 := Tryz.zeroValue0
  t4 := Tryz.underlying4
  a4 := Tryz.isAgg4
  z4 := Tryz.sizeOf4
  v4 := Tryz.zeroValue4
  t23 := Tryz.underlying77
  a23 := Tryz.isAgg77
  z23 := Tryz.sizeOf77
  v23 := Tryz.zeroValue77
  t26 := Tryz.underlying3
  a26 := Tryz.isAgg3
  z26 := Tryz.sizeOf3
  v26 := Tryz.zeroValue3
  t27 := Tryz.underlying158
  a27 := Tryz.isAgg158
  z27 := Tryz.sizeOf158
  v27 := Tryz.zeroValue158
  t28 := Tryz.underlying159
  a28 := Tryz.isAgg159
  z28 := Tryz.sizeOf159
  v28 := Tryz.zeroValue159
  t33 := Tryz.underlying142
  a33 := Tryz.isAgg142
  z33 := Tryz.sizeOf142
  v33 := Tryz.zeroValue142 }
def Tryz.sorted97_ren : Go.Shelf.Ren := ⟨fun | 6 => 97 | 8 => 128 | 9 => 129 | 11 => 155 | 13 => 106 | 12 => 156 | 23 => 141 | 24 => 142 | 14 => 174 | 15 => 175 | 16 => 176 | 17 => 177 | 18 => 178 | 19 => 179 | 20 => 180 | 21 => 181 | 22 => 182 | 25 => 188 | 26 => 167 | 27 => 168 | 28 => 189 | 29 => 190 | 30 => 191 | 31 => 193 | n => n, fun | 26 => 3 | 28 => 159 | 24 => 22 | 0 => 0 | 3 => 3 | 37 => 156 | 48 => 111 | 50 => 100 | 4 => 4 | 40 => 199 | 39 => 198 | 45 => 203 | 5 => 5 | 9 => 9 | 51 => 222 | 55 => 226 | 57 => 239 | 58 => 240 | 33 => 142 | n => n, fun | n => n⟩
theorem Tryz.sorted97 : Go.Proofs.SlLaysZI.n6 Tryz.prog Tryz.sorted97_ren := {
  mixed := by kernel_rfl
  f6 := ⟨Tryz.f97.name, by decide, Tryz.func97.trans (congrArg some (by kernel_rfl))⟩
  f8 := ⟨Tryz.f128.name, by decide, Tryz.func128.trans (congrArg some (by kernel_rfl))⟩
  f11 := ⟨Tryz.f155.name, by decide, Tryz.func155.trans (congrArg some (by kernel_rfl))⟩
  t0 := Tryz.underlying0
  a0 := Tryz.isAgg0
  z0 := Tryz.sizeOf0
  v0 := Tryz.zeroValue0
  t24 := Tryz.underlying22
  a24 := Tryz.isAgg22
  z24 := Tryz.sizeOf22
  v24 := Tryz.zeroValue22
  t26 := Tryz.underlying3
  a26 := Tryz.isAgg3
  z26 := Tryz.sizeOf3
  v26 := Tryz.zeroValue3
  t28 := Tryz.underlying159
  a28 := Tryz.isAgg159
  z28 := Tryz.sizeOf159
  v28 := Tryz.zeroValue159
  i26 := by kernel_rfl }
def Tryz.sort129_ren : Go.Shelf.Ren := ⟨fun | 5 => 129 | 8 => 106 | 7 => 156 | 19 => 141 | 20 => 142 | 10 => 174 | 11 => 175 | 12 => 176 | 13 => 177 | 14 => 178 | 15 => 179 | 16 => 180 | 17 => 181 | 18 => 182 | 30 => 188 | 31 => 167 | 32 => 168 | 33 => 189 | 34 => 190 | 35 => 191 | 40 => 193 | n => n, fun | 23 => 22 | 25 => 3 | 3 => 3 | 32 => 156 | 22 => 22 | 0 => 0 | 44 => 111 | 46 => 100 | 4 => 4 | 36 => 199 | 35 => 198 | 41 => 203 | 5 => 5 | 9 => 9 | 53 => 222 | 57 => 226 | 63 => 239 | 64 => 240 | n => n, fun | n => n⟩
theorem Tryz.sort129 : Go.Proofs.SlLaysM.n5 Tryz.prog Tryz.sort129_ren := {
  mixed := by kernel_rfl
  f5 := ⟨Tryz.f129.name, by decide, Tryz.func129.trans (congrArg some (by kernel_rfl))⟩
  f7 := ⟨Tryz.f156.name, by decide, Tryz.func156.trans (congrArg some (by kernel_rfl))⟩
  f8 := Tryz.func106.trans (congrArg some (by kernel_rfl))
  f10 := ⟨Tryz.f174.name, by decide, Tryz.func174.trans (congrArg some (by kernel_rfl))⟩
  f11 := ⟨Tryz.f175.name, by decide, Tryz.func175.trans (congrArg some (by kernel_rfl))⟩
  f12 := ⟨Tryz.f176.name, by decide, Tryz.func176.trans (congrArg some (by kernel_rfl))⟩
  f13 := ⟨Tryz.f177.name, by decide, Tryz.func177.trans (congrArg some (by kernel_rfl))⟩
  f14 := ⟨Tryz.f178.name, by decide, Tryz.func178.trans (congrArg some (by kernel_rfl))⟩
  f15 := ⟨Tryz.f179.name, by decide, Tryz.func179.trans (congrArg some (by kernel_rfl))⟩
  f16 := ⟨Tryz.f180.name, by decide, Tryz.func180.trans (congrArg some (by kernel_rfl))⟩
  f17 := ⟨Tryz.f181.name, by decide, Tryz.func181.trans (congrArg some (by kernel_rfl))⟩
  f18 := ⟨Tryz.f182.name, by decide, Tryz.func182.trans (congrArg some (by kernel_rfl))⟩
  f19 := Tryz.func141.trans (congrArg some (by kernel_rfl))
  f20 := Tryz.func142.trans (congrArg some (by kernel_rfl))
  f30 := ⟨Tryz.f188.name, by decide, Tryz.func188.trans (congrArg some (by kernel_rfl))⟩
  f31 := Tryz.func167.trans (congrArg some (by kernel_rfl))
  f32 := Tryz.func168.trans (congrArg some (by kernel_rfl))
  f33 := ⟨Tryz.f189.name, by decide, Tryz.func189.trans (congrArg some (by kernel_rfl))⟩
  f34 := ⟨Tryz.f190.name, by decide, Tryz.func190.trans (congrArg some (by kernel_rfl))⟩
  f35 := ⟨Tryz.f191.name, by decide, Tryz.func191.trans (congrArg some (by kernel_rfl))⟩
  f40 := ⟨Tryz.f193.name, by decide, Tryz.func193.trans (congrArg some (by kernel_rfl))⟩
  t0 := Tryz.underlying0
  a0 := Tryz.isAgg0
  z0 := Tryz.sizeOf0
  v0 := Tryz.zeroValue0
  t3 := Tryz.underlying3
  a3 := Tryz.isAgg3
  z3 := Tryz.sizeOf3
  v3 := Tryz.zeroValue3
  t4 := Tryz.underlying4
  a4 := Tryz.isAgg4
  z4 := Tryz.sizeOf4
  v4 := Tryz.zeroValue4
  t5 := Tryz.underlying5
  a5 := Tryz.isAgg5
  z5 := Tryz.sizeOf5
  v5 := Tryz.zeroValue5
  t9 := Tryz.underlying9
  a9 := Tryz.isAgg9
  z9 := Tryz.sizeOf9
  v9 := Tryz.zeroValue9
  t22 := Tryz.underlying22
  a22 := Tryz.isAgg22
  z22 := Tryz.sizeOf22
  v22 := Tryz.zeroValue22
  t23 := Tryz.underlying22
  a23 := Tryz.isAgg22
  z23 := Tryz.sizeOf22
  v23 := Tryz.zeroValue22
  t25 := Tryz.underlying3
  a25 := Tryz.isAgg3
  z25 := Tryz.sizeOf3
  v25 := Tryz.zeroValue3
  t32 := Tryz.underlying156
  a32 := Tryz.isAgg156
  z32 := Tryz.sizeOf156
  v32 := Tryz.zeroValue156
  t35 := Tryz.underlying198
  a35 := Tryz.isAgg198
  z35 := Tryz.sizeOf198
  v35 := Tryz.zeroValue198
  t36 := Tryz.underlying199
  a36 := Tryz.isAgg199
  z36 := Tryz.sizeOf199
  v36 := Tryz.zeroValue199
  t41 := Tryz.underlying203
  a41 := Tryz.isAgg203
  z41 := Tryz.sizeOf203
  v41 := Tryz.zeroValue203
  t44 := Tryz.underlying111
  a44 := Tryz.isAgg111
  z44 := Tryz.sizeOf111
  v44 := Tryz.zeroValue111
  t46 := Tryz.underlying100
  a46 := Tryz.isAgg100
  z46 := Tryz.sizeOf100
  v46 := Tryz.zeroValue100
  t53 := Tryz.underlying222
  a53 := Tryz.isAgg222
  z53 := Tryz.sizeOf222
  v53 := Tryz.zeroValue222
  t57 := Tryz.underlying226
  a57 := Tryz.isAgg226
  z57 := Tryz.sizeOf226
  v57 := Tryz.zeroValue226
  t63 := Tryz.underlying239
  a63 := Tryz.isAgg239
  z63 := Tryz.sizeOf239
  v63 := Tryz.zeroValue239
  t64 := Tryz.underlying240
  a64 := Tryz.isAgg240
  z64 := Tryz.sizeOf240
  v64 := Tryz.zeroValue240 }
end Go.Proofs
namespace Go.Proofs.YtdkgdjnbpjjfmaaGreatDoor
set_option linter.all false
open Go.RowKit Go.MapKept Go.Maps Go.Sort Go.Shelf Go.WideElems
variable {g w : World} {L M : List HP} {ad : Nat → Addr} {p q : Nat}

/-- A reading that every value has. -/
def anyR (_ : Value) : Option (DataW Unit × List MemPlace) := some (.nil, [])
theorem keys_read {κ : Type} {enc : κ → Value} {k : TypeId} {lit : κ → Lit} : ∀ (xs : List MapEntry) (es : List (κ × Value)), xs.map kv = es.map (ekv enc) → (∀ x ∈ zAh es, keyOf Tryz.prog k (enc x) = some (lit x)) →
    (∀ x ∈ xs, ∃ y, Go.WideElems.rd Tryz.prog k anyR x = some y) ∧ xs.map (fun x => (rg Tryz.prog k anyR x).1) = (zAh es).map lit
  | [], [], _, _ => ⟨fun _ h => by simp at h, rfl⟩
  | [], _ :: _, h, _ => by simp at h
  | _ :: _, [], h, _ => by simp at h
  | a :: xs, e :: es, h, hk => by
    simp only [List.map_cons, List.cons.injEq] at h
    obtain ⟨h1, h2⟩ := h
    obtain ⟨i1, i2⟩ := keys_read xs es h2 fun x hx => hk x (List.mem_cons_of_mem _ hx)
    have ha : a.key = enc e.1 := by have := congrArg Prod.fst h1; exact this
    have hr : Go.WideElems.rd Tryz.prog k anyR a = some (lit e.1, .nil) := by
      simp [Go.WideElems.rd, ha, hk e.1 (List.mem_cons_self ..), anyR]
    refine ⟨fun x hx => ?_, ?_⟩
    · rcases List.mem_cons.1 hx with rfl | hx
      · exact ⟨_, hr⟩
      · exact i1 x hx
    · simp only [List.map_cons, zAh, rg_of hr]
      exact congrArg _ i2
theorem keys_owned {κ : Type} {W : World} {enc : κ → Value} {b : Nat} {es : List (κ × Value)} {k : TypeId} {lit : κ → Lit} (h : zF3 W enc b es) (hk : ∀ x ∈ zAh es, keyOf Tryz.prog k (enc x) = some (lit x)) (hn : es.length ≤ 1000000) :
    ∃ l : List (Lit × DataW Unit), W.ownsMap Tryz.prog k anyR b es.length (.map l) ∧ (l.map (·.1)).Perm ((zAh es).map lit) := by
  obtain ⟨arr, clock, hb, he, hst⟩ := h
  have hlen : arr.size = es.length := by have := congrArg List.length he; simpa using this
  obtain ⟨h1, h2⟩ := keys_read arr.toList es he hk
  refine ⟨(arr.toList.map (rg Tryz.prog k anyR)).foldr DataW.insert [], ⟨arr, clock, hb, ⟨by unfold maxLen; omega, hst, h1⟩, by omega, rfl⟩, ?_⟩
  refine ((Go.WideShapes.sorted_perm _).map _).trans ?_
  rw [List.map_map, ← h2]
  exact List.Perm.refl _
theorem newSeq_of_row {W w' : World} {T : TypeId} {v : Value} {n : Nat} {xs : List Value} (h : w'.ownsRow W.heap.size T 1 v n xs) (hb : Below W.heap.size W w') : NewSeq W xs (.returned v) w' := by
  obtain ⟨hx, ⟨rfl, hn⟩ | ⟨b, cap, cur, rfl, hg, hc, h1, h2, h3, h4⟩⟩ := h
  · subst hn
    have : xs = [] := List.eq_nil_of_length_eq_zero (by omega)
    subst this
    exact ⟨_, rfl, ⟨none, 0, 0, rfl, rfl, Nat.le_refl _, ⟨fun _ => rfl, fun _ h => by cases h⟩, .inl rfl⟩, hb, fun _ h => by cases h⟩
  · have hlt := lt_of_block hc
    refine ⟨_, rfl, ⟨some ⟨b, 0, none⟩, n, cap, rfl, by omega, h1, ⟨fun e => (by cases e), fun x hx => by cases hx; exact hlt⟩, .inr ⟨b, 0, cur, T, rfl, hc, by omega, fun i hi => ?_⟩⟩, hb, fun x hx => by cases hx; exact ⟨hg, hlt⟩⟩
    rw [← h4, List.getElem?_take_of_lt (by omega), Array.getElem?_toList, Nat.zero_add]

/-! ### ints -/
theorem perm_sortI {a b : List Int} (h : a.Perm b) : a.mergeSort (fun x y => decide (x ≤ y)) = b.mergeSort (fun x y => decide (x ≤ y)) := by
  have ht : ∀ x y z : Int, decide (x ≤ y) = true → decide (y ≤ z) = true → decide (x ≤ z) = true := fun x y z h1 h2 => by simp only [decide_eq_true_eq] at *; omega
  have hl : ∀ x y : Int, (decide (x ≤ y) || decide (y ≤ x)) = true := fun x y => by simp only [Bool.or_eq_true, decide_eq_true_eq]; omega
  have p1 := (List.mergeSort_perm a (fun x y => decide (x ≤ y))).trans (h.trans (List.mergeSort_perm b (fun x y => decide (x ≤ y))).symm)
  have s1 := List.pairwise_mergeSort ht hl a
  have s2 := List.pairwise_mergeSort ht hl b
  exact p1.eq_of_pairwise (fun x y _ _ h1 h2 => by simp only [decide_eq_true_eq] at h1 h2; omega) s1 s2
/-- Ints in order. -/
def zEf (l : List Int) : List Int := l.mergeSort fun x y => decide (x ≤ y)
theorem sortsI (m : Nat) : AnyZI.SortsIn Tryz.prog Tryz.sorted97_ren Fence.wide m :=
  ⟨fun blk off cap ss W hH hblk hsz => callsIn_wide.2 (AnyM.slices_Sort_int Tryz.sort129 blk off cap ss W hH hblk hsz),
   fun p cap W => callsIn_wide.2 (AnyM.slices_Sort_int_none Tryz.sort129 p cap W)⟩
theorem keyOf_int {x : Int} (h : zE6 x) : keyOf Tryz.prog 3 (Value.int .i64 x) = some (Lit.int .i64 x) := by
  obtain ⟨h1, h2⟩ := h
  have hw : (Lit.int .i64 x).wf = true := by simp [Lit.wf, IntKind.min, IntKind.max, IntKind.signed, IntKind.bits]; omega
  simp [keyOf, mapKey, uz3, hw]
end Go.Proofs.YtdkgdjnbpjjfmaaGreatDoor
namespace Go.Proofs.YtdkgdjnbpjjfmaaGreatDoor
set_option linter.all false
open Go.RowKit Go.MapKept Go.Maps Go.Sort Go.Shelf Go.WideElems
attribute [local irreducible] zAq
variable {g w : World} {L M : List HP} {ad : Nat → Addr} {p q : Nat}

theorem sortedV_any {W : World} {kb b : Nat} {es : List (Int × Value)} (hc : W.cell? ⟨kb, 0, none⟩ = some (.map (some b))) (hkb : kb < W.heap.size) (h : zF3 W (Value.int .i64) b es) (hk : ∀ x ∈ zAh es, zE6 x) (hn : es.length ≤ 1000000) :
    Calls Tryz.prog 97 #[.func (.func 130) #[] #[.pointer (some ⟨kb, 0, none⟩)]] W (NewSeq W (intsL (zEf (zAh es)))) := by
  obtain ⟨l, hown, hp⟩ := keys_owned (k := 3) (lit := Lit.int .i64) h (fun x hx => keyOf_int (hk x hx)) hn
  have hl : l.length = es.length := by have := hp.length_eq; simpa [zAh] using this
  have hseq : SeqGives Fence.wide 2 Tryz.prog 130 #[.pointer (some ⟨kb, 0, none⟩)] encZ (fun ss => ss.Perm (intKeys (.map l))) (Maps.size (.map l)) W :=
    AnyZI.keys_gives (ρ := Tryz.keys98_ren) { Tryz.keys98 with } Fence.wide _ trivial rfl (by omega) kb b _ _ W hkb hc hown
  have hS := AnyZI.sorted_in Tryz.sorted97 Fence.wide 5 trivial trivial trivial trivial rfl (by omega) (sortsI _) (enters_of Tryz.func129 (by kernel_rfl) rfl) 130 #[.pointer (some ⟨kb, 0, none⟩)] trivial (enters_of Tryz.func130 (by kernel_rfl) rfl) _ _ (by show l.length ≤ maxLen; unfold maxLen; omega) (by show l.length * 8 ≤ _; omega) W hseq
  refine (callsIn_wide.1 hS).mono ?_
  rintro e w' ⟨v, ss, rfl, hss, hrow, _, hb⟩
  have e1 : ss.Perm (zAh es) := by
    refine hss.trans ?_
    have h2 : intKeys (.map l) = (l.map (·.1)).map Go.intOf := by simp [intKeys, List.map_map, Function.comp_def]
    rw [h2]
    refine (hp.map _).trans ?_
    rw [List.map_map]
    exact List.Perm.of_eq (by simp [Function.comp_def, Go.intOf])
  rw [perm_sortI e1] at hrow
  exact newSeq_of_row hrow hb
theorem keysV_sl (hs : Mem g w L) {b : Nat} : Calls Tryz.prog 98 #[.map (some b)] w (Ret fun v w' => ∃ kb, v = .func (.func 130) #[] #[.pointer (some ⟨kb, 0, none⟩)] ∧ Mem g w' (cells kb [.map (some b)] 77 :: L)) := by
  refine (callsIn_wide.1 (Go.Proofs.AnyZI.keys_in Tryz.keys98 Fence.wide 5 trivial rfl (some b) w)).mono ?_
  rintro e w' ⟨rfl, rfl⟩
  exact ⟨_, rfl, _, rfl, hs.new [.map (some b)] _⟩
theorem sortedV_sl (hs : Mem g w L) {kb b i j : Nat} {es : List (Int × Value)} (hi : L[i]? = some (cells kb [.map (some b)] 77)) (hj : L[j]? = some (mapC (Value.int .i64) b es)) (hk : ∀ x ∈ zAh es, zE6 x) (hn : es.length ≤ 1000000) :
    Calls Tryz.prog 97 #[.func (.func 130) #[] #[.pointer (some ⟨kb, 0, none⟩)]] w (Ret fun v w' => ∃ a c, v = .slice a (zEf (zAh es)).length c ∧ Mem g w' (own (.slice a (zEf (zAh es)).length c) (intsL (zEf (zAh es))) :: L)) := by
  obtain ⟨F, hblk, _⟩ := hs.read hi
  have hc := hs.cellAt i hi (o := 0) (v := .map (some b)) rfl
  refine (newSeq_sl hs (sortedV_any hc (lt_of_block hblk) (hs.mapAt j hj) hk hn)).mono ?_
  rintro e w' ⟨v, rfl, a, c, rfl, h⟩
  rw [show (intsL (zEf (zAh es))).length = (zEf (zAh es)).length by simp [intsL]] at h ⊢
  exact ⟨_, rfl, a, c, rfl, h⟩
end Go.Proofs.YtdkgdjnbpjjfmaaGreatDoor
namespace Go.Proofs.YtdkgdjnbpjjfmaaGreatDoor
set_option linter.all false
open Go.RowKit
attribute [local irreducible] zAq
variable {g w : World} {L M : List HP} {ad : Nat → Addr} {p : Nat} {V : Vw}

def itB (i : Itm) : List UInt8 := UInt8.ofNat i.st.toNat :: (zB (mfB i.m).length ++ mfB i.m)
def itAt (V : Vw) (k : Int) : List UInt8 := (zB0 V k).elim [] itB
def vwBody (V : Vw) : List UInt8 := zB V.length ++ (zEf (zAh V)).flatMap (itAt V)
def vwB (V : Vw) : List UInt8 := zBp (vwBody V)
def Vw.sums (V : Vw) : Prop := ∀ x ∈ V, ∀ q ∈ x.2.m.obs, q.2.2 < 4294967296
theorem mfB_len {x : Mf} (h : (mfF x).1 = 0) : (mfB x).length ≤ 6004 := by
  have := zEr (mf_fine h)
  rw [mfB, zBw]; omega
theorem itB_len {i : Itm} (h : (mfF i.m).1 = 0) : (itB i).length ≤ 6015 := by
  have h1 := mfB_len h
  have h2 := zCh (mfB i.m).length
  simp only [itB, List.length_cons, List.length_append]; omega
theorem itAt_len (ho : V.ok) (k : Int) : (itAt V k).length ≤ 6015 := by
  unfold itAt
  cases h : zB0 V k with
  | none => simp
  | some i => exact itB_len (ho.item h).1
theorem items_len (ho : V.ok) : ∀ l : List Int, (l.flatMap (itAt V)).length ≤ 6015 * l.length
  | [] => by simp
  | k :: l => by
    have h1 := items_len ho l
    have h2 := itAt_len ho k
    simp only [List.flatMap_cons, List.length_append, List.length_cons]; omega
theorem sortI_len (l : List Int) : (zEf l).length = l.length := by simp [zEf]
theorem vwBody_len (ho : V.ok) (h : V.length ≤ 100) : (vwBody V).length ≤ 601510 := by
  have h1 := items_len ho (zEf (zAh V))
  have h2 := zCh V.length
  rw [sortI_len, zAh, List.length_map] at h1
  simp only [vwBody, List.length_append, zAh] at h1 ⊢; omega
theorem items_next {l : List Int} {k : Nat} {z : Int} {i : Itm} (hz : l[k]? = some z) (hi : zB0 V z = some i) : (l.take (k + 1)).flatMap (itAt V) = (l.take k).flatMap (itAt V) ++ [UInt8.ofNat i.st.toNat] ++ zB (mfB i.m).length ++ mfB i.m := by
  simp [List.take_add_one, hz, itAt, hi, itB]
set_option maxHeartbeats 2000000 in
theorem viewB_sl (hE : ErrV ad g) (hs : Mem g w (zFe p V :: L)) (hV : V.length ≤ 100) (hu : V.sums) : Calls Tryz.prog 53 #[.pointer (some ⟨p, 0, none⟩)] w (Ret fun v w' => ∃ a c, v = .slice a (vwB V).length c ∧ Mem g w' (own (.slice a (vwB V).length c) (zAm (vwB V)) :: zFe p V :: L)) := by
  obtain ⟨ho, m, es, hs⟩ := hs.openV
  simp only [viewP, List.cons_append, List.nil_append] at hs
  have hke := hs.famKeys 2 rfl
  have hl := keys_len hke
  have hbl := vwBody_len ho hV
  have hvl := zCh V.length
  obtain ⟨ks, hks⟩ : ∃ ks, ks = zEf (zAh V) := ⟨_, rfl⟩
  have hkl : ks.length = V.length := by rw [hks, sortI_len]; simp [zAh]
  have hmem : ∀ z ∈ ks, z ∈ zAh V := fun z hz => by rw [hks] at hz; exact (List.mergeSort_perm _ _).mem_iff.1 hz
  have hil : ∀ k, k ≤ ks.length → ((ks.take k).flatMap (itAt V)).length ≤ 6015 * k := fun k hk => by have h1 := items_len ho (ks.take k); rw [List.length_take, Nat.min_eq_left hk] at h1; exact h1
  refine zAl Tryz.func53 rfl rfl ?_
  skip
  refine zA5 (zA1 ?_)
  refine zA rfl (zA2 (v := .slice _ _ _) rfl) ?_
  refine zA4 (zA5 (zA1 ?_))
  refine zA rfl (zA0 (v := .pointer (some _)) rfl) ?_
  refine zA rfl (zA8 rfl) ?_
  refine zA rfl (zA3 (o' := 0) uz79 rfl sz77 rfl rfl rfl) ?_
  refine zA rfl (zA7 uz77 rfl rfl (hs.cellAt 0 rfl rfl)) ?_
  refine zA rfl (run_lenM (hs.mapAt 1 rfl) uz77 rfl) ?_
  refine zA rfl (zAo uz3 zC0 rfl (c := ((V.length : Nat) : Int)) (by rw [hl, zB6]; omega)) ?_
  refine zA9 rfl en52 (zDy hs (lb := []) (n := V.length) Rd.nil rfl (by decide) (by omega)) ?_
  clear hs
  rintro _ w ⟨a15, c15, rfl, hs⟩
  rw [List.nil_append] at hs ⊢
  refine zA rfl (zA2 (v := .slice _ _ _) rfl) ?_
  refine zA4 ?_
  refine zA5 ?_
  refine zA5 (zA1 ?_)
  refine zA rfl (zA0 (v := .pointer (some _)) rfl) ?_
  refine zA rfl (zA8 rfl) ?_
  refine zA rfl (zA3 (o' := 0) uz79 rfl sz77 rfl rfl rfl) ?_
  refine zA rfl (zA7 uz77 rfl rfl (hs.cellAt 1 rfl rfl)) ?_
  refine zA9 rfl en98 (keysV_sl hs) ?_
  clear hs
  rintro _ w ⟨kb, rfl, hs⟩
  refine zA9 rfl en97 (sortedV_sl hs (i := 0) (j := 3) rfl rfl (fun z hz => by rw [hke] at hz; have := ho.ids hz; exact ⟨by omega, by omega⟩) (by omega)) ?_
  clear hs
  rintro _ w ⟨a21, c21, rfl, hs⟩
  rw [hke, ← hks] at hs ⊢
  have h10 : zB V.length = zB V.length ++ (ks.take 0).flatMap (itAt V) := (List.append_nil _).symm
  rw [h10] at hs ⊢
  refine zA rfl (zAw uz22 rfl) ?_
  refine zA rfl (zA0 (v := .int .i64 _) rfl) ?_
  refine zA4 ?_
  refine zAt ?_
  refine zBs (X := Nat × SA) [3, 5, 6, 7, 8, 23, 24, 25, 26, 27, 28, 29, 30, 31, 32, 33, 34, 35, 36, 37, 38, 39, 40, 41, 42, 43, 44, 45, 46, 47, 48, 49, 50, 51, 52] (fun q => [(3, .slice q.2.1 (zB V.length ++ (ks.take q.1).flatMap (itAt V)).length q.2.2), (23, .int .i64 (q.1 : Nat))]) (fun q w => q.1 ≤ ks.length ∧ Mem g w (own (.slice q.2.1 (zB V.length ++ (ks.take q.1).flatMap (itAt V)).length q.2.2) (zAm (zB V.length ++ (ks.take q.1).flatMap (itAt V))) :: own (.slice a21 ks.length c21) (intsL ks) :: cells p [.map (some m)] 79 :: mapV m es :: famC itmC es V :: L)) (fun q => ks.length - q.1) ((0, (a15, c15))) ?_ ?_ ?_
  · exact ⟨rfl, rfl, trivial⟩
  · exact ⟨Nat.zero_le _, hs.arr [2, 0, 3, 4, 5] 6 (by decide)⟩
  clear hs
  rintro x ξ w hI
  obtain ⟨k, s⟩ := x
  obtain ⟨hk, hs⟩ := hI
  simp only at hk hs
  show cw _ _ _ _ _ _ (updL (mix _ ξ _) [(3, .slice s.1 (zB V.length ++ (ks.take k).flatMap (itAt V)).length s.2), (23, .int .i64 (k : Nat))]) w
  refine zA5 (zA1 ?_)
  refine zA rfl (zB4 rfl rfl) ?_
  refine zA4 ?_
  refine zA5 ?_
  refine zB7 rfl ?_ ?_
  ·
   intro h24
   have g24 := of_decide_eq_true h24
   obtain ⟨z, hz⟩ : ∃ z, ks[k]? = some z := ⟨_, List.getElem?_eq_getElem (by omega)⟩
   obtain ⟨i, hi⟩ := zFs (hmem z (List.mem_of_getElem? hz))
   obtain ⟨e, o, hes, hm⟩ := hs.itmAt 4 rfl hi
   have hit := ho.item hi
   have hnx := items_next hz hi
   have hil0 := hil k hk
   obtain ⟨b1, o1, rfl, _⟩ := (Rd.own (g := g) (L := _ :: own (.slice a21 ks.length c21) (intsL ks) :: _ :: _ :: _ :: L) 1 rfl).cells' hs (by rw [intsL_len]; omega)
   have hml := mfB_len hit.1
   have hvm := zCh (mfB i.m).length
   have hf0 : mfF i.m = (0, none) := flt0 (mfF_ok _) hit.1
   refine zAd ?_
   refine zA5 ?_
   refine zAt ?_
   refine zA5 (zA1 ?_)
   refine zA rfl (zBl uz22 sz3 rfl rfl rfl (by omega) rfl) ?_
   refine zA rfl (zA7 uz3 rfl rfl (hs.ownAt 1 rfl (intsL_at hz))) ?_
   refine zA rfl (zA2 (v := .int .i64 _) rfl) ?_
   refine zA4 (zA5 (zA1 ?_))
   refine zA rfl (zA0 (v := .pointer (some _)) rfl) ?_
   refine zA rfl (zA8 rfl) ?_
   refine zA rfl (zA3 (o' := 0) uz79 rfl sz77 rfl rfl rfl) ?_
   refine zA rfl (zA7 uz77 rfl rfl (hs.cellAt 2 rfl rfl)) ?_
   refine zA rfl (zA0 (v := .int .i64 _) rfl) ?_
   refine zA rfl (zFn (hs.mapAt 3 rfl) zEs uz77 uz3 ze85 rfl rfl (o := some (itmV i e o)) hes) ?_
   refine zBd hs rfl ze85 ?_
   clear hs
   intro b6 w hs
   try simp only [List.set_cons_succ, List.set_cons_zero] at hs
   refine zAp hs 0 rfl rfl rfl sz85 rfl rfl ?_
   clear hs
   intro w hs
   try simp only [List.set_cons_succ, List.set_cons_zero] at hs
   refine zA4 (zA5 (zA1 ?_))
   refine zA rfl (zA3 (o' := 1) uz85 rfl zE0 rfl rfl rfl) ?_
   refine zA rfl (zCq hs 0 (mfL i.m e o) rfl zC3 zE0 rfl rfl) ?_
   refine zA9 rfl en80 (maniB_sl hE hs hm.cons hf0 (hu _ (zDd hi))) ?_
   clear hs
   rintro _ w ⟨a36, c36, rfl, hs⟩
   refine zA rfl (zA0 (v := .tuple _) rfl) ?_
   refine zA rfl (zAa (v := .slice _ _ _) rfl rfl) ?_
   refine zA rfl (zAa (v := .nilIface) rfl rfl) ?_
   refine zA rfl (zA2 (v := .slice _ _ _) rfl) ?_
   refine zA rfl (zA2 (v := .nilIface) rfl) ?_
   refine zA4 (zA5 (zA1 ?_))
   refine zA rfl (zA0 (v := .slice _ _ _) rfl) ?_
   refine zA rfl (zA3 (o' := 0) uz85 rfl sz3 rfl rfl rfl) ?_
   refine zA rfl (zA7 uz3 rfl rfl (hs.cellAt 1 rfl rfl)) ?_
   refine zA rfl (zAo uz3 uz5 rfl (c := (((UInt8.ofNat i.st.toNat).toNat : Nat) : Int)) (by rw [← wrapB]; congr 1; omega)) ?_
   refine zC8 hs rfl ((zAm [UInt8.ofNat i.st.toNat])) zBz zs5 rfl (zEg (zBt _)) rfl rfl rfl ?_
   clear hs
   intro b43 w hs
   try simp only [List.set_cons_succ, List.set_cons_zero] at hs
   refine zCi hs rfl 3 rfl zBz in5 rfl rfl rfl (zC2 (P := Tryz.prog) zBz ((Rd.cells (n := 1) (cs := zAm [UInt8.ofNat i.st.toNat]) 0 rfl rfl).seq hs) (zBt _)) (by simp only [zAr, List.length_append, List.length_cons, List.length_nil]; omega) (by simp only [zAr, List.length_append, List.length_cons, List.length_nil]; omega) ?_
   clear hs
   intro a44 c44 w hs
   simp only [List.set_cons_succ, List.set_cons_zero] at hs
   have e8 : zAm (zB V.length ++ (ks.take k).flatMap (itAt V)) ++ zAm [UInt8.ofNat i.st.toNat] = zAm (zB V.length ++ (ks.take k).flatMap (itAt V) ++ [UInt8.ofNat i.st.toNat]) := (zCe _ _).symm
   have e7 : (zAm (zB V.length ++ (ks.take k).flatMap (itAt V))).length + (zAm [UInt8.ofNat i.st.toNat]).length = (zB V.length ++ (ks.take k).flatMap (itAt V) ++ [UInt8.ofNat i.st.toNat]).length := by simp only [zAr, List.length_append]
   rw [e7] at hs ⊢
   rw [e8] at hs
   refine zA rfl (zA2 (v := .slice _ _ _) rfl) ?_
   refine zA4 ?_
   refine zA1 ?_
   refine zA rfl (zA0 (v := .slice _ _ _) rfl) ?_
   refine zA rfl (zA0 (v := .slice _ _ _) rfl) ?_
   refine zA rfl (zAw zBz rfl) ?_
   refine zA rfl (zAo uz3 zC0 rfl (c := (((mfB i.m).length : Nat) : Int)) (by rw [zB6]; omega)) ?_
   refine zA9 rfl en52 (zDy hs (lb := zB V.length ++ (ks.take k).flatMap (itAt V) ++ [UInt8.ofNat i.st.toNat]) (n := (mfB i.m).length) (hs.rdOwn 3 rfl) rfl (by simp only [List.length_append, List.length_cons, List.length_nil]; omega) (by omega)) ?_
   clear hs
   rintro _ w ⟨a49, c49, rfl, hs⟩
   refine zA rfl (zA0 (v := .slice _ _ _) rfl) ?_
   refine zCi hs rfl 0 rfl zBz in5 rfl rfl rfl (zC2 (P := Tryz.prog) zBz ((Rd.own (l := zAm (mfB i.m)) 2 rfl).seq hs) (zBt _)) (by simp only [zAr, List.length_append, List.length_cons, List.length_nil]; omega) (by simp only [zAr, List.length_append, List.length_cons, List.length_nil]; omega) ?_
   clear hs
   intro a51 c51 w hs
   simp only [List.set_cons_succ, List.set_cons_zero] at hs
   have e9 : zB V.length ++ (ks.take k).flatMap (itAt V) ++ [UInt8.ofNat i.st.toNat] ++ zB (mfB i.m).length ++ mfB i.m = zB V.length ++ (ks.take (k + 1)).flatMap (itAt V) := by rw [hnx]; simp only [List.append_assoc]
   have e8 : zAm (zB V.length ++ (ks.take k).flatMap (itAt V) ++ [UInt8.ofNat i.st.toNat] ++ zB (mfB i.m).length) ++ zAm (mfB i.m) = zAm (zB V.length ++ (ks.take (k + 1)).flatMap (itAt V)) := by rw [← e9]; exact (zCe _ _).symm
   have e7 : (zAm (zB V.length ++ (ks.take k).flatMap (itAt V) ++ [UInt8.ofNat i.st.toNat] ++ zB (mfB i.m).length)).length + (zAm (mfB i.m)).length = (zB V.length ++ (ks.take (k + 1)).flatMap (itAt V)).length := by rw [← e9]; simp only [zAr, List.length_append]
   rw [e7] at hs ⊢
   rw [e8] at hs
   refine zA rfl (zA2 (v := .slice _ _ _) rfl) ?_
   refine zA4 ?_
   refine zA1 ?_
   refine zA rfl (zAn rfl rfl rfl (inI (by omega) (by omega))) ?_
   refine zA rfl (zA0 (v := .int .i64 _) rfl) ?_
   refine zA4 ?_
   exact ⟨(k + 1, (a51, c51)), by simp only; omega, ⟨by simp only; omega, hs.arr [0, 5, 6, 7, 8] 9 (by decide)⟩, ⟨rfl, rfl, trivial⟩, by repeat (first | exact Out.mix _ _ _ | refine Out.updo rfl ?_ | refine Out.upd rfl ?_ | refine Out.mixIn rfl ?_)⟩
  ·
   intro h24
   have g24 := of_decide_eq_false h24
   have hke2 : k = ks.length := by omega
   rw [hke2, List.take_length] at hs ⊢
   have e9 : zB V.length ++ ks.flatMap (itAt V) = vwBody V := by rw [hks]; rfl
   rw [e9] at hs ⊢
   refine zBk rfl ?_
   refine zA5 (zA1 ?_)
   refine zA rfl (zA0 (v := .slice _ _ _) rfl) ?_
   refine zA9 rfl en82 (seal_sl hs (l := vwBody V) (hs.rdOwn 0 rfl) rfl (by omega)) ?_
   clear hs
   rintro _ w ⟨a54, c54, rfl, hs⟩
   refine zA rfl (zA2 (v := .slice _ _ _) rfl) ?_
   refine zA4 ?_
   refine zAf ?_
   refine zBj (v := .slice _ _ _) rfl rfl ?_
   exact ⟨_, rfl, a54, c54, rfl, Mem.closeV1 ho (hs.arr [0, 3, 4, 5] 6 (by decide))⟩
end Go.Proofs.YtdkgdjnbpjjfmaaGreatDoor
namespace Go.Proofs.YtdkgdjnbpjjfmaaGreatDoor
set_option linter.all false
open Go.RowKit
attribute [local irreducible] zAq
variable {g w : World} {L M : List HP} {ad : Nat → Addr}

/-! ### the manifests of the statements -/
/-- The last k digits of a number. -/
def digR (n : Nat) : Nat → ByteArray
  | 0 => ByteArray.empty
  | i + 1 => ⟨#[UInt8.ofNat (48 + n / 10 ^ i % 10)]⟩ ++ digR n i
def bSeg : ByteArray := ⟨#[115, 101, 103, 45]⟩
def bDash : ByteArray := ⟨#[45]⟩
def bData : ByteArray := ⟨#[100, 97, 116, 97]⟩
def bMarks : ByteArray := ⟨#[109, 97, 114, 107, 115]⟩
def objNm (id : Nat) (kind : ByteArray) (base : Nat) : ByteArray := bSeg ++ digR id 10 ++ bDash ++ kind ++ bDash ++ digR base 13
def oneM (id base : Nat) : Mf := ⟨id, base, base + 5, 0, [(1, base)], [(objNm id bData base, 0, 0), (objNm id bMarks base, 0, 0)]⟩
end Go.Proofs.YtdkgdjnbpjjfmaaGreatDoor
