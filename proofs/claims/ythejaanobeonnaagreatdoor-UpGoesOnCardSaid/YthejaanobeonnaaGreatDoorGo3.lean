/- The disk in plain words: files by their numbers, names that lead to them, what is kept, changes. The disk in plain words: what every call keeps. The disk in plain words: a crash. The disk in plain words: what a call does while the power is there. The disk in memory: chunks. The disk, over chunks: New, begin, file, find, apply, change. crc.Seal, crc.Open, slices.Equal of bytes, over chunks; vint.Put. Manifests as bytes. vint.Get, GetInt; the reader of numbers. Numbers as bytes and back, in plain words. The reader, where nothing is amiss. Numbers of so many bytes; entries as bytes. DERIVED: THE SHELF's CONTRACTS AT THIS DUMP, IN PLAIN WORDS (tools/lay-plain.mjs out of 'YthejaanobeonnaaGreatDoorSh0S.lean', which tools/lay-shelf.mjs wrote): THE SAME DECLARATIONS UNDER THE SAME NAMES: 'import', 'namespace', 'open', 'def', 'theorem' AND NOTHING ELSE: no command of the shelf's: FOR A HAND-IN. Each laying: the table of numbers ('.._ren') and one theorem, a field a fact of the dump's own or the kernel's comparison; each contract: ONE APPLICATION. A map's keys, in order: what all maps share. A view's keys, in order. A view as bytes. A number of the statements, exactly. cordwoodref1.ValidName: the document's names are the program's. The document's sum (cordwoodref1.More, Sum): bit by bit. The document's manifests: Make, ValidManifest, and what they call. -/
import Derived.Test.YthejaanobeonnaaGreatDoorGo2
import Derived.Test.YthejaanobeonnaaGreatDoorGo1
import Derived.Shelf.SlIterI.Nil
import Derived.Shelf.SortM.SortNone
import Derived.Shelf.SortM.Plain
set_option linter.all false
namespace Go.Proofs.YthejaanobeonnaaGreatDoor
section
open Go.RowKit
structure Fl where
  id : Nat
  b : List UInt8
  syn : Nat
structure Chg where
  name : ByteArray
  gone : ByteArray
  f : Option Nat
structure Dk where
  room : Nat
  names : List (ByteArray × Nat)
  kept : List (ByteArray × Nat)
  changes : List Chg
  files : Nat
  armed : Nat
  down : Bool
  calls : Nat
  fs : List (Nat × Fl)
def Dk.empty (room : Nat) : Dk := ⟨room, [], [], [], 0, 0, false, 0, []⟩
def Dk.begin (d : Dk) : Nat × Dk := if d.down then (110, d) else if d.armed = 0 then (0, d) else if d.armed = 1 then (110, { d with armed := 0, down := true }) else (0, { d with armed := d.armed - 1 })
def Dk.file (n : ByteArray) (d : Dk) : Nat × Option Nat := if d.down then (110, none) else match zAx d.names n with
  | some i => (0, some i)
  | none => (107, none)
def Chg.app (c : Chg) (l : List (ByteArray × Nat)) : List (ByteArray × Nat) :=
  let l1 := if c.gone = ByteArray.empty then l else zDe l c.gone
  match c.f with
  | some i => zC1 l1 c.name i
  | none => l1
def Dk.change (c : Chg) (d : Dk) : Dk := { d with names := c.app d.names, changes := d.changes ++ [c], calls := d.calls + 1 }
def Dk.len (d : Dk) (i : Nat) : Nat := ((zAx d.fs i).map (·.b.length)).getD 0
def Dk.used (d : Dk) : Nat := (d.names.map fun x => d.len x.2).sum
def Dk.find (n : ByteArray) (d : Dk) : Nat × Option Nat × Dk := if d.begin.1 = 0 then ((d.begin.2.file n).1, (d.begin.2.file n).2, d.begin.2) else (110, none, d.begin.2)
def Dk.setF (d : Dk) (i : Nat) (f : Fl) : Dk := { d with fs := zC1 d.fs i f }
def Dk.fl (d : Dk) (i : Nat) : Fl := (zAx d.fs i).getD ⟨0, [], 0⟩
def Dk.create (n : ByteArray) (d : Dk) : Nat × Dk :=
  if d.begin.1 ≠ 0 then (110, d.begin.2) else
  let d1 := d.begin.2
  if zBy n.data.toList = false then (106, d1) else if (zAx d1.names n).isSome then (108, d1) else
  (0, ({ d1 with files := d1.files + 1, fs := d1.fs ++ [(d1.files + 1, ⟨d1.files + 1, [], 0⟩)] } : Dk).change ⟨n, ByteArray.empty, some (d1.files + 1)⟩)
def Dk.append (n : ByteArray) (b : List UInt8) (d : Dk) : Nat × Dk :=
  match d.find n with
  | (_, some i, d1) => if d1.room < d1.used + b.length then (109, d1) else (0, { d1.setF i { d1.fl i with b := (d1.fl i).b ++ b } with calls := d1.calls + 1 })
  | (c, none, d1) => (c, d1)
def Dk.cut (n : ByteArray) (k : Int) (d : Dk) : Nat × Dk :=
  match d.find n with
  | (_, some i, d1) => if k < 0 ∨ ((d1.fl i).b.length : Int) < k then (105, d1) else (0, { d1.setF i { d1.fl i with b := (d1.fl i).b.take k.toNat, syn := k.toNat } with calls := d1.calls + 1 })
  | (c, none, d1) => (c, d1)
def Dk.sync (n : ByteArray) (d : Dk) : Nat × Dk :=
  match d.find n with
  | (_, some i, d1) => (0, { d1.setF i { d1.fl i with syn := (d1.fl i).b.length } with calls := d1.calls + 1 })
  | (c, none, d1) => (c, d1)
def Dk.rename (n m : ByteArray) (d : Dk) : Nat × Dk :=
  match d.find n with
  | (_, some i, d1) => if zBy m.data.toList = false then (106, d1) else (0, d1.change ⟨m, if n = m then ByteArray.empty else n, some i⟩)
  | (c, none, d1) => (c, d1)
def Dk.remove (n : ByteArray) (d : Dk) : Nat × Dk :=
  match d.find n with
  | (_, some _, d1) => (0, d1.change ⟨ByteArray.empty, n, none⟩)
  | (c, none, d1) => (c, d1)
def Dk.syncDir (d : Dk) : Nat × Dk := if d.begin.1 ≠ 0 then (110, d.begin.2) else (0, { d.begin.2 with kept := d.begin.2.names, changes := [], calls := d.begin.2.calls + 1 })
def Dk.readR (n : ByteArray) (off k : Int) (d : Dk) : Nat × List UInt8 :=
  match d.file n with
  | (_, some i) => if off < 0 ∨ k < 0 ∨ ((d.fl i).b.length : Int) < off ∨ ((d.fl i).b.length : Int) - off < k then (105, []) else (0, ((d.fl i).b.take (off.toNat + k.toNat)).drop off.toNat)
  | (c, none) => (c, [])
def zEc (picks : List Int) (k n : Nat) : Nat := match picks[k]? with
  | some x => (x % ((n : Int) + 1)).toNat
  | none => 0
def zC2 (l : List (ByteArray × Nat)) (cs : List Chg) : List (ByteArray × Nat) := cs.foldl (fun l c => c.app l) l
def zFf (fs : List (Nat × Fl)) (kept : List (ByteArray × Nat)) : List Nat := (zAm fs).filter fun i => decide (i ∈ kept.map (·.2))
def Fl.crashed (f : Fl) (picks : List Int) (k : Nat) : Fl := { f with b := f.b.take (f.syn + zEc picks (k + 1) (f.b.length - f.syn)), syn := (f.b.take (f.syn + zEc picks (k + 1) (f.b.length - f.syn))).length }
def zD0 (picks : List Int) : Nat → List Nat → List (Nat × Fl) → List (Nat × Fl)
  | _, [], fs => fs
  | k, i :: l, fs => zD0 picks (k + 1) l (match zAx fs i with | some f => zC1 fs i (f.crashed picks k) | none => fs)
def Dk.crash (picks : List Int) (d : Dk) : Dk :=
  let kept := zC2 d.kept (d.changes.take (zEc picks 0 d.changes.length))
  { d with kept := kept, names := kept, changes := [], armed := 0, down := false, fs := zD0 picks 0 (zFf d.fs kept) d.fs }
structure Dk.okB (d : Dk) : Prop where
  room : d.room ≤ 4194304
  ids : (zAm d.fs).Pairwise (· < ·) ∧ ∀ i ∈ zAm d.fs, 1 ≤ i ∧ i ≤ d.files
  fid : ∀ i f, zAx d.fs i = some f → f.id = i ∧ f.syn ≤ f.b.length ∧ f.b.length ≤ 4194304
  nnd : (zAm d.names).Nodup
  knd : (zAm d.kept).Nodup
  nin : ∀ x ∈ d.names, x.2 ∈ zAm d.fs
  kin : ∀ x ∈ d.kept, x.2 ∈ zAm d.fs
  cin : ∀ c ∈ d.changes, ∀ i, c.f = some i → i ∈ zAm d.fs
structure Dk.ok (d : Dk) : Prop extends Dk.okB d where
  fcl : d.files ≤ d.calls
  nl : d.names.length ≤ d.calls
  kl : d.kept.length + d.changes.length ≤ d.calls
  al : d.armed ≤ 9223372036854775807
end
section
open Go.RowKit
variable {d : Dk} {n m : ByteArray} {i : Nat}
theorem zEb {κ α : Type} [DecidableEq κ] {l : List (κ × α)} {k : κ} {v : α} (h : zAx l k = some v) : k ∈ zAm l := List.mem_map_of_mem (zCy h)
theorem zC8 {κ α : Type} [DecidableEq κ] {l : List (κ × α)} {k : κ} (h : k ∈ zAm l) : ∃ v, zAx l k = some v := by
  cases hc : zAx l k with
  | some v => exact ⟨v, rfl⟩
  | none => exact absurd h ((zBe _ _).1 hc)
theorem aput_keys {κ α : Type} [DecidableEq κ] {l : List (κ × α)} {k : κ} {v : α} (h : k ∈ zAm l) : zAm (zC1 l k v) = zAm l := by rw [zF4, if_pos h]
theorem aput_nodup {κ α : Type} [DecidableEq κ] {l : List (κ × α)} {k : κ} {v : α} (h : (zAm l).Nodup) : (zAm (zC1 l k v)).Nodup := by
  rw [zF4]
  split
  · exact h
  · rename_i hn
    rw [List.nodup_append]; refine ⟨h, by simp, fun a ha c hc e => ?_⟩; simp only [List.mem_cons, List.not_mem_nil, or_false] at hc; subst hc; exact hn (e ▸ ha)
theorem aput_in {κ α : Type} [DecidableEq κ] {l : List (κ × α)} {k : κ} {v : α} {x : κ × α} (h : x ∈ zC1 l k v) : x = (k, v) ∨ x ∈ l := by
  induction l with
  | nil => simp [zC1] at h; exact .inl h
  | cons y l ih =>
    obtain ⟨a, b⟩ := y; simp only [zC1] at h
    split at h
    · rcases List.mem_cons.1 h with h | h
      · exact .inl h
      · exact .inr (List.mem_cons_of_mem _ h)
    · rcases List.mem_cons.1 h with h | h
      · exact .inr (by rw [h]; exact List.mem_cons_self ..)
      · rcases ih h with h | h
        · exact .inl h
        · exact .inr (List.mem_cons_of_mem _ h)
theorem adel_in {κ α : Type} [DecidableEq κ] {l : List (κ × α)} {k : κ} {x : κ × α} (h : x ∈ zDe l k) : x ∈ l := by
  induction l with
  | nil => simp [zDe] at h
  | cons y l ih =>
    obtain ⟨a, b⟩ := y; simp only [zDe] at h
    split at h
    · exact List.mem_cons_of_mem _ h
    · rcases List.mem_cons.1 h with h | h
      · rw [h]; exact List.mem_cons_self ..
      · exact List.mem_cons_of_mem _ (ih h)
theorem aput_end {κ α : Type} [DecidableEq κ] {l : List (κ × α)} {k : κ} {v : α} (h : k ∉ zAm l) : zC1 l k v = l ++ [(k, v)] := by
  induction l with
  | nil => rfl
  | cons x l ih =>
    obtain ⟨a, b⟩ := x; simp only [zAm, List.map_cons, List.mem_cons, not_or] at h; simp only [List.cons_append, zC1]; rw [if_neg (fun e => h.1 e.symm), ih h.2]
theorem Dk.okB.key (h : d.okB) (hi : i ∈ zAm d.fs) : 1 ≤ i ∧ i ≤ d.files := h.ids.2 i hi
theorem Dk.okB.fresh (h : d.okB) : d.files + 1 ∉ zAm d.fs := fun hm => by have := h.key hm; omega
theorem Dk.okB.fl_some (h : d.okB) (hi : i ∈ zAm d.fs) : zAx d.fs i = some (d.fl i) := by
  obtain ⟨f, hf⟩ := zC8 hi
  simp [Dk.fl, hf]
theorem Dk.begin_same (d : Dk) : d.begin.2.room = d.room ∧ d.begin.2.names = d.names ∧ d.begin.2.kept = d.kept ∧ d.begin.2.changes = d.changes ∧ d.begin.2.files = d.files ∧ d.begin.2.fs = d.fs ∧ d.begin.2.calls = d.calls ∧ d.begin.2.armed ≤ d.armed := by
  unfold Dk.begin
  split
  · exact ⟨rfl, rfl, rfl, rfl, rfl, rfl, rfl, Nat.le_refl _⟩
  · split
    · exact ⟨rfl, rfl, rfl, rfl, rfl, rfl, rfl, Nat.le_refl _⟩
    · split
      · exact ⟨rfl, rfl, rfl, rfl, rfl, rfl, rfl, Nat.zero_le _⟩
      · exact ⟨rfl, rfl, rfl, rfl, rfl, rfl, rfl, Nat.sub_le _ _⟩
theorem Dk.begin_code (d : Dk) : d.begin.1 = 0 ∨ d.begin.1 = 110 := by
  unfold Dk.begin
  split
  · exact .inr rfl
  · split
    · exact .inl rfl
    · split
      · exact .inr rfl
      · exact .inl rfl
theorem Dk.okB.same {e : Dk} (h : d.okB) (h1 : e.room = d.room) (h2 : e.names = d.names) (h3 : e.kept = d.kept) (h4 : e.changes = d.changes) (h5 : e.files = d.files) (h6 : e.fs = d.fs) : e.okB :=
  ⟨h1 ▸ h.room, by rw [h6, h5]; exact h.ids, by rw [h6]; exact h.fid, by rw [h2]; exact h.nnd, by rw [h3]; exact h.knd, by rw [h2, h6]; exact h.nin, by rw [h3, h6]; exact h.kin, by rw [h4, h6]; exact h.cin⟩
theorem Dk.okB.begin (h : d.okB) : d.begin.2.okB := by
  obtain ⟨h1, h2, h3, h4, h5, h6, _⟩ := d.begin_same; exact h.same h1 h2 h3 h4 h5 h6
theorem Chg.app_nodup {c : Chg} {l : List (ByteArray × Nat)} (h : (zAm l).Nodup) : (zAm (c.app l)).Nodup := by
  have h1 : (zAm (if c.gone = ByteArray.empty then l else zDe l c.gone)).Nodup := by
    split
    · exact h
    · rw [zF3 h]; exact h.filter _
  unfold Chg.app
  cases c.f with
  | none => exact h1
  | some i => exact aput_nodup h1
theorem Chg.app_in {c : Chg} {l : List (ByteArray × Nat)} {S : Nat → Prop} (h : ∀ x ∈ l, S x.2) (hc : ∀ i, c.f = some i → S i) : ∀ x ∈ c.app l, S x.2 := by
  have h1 : ∀ x ∈ (if c.gone = ByteArray.empty then l else zDe l c.gone), S x.2 := by
    split
    · exact h
    · exact fun x hx => h x (adel_in hx)
  intro x hx
  unfold Chg.app at hx
  cases hf : c.f with
  | none => rw [hf] at hx; exact h1 x hx
  | some i =>
    rw [hf] at hx
    rcases aput_in hx with e | hx
    · rw [e]; exact hc i hf
    · exact h1 x hx
theorem Dk.okB.change (h : d.okB) {c : Chg} (hc : ∀ i, c.f = some i → i ∈ zAm d.fs) : (d.change c).okB :=
  ⟨h.room, h.ids, h.fid, Chg.app_nodup h.nnd, h.knd, Chg.app_in h.nin hc, h.kin, fun x hx i hi => by
    rcases List.mem_append.1 hx with hx | hx
    · exact h.cin x hx i hi
    · simp only [List.mem_cons, List.not_mem_nil, or_false] at hx; subst hx; exact hc i hi⟩
theorem Dk.okB.addF (h : d.okB) : ({ d with files := d.files + 1, fs := d.fs ++ [(d.files + 1, ⟨d.files + 1, [], 0⟩)] } : Dk).okB := by
  have hk : zAm (d.fs ++ [(d.files + 1, (⟨d.files + 1, [], 0⟩ : Fl))]) = zAm d.fs ++ [d.files + 1] := by simp [zAm]
  refine ⟨h.room, ?_, fun i f hf => ?_, h.nnd, h.knd, fun x hx => ?_, fun x hx => ?_, fun c hc i hi => ?_⟩
  · show (zAm (d.fs ++ _)).Pairwise _ ∧ ∀ i ∈ zAm (d.fs ++ _), 1 ≤ i ∧ i ≤ d.files + 1
    rw [hk]; refine ⟨List.pairwise_append.2 ⟨h.ids.1, by simp, fun a ha b hb => ?_⟩, fun i hi => ?_⟩
    · simp only [List.mem_cons, List.not_mem_nil, or_false] at hb
      have := h.key ha
      omega
    · rcases List.mem_append.1 hi with hi | hi
      · have := h.key hi; omega
      · simp only [List.mem_cons, List.not_mem_nil, or_false] at hi; omega
  · have hf : zAx (d.fs ++ [(d.files + 1, (⟨d.files + 1, [], 0⟩ : Fl))]) i = some f := hf
    rw [← aput_end h.fresh] at hf
    by_cases e : i = d.files + 1
    · subst e; rw [zB7] at hf; cases hf; exact ⟨rfl, Nat.le_refl _, by simp⟩
    · rw [zB1 _ _ e] at hf; exact h.fid i f hf
  · show _ ∈ zAm (d.fs ++ _); rw [hk]; exact List.mem_append_left _ (h.nin x hx)
  · show _ ∈ zAm (d.fs ++ _); rw [hk]; exact List.mem_append_left _ (h.kin x hx)
  · show _ ∈ zAm (d.fs ++ _); rw [hk]; exact List.mem_append_left _ (h.cin c hc i hi)
theorem Dk.okB.setF (h : d.okB) (hi : i ∈ zAm d.fs) {f : Fl} (hf : f.id = i ∧ f.syn ≤ f.b.length ∧ f.b.length ≤ 4194304) (k : Nat) : ({ d.setF i f with calls := k } : Dk).okB := by
  have hk : zAm (zC1 d.fs i f) = zAm d.fs := aput_keys hi; refine ⟨h.room, by show (zAm (zC1 d.fs i f)).Pairwise _ ∧ ∀ j ∈ zAm (zC1 d.fs i f), _; rw [hk]; exact h.ids, fun j x hx => ?_, h.nnd, h.knd, fun x hx => by show _ ∈ zAm (zC1 d.fs i f); rw [hk]; exact h.nin x hx, fun x hx => by show _ ∈ zAm (zC1 d.fs i f); rw [hk]; exact h.kin x hx, fun c hc j hj => by show _ ∈ zAm (zC1 d.fs i f); rw [hk]; exact h.cin c hc j hj⟩; have hx : zAx (zC1 d.fs i f) j = some x := hx
  by_cases e : j = i
  · subst e; rw [zB7] at hx; cases hx; exact hf
  · rw [zB1 _ _ e] at hx; exact h.fid j x hx
theorem sum_mem {α : Type} (f : α → Nat) : ∀ {l : List α} {x : α}, x ∈ l → f x ≤ (l.map f).sum
  | y :: l, x, h => by
    simp only [List.map_cons, List.sum_cons]
    rcases List.mem_cons.1 h with rfl | h
    · omega
    · have := sum_mem f h; omega
theorem Dk.len_used (h : zAx d.names n = some i) : d.len i ≤ d.used := sum_mem (fun x : ByteArray × Nat => d.len x.2) (zCy h)
theorem Dk.okB.len_eq (h : d.okB) (hi : i ∈ zAm d.fs) : d.len i = (d.fl i).b.length := by unfold Dk.len; rw [h.fl_some hi]; rfl
theorem Dk.find_some {c : Nat} {d1 : Dk} (h : d.find n = (c, some i, d1)) : c = 0 ∧ d.begin = (0, d1) ∧ d1.down = false ∧ zAx d1.names n = some i := by
  unfold Dk.find at h
  split at h
  · rename_i h0
    have hb : d.begin = (0, d.begin.2) := by rw [← h0]
    simp only [Prod.mk.injEq] at h; obtain ⟨h1, h2, rfl⟩ := h
    unfold Dk.file at h1 h2
    cases hd : d.begin.2.down with
    | true => rw [hd] at h2; simp at h2
    | false =>
      rw [hd] at h1 h2; simp only [Bool.false_eq_true, if_false] at h1 h2
      cases ha : zAx d.begin.2.names n with
      | none => rw [ha] at h2; simp at h2
      | some j =>
        rw [ha] at h1 h2; simp only [Option.some.injEq] at h2; subst h2; exact ⟨h1.symm, hb, rfl, rfl⟩
  · simp at h
theorem adel_len {κ α : Type} [DecidableEq κ] (l : List (κ × α)) (k : κ) : (zDe l k).length ≤ l.length := by
  induction l with
  | nil => simp [zDe]
  | cons x l ih =>
    obtain ⟨a, b⟩ := x; simp only [zDe]
    split
    · simp
    · simpa using ih
theorem zGr {κ α : Type} [DecidableEq κ] : ∀ {l : List (κ × α)} {k : κ} {v : α}, zAx l k = some v → (zDe l k).length < l.length
  | (a, b) :: l, k, v, h => by
    simp only [zAx] at h; simp only [zDe]
    split at h
    · rename_i e; rw [if_pos e]; simp
    · rename_i e; rw [if_neg e]; have := zGr h; simpa using this
theorem aput_len {κ α : Type} [DecidableEq κ] (l : List (κ × α)) (k : κ) (v : α) : (zC1 l k v).length ≤ l.length + 1 := by
  induction l with
  | nil => simp [zC1]
  | cons x l ih =>
    obtain ⟨a, b⟩ := x; simp only [zC1]
    split
    · simp
    · simpa using ih
theorem Chg.app_len (c : Chg) (l : List (ByteArray × Nat)) : (c.app l).length ≤ l.length + 1 := by
  have h1 : (if c.gone = ByteArray.empty then l else zDe l c.gone).length ≤ l.length := by
    split
    · exact Nat.le_refl _
    · exact adel_len _ _
  unfold Chg.app
  cases c.f with
  | none => exact Nat.le_succ_of_le h1
  | some i => exact Nat.le_trans (aput_len _ _ _) (by omega)
theorem Dk.ok.begin (h : d.ok) : d.begin.2.ok := by
  obtain ⟨h1, h2, h3, h4, h5, h6, h7, h8⟩ := d.begin_same; exact ⟨h.tookB.begin, by rw [h5, h7]; exact h.fcl, by rw [h2, h7]; exact h.nl, by rw [h3, h4, h7]; exact h.kl, by have := h.al; omega⟩
theorem Dk.ok.change (h : d.ok) {c : Chg} (hc : ∀ i, c.f = some i → i ∈ zAm d.fs) : (d.change c).ok := by
  have h1 := c.app_len d.names; have h2 := h.fcl; have h3 := h.nl; have h4 := h.kl; refine ⟨h.tookB.change hc, ?_, ?_, ?_, h.al⟩
  · show d.files ≤ d.calls + 1; omega
  · show (c.app d.names).length ≤ d.calls + 1; omega
  · show d.kept.length + (d.changes ++ [c]).length ≤ d.calls + 1; simp; omega
def Dk.addF (d : Dk) : Dk := { d with files := d.files + 1, fs := d.fs ++ [(d.files + 1, ⟨d.files + 1, [], 0⟩)] }
theorem Dk.ok.create (h : d.ok) {c : Chg} (hc : ∀ i, c.f = some i → i = d.files + 1) : (d.addF.change c).ok := by
  have h1 := c.app_len d.names; have h2 := h.fcl; have h3 := h.nl; have h4 := h.kl; refine ⟨h.tookB.addF.change fun i hi => ?_, ?_, ?_, ?_, h.al⟩
  · rw [hc i hi]; simp [zAm]
  · show d.files + 1 ≤ d.calls + 1; omega
  · show (c.app d.names).length ≤ d.calls + 1; omega
  · show d.kept.length + (d.changes ++ [c]).length ≤ d.calls + 1; simp; omega
theorem Dk.ok.setF (h : d.ok) (hi : i ∈ zAm d.fs) {f : Fl} (hf : f.id = i ∧ f.syn ≤ f.b.length ∧ f.b.length ≤ 4194304) : ({ d.setF i f with calls := d.calls + 1 } : Dk).ok := by
  have h2 := h.fcl; have h3 := h.nl; have h4 := h.kl; refine ⟨h.tookB.setF hi hf _, ?_, ?_, ?_, h.al⟩
  · show d.files ≤ d.calls + 1; omega
  · show d.names.length ≤ d.calls + 1; omega
  · show d.kept.length + d.changes.length ≤ d.calls + 1; omega
theorem Dk.ok.syncDir (h : d.ok) : ({ d with kept := d.names, changes := [], calls := d.calls + 1 } : Dk).ok := by
  have h2 := h.fcl; have h3 := h.nl; refine ⟨⟨h.room, h.ids, h.fid, h.nnd, h.nnd, h.nin, h.nin, fun c hc => by simp at hc⟩, ?_, ?_, ?_, h.al⟩
  · show d.files ≤ d.calls + 1; omega
  · show d.names.length ≤ d.calls + 1; omega
  · show d.names.length + 0 ≤ d.calls + 1; omega
theorem Dk.find_dk {c : Nat} {o : Option Nat} {d1 : Dk} (h : d.find n = (c, o, d1)) : d1 = d.begin.2 := by
  unfold Dk.find at h
  split at h <;> (simp only [Prod.mk.injEq] at h; exact h.2.2.symm)
theorem Dk.ok.find (h : d.ok) {c : Nat} {o : Option Nat} {d1 : Dk} (hf : d.find n = (c, o, d1)) : d1.ok := Dk.find_dk hf ▸ h.begin
theorem Dk.okB.named (h : d.okB) (hn : zAx d.names n = some i) : i ∈ zAm d.fs := h.nin _ (zCy hn)
theorem Dk.used_le (h : d.ok) : d.used ≤ d.calls * 4194304 := by
  have : ∀ l : List (ByteArray × Nat), (∀ x ∈ l, x.2 ∈ zAm d.fs) → (l.map fun x => d.len x.2).sum ≤ l.length * 4194304 := by
    intro l
    induction l with
    | nil => intro _; simp
    | cons x l ih =>
      intro hl
      have h1 := ih fun y hy => hl y (List.mem_cons_of_mem _ hy)
      have hx := hl x (List.mem_cons_self ..); have h2 := h.tookB.len_eq hx; have h3 := (h.fid _ _ (h.tookB.fl_some hx)).2.2; simp only [List.map_cons, List.sum_cons, List.length_cons]
      omega
  have h1 := this d.names h.nin; exact Nat.le_trans h1 (Nat.mul_le_mul_right _ h.nl)
end
section
open Go.RowKit
variable {d : Dk} {picks : List Int} {n i k : Nat}
theorem pickN_le (picks : List Int) (k n : Nat) : zEc picks k n ≤ n := by
  unfold zEc
  cases picks[k]? with
  | none => exact Nat.zero_le _
  | some x =>
    have h1 := Int.emod_nonneg x (b := (n : Int) + 1) (by omega); have h2 := Int.emod_lt_of_pos x (b := (n : Int) + 1) (by omega)
    show (x % ((n : Int) + 1)).toNat ≤ n
    omega
theorem applyAll_take {l : List (ByteArray × Nat)} {cs : List Chg} {c : Chg} (h : cs[k]? = some c) : zC2 l (cs.take (k + 1)) = c.app (zC2 l (cs.take k)) := by
  rw [List.take_add_one, h]
  simp [zC2, List.foldl_append]
theorem applyAll_props {cs : List Chg} {S : Nat → Prop} : ∀ {l : List (ByteArray × Nat)}, (zAm l).Nodup → (∀ x ∈ l, S x.2) → (∀ c ∈ cs, ∀ i, c.f = some i → S i) → (zAm (zC2 l cs)).Nodup ∧ (∀ x ∈ zC2 l cs, S x.2) ∧ (zC2 l cs).length ≤ l.length + cs.length := by
  induction cs with
  | nil => exact fun h1 h2 _ => ⟨h1, h2, Nat.le_refl _⟩
  | cons c cs ih =>
    intro l h1 h2 h3
    have h4 := ih (l := c.app l) (Chg.app_nodup h1) (Chg.app_in h2 (h3 c (List.mem_cons_self ..))) fun c' hc => h3 c' (List.mem_cons_of_mem _ hc)
    have h5 := c.app_len l; refine ⟨h4.1, h4.2.1, ?_⟩; have h6 := h4.2.2; simp only [zC2, List.foldl_cons, List.length_cons] at h6 ⊢
    omega
theorem Dk.okB.keys_rise (h : d.okB) : (zAm d.fs).Pairwise (· < ·) := h.ids.1
theorem keptIds_mem {fs : List (Nat × Fl)} {kept : List (ByteArray × Nat)} : i ∈ zFf fs kept ↔ i ∈ zAm fs ∧ i ∈ kept.map (·.2) := by simp [zFf]
theorem ids_eq (h : d.okB) {kept : List (ByteArray × Nat)} (hk : ∀ x ∈ kept, x.2 ∈ zAm d.fs) {ids ids' : List Nat} (hp : ids'.Perm ids) (hs : ids'.Pairwise (· ≤ ·)) (hn : ids.Nodup) (hm : ∀ i, i ∈ ids ↔ i ∈ kept.map (·.2)) : ids' = zFf d.fs kept := by
  have h1 : (zFf d.fs kept).Pairwise (· < ·) := h.keys_rise.filter _
  have h2 : ids.Perm (zFf d.fs kept) := (List.perm_ext_iff_of_nodup hn (h1.imp fun h => Nat.ne_of_lt h)).2 fun i => by
    rw [keptIds_mem, hm]
    constructor
    · intro hi
      obtain ⟨x, hx, rfl⟩ := List.mem_map.1 hi; exact ⟨hk x hx, hi⟩
    · exact fun h => h.2
  exact (hp.trans h2).eq_of_pairwise (fun a b _ _ h1 h2 => Nat.le_antisymm h1 h2) hs (h1.imp fun h => Nat.le_of_lt h)
def crashStep (picks : List Int) (k i : Nat) (fs : List (Nat × Fl)) : List (Nat × Fl) := match zAx fs i with | some f => zC1 fs i (f.crashed picks k) | none => fs
theorem crashFs_snoc (i : Nat) : ∀ (l : List Nat) (k : Nat) (fs : List (Nat × Fl)), zD0 picks k (l ++ [i]) fs = crashStep picks (k + l.length) i (zD0 picks k l fs)
  | [], k, fs => rfl
  | j :: l, k, fs => by
    simp only [List.cons_append, zD0, List.length_cons]; rw [crashFs_snoc i l (k + 1), show k + 1 + l.length = k + (l.length + 1) by omega]
theorem zG6 : ∀ (l : List Nat) (k : Nat) (fs : List (Nat × Fl)), zAm (zD0 picks k l fs) = zAm fs
  | [], _, _ => rfl
  | j :: l, k, fs => by
    simp only [zD0]; rw [zG6 l]
    cases h : zAx fs j with
    | none => rfl
    | some f => exact aput_keys (zEb h)
theorem zGx : ∀ (l : List Nat) (k : Nat) (fs : List (Nat × Fl)), i ∉ l → zAx (zD0 picks k l fs) i = zAx fs i
  | [], _, _, _ => rfl
  | j :: l, k, fs, h => by
    simp only [List.mem_cons, not_or] at h; simp only [zD0]; rw [zGx l _ _ h.2]
    cases hj : zAx fs j with
    | none => rfl
    | some f => exact zB1 _ _ h.1
theorem crashFs_at : ∀ (l : List Nat) (k : Nat) (fs : List (Nat × Fl)) {q : Nat} {f : Fl}, l.Nodup → l[q]? = some i → zAx fs i = some f → zAx (zD0 picks k l fs) i = some (f.crashed picks (k + q))
  | [], _, _, _, _, _, h, _ => by simp at h
  | j :: l, k, fs, 0, f, hn, h, hf => by
    simp only [List.getElem?_cons_zero, Option.some.injEq] at h; subst h; simp only [zD0, hf]; rw [zGx l _ _ (List.nodup_cons.1 hn).1, zB7]
    rfl
  | j :: l, k, fs, q + 1, f, hn, h, hf => by
    simp only [List.getElem?_cons_succ] at h
    have hne : i ≠ j := fun e => (List.nodup_cons.1 hn).1 (e ▸ List.mem_of_getElem? h)
    simp only [zD0]; rw [show k + (q + 1) = k + 1 + q by omega]; refine crashFs_at l (k + 1) _ (List.nodup_cons.1 hn).2 h ?_
    cases hj : zAx fs j with
    | none => exact hf
    | some f' => rw [← hf]; exact zB1 _ _ hne
theorem Fl.crashed_fine {f : Fl} (h : f.syn ≤ f.b.length) (picks : List Int) (k : Nat) : (f.crashed picks k).id = f.id ∧ (f.crashed picks k).syn ≤ (f.crashed picks k).b.length ∧ (f.crashed picks k).b.length ≤ f.b.length := by
  refine ⟨rfl, Nat.le_refl _, ?_⟩
  show (f.b.take _).length ≤ _
  simp
  omega
theorem zFb {P : Nat → Fl → Prop} (hP : ∀ i f picks k, P i f → P i (f.crashed picks k)) : ∀ (l : List Nat) (k : Nat) (fs : List (Nat × Fl)), (∀ i f, zAx fs i = some f → P i f) → ∀ i f, zAx (zD0 picks k l fs) i = some f → P i f
  | [], _, _, h => h
  | j :: l, k, fs, h => by
    refine zFb hP l _ _ fun i f hf => ?_
    cases hj : zAx fs j with
    | none => simp only [hj] at hf; exact h i f hf
    | some f' =>
      simp only [hj] at hf
      by_cases e : i = j
      · subst e; rw [zB7] at hf; cases hf; exact hP _ _ _ _ (h _ _ hj)
      · rw [zB1 _ _ e] at hf; exact h i f hf
theorem Dk.ok.crash (h : d.ok) (picks : List Int) : (d.crash picks).ok := by
  have h1 := applyAll_props (cs := d.changes.take (zEc picks 0 d.changes.length)) (l := d.kept) (S := fun i => i ∈ zAm d.fs) h.knd h.kin fun c hc i hi => h.cin c (List.mem_of_mem_take hc) i hi
  have h2 := h.kl; have h3 := h.fcl
  have h4 : (d.changes.take (zEc picks 0 d.changes.length)).length ≤ d.changes.length := by simp; omega
  have h5 := h1.2.2; refine ⟨⟨h.room, ?_, ?_, h1.1, h1.1, ?_, ?_, ?_⟩, h3, ?_, ?_, Nat.zero_le _⟩
  · show (zAm (zD0 _ _ _ _)).Pairwise _ ∧ ∀ i ∈ zAm (zD0 _ _ _ _), _; rw [zG6]; exact h.ids
  · exact zFb (P := fun i f => f.id = i ∧ f.syn ≤ f.b.length ∧ f.b.length ≤ 4194304) (fun i f picks k hf => by
      have := Fl.crashed_fine hf.2.1 picks k
      exact ⟨this.1.trans hf.1, this.2.1, Nat.le_trans this.2.2 hf.2.2⟩) _ _ _ h.fid
  · intro x hx; show _ ∈ zAm (zD0 _ _ _ _); rw [zG6]; exact h1.2.1 x hx
  · intro x hx; show _ ∈ zAm (zD0 _ _ _ _); rw [zG6]; exact h1.2.1 x hx
  · intro c hc; simp [Dk.crash] at hc
  · show (zC2 _ _).length ≤ d.calls; omega
  · show (zC2 _ _).length + 0 ≤ d.calls; omega
end
section
open Go.RowKit
variable {d : Dk} {n m : ByteArray} {i : Nat} {b : List UInt8}
theorem Dk.begin_up (h1 : d.down = false) (h2 : d.armed = 0) : d.begin = (0, d) := by simp [Dk.begin, h1, h2]
theorem Dk.find_up (h1 : d.down = false) (h2 : d.armed = 0) (hn : zAx d.names n = some i) : d.find n = (0, some i, d) := by simp [Dk.find, Dk.begin_up h1 h2, Dk.file, h1, hn]
theorem Dk.find_none (h1 : d.down = false) (h2 : d.armed = 0) (hn : zAx d.names n = none) : d.find n = (107, none, d) := by simp [Dk.find, Dk.begin_up h1 h2, Dk.file, h1, hn]
theorem Dk.append_up (h1 : d.down = false) (h2 : d.armed = 0) (hn : zAx d.names n = some i) (hr : d.used + b.length ≤ d.room) : d.append n b = (0, { d.setF i { d.fl i with b := (d.fl i).b ++ b } with calls := d.calls + 1 }) := by
  simp only [Dk.append, Dk.find_up h1 h2 hn]; rw [if_neg (by omega)]
theorem Dk.sync_up (h1 : d.down = false) (h2 : d.armed = 0) (hn : zAx d.names n = some i) : d.sync n = (0, { d.setF i { d.fl i with syn := (d.fl i).b.length } with calls := d.calls + 1 }) := by simp only [Dk.sync, Dk.find_up h1 h2 hn]
theorem Dk.create_up (h1 : d.down = false) (h2 : d.armed = 0) (hv : zBy n.data.toList = true) (hn : zAx d.names n = none) : d.create n = (0, ({ d with files := d.files + 1, fs := d.fs ++ [(d.files + 1, ⟨d.files + 1, [], 0⟩)] } : Dk).change ⟨n, ByteArray.empty, some (d.files + 1)⟩) := by simp [Dk.create, Dk.begin_up h1 h2, hv, hn]
theorem Dk.remove_up (h1 : d.down = false) (h2 : d.armed = 0) (hn : zAx d.names n = some i) : d.remove n = (0, d.change ⟨ByteArray.empty, n, none⟩) := by simp only [Dk.remove, Dk.find_up h1 h2 hn]
theorem Dk.syncDir_up (h1 : d.down = false) (h2 : d.armed = 0) : d.syncDir = (0, { d with kept := d.names, changes := [], calls := d.calls + 1 }) := by simp [Dk.syncDir, Dk.begin_up h1 h2]
end
section
open Go.RowKit
variable {g w : World} {L M : List HP} {p : Nat} {d : Dk} {ptr : List (Nat × Nat)}
def fptr (ptr : List (Nat × Nat)) (i : Nat) : Value := .pointer ((zAx ptr i).map fun b => ⟨b, 0, none⟩)
theorem zFa {i b : Nat} (h : zAx ptr i = some b) : fptr ptr i = .pointer (some ⟨b, 0, none⟩) := by simp [fptr, h]
def nmV (ptr : List (Nat × Nat)) (l : List (ByteArray × Nat)) : List (ByteArray × Value) := l.map fun x => (x.1, fptr ptr x.2)
theorem nmV_get (l : List (ByteArray × Nat)) (n : ByteArray) : zAx (nmV ptr l) n = (zAx l n).map (fptr ptr) := by
  induction l with
  | nil => rfl
  | cons x l ih =>
    obtain ⟨a, b⟩ := x; simp only [nmV, List.map_cons, zAx] at ih ⊢
    split
    · rfl
    · exact ih
theorem nmV_put (l : List (ByteArray × Nat)) (n : ByteArray) (i : Nat) : nmV ptr (zC1 l n i) = zC1 (nmV ptr l) n (fptr ptr i) := by
  induction l with
  | nil => rfl
  | cons x l ih =>
    obtain ⟨a, b⟩ := x; simp only [nmV, List.map_cons, zC1] at ih ⊢
    split
    · simp
    · simp only [List.map_cons, ih]
theorem nmV_del (l : List (ByteArray × Nat)) (n : ByteArray) : nmV ptr (zDe l n) = zDe (nmV ptr l) n := by
  induction l with
  | nil => rfl
  | cons x l ih =>
    obtain ⟨a, b⟩ := x; simp only [nmV, List.map_cons, zDe] at ih ⊢
    split
    · rfl
    · simp only [List.map_cons, ih]
theorem nmV_more {l : List (ByteArray × Nat)} {k b : Nat} (h : ∀ x ∈ l, x.2 ≠ k) : nmV (zC1 ptr k b) l = nmV ptr l := by
  unfold nmV
  refine List.map_congr_left fun x hx => ?_
  simp only [fptr]; rw [zB1 _ _ (h x hx)]
def fiC (b : Nat) (f : Fl) : HP := ex fun v : Option Addr × Nat => stars [cells b [.int .i64 f.id, .slice v.1 f.b.length v.2, .int .i64 f.syn] 154, own (.slice v.1 f.b.length v.2) (zAn f.b)]
theorem Mem.openF {b : Nat} {f : Fl} (hs : Mem g w (fiC b f :: L)) : ∃ a c, Mem g w (cells b [.int .i64 f.id, .slice a f.b.length c, .int .i64 f.syn] 154 :: own (.slice a f.b.length c) (zAn f.b) :: L) := by
  obtain ⟨⟨a, c⟩, h⟩ := hs.unex; exact ⟨a, c, h.unstars⟩
theorem Mem.closeF {b : Nat} {f : Fl} {a : Option Addr} {c : Nat} (hs : Mem g w (cells b [.int .i64 f.id, .slice a f.b.length c, .int .i64 f.syn] 154 :: own (.slice a f.b.length c) (zAn f.b) :: L)) : Mem g w (fiC b f :: L) :=
  Mem.ex (f := fun v : Option Addr × Nat => Go.Proofs.YthejaanobeonnaaGreatDoor.stars [cells b [.int .i64 f.id, .slice v.1 f.b.length v.2, .int .i64 f.syn] 154, own (.slice v.1 f.b.length v.2) (zAn f.b)]) (a, c) (Mem.stars (M := [cells b [.int .i64 f.id, .slice a f.b.length c, .int .i64 f.syn] 154, own (.slice a f.b.length c) (zAn f.b)]) hs)
def chgV (ptr : List (Nat × Nat)) (c : Chg) : List Value := [.string c.name, .string c.gone, match c.f with | some i => fptr ptr i | none => .pointer none]
theorem chgV_more {cs : List Chg} {k b : Nat} (h : ∀ c ∈ cs, ∀ i, c.f = some i → i ≠ k) : cs.map (chgV (zC1 ptr k b)) = cs.map (chgV ptr) := by
  refine List.map_congr_left fun c hc => ?_
  unfold chgV
  cases hf : c.f with
  | none => rfl
  | some i => simp only [fptr]; rw [zB1 _ _ (h c hc i hf)]
abbrev mapS (m : Nat) (es : List (ByteArray × Value)) : HP := mapC Value.string m es
def diskL (mn mk : Nat) (d : Dk) (sa : Option Addr) (sc : Nat) : List Value := [.int .i64 d.room, .map (some mn), .map (some mk), .slice sa d.changes.length sc, .int .i64 d.files, .int .i64 d.armed, .bool d.down, .int .i64 d.calls]
abbrev zCi (p : Nat) (d : Dk) (mn mk : Nat) (sa : Option Addr) (sc : Nat) (ptr : List (Nat × Nat)) : List HP :=
  [cells p (diskL mn mk d sa sc) 88, mapS mn (nmV ptr d.names), mapS mk (nmV ptr d.kept), zE0 3 (.slice sa d.changes.length sc) (d.changes.map (chgV ptr)), famC fiC ptr d.fs]
def zB9 (p : Nat) (d : Dk) : HP := ex fun x : Nat × Nat × Option Addr × Nat × List (Nat × Nat) => also (stars (zCi p d x.1 x.2.1 x.2.2.1 x.2.2.2.1 x.2.2.2.2)) d.ok
theorem Mem.openD (hs : Mem g w (zB9 p d :: L)) : d.ok ∧ ∃ mn mk sa sc ptr, Mem g w (zCi p d mn mk sa sc ptr ++ L) := by
  obtain ⟨⟨mn, mk, sa, sc, ptr⟩, h⟩ := hs.unex; obtain ⟨h1, h2⟩ := h.unalso; exact ⟨h1, mn, mk, sa, sc, ptr, h2.unstars⟩
theorem Mem.closeD {mn mk : Nat} {sa : Option Addr} {sc : Nat} (ho : d.ok) (hs : Mem g w (zCi p d mn mk sa sc ptr ++ L)) : Mem g w (zB9 p d :: L) :=
  Mem.ex (f := fun x : Nat × Nat × Option Addr × Nat × List (Nat × Nat) => Go.Proofs.YthejaanobeonnaaGreatDoor.also (Go.Proofs.YthejaanobeonnaaGreatDoor.stars (zCi p d x.1 x.2.1 x.2.2.1 x.2.2.2.1 x.2.2.2.2)) d.ok) (mn, mk, sa, sc, ptr) (Mem.also ho hs.stars)
theorem fam_inj {i j b : Nat} (hs : Mem g w L) (k : Nat) (hk : L[k]? = some (famC fiC ptr d.fs)) (hi : zAx ptr i = some b) (hj : zAx ptr j = some b) : i = j := by
  obtain ⟨F, G, h1, h2, h3, h4, h5⟩ := hs.read hk
  refine Classical.byContradiction fun hne => ?_
  obtain ⟨f, hf⟩ := zC8 (h1 ▸ zEb hi : i ∈ zAm d.fs); obtain ⟨f', hf'⟩ := zC8 (h1 ▸ zEb hj : j ∈ zAm d.fs); obtain ⟨v, F1, F2, ⟨_, e1⟩, _, _, e2⟩ := h2 i b f id hi hf; obtain ⟨v', F1', F2', ⟨_, e1'⟩, _, _, e2'⟩ := h2 j b f' id hj hf'; exact h3 i j b hne ((e2 b).2 (.inl ((e1 b).2 rfl))) ((e2' b).2 (.inl ((e1' b).2 rfl)))
theorem Dk.okB.ptrOf (ho : d.okB) (hs : Mem g w L) (k : Nat) (hk : L[k]? = some (famC fiC ptr d.fs)) {i : Nat} (hi : i ∈ zAm d.fs) : ∃ b, zAx ptr i = some b ∧ fptr ptr i = .pointer (some ⟨b, 0, none⟩) ∧ zAx d.fs i = some (d.fl i) := by
  have h1 := hs.famKeys k hk; obtain ⟨b, hb⟩ := zC8 (h1 ▸ hi : i ∈ zAm ptr); exact ⟨b, hb, zFa hb, ho.fl_some hi⟩
theorem Mem.flCells (hs : Mem g w L) (k : Nat) (hk : L[k]? = some (famC fiC ptr d.fs)) {i b : Nat} {f : Fl} (hb : zAx ptr i = some b) (hf : zAx d.fs i = some f) : ∃ a c, w.cell? ⟨b, 0, none⟩ = some (.int .i64 f.id) ∧ w.cell? ⟨b, 1, none⟩ = some (.slice a f.b.length c) ∧ w.cell? ⟨b, 2, none⟩ = some (.int .i64 f.syn) := by
  have h1 := hs.famTake k hk hb hf; obtain ⟨a, c, h2⟩ := h1.openF; exact ⟨a, c, h2.cellAt 0 rfl (o := 0) rfl, h2.cellAt 0 rfl (o := 1) rfl, h2.cellAt 0 rfl (o := 2) rfl⟩
end
section
open Go.RowKit
attribute [local irreducible] zAk
variable {g w : World} {L M : List HP} {ad : Nat → Addr} {p mn mk sc : Nat} {sa : Option Addr} {d : Dk} {ptr : List (Nat × Nat)}
def zFy : List Nat := [105, 106, 107, 108, 109, 110]
abbrev ErrK (ad : Nat → Addr) (g : World) : Prop := Errs zFy ad g.heap.size g
theorem Dk.empty_ok {r : Nat} (h : r ≤ 4194304) : (Dk.empty r).ok := by
  refine ⟨⟨h, ⟨by simp [Dk.empty, zAm], fun i hi => by simp [Dk.empty, zAm] at hi⟩, fun i f hf => (by cases hf), by simp [Dk.empty, zAm], by simp [Dk.empty, zAm], fun x hx => (by simp [Dk.empty] at hx), fun x hx => (by simp [Dk.empty] at hx), fun x hx => (by simp [Dk.empty] at hx)⟩, Nat.le_refl _, Nat.le_refl _, Nat.le_refl _, by simp [Dk.empty]⟩
theorem rows_nil (w : World) : (zE0 3 (.slice none 0 0) []).ok (fun _ => False) w := rowK_nil 3 w
theorem newd_sl (hs : Mem g w L) {r : Nat} (h1 : 1 ≤ r) (h2 : r ≤ 4194304) : Calls Tryz.prog 10 #[.int .i64 r] w (Ret fun v w' => ∃ p, v = .tuple #[.pointer (some ⟨p, 0, none⟩), .nilIface] ∧ Mem g w' (zB9 p (Dk.empty r) :: L)) := by
  refine zAh Tryz.func10 rfl rfl ?_
  refine zA4 (zA2 (Jf rfl (J3 rfl (zA6 (zA4 (zA4 (zA2 (J0 rfl (Jn rfl rfl (J2 rfl (zAl rfl rfl (decide_eq_false (by omega)) (J0 rfl ?_)))))))))))); refine zAl rfl rfl (decide_eq_false (by omega)) (Jt rfl rfl (J9 rfl (decide_eq_false (by omega)) rfl (zA6 (zAz rfl (decide_eq_false (by omega)) (zAd (zA4 (zA2 (J0 rfl ?_))))))))
  refine zFp Value.string hs rfl ?_; clear hs; intro m12 w hs
  try simp only [zzs, zzz] at hs
  refine zFp Value.string hs rfl ?_; clear hs; intro m13 w hs
  try simp only [zzs, zzz] at hs
  refine Qa (zBw (cs := [.int .i64 r, .map (some m12), .map (some m13), .slice none 0 0, .int .i64 0, .int .i64 0, .bool false, .int .i64 0]) zG1 ze88 pl88 rfl) (zBp (v := .agg _) hs rfl rfl ?_); clear hs; intro b15 w hs; refine Jd rfl (J3 rfl (zA6 (zAe (zEd (v := .pointer (some _)) (v2 := .nilIface) rfl rfl rfl ⟨_, rfl, b15, rfl, Mem.closeD (mn := m12) (mk := m13) (sa := none) (sc := 0) (ptr := []) (Dk.empty_ok h2) ?_⟩)))); exact ((hs.addE (rows_nil _)).addE (famC_nil (R := fiC) _)).arr [2, 4, 3, 1, 0] 5 (by decide)
theorem begin_sl (hE : ErrK ad g) (ho : d.ok) (hs : Mem g w (zCi p d mn mk sa sc ptr ++ L)) : Calls Tryz.prog 119 #[.pointer (some ⟨p, 0, none⟩)] w (Ret fun v w' => v = zAk ad d.begin.1 ∧ Mem g w' (zCi p d.begin.2 mn mk sa sc ptr ++ L)) := by
  have hal := ho.al; refine zAh Tryz.func119 rfl rfl ?_
  refine zA4 (zA2 (J3 rfl (zA6 (zA4 (zA4 (zA2 (J1 rfl (Jx rfl (Jp (o' := 6) zG1 rfl sz4 rfl rfl rfl (Qc uz4 rfl hs 0 rfl rfl (zA6 (zB2 rfl ?_ ?_))))))))))))
  ·
   intro h6; refine zA4 (zA2 (Jq zCq rfl rfl (hE.cellW hs 110 (by decide) rfl) (J6 rfl (zA6 (zAe (zBi (v := zAk ad _) rfl rfl ?_))))))
   have e : d.begin = (110, d) := by simp [Dk.begin, h6]
   rw [e]; exact ⟨_, rfl, rfl, hs⟩
  ·
   intro h6; refine zAd (zA4 (zA4 (zA2 (J1 rfl (Jx rfl (Jp (o' := 5) zG1 rfl sz3 rfl rfl rfl (Qc uz3 rfl hs 0 rfl rfl (Jt rfl rfl (zA6 (zB2 rfl ?_ ?_))))))))))
   ·
    intro h12; have g12 := of_decide_eq_true h12; refine zA4 (zA2 (J1 rfl (Jx rfl (Jp (o' := 5) zG1 rfl sz3 rfl rfl rfl (Qc uz3 rfl hs 0 rfl rfl (Qa (zCx rfl rfl (c := ((d.armed - 1 : Nat) : Int)) (by omega) (inI (by omega) (by omega))) (Jx rfl (Jp (o' := 5) zG1 rfl sz3 rfl rfl rfl (zB0 (v := .int .i64 _) hs 0 rfl sz3 rfl rfl rfl rfl ?_))))))))); clear hs; intro w hs
    try simp only [zzs, zzz] at hs
    refine zA6 (zA4 (zA2 (J1 rfl (Jx rfl (Jp (o' := 5) zG1 rfl sz3 rfl rfl rfl (Qc uz3 rfl hs 0 rfl rfl (Jw rfl rfl (zA6 (zB2 rfl ?_ ?_)))))))))
    ·
     intro h24; have g24 := of_decide_eq_true h24; refine zA4 (zA2 (J1 rfl (Jx rfl (Jp (o' := 6) zG1 rfl sz4 rfl rfl rfl (zB0 (v := .bool _) hs 0 rfl sz4 rfl rfl rfl rfl ?_))))); clear hs; intro w hs
     try simp only [zzs, zzz] at hs
     refine zA6 (zA4 (zA2 (Jq zCq rfl rfl (hE.cellW hs 110 (by decide) rfl) (J6 rfl (zA6 (zAe (zBi (v := zAk ad _) rfl rfl ?_)))))))
     have e : d.begin = (110, { d with armed := 0, down := true }) := by simp [Dk.begin, h6, show ¬ d.armed = 0 by omega, show d.armed = 1 by omega]
     rw [show d.armed - 1 = 0 by omega] at hs; rw [e]; exact ⟨_, rfl, rfl, hs⟩
    ·
     intro h24; have g24 := of_decide_eq_false h24; refine zAd (zA4 (zA2 (J3 rfl (zA6 (zAe (zBi (v := .nilIface) rfl rfl ?_))))))
     have e : d.begin = (0, { d with armed := d.armed - 1 }) := by simp [Dk.begin, h6, show ¬ d.armed = 0 by omega, show ¬ d.armed = 1 by omega]
     rw [e]; exact ⟨_, rfl, (zB ad).symm, hs⟩
   ·
    intro h12; have g12 := of_decide_eq_false h12; refine zAd (zA4 (zA2 (J3 rfl (zA6 (zAe (zBi (v := .nilIface) rfl rfl ?_))))))
    have e : d.begin = (0, d) := by simp [Dk.begin, h6, show d.armed = 0 by omega]
    rw [e]; exact ⟨_, rfl, (zB ad).symm, hs⟩
def FileRet (g : World) (ad : Nat → Addr) (L : List HP) (p mn mk : Nat) (sa : Option Addr) (sc : Nat) (ptr : List (Nat × Nat)) (d : Dk) (r : Nat × Option Nat) (v : Value) (w' : World) : Prop :=
  (∃ c, c ∈ zFy ∧ c ≠ 0 ∧ r = (c, none) ∧ v = .tuple #[.pointer none, zAk ad c] ∧ Mem g w' (zCi p d mn mk sa sc ptr ++ L)) ∨
  (∃ i b, r = (0, some i) ∧ i ∈ zAm d.fs ∧ zAx ptr i = some b ∧ zAx d.fs i = some (d.fl i) ∧ v = .tuple #[.pointer (some ⟨b, 0, none⟩), .nilIface] ∧ Mem g w' (zCi p d mn mk sa sc ptr ++ L))
theorem file_sl (hE : ErrK ad g) (ho : d.ok) (n : ByteArray) (hs : Mem g w (zCi p d mn mk sa sc ptr ++ L)) : Calls Tryz.prog 118 #[.pointer (some ⟨p, 0, none⟩), .string n] w (Ret (FileRet g ad L p mn mk sa sc ptr d (d.file n))) := by
  cases hd : d.down with
  | true =>
    refine zAh Tryz.func118 rfl rfl ?_
    refine zA4 (zA2 (Jf rfl (J3 rfl (zA6 (zA4 (zA4 (zA2 (J1 rfl (Jx rfl (Jp (o' := 6) zG1 rfl sz4 rfl rfl rfl (Qc uz4 rfl hs 0 rfl rfl (zA6 ?_)))))))))))); refine zBc rfl (hd) (zA4 (zAq zBk hs ?_)); intro w tr hK; replace hs := tr _ hs; clear tr; refine Qd 0 rfl zCq rfl (fun w hs => hE.cellW hs 110 (by decide) rfl) hK (Q5 1 rfl (v := .pointer none) rfl hK ?_)
    refine Q1 2 rfl rfl hK (zAs (by kernel_rfl) ?_); clear hK; refine zAe (zEd (v := .pointer none) (v2 := zAk ad _) rfl rfl rfl ?_); exact ⟨_, rfl, .inl ⟨110, by decide, by decide, by simp [Dk.file, hd], rfl, hs⟩⟩
  | false =>
    cases hn : zAx d.names n with
    | none =>
      refine zAh Tryz.func118 rfl rfl ?_
      refine zA4 (zA2 (Jf rfl (J3 rfl (zA6 (zA4 (zA4 (zA2 (J1 rfl (Jx rfl (Jp (o' := 6) zG1 rfl sz4 rfl rfl rfl (Qc uz4 rfl hs 0 rfl rfl (zA6 ?_)))))))))))); refine zAz rfl (hd) (zAd (zA4 (zA2 (J1 rfl (Jx rfl (Jp (o' := 1) zG1 rfl sz85 rfl rfl rfl (Qc uz85 rfl hs 0 rfl rfl (Je rfl ?_))))))))
      refine Qa (zDx (hs.mapAt 1 rfl) zEf uz85 uz9 ze146 rfl rfl (o := none) (by rw [nmV_get, hn]; rfl)) ?_; refine Jf rfl (zA6 (zA4 (zA4 (zA2 (Jm (v := .pointer none) rfl (Qa (zDj uz146 rfl rfl) (zA6 (zBc rfl (rfl) (zA4 (zAq zBk hs ?_)))))))))); intro w tr hK; replace hs := tr _ hs; clear tr; refine Qd 0 rfl zCq rfl (fun w hs => hE.cellW hs 107 (by decide) rfl) hK (Q5 1 rfl (v := .pointer none) rfl hK (Q1 2 rfl rfl hK (zAs (by kernel_rfl) ?_))); clear hK
      refine zAe (zEd (v := .pointer none) (v2 := zAk ad _) rfl rfl rfl ?_); exact ⟨_, rfl, .inl ⟨107, by decide, by decide, by simp [Dk.file, hd, hn], rfl, hs⟩⟩
    | some i =>
      obtain ⟨b, hb, hp, hf⟩ := ho.ptrOf hs 4 rfl (ho.named hn); refine zAh Tryz.func118 rfl rfl ?_
      refine zA4 (zA2 (Jf rfl (J3 rfl (zA6 (zA4 (zA4 (zA2 (J1 rfl (Jx rfl (Jp (o' := 6) zG1 rfl sz4 rfl rfl rfl (Qc uz4 rfl hs 0 rfl rfl (zA6 ?_)))))))))))); refine zAz rfl (hd) (zAd (zA4 (zA2 (J1 rfl (Jx rfl (Jp (o' := 1) zG1 rfl sz85 rfl rfl rfl (Qc uz85 rfl hs 0 rfl rfl (Je rfl ?_))))))))
      refine Qa (zDx (hs.mapAt 1 rfl) zEf uz85 uz9 ze146 rfl rfl (o := some (.pointer (some ⟨b, 0, none⟩))) (by rw [nmV_get, hn, Option.map_some, hp])) ?_; refine Jd rfl (zA6 (zA4 (zA4 (zA2 (J1 rfl (Qa (zDj uz146 rfl rfl) (zA6 (zAz rfl rfl (zAd (zA4 (zA2 (J1 rfl ?_)))))))))))); refine Jd rfl (J3 rfl (zA6 (zAe (zEd (v := .pointer (some _)) (v2 := .nilIface) rfl rfl rfl ?_))))
      exact ⟨_, rfl, .inr ⟨i, b, by simp [Dk.file, hd, hn], ho.named hn, hb, hf, rfl, hs⟩⟩
theorem find_sl (hE : ErrK ad g) (ho : d.ok) (n : ByteArray) (hs : Mem g w (zCi p d mn mk sa sc ptr ++ L)) {c0 : Nat} {o : Option Nat} {d1 : Dk} (hf : d.find n = (c0, o, d1)) : Calls Tryz.prog 138 #[.pointer (some ⟨p, 0, none⟩), .string n] w (Ret (FileRet g ad L p mn mk sa sc ptr d1 (c0, o))) := by
  obtain rfl := Dk.find_dk hf; have hc := d.begin_code; refine zAh Tryz.func138 rfl rfl ?_
  refine zA4 (zA2 (Jf rfl (J3 rfl (zA6 (zA4 (zA4 (zA2 (J1 rfl (Qg en119 (begin_sl hE ho hs) ?_))))))))); clear hs; rintro _ w ⟨rfl, hs⟩; refine J6 rfl (zA6 (zA4 (zA2 (J8 rfl (Jv (ad := ad) rfl (zA6 (zB2 rfl ?_ ?_)))))))
  ·
   intro h10; have g10 := zFj h10; refine zA4 (zA2 (J8 rfl (Jf rfl (J6 rfl (zA6 (zAe (zEd (v := .pointer none) (v2 := zAk ad _) rfl rfl rfl ?_)))))))
   have hb : d.begin.1 = 110 := by simp at h10; omega
   rw [hb]; refine ⟨_, rfl, .inl ⟨110, by decide, by decide, ?_, rfl, hs⟩⟩
   simp [Dk.find, hb] at hf
   simp [← hf.1, ← hf.2]
  ·
   intro h10; have g10 := zFi h10; refine zAd (zA4 (zA2 (J1 rfl (Je rfl (Qg en118 (file_sl hE ho.begin n hs) ?_))))); clear hs; rintro _ w ((⟨c14, hc14, h014, hr14, rfl, hs⟩) | (⟨i14, b14, hr14, hk14, hb14, hf14, rfl, hs⟩))
   ·
    refine Ju (v := .pointer none) rfl rfl (Jg rfl rfl (Jf rfl (J6 rfl (zA6 (zAe (zEd (v := .pointer none) (v2 := zAk ad _) rfl rfl rfl ?_))))))
    have hb : d.begin.1 = 0 := by simpa using h10
    simp only [Dk.find, hb, if_true, Prod.mk.injEq] at hf; exact ⟨_, rfl, .inl ⟨c14, hc14, h014, by rw [← hf.1, ← hf.2.1]; exact hr14, rfl, hs⟩⟩
   ·
    refine Ju (v := .pointer (some _)) rfl rfl (Jk rfl rfl (Jd rfl (J3 rfl (zA6 (zAe (zEd (v := .pointer (some _)) (v2 := .nilIface) rfl rfl rfl ?_))))))
    have hb : d.begin.1 = 0 := by simpa using h10
    simp only [Dk.find, hb, if_true, Prod.mk.injEq] at hf; exact ⟨_, rfl, .inr ⟨i14, b14, by rw [← hf.1, ← hf.2.1]; exact hr14, hk14, hb14, hf14, rfl, hs⟩⟩
theorem dapply_sl {m : Nat} {l : List (ByteArray × Nat)} (hs : Mem g w (mapS m (nmV ptr l) :: L)) (c : Chg) (hp : ∀ i, c.f = some i → ∃ b, zAx ptr i = some b) {row : List Value} (hrow : chgV ptr c = row) : Calls Tryz.prog 69 #[.map (some m), .agg row.toArray] w (Ret fun v w' => v = .tuple #[] ∧ Mem g w' (mapS m (nmV ptr (c.app l)) :: L)) := by
  subst hrow; obtain ⟨nm, gn, f⟩ := c
  cases f with
  | none =>
    simp only [chgV]; refine zAh Tryz.func69 rfl rfl ?_
    refine zA4 (zA2 (zBp (v := .agg _) hs rfl rfl ?_)); clear hs; intro b3 w hs; refine zA6 (zA4 (zA4 (zA2 (Jp (o' := 1) zG3 rfl sz9 rfl rfl rfl (Qc uz9 rfl hs 0 rfl rfl (Qa (run_nes rfl rfl) (zA6 (zB2 rfl ?_ ?_))))))))
    ·
     intro h6; have g6 := zFj h6; refine zA2 (Jm (v := .map _) rfl (Jp (o' := 1) zG3 rfl sz9 rfl rfl rfl (Qc uz9 rfl hs 0 rfl rfl (lw_delete hs rfl 1 rfl zEf uz85 uz9 rfl rfl ?_)))); clear hs; intro w hs
     try simp only [zzs, zzz] at hs
     refine zA6 (zA4 (zA2 (Jp (o' := 2) zG3 rfl sz146 rfl rfl rfl (Qc uz146 rfl hs 0 rfl rfl (Qa (run_nepn uz146 rfl rfl) (zA6 (zAz rfl (rfl) (zAd (res0  rfl ?_))))))))); exact ⟨_, rfl, rfl, by have h1 := hs.tail; rw [← nmV_del] at h1; simp only [Chg.app]; rw [if_neg (show gn ≠ ByteArray.empty from g6)]; exact h1⟩
    ·
     intro h6; have g6 := zFi h6; refine zAd (zA4 (zA2 (Jp (o' := 2) zG3 rfl sz146 rfl rfl rfl (Qc uz146 rfl hs 0 rfl rfl (Qa (run_nepn uz146 rfl rfl) (zA6 (zAz rfl (rfl) (zAd (res0  rfl ?_))))))))); exact ⟨_, rfl, rfl, by have h1 := hs.tail; simp only [Chg.app]; rw [if_pos (show gn = ByteArray.empty from g6)]; exact h1⟩
  | some i =>
    obtain ⟨b, hb⟩ := hp i rfl; simp only [chgV, zFa hb]; refine zAh Tryz.func69 rfl rfl ?_
    refine zA4 (zA2 (zBp (v := .agg _) hs rfl rfl ?_)); clear hs; intro b3 w hs; refine zA6 (zA4 (zA4 (zA2 (Jp (o' := 1) zG3 rfl sz9 rfl rfl rfl (Qc uz9 rfl hs 0 rfl rfl (Qa (run_nes rfl rfl) (zA6 (zB2 rfl ?_ ?_))))))))
    ·
     intro h6; have g6 := zFj h6; refine zA2 (Jm (v := .map _) rfl (Jp (o' := 1) zG3 rfl sz9 rfl rfl rfl (Qc uz9 rfl hs 0 rfl rfl (lw_delete hs rfl 1 rfl zEf uz85 uz9 rfl rfl ?_)))); clear hs; intro w hs
     try simp only [zzs, zzz] at hs
     refine zA6 (zA4 (zA2 (Jp (o' := 2) zG3 rfl sz146 rfl rfl rfl (Qc uz146 rfl hs 0 rfl rfl (Qa (run_nepn uz146 rfl rfl) (zA6 (zBc rfl rfl (zA2 (Jm (v := .map _) rfl (Jp (o' := 0) zG3 rfl sz9 rfl rfl rfl (Qc uz9 rfl hs 0 rfl rfl (Jp (o' := 2) zG3 rfl sz146 rfl rfl rfl ?_)))))))))))); refine Qc uz146 rfl hs 0 rfl rfl (zDq (v := .pointer (some _)) hs 1 rfl zEf uz85 uz9 rfl rfl rfl ?_); clear hs; intro w hs
     try simp only [zzs, zzz] at hs
     refine zA6 (res0  rfl ?_); exact ⟨_, rfl, rfl, by have h1 := hs.tail; rw [← nmV_del, ← zFa hb, ← nmV_put] at h1; simp only [Chg.app]; rw [if_neg (show gn ≠ ByteArray.empty from g6)]; exact h1⟩
    ·
     intro h6; have g6 := zFi h6; refine zAd (zA4 (zA2 (Jp (o' := 2) zG3 rfl sz146 rfl rfl rfl (Qc uz146 rfl hs 0 rfl rfl (Qa (run_nepn uz146 rfl rfl) (zA6 (zBc rfl rfl (zA2 (Jm (v := .map _) rfl (Jp (o' := 0) zG3 rfl sz9 rfl rfl rfl (Qc uz9 rfl hs 0 rfl rfl ?_))))))))))); refine Jp (o' := 2) zG3 rfl sz146 rfl rfl rfl (Qc uz146 rfl hs 0 rfl rfl (zDq (v := .pointer (some _)) hs 1 rfl zEf uz85 uz9 rfl rfl rfl ?_)); clear hs; intro w hs
     try simp only [zzs, zzz] at hs
     refine zA6 (res0  rfl ?_); exact ⟨_, rfl, rfl, by have h1 := hs.tail; rw [← zFa hb, ← nmV_put] at h1; simp only [Chg.app]; rw [if_pos (show gn = ByteArray.empty from g6)]; exact h1⟩
theorem zsC : (Tryz.prog.info? 148).map (fun i => (i.zero, i.size)) = some (some (.agg #[.string ByteArray.empty, .string ByteArray.empty, .pointer none]), 3) := by
  have h := in148; obtain ⟨i, h1, h2⟩ := Option.map_eq_some_iff.1 h; simp only [Prod.mk.injEq] at h2; rw [h1, Option.map_some, h2.1, h2.2.1]
theorem row_form {ptr : List (Nat × Nat)} {c : Chg} (hp : ∀ i, c.f = some i → ∃ b, zAx ptr i = some b) : ∃ P, chgV ptr c = [.string c.name, .string c.gone, P] ∧ P.oneCell' = true := by
  unfold chgV
  cases hf : c.f with
  | none => exact ⟨_, rfl, rfl⟩
  | some i => obtain ⟨b, hb⟩ := hp i hf; exact ⟨_, rfl, by simp [fptr, hb, Value.oneCell']⟩
theorem change_sl (hc : d.calls < 1000000000) (hn : d.changes.length < 1000000000) (hs : Mem g w (zCi p d mn mk sa sc ptr ++ L)) (c : Chg) (hp : ∀ i, c.f = some i → ∃ b, zAx ptr i = some b) {row : List Value} (hrow : chgV ptr c = row) : Calls Tryz.prog 120 #[.pointer (some ⟨p, 0, none⟩), .agg row.toArray] w (Ret fun v w' => v = .tuple #[] ∧ ∃ sa' sc', Mem g w' (zCi p (d.change c) mn mk sa' sc' ptr ++ L)) := by
  subst hrow; obtain ⟨P, hrow, hP⟩ := row_form hp; rw [hrow]; refine zAh Tryz.func120 rfl rfl ?_
  refine zA4 (zA2 (zBp (v := .agg _) hs rfl rfl ?_)); clear hs; intro b3 w hs; refine zA6 (zA4 (zAq zBk (hs.drop 2) ?_)); intro w tr hK; replace hs := tr _ hs; clear tr; refine Q0 0 rfl rfl hK (Q7 1 rfl rfl hK (Q6 2 rfl (o' := 1) zG1 rfl sz85 rfl rfl rfl hK (Qd 3 rfl uz85 rfl (fun w hs => hs.cellAt 1 rfl rfl) hK (Qb 4 rfl (fun w hs => zBd hs 0 rfl zG3 sz148 rfl) hK (zAc [5] ⟨⟨_, rfl, ?_⟩, trivial⟩))))); refine Qg en69 (dapply_sl (hs.arr [2, 0, 1, 3, 4, 5] 6 (by decide)) c hp hrow) ?_
  clear hs; rintro _ w ⟨rfl, hs⟩; clear hK; have hK := hs.tail; refine zA6 ⟨hK, ?_⟩; refine zAs (by kernel_rfl) ?_; clear hK; refine zA4 (zAq zBk ((hs.drop 4).drop 2) ?_); intro w tr hK; replace hs := tr _ hs; clear tr; refine Q0 0 rfl rfl hK (Q0 1 rfl rfl hK (Q7 2 rfl rfl hK (Q6 3 rfl (o' := 3) zG1 rfl sz86 rfl rfl rfl hK (Qb 5 rfl (fun w hs => zBd hs 1 rfl zG3 sz148 rfl) hK (zAc [4, 6] ⟨⟨_, rfl, ?_⟩, ⟨_, rfl, ?_⟩, trivial⟩)))))
  refine Qc uz86 rfl hs 2 rfl rfl ?_; clear hK; have hK := (hs.drop 4).drop 2; refine zA6 ⟨hK, ?_⟩; refine zAc [6] ⟨⟨_, rfl, ?_⟩, trivial⟩; refine zBf hs rfl (row := [.string c.name, .string c.gone, P]) uz86 zsC rfl (by simp [Instr.fill, Value.cells, Array.range_succ, show Array.range 0 = #[] from by simp]) (by decide) (by decide) ?_; clear hs; intro b16 w hs
  rotate_left
  refine zBf hs rfl (row := [.string c.name, .string c.gone, P]) uz86 zsC rfl (by simp [Instr.fill, Value.cells, Array.range_succ, show Array.range 0 = #[] from by simp]) (by decide) (by decide) ?_; clear hs; intro b16 w hs; clear hK; have hK := (hs.tail.drop 4).drop 2; refine zA6 ⟨hK, ?_⟩; refine zAc [4] ⟨⟨_, rfl, ?_⟩, trivial⟩; refine Qc uz86 rfl hs 3 rfl rfl ?_
  rotate_left
  all_goals
   clear hK; have hK := (hs.tail.drop 4).drop 2; refine zA6 ⟨hK, ?_⟩; refine zAc [7] ⟨⟨_, rfl, ?_⟩, trivial⟩; refine zCn hs rfl 5 0 rfl rfl uz86 uz86 in148 rfl rfl (by simp only [List.all_cons, List.all_nil, hP]; rfl) rfl rfl (by simp only [List.length_map]; omega) (by simp only [List.length_map]; omega) ?_; clear hs; intro a17 c17 w hs; simp only [zzs, zzz] at hs; clear hK; have hK := (hs.tail.drop 4).drop 2; refine zA6 ⟨hK, ?_⟩; refine Q7 8 rfl rfl hK (Q6 9 rfl (o' := 3) zG1 rfl sz86 rfl rfl rfl hK (zAc [10] ⟨⟨_, rfl, ?_⟩, trivial⟩))
   refine zB0 (v := .slice _ _ _) hs 3 rfl sz86 rfl rfl rfl rfl ?_; clear hs; intro w hs
   try simp only [zzs, zzz] at hs
   clear hK; have hK := (hs.tail.drop 4).drop 2; refine zA6 ⟨hK, ?_⟩; refine zAs (by kernel_rfl) ?_; clear hK; refine zA2 (J1 rfl (Jx rfl (Jp (o' := 7) zG1 rfl sz3 rfl rfl rfl (Qc uz3 rfl hs 3 rfl rfl (Jo rfl rfl rfl (inI (by omega) (by omega)) (Jx rfl (Jp (o' := 7) zG1 rfl sz3 rfl rfl rfl (zB0 (v := .int .i64 _) hs 3 rfl sz3 rfl rfl rfl rfl ?_)))))))); clear hs; intro w hs
   try simp only [zzs, zzz] at hs
   refine zA6 (res0  rfl ⟨_, rfl, rfl, a17, c17, ?_⟩)
   have e1 : (d.change c).changes.length = (d.changes.map (chgV ptr)).length + 1 := by simp [Dk.change]
   have e2 : (d.change c).changes.map (chgV ptr) = d.changes.map (chgV ptr) ++ [[.string c.name, .string c.gone, P]] := by simp [Dk.change, hrow]
   simp only [zCi, diskL, e1, e2]; exact hs.arr [3, 1, 4, 5, 6] 7 (by decide)
end
section
open Go.RowKit
attribute [local irreducible] zAk
variable {g w : World} {L M : List HP} {ad : Nat → Addr}
def zGo : List Nat := [101, 102, 105, 106, 107, 108, 109, 110]
abbrev ErrP (ad : Nat → Addr) (g : World) : Prop := Errs zGo ad g.heap.size g
theorem zFq {c : Nat} (h : c ∈ zFy) : c ∈ zGo := by
  simp only [zFy, zGo, List.mem_cons, List.not_mem_nil, or_false] at *; omega
theorem Errs.ofPoint {ad : Nat → Addr} {B : Nat} {w : World} (h : Errs zGo ad B w) : Errs zFy ad B w :=
  ⟨fun c hc => h.pos c (zFq hc), fun c hc => h.cell c (zFq hc), fun c hc => h.block c (zFq hc), fun c hc d hd => h.inj c (zFq hc) d (zFq hd), fun c hc => h.lt c (zFq hc)⟩
def le4 (s : Nat) : List UInt8 := [UInt8.ofNat s, UInt8.ofNat (s / 2 ^ 8), UInt8.ofNat (s / 2 ^ 16), UInt8.ofNat (s / 2 ^ 24)]
def zC0 (b : List UInt8) : List UInt8 := b ++ le4 (zC4 0 b)
def openL (b : List UInt8) : Nat × List UInt8 := if b.length < 4 then (101, []) else if zC0 (b.take (b.length - 4)) = b then (0, b.take (b.length - 4)) else (102, [])
theorem zCk (b : List UInt8) : (zC0 b).length = b.length + 4 := by simp [zC0, le4]
theorem open_seal (b : List UInt8) : openL (zC0 b) = (0, b) := by
  have h : (zC0 b).take ((zC0 b).length - 4) = b := by rw [zCk]; simp [zC0]
  unfold openL
  rw [if_neg (by rw [zCk]; omega), h, if_pos rfl]
theorem cof_sl (hs : Mem g w L) {b : Nat} {T : TypeId} {v : Value} {l : List UInt8} (i : Nat) (hi : L[i]? = some (cells b [v] T)) (hr : Rd g L v (zAn l)) (hlen : l.length ≤ 1073741824) : Calls Tryz.prog 88 #[.slice (some ⟨b, 0, none⟩) 1 1] w (Ret fun v w' => v = .int .u32 (zC4 0 l : Nat) ∧ Mem g w' L) := by
  have h1 : Rd g L (.slice (some ⟨b, 0, none⟩) 1 1) [v] := Rd.cells (n := 1) i hi rfl; exact hs.calls (of_any0 (h1 w hs) (hr w hs) hlen)
theorem seal_sl (hs : Mem g w L) {a : Option Addr} {n c : Nat} {l : List UInt8} (hr : Rd g L (.slice a n c) (zAn l)) (hn : n = l.length) (hlen : l.length ≤ 100000000) : Calls Tryz.prog 137 #[.slice a n c] w (Ret fun v w' => ∃ a' c', v = .slice a' (zC0 l).length c' ∧ Mem g w' (own (.slice a' (zC0 l).length c') (zAn (zC0 l)) :: L)) := by
  subst hn; obtain ⟨s, hS⟩ : ∃ s, zC4 0 l = s := ⟨_, rfl⟩; have hs32 : s < 4294967296 := hS ▸ crcMore_lt (by decide) l; refine zAh Tryz.func137 rfl rfl ?_
  refine zA4 (zA2 (Jb rfl (zA6 (zA4 (zA2 (J7 rfl (zB4 hs rfl ([.slice a l.length c]) uz62 zs22 rfl (by simp [Value.cells]) rfl rfl rfl ?_))))))); clear hs; intro b5 w hs
  try simp only [zzs, zzz] at hs
  refine Qg en88 (cof_sl hs 0 rfl hr.cons (by omega)) ?_; clear hs; rintro _ w ⟨rfl, hs⟩; rw [hS]; refine Jl (v := .int .u32 _) rfl (zA6 (zA4 (zA2 (J7 rfl (Qg en49 (zCt hs (l := l) hr.cons (by omega)) ?_))))); clear hs; rintro _ w ⟨a8, c8, rfl, hs⟩; refine Jm (v := .int .u32 _) rfl (Jy uz64 uz5 rfl (c := (((UInt8.ofNat s).toNat : Nat) : Int)) (wrapB s) (Jm (v := .int .u32 _) rfl (Qa (run_shr rfl rfl (n := 8) (c := ((s / 2 ^ 8 : Nat) : Int)) rfl (by decide) (by omega)) ?_)))
  refine Jy uz64 uz5 rfl (c := (((UInt8.ofNat (s / 2 ^ 8)).toNat : Nat) : Int)) (wrapB _) (Jm (v := .int .u32 _) rfl (Qa (run_shr rfl rfl (n := 16) (c := ((s / 2 ^ 16 : Nat) : Int)) rfl (by decide) (by omega)) (Jy uz64 uz5 rfl (c := (((UInt8.ofNat (s / 2 ^ 16)).toNat : Nat) : Int)) (wrapB _) (Jm (v := .int .u32 _) rfl (Qa (run_shr rfl rfl (n := 24) (c := ((s / 2 ^ 24 : Nat) : Int)) rfl (by decide) (by omega)) (Jy uz64 uz5 rfl (c := (((UInt8.ofNat (s / 2 ^ 24)).toNat : Nat) : Int)) (wrapB _) (zB4 hs rfl ((zAn (le4 s))) zC6 zs5 rfl (zEk (zCd _)) rfl rfl rfl ?_)))))))
  clear hs; intro b20 w hs
  try simp only [zzs, zzz] at hs
  refine zD3 hs rfl 1 rfl zC6 in5 rfl rfl rfl (zCr (P := Tryz.prog) zC6 ((Rd.cells (n := 4) (cs := zAn (le4 s)) 0 rfl rfl).seq hs) (zCd (le4 s))) (by simp only [zAw, le4, List.length_cons, List.length_nil]; omega) (by simp only [zAw, le4, List.length_cons, List.length_nil]; omega) ?_; clear hs; intro a21 c21 w hs; simp only [zzs, zzz] at hs; refine Jb rfl (zA6 (zAe (zBi (v := .slice _ _ _) rfl rfl ?_)))
  have e : zAn l ++ zAn (le4 s) = zAn (zC0 l) := by rw [← zDw, zC0, hS]
  have e2 : (zAn l).length + (zAn (le4 s)).length = (zC0 l).length := by rw [zAw, zAw, zCk]; rfl
  rw [e, e2] at hs; exact ⟨_, rfl, a21, c21, by rw [e2], hs.arr [1] 3 (by decide)⟩
theorem equalB_sl (hs : Mem g w L) {a b : Option Addr} {n m c d : Nat} {la lb : List UInt8} (ha : Rd g L (.slice a n c) (zAn la)) (hb : Rd g L (.slice b m d) (zAn lb)) (hn : n = la.length) (hm : m = lb.length) (hlen : la.length ≤ 1073741824) :
    Calls Tryz.prog 173 #[.slice a n c, .slice b m d] w (Ret fun v w' => v = .bool (decide (la = lb)) ∧ Mem g w' L) := by
  subst hn hm; refine zAh Tryz.func173 rfl rfl ?_
  refine zA4 (zA2 (J5 rfl (zA6 (zA4 (zA4 (zA2 (J7 rfl (Js zC6 rfl (J7 rfl (Js zC6 rfl (Qa (zDy rfl rfl) (zA6 ?_)))))))))))); refine zB2 rfl ?_ ?_
  ·
   intro h10; have g10 := zFj h10; exact zA4 (zA2 (J5 rfl (zA6 (zAe (zBi (v := .bool _) rfl rfl ⟨_, rfl, zDr (by rw [decide_eq_false (fun e => g10 (by rw [e]))]), hs⟩)))))
  ·
   intro h10; have g10 := zFi h10; refine zAd (zA4 (zA4 (zA2 (J7 rfl (Js zC6 rfl (J0 rfl (zA6 (zAp (zBs (X := Nat) [4, 5, 13, 14, 15, 16, 17, 18, 19, 20, 21, 22, 23, 24, 25] (fun k => [(13, .int .i64 (k : Nat))]) (fun k w => k ≤ la.length ∧ la.take k = lb.take k ∧ Mem g w L) (fun k => la.length - k) (0) ?_ ?_ ?_)))))))))
   · exact ⟨rfl, trivial⟩
   · exact ⟨Nat.zero_le _, rfl, hs⟩
   clear hs; rintro x ξ w hI; obtain ⟨hk, hq, hs⟩ := hI; refine zA4 (zA2 (Jn rfl rfl (zA6 (zA4 (zB2 rfl ?_ ?_)))))
   ·
    intro h14; have g14 := of_decide_eq_true h14; obtain ⟨xa, hxa⟩ : ∃ xa, la[x]? = some xa := ⟨la[x]'(by omega), List.getElem?_eq_getElem _⟩; obtain ⟨xb, hxb⟩ : ∃ xb, lb[x]? = some xb := ⟨lb[x]'(by omega), List.getElem?_eq_getElem _⟩; obtain ⟨b1, o1, rfl, _⟩ := ha.cells' hs (by rw [zAw]; omega); obtain ⟨b2, o2, rfl, _⟩ := hb.cells' hs (by rw [zAw]; omega); refine zAd (zA4 (zAp (zA4 (zA2 (J0 rfl (J4 rfl (zA6 (zA4 (zAq zBk hs ?_))))))))); intro w tr hK; replace hs := tr _ hs; clear tr; refine Q3 0 rfl rfl hK ?_
    refine Q2 1 rfl rfl hK (Qb 2 rfl (fun w hs => zB5 zC6 sz5 rfl rfl rfl (by omega) rfl) hK (Qd 3 rfl uz5 rfl (fun w hs => ha.cellAt hs (zGk hxa)) hK (Q3 4 rfl rfl hK (Q2 5 rfl rfl hK (Qb 6 rfl (fun w hs => zB5 zC6 sz5 rfl rfl rfl (by omega) rfl) hK (Qd 7 rfl uz5 rfl (fun w hs => hb.cellAt hs (zGk hxb)) hK (Qb 8 rfl (fun w hs => zDy rfl rfl) hK (zAs (by kernel_rfl) ?_)))))))); clear hK; refine zB2 rfl ?_ ?_
    ·
     intro h24; have g24 := zFj h24; refine zA4 (zA2 (J5 rfl (zA6 (zAe (zBi (v := .bool _) rfl rfl ?_))))); exact ⟨_, rfl, zDr (by rw [decide_eq_false (fun e => by subst e; rw [hxa] at hxb; cases hxb; exact g24 rfl)]), hs⟩
    ·
     intro h24; have g24 := zFi h24; refine zAd (zA2 (Jo rfl rfl rfl (inI (by omega) (by omega)) (J0 rfl (zA6 ?_)))); exact ⟨x + 1, by omega, ⟨by omega, by rw [List.take_add_one, List.take_add_one, hxa, hxb, hq, u8v_inj g24], hs⟩, ⟨rfl, trivial⟩, by repeat (first | exact Out.mix _ _ _ | refine Out.updo rfl ?_ | refine Out.upd rfl ?_ | refine Out.mixIn rfl ?_)⟩
   ·
    intro h14; have g14 := of_decide_eq_false h14; refine zBm rfl (zA4 (zA2 (J5 rfl (zA6 (zAe (zBi (v := .bool _) rfl rfl ?_))))))
    have h1 : x = la.length := by omega
    rw [h1, List.take_of_length_le (Nat.le_refl _), List.take_of_length_le (by omega)] at hq; exact ⟨_, rfl, zDr (decide_eq_true hq).symm, hs⟩
theorem copen_sl (hE : ErrP ad g) (hs : Mem g w L) {a : Option Addr} {n c : Nat} {l : List UInt8} (hr : Rd g L (.slice a n c) (zAn l)) (hn : n = l.length) (hc : n ≤ c) (hlen : l.length ≤ 100000000) {k : Nat} {b : List UInt8} (hk : openL l = (k, b)) : Calls Tryz.prog 130 #[.slice a n c] w (Ret fun v w' => ∃ a' c', v = .tuple #[.slice a' b.length c', zAk ad k] ∧ Mem g w' (own (.slice a' b.length c') (zAn b) :: L)) := by
  subst hn; refine zAh Tryz.func130 rfl rfl ?_
  refine zA4 (zA2 (Jb rfl (J3 rfl (zA6 (zA4 (zA4 (zA2 (J7 rfl (Js zC6 rfl (Jn rfl rfl (zA6 (zB2 rfl ?_ ?_))))))))))))
  ·
   intro h7; have g7 := of_decide_eq_true h7
   have e : openL l = (101, []) := by unfold openL; rw [if_pos (by omega)]
   rw [e] at hk
   cases hk
   refine zA4 (zAq zBk hs ?_); intro w tr hK; replace hs := tr _ hs; clear tr; refine Qd 0 rfl zCq rfl (fun w hs => hE.cellW hs 101 (by decide) rfl) hK (Q5 1 rfl (v := .slice _ _ _) rfl hK (Q1 2 rfl rfl hK (zAs (by kernel_rfl) ?_))); clear hK; exact zAe (zEd (v := .slice _ _ _) (v2 := zAk ad _) rfl rfl rfl ⟨_, rfl, none, 0, rfl, hs.addE (zDn _)⟩)
  ·
   intro h7; have g7 := of_decide_eq_false h7; refine zAd (zA4 (zA2 (J7 rfl (J7 rfl (Js zC6 rfl (Qa (zCx rfl rfl (c := ((l.length - 4 : Nat) : Int)) (by omega) (inI (by omega) (by omega))) (Qa (zFw zC6 sz5 rfl rfl (hi := l.length - 4) rfl (by omega)) (Jb rfl (zA6 (zA4 (zA4 (zA2 ?_)))))))))))); refine J7 rfl (Qg en137 (seal_sl hs (l := (l.take (l.length - 4)).drop 0) (hr.subB (by omega) (by omega)) (by simp) (by simp; omega)) ?_); clear hs
   rintro _ w ⟨a15, c15, rfl, hs⟩; refine J7 rfl (Qg en173 (equalB_sl hs (la := zC0 (l.take (l.length - 4))) (lb := l) (hs.rdOwn 0 rfl) hr.cons rfl rfl (by rw [zCk, List.length_take]; omega)) ?_); clear hs; rintro _ w ⟨rfl, hs⟩; refine Jr rfl (zA6 (zB2 rfl ?_ ?_))
   ·
    intro h17; replace h17 := zFc h17; have hne := of_decide_eq_false h17
    have e : openL l = (102, []) := by unfold openL; rw [if_neg (by omega), if_neg hne]
    rw [e] at hk
    cases hk
    refine zA4 (zAq zBk hs ?_); intro w tr hK; replace hs := tr _ hs; clear tr; refine Qd 0 rfl zCq rfl (fun w hs => hE.cellW hs 102 (by decide) rfl) hK (Q5 1 rfl (v := .slice _ _ _) rfl hK (Q1 2 rfl rfl hK (zAs (by kernel_rfl) ?_))); clear hK; exact zAe (zEd (v := .slice _ _ _) (v2 := zAk ad _) rfl rfl rfl ⟨_, rfl, none, 0, rfl, (hs.tail).addE (zDn _)⟩)
   ·
    intro h17; replace h17 := zEr h17; have heq := of_decide_eq_true h17
    have e : openL l = (0, l.take (l.length - 4)) := by unfold openL; rw [if_neg (by omega), if_pos heq]
    rw [e] at hk
    cases hk
    refine zAd (zA4 (zA2 (J7 rfl (Qg en49 (zCt hs (l := (l.take (l.length - 4)).drop 0) (hr.cons.subB (by omega) (by omega)) (by simp; omega)) ?_)))); clear hs; rintro _ w ⟨a21, c21, rfl, hs⟩; refine Jb rfl (J3 rfl (zA6 (zAe (zEd (v := .slice _ _ _) (v2 := .nilIface) rfl rfl rfl ?_)))); rw [zAw] at hs ⊢; exact ⟨_, rfl, a21, c21, by rw [zB]; rfl, hs.drop 1⟩
end
section
open Go.RowKit
attribute [local irreducible] zAk
variable {g w : World} {L M : List HP} {ad : Nat → Addr} {p : Nat} {V : Vw}
def idB (n : Int) : List UInt8 := zBa n.toNat
def prB (q : Pr) : List UInt8 := idB q.1 ++ idB q.2
def epB (l : List Pr) : List UInt8 := l.flatMap prB
def oB (o : Ob) : List UInt8 := zBa o.1.size ++ o.1.data.toList ++ idB o.2.1 ++ zBa o.2.2
def obB (l : List Ob) : List UInt8 := l.flatMap oB
def hdB (x : Mf) : List UInt8 := idB x.id ++ idB x.base ++ idB x.fin ++ zBa (zig x.time) ++ zBa x.eps.length
def mfBody (x : Mf) : List UInt8 := hdB x ++ epB x.eps ++ zBa x.obs.length ++ obB x.obs
def mfB (x : Mf) : List UInt8 := zC0 (mfBody x)
theorem zEp (n : Nat) : (zBa n).length ≤ 10 := zGn 10 n
theorem zFu (n : Int) : (idB n).length ≤ 10 := zEp _
theorem hdB_len (x : Mf) : (hdB x).length ≤ 50 := by
  have h1 := zFu x.id; have h2 := zFu x.base; have h3 := zFu x.fin; have h4 := zEp (zig x.time); have h5 := zEp x.eps.length
  simp only [hdB, List.length_append]; omega
theorem prB_len (q : Pr) : (prB q).length ≤ 20 := by
  have h1 := zFu q.1; have h2 := zFu q.2
  simp only [prB, List.length_append]; omega
theorem epB_len : ∀ l : List Pr, (epB l).length ≤ 20 * l.length
  | [] => by simp [epB]
  | q :: l => by
    have h1 := epB_len l; have h2 := prB_len q
    simp only [epB, List.flatMap_cons, List.length_append, List.length_cons] at h1 ⊢
    omega
theorem oB_len {o : Ob} (h : zD7 o = 0) : (oB o).length ≤ 94 := by
  have h1 := zEp o.1.size; have h2 := zFu o.2.1; have h3 := zEp o.2.2
  have h4 : o.1.data.toList.length ≤ 64 := by
    unfold zD7 at h
    split at h
    · cases h
    · rename_i hv
      have hv : zBy o.1.data.toList = true := by simpa using hv
      simp only [zBy, Bool.and_eq_true, decide_eq_true_eq] at hv
      omega
  simp only [oB, List.length_append]; omega
theorem obB_len : ∀ l : List Ob, (∀ o ∈ l, zD7 o = 0) → (obB l).length ≤ 94 * l.length
  | [], _ => by simp [obB]
  | o :: l, h => by
    have h1 := obB_len l fun x hx => h x (List.mem_cons_of_mem _ hx); have h2 := oB_len (h o (List.mem_cons_self ..))
    simp only [obB, List.flatMap_cons, List.length_append, List.length_cons] at h1 ⊢
    omega
theorem epB_next {l : List Pr} {k : Nat} {q : Pr} (h : l[k]? = some q) : epB (l.take (k + 1)) = epB (l.take k) ++ idB q.1 ++ idB q.2 := by
  simp [epB, List.take_add_one, h, prB]
theorem obB_next {l : List Ob} {k : Nat} {o : Ob} (h : l[k]? = some o) : obB (l.take (k + 1)) = obB (l.take k) ++ zBa o.1.size ++ o.1.data.toList ++ idB o.2.1 ++ zBa o.2.2 := by
  simp [obB, List.take_add_one, h, oB]
structure Fine (x : Mf) : Prop where
  id : 0 ≤ x.id ∧ x.id ≤ 2147483647
  base : 0 ≤ x.base ∧ x.base ≤ 1099511627776
  fin : 0 ≤ x.fin ∧ x.fin ≤ 1099511627776
  time : -1099511627776 ≤ x.time ∧ x.time ≤ 1099511627776
  eps : x.eps.length ≤ 256
  pr : ∀ q ∈ x.eps, (0 ≤ q.1 ∧ q.1 ≤ 1073741824) ∧ 0 ≤ q.2 ∧ q.2 ≤ 1099511627776
  obs : 1 ≤ x.obs.length ∧ x.obs.length ≤ 8
  ob : ∀ o ∈ x.obs, zD7 o = 0
theorem mf_fine {x : Mf} (h : (mfF x).1 = 0) : Fine x := by
  have h8 := mf_len h; have hid := mf_id h
  unfold mfF at h
  split at h
  · cases h
  · rename_i h1
    simp only [zBl, zEu, Bool.or_eq_true, Bool.not_eq_true', Bool.and_eq_false_iff, decide_eq_true_eq, decide_eq_false_iff_not, not_or] at h1
    split at h
    · rename_i h2; exact absurd h h2
    · rename_i h2
      split at h
      · cases h
      · have hp : ∀ q ∈ x.eps, prOk q = true := by
          have h2 : epF x.eps = 0 := by simpa using h2
          unfold epF at h2
          split at h2
          · cases h2
          · split at h2
            · cases h2
            · rename_i h3; simpa [List.all_eq_true] using h3
        have hob : (1 ≤ x.obs.length ∧ x.obs.length ≤ 8) ∧ ∀ o ∈ x.obs, zD7 o = 0 := by
          unfold obF at h
          split at h
          · cases h
          · rename_i h4
            refine ⟨by omega, ?_⟩
            split at h
            · rename_i i hi
              rw [List.findIdx?_eq_some_iff_getElem] at hi; obtain ⟨hl, hb, _⟩ := hi
              have hg : x.obs.getD i (ByteArray.empty, 0, 0) = x.obs[i] := by rw [List.getD_eq_getElem?_getD, List.getElem?_eq_getElem hl]; rfl
              simp only [hg] at h
              simp [h] at hb
            · rename_i hn
              rw [List.findIdx?_eq_none_iff] at hn; intro o ho
              simpa using hn o ho
        refine ⟨hid, by omega, by omega, by omega, h8.1, fun q hq => ?_, hob.1, hob.2⟩; have := hp q hq; simp only [prOk, rightE, zEu, Bool.and_eq_true, decide_eq_true_eq] at this
        omega
theorem zGq {x : Mf} (h : Fine x) : (mfBody x).length ≤ 6000 := by
  have h1 := hdB_len x; have h2 := epB_len x.eps; have h3 := zEp x.obs.length; have h4 := obB_len x.obs h.ob; have h5 := h.eps; have h6 := h.obs
  simp only [mfBody, List.length_append]; omega
theorem wrapN {n : Int} (h : 0 ≤ n ∧ n ≤ 1099511627776) : IntKind.u64.wrap n = ((n.toNat : Nat) : Int) := by rw [zCf]; omega
theorem ob_fine {o : Ob} (h : zD7 o = 0) : 0 ≤ o.2.1 ∧ o.2.1 ≤ 1073741824 := by
  unfold zD7 at h
  split at h
  · cases h
  · split at h
    · cases h
    · omega
theorem src_str {P : Program} {tx : TypeId} (hk : P.underlying tx = some .string) (s : ByteArray) (w : World) : Src P 1 tx (.string s) (zAn s.data.toList).length (zAn s.data.toList) w := by
  have h := Src.ofString (P := P) w hk s; have e : byteCells s = zAn s.data.toList := rfl
  have e2 : s.size = (zAn s.data.toList).length := by rw [zAw]; exact Array.length_toList.symm
  rw [e, e2] at h; exact h
set_option maxHeartbeats 2000000 in
theorem maniB_sl (hE : ErrV ad g) (hs : Mem g w L) {m : Mf} {e o : SA} (hm : MfR g L m e o) (h0 : mfF m = (0, none)) (hu : ∀ q ∈ m.obs, q.2.2 < 4294967296) : Calls Tryz.prog 135 #[.agg (mfL m e o).toArray] w (Ret fun v w' => ∃ a c, v = .tuple #[.slice a (mfB m).length c, .nilIface] ∧ Mem g w' (own (.slice a (mfB m).length c) (zAn (mfB m)) :: L)) := by
  have hF := mf_fine (x := m) (by rw [h0]); have hbl := zGq hF; have hhd := hdB_len m; have h8 := hF.obs; have h256 := hF.eps; have hid := hF.id; have hba := hF.base; have hfi := hF.fin; have hti := hF.time
  have i1 := zFu m.id; have i2 := zFu m.base; have i3 := zFu m.fin; have i4 := zEp (zig m.time); have i5 := zEp m.eps.length; have i6 := zEp m.obs.length
  refine zAh Tryz.func135 rfl rfl ?_
  refine zA4 (zA2 (zBp (v := .agg _) hs rfl rfl ?_)); clear hs; intro b1 w hs
  try simp only [zzs, zzz] at hs
  refine Jb rfl (J3 rfl (zA6 (zA4 (zA4 (zA2 (Qa (zBd hs 0 rfl zCp zEt rfl) (Qg en45 (validM_sl hE hs hm.cons (by omega)) ?_))))))); clear hs; rintro _ w ⟨eb, rfl, hs⟩; rw [h0, flC_bare] at hs; rw [h0, flV_bare]; replace hs := hs.tail; refine J6 rfl (zA6 (zA4 (zA2 (J8 rfl (Jv (ad := ad) rfl (zA6 (zAz rfl (rfl) (zAd (zA4 (zA2 (Jp (o' := 0) zCp rfl sz3 rfl rfl rfl (Qc uz3 rfl hs 0 rfl rfl ?_))))))))))))
  refine Jy uz3 zCg rfl (c := ((m.id.toNat : Nat) : Int)) (wrapN (by omega)) (Qg en142 (zFd hs (lb := []) (n := m.id.toNat) Rd.nil rfl (by decide) (by omega)) ?_); clear hs; rintro _ w ⟨a18, c18, rfl, hs⟩; rw [List.nil_append] at hs ⊢; refine Jb rfl (zA6 (zA4 (zA2 (J7 rfl (Jp (o' := 1) zCp rfl sz2 rfl rfl rfl (Qc uz2 rfl hs 1 rfl rfl (Jy uz2 zCg rfl (c := ((m.base.toNat : Nat) : Int)) (wrapN hba) (Qg en142 (zFd hs (lb := idB m.id) (n := m.base.toNat) (hs.rdOwn 0 rfl) rfl (by omega) (by omega)) ?_))))))))
  clear hs; rintro _ w ⟨a23, c23, rfl, hs⟩; replace hs := hs.drop 1; refine Jb rfl (zA6 (zA4 (zA2 (J7 rfl (Jp (o' := 2) zCp rfl sz2 rfl rfl rfl (Qc uz2 rfl hs 1 rfl rfl (Jy uz2 zCg rfl (c := ((m.fin.toNat : Nat) : Int)) (wrapN hfi) (Qg en142 (zFd hs (lb := idB m.id ++ idB m.base) (n := m.fin.toNat) (hs.rdOwn 0 rfl) rfl (by simp only [List.length_append]; omega) (by omega)) ?_)))))))); clear hs; rintro _ w ⟨a28, c28, rfl, hs⟩; replace hs := hs.drop 1; refine Jb rfl (zA6 (zA4 (zA2 ?_)))
  refine J7 rfl (Jp (o' := 3) zCp rfl sz2 rfl rfl rfl (Qc uz2 rfl hs 1 rfl rfl (Qg en175 (putint_sl hs (lb := idB m.id ++ idB m.base ++ idB m.fin) (z := zig m.time) (hs.rdOwn 0 rfl) rfl (by simp only [List.length_append]; omega) rfl rfl rfl rfl (zig_bits ⟨by omega, by omega⟩) (zig_lt ⟨by omega, by omega⟩)) ?_))); clear hs; rintro _ w ⟨a32, c32, rfl, hs⟩; replace hs := hs.drop 1; refine Jb rfl (zA6 (zA4 (zA2 (J7 rfl (Jp (o' := 4) zCp rfl sz36 rfl rfl rfl ?_)))))
  refine Qc zE rfl hs 1 rfl rfl (Js zE rfl (Jy uz3 zCg rfl (c := ((m.eps.length : Nat) : Int)) (wrapN (by omega)) (Qg en142 (zFd hs (lb := idB m.id ++ idB m.base ++ idB m.fin ++ zBa (zig m.time)) (n := m.eps.length) (hs.rdOwn 0 rfl) rfl (by simp only [List.length_append]; omega) (by omega)) ?_))); clear hs; rintro _ w ⟨a38, c38, rfl, hs⟩; replace hs := hs.drop 1
  have h9 : idB m.id ++ idB m.base ++ idB m.fin ++ zBa (zig m.time) ++ zBa m.eps.length = hdB m ++ epB (m.eps.take 0) := by simp [epB, hdB]
  rw [h9] at hs ⊢; refine Jb rfl (zA6 (zA4 (zA4 (zA2 (Jp (o' := 4) zCp rfl sz36 rfl rfl rfl (Qc zE rfl hs 1 rfl rfl (Js zE rfl (J0 rfl (zA6 (zAp ?_))))))))))
  refine zBs (X := Nat × SA) [5, 7, 42, 43, 44, 45, 46, 47, 48, 49, 50, 51, 52, 53, 54, 55] (fun q => [(5, .slice q.2.1 (hdB m ++ epB (m.eps.take q.1)).length q.2.2), (42, .int .i64 (q.1 : Nat))]) (fun q w => q.1 ≤ m.eps.length ∧ Mem g w (own (.slice q.2.1 (hdB m ++ epB (m.eps.take q.1)).length q.2.2) (zAn (hdB m ++ epB (m.eps.take q.1))) :: cells b1 (mfL m e o) 39 :: L)) (fun q => m.eps.length - q.1) ((0, (a38, c38))) ?_ ?_ ?_
  · exact ⟨rfl, rfl, trivial⟩
  · exact ⟨Nat.zero_le _, hs⟩
  clear hs; rintro x ξ w hI; obtain ⟨k, s⟩ := x; obtain ⟨hk, hs⟩ := hI; simp only at hk hs
  show cw _ _ _ _ _ _ (updL (mix _ ξ _) [(5, .slice s.1 (hdB m ++ epB (m.eps.take k)).length s.2), (42, .int .i64 (k : Nat))]) w
  refine zA4 (zA2 (Jn rfl rfl (zA6 (zA4 (zB2 rfl ?_ ?_)))))
  ·
   intro h43; have g43 := of_decide_eq_true h43; obtain ⟨y, hy⟩ : ∃ y, m.eps[k]? = some y := ⟨_, List.getElem?_eq_getElem (by omega)⟩; obtain ⟨b0, o0, hb0⟩ := hm.eps.cons.cons.at hs (by rw [zEy]; omega); have hpy := hF.pr y (List.mem_of_getElem? hy); have hnx := epB_next hy; have hel := epB_len (m.eps.take k)
   have hkl : (m.eps.take k).length = k := by rw [List.length_take]; omega
   have j1 := zFu y.1; have j2 := zFu y.2; obtain ⟨ea, ec⟩ := e; simp only at hb0; subst hb0; refine zAd (zA4 (zAp (zA4 (zA2 (Qa (zAy zE sz46 rfl rfl rfl (by omega) rfl) (Qa (zDa (cs := prL y) uz46 sz46 rfl (fun j v hj => hm.eps.cons.cons.cell hs (zEh hy) hj)) (zBj hs rfl ze46 ?_))))))); clear hs; intro b7 w hs
   try simp only [zzs, zzz] at hs
   refine zAr hs 0 rfl rfl rfl sz46 rfl rfl ?_; clear hs; intro w hs
   try simp only [zzs, zzz] at hs
   refine zA6 (zAq zBk (hs.drop 1) ?_); intro w tr hK; replace hs := tr _ hs; clear tr; refine Q3 0 rfl rfl hK (Q6 1 rfl (o' := 0) uz46 rfl sz3 rfl rfl rfl hK (Qd 2 rfl uz3 rfl (fun w hs => hs.cellAt 0 rfl rfl) hK (Q9 3 rfl uz3 zCg rfl (c := ((y.1.toNat : Nat) : Int)) (wrapN (by omega)) hK (Q6 5 rfl (o' := 1) uz46 rfl sz2 rfl rfl rfl hK (Qd 6 rfl uz2 rfl (fun w hs => hs.cellAt 0 rfl rfl) hK ?_)))))
   refine Q9 7 rfl uz2 zCg rfl (c := ((y.2.toNat : Nat) : Int)) (wrapN (by omega)) hK (zAc [4] ⟨⟨_, rfl, ?_⟩, trivial⟩); refine Qg en142 (zFd hs (lb := hdB m ++ epB (m.eps.take k)) (n := y.1.toNat) (hs.rdOwn 1 rfl) rfl (by simp only [List.length_append]; omega) (by omega)) ?_; clear hs; rintro _ w ⟨a50, c50, rfl, hs⟩; clear hK; have hK := (hs.drop 2).tail; refine zA6 ⟨hK, ?_⟩; refine zAc [8] ⟨⟨_, rfl, ?_⟩, trivial⟩; refine Qg en142 (zFd hs (lb := hdB m ++ epB (m.eps.take k) ++ idB y.1) (n := y.2.toNat) (hs.rdOwn 0 rfl) rfl (by simp only [List.length_append]; omega) (by omega)) ?_; clear hs; rintro _ w ⟨a54, c54, rfl, hs⟩
   clear hK; have hK := ((hs.drop 3).drop 1).tail; refine zA6 ⟨hK, ?_⟩; refine Q5 9 rfl (v := .slice _ _ _) rfl hK (zAs (by kernel_rfl) ?_); clear hK; refine zA2 (Jo rfl rfl rfl (inI (by omega) (by omega)) (J0 rfl (zA6 ?_)))
   have e9 : hdB m ++ epB (m.eps.take k) ++ idB y.1 ++ zBa y.2.toNat = hdB m ++ epB (m.eps.take (k + 1)) := by rw [hnx]; simp [idB]
   rw [e9] at hs; exact ⟨(k + 1, (a54, c54)), by simp only; omega, ⟨by simp only; omega, hs.arr [0, 4] 5 (by decide)⟩, ⟨show Value.slice a54 (hdB m ++ epB (m.eps.take k) ++ idB y.1 ++ zBa y.2.toNat).length c54 = Value.slice a54 (hdB m ++ epB (m.eps.take (k + 1))).length c54 from by rw [e9], rfl, trivial⟩, by repeat (first | exact Out.mix _ _ _ | refine Out.updo rfl ?_ | refine Out.upd rfl ?_ | refine Out.mixIn rfl ?_)⟩
  ·
   intro h43; have g43 := of_decide_eq_false h43
   have hke : k = m.eps.length := by omega
   subst hke; rw [List.take_length] at hs ⊢; have hel := epB_len m.eps; refine zBm rfl (zA4 (zA2 (J7 rfl (Jp (o' := 5) zCp rfl sz37 rfl rfl rfl (Qc zD rfl hs 1 rfl rfl (Js zD rfl (Jy uz3 zCg rfl (c := ((m.obs.length : Nat) : Int)) (wrapN (by omega)) (Qg en142 (zFd hs (lb := hdB m ++ epB m.eps) (n := m.obs.length) (hs.rdOwn 0 rfl) rfl (by simp only [List.length_append]; omega) (by omega)) ?_)))))))); clear hs; rintro _ w ⟨a61, c61, rfl, hs⟩; replace hs := hs.drop 1; obtain ⟨B, hB⟩ : ∃ B, B = hdB m ++ epB m.eps ++ zBa m.obs.length := ⟨_, rfl⟩
   rw [← hB] at hs ⊢
   have hBl : B.length ≤ 5300 := by rw [hB]; simp only [List.length_append]; omega
   have h10 : B = B ++ obB (m.obs.take 0) := (List.append_nil B).symm; rw [h10] at hs ⊢; refine Jb rfl (zA6 (zA4 (zA4 (zA2 (Jp (o' := 5) zCp rfl sz37 rfl rfl rfl (Qc zD rfl hs 1 rfl rfl (Js zD rfl (J0 rfl (zA6 (zAp ?_))))))))))
   refine zBs (X := Nat × SA) [5, 9, 65, 66, 67, 68, 69, 70, 71, 72, 73, 74, 75, 76, 77, 78, 79, 80, 81, 82, 83, 84, 85, 86, 87, 88] (fun q => [(5, .slice q.2.1 (B ++ obB (m.obs.take q.1)).length q.2.2), (65, .int .i64 (q.1 : Nat))]) (fun q w => q.1 ≤ m.obs.length ∧ Mem g w (own (.slice q.2.1 (B ++ obB (m.obs.take q.1)).length q.2.2) (zAn (B ++ obB (m.obs.take q.1))) :: cells b1 (mfL m e o) 39 :: L)) (fun q => m.obs.length - q.1) ((0, (a61, c61))) ?_ ?_ ?_
   · exact ⟨rfl, rfl, trivial⟩
   · exact ⟨Nat.zero_le _, hs⟩
   clear hs; rintro x ξ w hI; obtain ⟨k, s⟩ := x; obtain ⟨hk, hs⟩ := hI; simp only at hk hs
   show cw _ _ _ _ _ _ (updL (mix _ ξ _) [(5, .slice s.1 (B ++ obB (m.obs.take k)).length s.2), (65, .int .i64 (k : Nat))]) w
   refine zA4 (zA2 (Jn rfl rfl (zA6 (zA4 (zB2 rfl ?_ ?_)))))
   ·
    intro h66; have g66 := of_decide_eq_true h66; obtain ⟨y, hy⟩ : ∃ y, m.obs[k]? = some y := ⟨_, List.getElem?_eq_getElem (by omega)⟩; obtain ⟨b0, o0, hb0⟩ := hm.obs.cons.cons.at hs (by rw [zEz]; omega); have hpy := hF.ob y (List.mem_of_getElem? hy); have hpo := ob_fine hpy; have huy := hu y (List.mem_of_getElem? hy); have hnx := obB_next hy; have hel := obB_len (m.obs.take k) (fun q hq => hF.ob q (List.mem_of_mem_take hq))
    have hkl : (m.obs.take k).length = k := by rw [List.length_take]; omega
    have hol := oB_len hpy; simp only [oB, List.length_append] at hol; have hys : y.1.size = y.1.data.toList.length := Array.length_toList.symm; obtain ⟨oa, oc⟩ := o; simp only at hb0; subst hb0; refine zAd (zA4 (zAp (zA4 (zA2 (Qa (zAy zD sz66 rfl rfl rfl (by omega) rfl) (Qa (zDa (cs := obL y) zG2 sz66 rfl (fun j v hj => hm.obs.cons.cons.cell hs (zG9 hy) hj)) (zBj hs rfl ze66 ?_))))))); clear hs; intro b9 w hs
    try simp only [zzs, zzz] at hs
    refine zAr hs 0 rfl rfl rfl sz66 rfl rfl ?_; clear hs; intro w hs
    try simp only [zzs, zzz] at hs
    refine zA6 (zA4 (zA2 (J7 rfl (Jp (o' := 0) zG2 rfl sz9 rfl rfl rfl (Qc uz9 rfl hs 0 rfl rfl (Qa (run_lenT uz9 rfl) (Jy uz3 zCg rfl (c := ((y.1.size : Nat) : Int)) (wrapN (by omega)) (Qg en142 (zFd hs (lb := B ++ obB (m.obs.take k)) (n := y.1.size) (hs.rdOwn 1 rfl) rfl (by simp only [List.length_append]; omega) (by omega)) ?_)))))))); clear hs; rintro _ w ⟨a74, c74, rfl, hs⟩; refine Jb rfl (zA6 (zA4 (zA2 (J7 rfl (Jp (o' := 0) zG2 rfl sz9 rfl rfl rfl ?_)))))
    refine Qc uz9 rfl hs 1 rfl rfl (zD3 hs rfl 0 rfl zC6 in5 rfl rfl rfl (src_str uz9 y.1 _) (by simp only [zAw, List.length_append]; omega) (by simp only [zAw, List.length_append]; omega) ?_); clear hs; intro a78 c78 w hs; simp only [zzs, zzz] at hs; have e8 : zAn (B ++ obB (m.obs.take k) ++ zBa y.1.size) ++ zAn y.1.data.toList = zAn (B ++ obB (m.obs.take k) ++ zBa y.1.size ++ y.1.data.toList) := (zDw _ _).symm
    have e7 : (zAn (B ++ obB (m.obs.take k) ++ zBa y.1.size)).length + (zAn y.1.data.toList).length = (B ++ obB (m.obs.take k) ++ zBa y.1.size ++ y.1.data.toList).length := by simp only [zAw, List.length_append]
    rw [e7] at hs ⊢; rw [e8] at hs; refine Jb rfl (zA6 (zAq zBk hs.tail ?_)); intro w tr hK; replace hs := tr _ hs; clear tr; refine Q3 0 rfl rfl hK (Q6 1 rfl (o' := 1) zG2 rfl sz3 rfl rfl rfl hK (Qd 2 rfl uz3 rfl (fun w hs => hs.cellAt 0 rfl rfl) hK (Q9 3 rfl uz3 zCg rfl (c := ((y.2.1.toNat : Nat) : Int)) (wrapN (by omega)) hK (Q6 5 rfl (o' := 2) zG2 rfl sz64 rfl rfl rfl hK (Qd 6 rfl uz64 rfl (fun w hs => hs.cellAt 0 rfl rfl) hK ?_)))))
    refine Q9 7 rfl uz64 zCg rfl (c := ((y.2.2 : Nat) : Int)) (by rw [zCf]; omega) hK ?_; refine zAc [4] ⟨⟨_, rfl, ?_⟩, trivial⟩; refine Qg en142 (zFd hs (lb := B ++ obB (m.obs.take k) ++ zBa y.1.size ++ y.1.data.toList) (n := y.2.1.toNat) (hs.rdOwn 0 rfl) rfl (by simp only [List.length_append]; omega) (by omega)) ?_; clear hs; rintro _ w ⟨a83, c83, rfl, hs⟩; clear hK; have hK := (hs.drop 1).tail; refine zA6 ⟨hK, ?_⟩; refine zAc [8] ⟨⟨_, rfl, ?_⟩, trivial⟩
    refine Qg en142 (zFd hs (lb := B ++ obB (m.obs.take k) ++ zBa y.1.size ++ y.1.data.toList ++ idB y.2.1) (n := y.2.2) (hs.rdOwn 0 rfl) rfl (by simp only [List.length_append]; omega) (by omega)) ?_; clear hs; rintro _ w ⟨a87, c87, rfl, hs⟩; clear hK; have hK := ((hs.drop 2).drop 1).tail; refine zA6 ⟨hK, ?_⟩; refine Q5 9 rfl (v := .slice _ _ _) rfl hK (zAs (by kernel_rfl) ?_); clear hK; refine zA2 (Jo rfl rfl rfl (inI (by omega) (by omega)) (J0 rfl (zA6 ?_)))
    have e9 : B ++ obB (m.obs.take k) ++ zBa y.1.size ++ y.1.data.toList ++ idB y.2.1 ++ zBa y.2.2 = B ++ obB (m.obs.take (k + 1)) := by rw [hnx]; simp only [List.append_assoc]
    rw [e9] at hs; exact ⟨(k + 1, (a87, c87)), by simp only; omega, ⟨by simp only; omega, hs.arr [0, 5] 6 (by decide)⟩, ⟨show Value.slice a87 (B ++ obB (m.obs.take k) ++ zBa y.1.size ++ y.1.data.toList ++ idB y.2.1 ++ zBa y.2.2).length c87 = Value.slice a87 (B ++ obB (m.obs.take (k + 1))).length c87 from by rw [e9], rfl, trivial⟩, by repeat (first | exact Out.mix _ _ _ | refine Out.updo rfl ?_ | refine Out.upd rfl ?_ | refine Out.mixIn rfl ?_)⟩
   ·
    intro h66; have g66 := of_decide_eq_false h66
    have hke : k = m.obs.length := by omega
    subst hke; rw [List.take_length] at hs ⊢
    have e9 : B ++ obB m.obs = mfBody m := by rw [hB]; rfl
    rw [e9] at hs ⊢; refine zBm rfl (zA4 (zA2 (J7 rfl (Qg en137 (seal_sl hs (l := mfBody m) (hs.rdOwn 0 rfl) rfl (by omega)) ?_)))); clear hs; rintro _ w ⟨a90, c90, rfl, hs⟩; exact Jb rfl (J3 rfl (zA6 (zAe (zEd (v := .slice _ _ _) (v2 := .nilIface) rfl rfl rfl ⟨_, rfl, a90, c90, rfl, hs.arr [0] 3 (by decide)⟩))))
end
section
open Go.RowKit
attribute [local irreducible] zAk
variable {g w : World} {L M : List HP} {ad : Nat → Addr}
def vgetF : Nat → Nat → Nat → List UInt8 → Nat × Nat × Nat
  | 0, _, _, _ => (103, 0, 0)
  | f + 1, i, n, b => match b[i]? with
    | none => (101, 0, 0)
    | some c => if i = 9 ∧ 1 < c.toNat then (103, 0, 0) else if 128 ≤ c.toNat then vgetF f (i + 1) (n + c.toNat % 128 * 2 ^ (7 * i)) b else if 0 < i ∧ c.toNat = 0 then (103, 0, 0) else (0, n + c.toNat % 128 * 2 ^ (7 * i), i + 1)
def vget (b : List UInt8) : Nat × Nat × Nat := vgetF 10 0 0 b
theorem zFr {b : List UInt8} {f i n : Nat} {c : UInt8} (h : b[i]? = some c) : vgetF (f + 1) i n b = if i = 9 ∧ 1 < c.toNat then (103, 0, 0) else if 128 ≤ c.toNat then vgetF f (i + 1) (n + c.toNat % 128 * 2 ^ (7 * i)) b else if 0 < i ∧ c.toNat = 0 then (103, 0, 0) else (0, n + c.toNat % 128 * 2 ^ (7 * i), i + 1) := by
  conv => lhs; unfold vgetF
  rw [h]
theorem zGg {b : List UInt8} {f i n : Nat} (h : b[i]? = none) : vgetF (f + 1) i n b = (101, 0, 0) := by
  conv => lhs; unfold vgetF
  rw [h]
def zag (n : Nat) : Int := if n % 2 = 0 then ((n / 2 : Nat) : Int) else -((n / 2 : Nat) : Int) - 1
theorem or_u64 (a b : Nat) (ha : a < 18446744073709551616) (hb : b < 18446744073709551616) : bits .or .u64 (a : Int) (b : Int) = ((a ||| b : Nat) : Int) := by
  have hx : a ||| b < 2 ^ 64 := Nat.or_lt_two_pow (by omega) (by omega)
  show IntKind.u64.wrap ((BitVec.ofInt 64 (a : Int) ||| BitVec.ofInt 64 (b : Int)).toNat : Int) = _
  rw [BitVec.toNat_or, u64_nat a ha, u64_nat b hb, zCf]
  omega
theorem and_u64 (a b : Nat) (ha : a < 18446744073709551616) (hb : b < 18446744073709551616) : bits .and .u64 (a : Int) (b : Int) = ((a &&& b : Nat) : Int) := by
  have hx : a &&& b ≤ a := Nat.and_le_left
  show IntKind.u64.wrap ((BitVec.ofInt 64 (a : Int) &&& BitVec.ofInt 64 (b : Int)).toNat : Int) = _
  rw [BitVec.toNat_and, u64_nat a ha, u64_nat b hb, zCf]
  omega
theorem or_add {n c i : Nat} (hn : n < 2 ^ i) : n ||| (c * 2 ^ i) = n + c * 2 ^ i := by
  rw [← Nat.shiftLeft_eq, Nat.or_comm, ← Nat.shiftLeft_add_eq_or_of_lt hn, Nat.add_comm]
theorem low7b (c : UInt8) : bits .and .u8 ((c.toNat : Nat) : Int) 127 = ((c.toNat % 128 : Nat) : Int) := by
  have h : ∀ m : Nat, m < 256 → bits .and .u8 (m : Int) 127 = ((m % 128 : Nat) : Int) := by decide +kernel
  exact h c.toNat (UInt8.toNat_lt c)
theorem seven_in {n i : Nat} {c : UInt8} (hn : n < 2 ^ (7 * i)) (hi : i ≤ 9) (hc : i = 9 → c.toNat ≤ 1) : n + c.toNat % 128 * 2 ^ (7 * i) < 18446744073709551616 ∧ c.toNat % 128 * 2 ^ (7 * i) < 18446744073709551616 ∧ n + c.toNat % 128 * 2 ^ (7 * i) < 2 ^ (7 * (i + 1)) := by
  have h7 : 2 ^ (7 * (i + 1)) = 128 * 2 ^ (7 * i) := by rw [Nat.mul_add, Nat.pow_add]; omega
  have hm : c.toNat % 128 ≤ 127 := by omega
  have hle : c.toNat % 128 * 2 ^ (7 * i) ≤ 127 * 2 ^ (7 * i) := Nat.mul_le_mul_right _ hm
  rcases Nat.lt_or_ge i 9 with h | h
  · have : 2 ^ (7 * i) ≤ 2 ^ 56 := Nat.pow_le_pow_right (by decide) (by omega)
    refine ⟨by omega, by omega, by omega⟩
  · have e : i = 9 := by omega
    subst e; have h1 := hc rfl
    have h2 : c.toNat % 128 ≤ 1 := by omega
    have h3 : c.toNat % 128 * 2 ^ 63 ≤ 1 * 2 ^ 63 := Nat.mul_le_mul_right _ h2; have e1 : 2 ^ (7 * 9) = 2 ^ 63 := rfl; rw [e1] at *; refine ⟨by omega, by omega, by omega⟩
def vintCodes : List Nat := [101, 103, 104, 105]
abbrev ErrW (ad : Nat → Addr) (g : World) : Prop := Errs vintCodes ad g.heap.size g
theorem Errs.sub {A C : List Nat} {ad : Nat → Addr} {B : Nat} {w : World} (h : Errs A ad B w) (hs : ∀ c ∈ C, c ∈ A) : Errs C ad B w :=
  ⟨fun c hc => h.pos c (hs c hc), fun c hc => h.cell c (hs c hc), fun c hc => h.block c (hs c hc), fun c hc d hd => h.inj c (hs c hc) d (hs d hd), fun c hc => h.lt c (hs c hc)⟩
theorem vget_sl (hE : ErrW ad g) (hs : Mem g w L) {a : Option Addr} {m c : Nat} {b : List UInt8} (hr : Rd g L (.slice a m c) (zAn b)) (hm : m = b.length) (hlen : b.length ≤ 1073741824) {k n q : Nat} (hk : vget b = (k, n, q)) :
    Calls Tryz.prog 164 #[.slice a m c] w (Ret fun v w' => v = .tuple #[.int .u64 n, .int .i64 q, zAk ad k] ∧ Mem g w' L) := by
  subst hm; refine zAh Tryz.func164 rfl rfl ?_
  refine zA4 (zA2 (Ji rfl (J4 rfl (J3 rfl (zA6 (zA4 (zA2 (Ji rfl (zA6 (zA4 (zA4 (zA2 (J0 rfl (zA6 ?_)))))))))))))); refine zAp ?_
  refine zBs (X := Nat × Nat) [2, 3, 4, 5, 6, 7, 8, 9, 10, 11, 12, 13, 14, 15, 16, 17, 18, 19, 20, 21, 22, 23, 24, 25, 26, 27, 28, 29, 30, 31, 32, 33, 34, 35, 36, 37, 38, 39, 40, 41, 42, 43, 44, 45] (fun x => [(8, .int .i64 (x.1 : Nat)), (5, .int .u64 (x.2 : Nat))]) (fun x w => x.1 ≤ 10 ∧ x.2 < 2 ^ (7 * x.1) ∧ vgetF (10 - x.1) x.1 x.2 b = (k, n, q) ∧ Mem g w L) (fun x => 10 - x.1) ((0, 0)) ?_ ?_ ?_
  · exact ⟨rfl, rfl, trivial⟩
  · exact ⟨Nat.zero_le _, by decide, hk, hs⟩
  clear hs; rintro x ξ w hI; obtain ⟨i, s⟩ := x; obtain ⟨hi, hsm, hv, hs⟩ := hI; simp only at hi hsm hv hs
  show cw _ _ _ _ _ _ (updL (mix _ ξ _) [(8, .int .i64 (i : Nat)), (5, .int .u64 (s : Nat))]) w
  refine zA4 (zA2 (Jn rfl rfl (zA6 (zA4 (zB2 rfl ?_ ?_)))))
  ·
   intro h9; have g9 := of_decide_eq_true h9; rw [show 10 - i = (9 - i) + 1 by omega] at hv; refine zAd (zA4 (zAp (zA4 (zA2 (J0 rfl (J4 rfl (zA6 (zA4 (zA4 (zA2 (J0 rfl (J7 rfl ?_)))))))))))); refine Js zC6 rfl (Qa (zD5 rfl rfl) (zA6 (zB2 rfl ?_ ?_)))
   ·
    intro h14; have g14 := of_decide_eq_true h14; rw [zGg (List.getElem?_eq_none (by omega))] at hv
    cases hv
    refine zA4 (zAq zBk hs ?_); intro w tr hK; replace hs := tr _ hs; clear tr; refine Qd 0 rfl zCq rfl (fun w hs => hE.cellW hs 101 (by decide) rfl) hK (Q5 1 rfl (v := .int .u64 _) rfl hK (Q5 2 rfl (v := .int .i64 _) rfl hK (Q1 3 rfl rfl hK (zAs (by kernel_rfl) ?_)))); clear hK; exact zAe (res3 (v := .int .u64 _) (v2 := .int .i64 _) (v3 := zAk ad _) rfl rfl rfl rfl ⟨_, rfl, rfl, hs⟩)
   ·
    intro h14; have g14 := of_decide_eq_false h14; obtain ⟨ch, hch⟩ : ∃ ch, b[i]? = some ch := ⟨_, List.getElem?_eq_getElem (by omega)⟩; rw [zFr hch] at hv; obtain ⟨b1, o1, rfl, _⟩ := hr.cells' hs (by rw [zAw]; omega); have hcb := UInt8.toNat_lt ch; refine zAd (zA4 (zA2 (J7 rfl (J0 rfl (Qa (zB5 zC6 sz5 rfl rfl rfl (by omega) rfl) (Jq uz5 rfl rfl (hr.cellAt hs (zGk hch)) (Jl (v := .int .u8 _) rfl (zA6 (zA4 (zA4 (zA2 (J0 rfl ?_)))))))))))); refine Jw rfl rfl ?_
    refine J2 rfl (zB3 (t := _) (d := 22) rfl ?_ ?_)
    ·
     intro h21; have g21 := of_decide_eq_true h21; refine zAl rfl rfl h21 (Jm (v := .int .u8 _) rfl (zAl rfl rfl h21 (Jt rfl rfl (Ja rfl h21 rfl (zA6 (zB2 rfl ?_ ?_))))))
     ·
      intro h24; have g24 := of_decide_eq_true h24; rw [if_pos ⟨by omega, by omega⟩] at hv
      cases hv
      refine zBm rfl (zA4 (zAq zBk hs ?_)); intro w tr hK; replace hs := tr _ hs; clear tr; refine Qd 0 rfl zCq rfl (fun w hs => hE.cellW hs 103 (by decide) rfl) hK (Q5 1 rfl (v := .int .u64 _) rfl hK (Q5 2 rfl (v := .int .i64 _) rfl hK (Q1 3 rfl rfl hK (zAs (by kernel_rfl) ?_)))); clear hK; exact zAe (res3 (v := .int .u64 _) (v2 := .int .i64 _) (v3 := zAk ad _) rfl rfl rfl rfl ⟨_, rfl, rfl, hs⟩)
     ·
      intro h24; have g24 := of_decide_eq_false h24; rw [if_neg (by omega)] at hv
      have hc9 : i = 9 → ch.toNat ≤ 1 := fun _ => by omega
      obtain ⟨hx1, hx2, hx3⟩ := seven_in hsm (by omega) hc9; refine zAd (zA4 (zA2 (Jh rfl (Jm (v := .int .u8 _) rfl (Qa (zFk (v := .int .u8 ((ch.toNat % 128 : Nat) : Int)) (by simp) rfl rfl (by rw [← low7b ch]; rfl)) ?_))))); refine Jy uz5 zCg rfl (c := ((ch.toNat % 128 : Nat) : Int)) (by rw [zCf]; omega) ?_; refine J0 rfl (Qa (run_mul64 rfl rfl (c := ((7 * i : Nat) : Int)) (by omega) (inI (by omega) (by omega))) ?_)
      refine Qa (run_shl rfl rfl (n := 7 * i) (c := ((ch.toNat % 128 * 2 ^ (7 * i) : Nat) : Int)) rfl (by show 7 * i ≤ 64; omega) (by rw [zCf, show ((ch.toNat % 128 : Nat) : Int) * 2 ^ (7 * i) = ((ch.toNat % 128 * 2 ^ (7 * i) : Nat) : Int) by push_cast; rfl]; omega)) ?_; refine Qa (zFk (v := .int .u64 ((s + ch.toNat % 128 * 2 ^ (7 * i) : Nat) : Int)) (by simp) rfl rfl (by rw [← or_add hsm, ← or_u64 s _ (by omega) hx2]; rfl)) ?_; refine Ji rfl (zA6 (zA4 (zA4 (zA2 (Jm (v := .int .u8 _) rfl (Qa (zD5 rfl rfl) (zA6 (zB2 rfl ?_ ?_))))))))
      ·
       intro h35; have g35 := of_decide_eq_true h35; rw [if_pos (by omega)] at hv; refine zBm rfl (zA2 (Jo rfl rfl rfl (inI (by omega) (by omega)) (J0 rfl (zA6 ?_)))); exact ⟨(i + 1, s + ch.toNat % 128 * 2 ^ (7 * i)), by simp only; omega, ⟨by simp only; omega, hx3, by show vgetF (10 - (i + 1)) (i + 1) _ b = _; rw [show 10 - (i + 1) = 9 - i by omega]; exact hv, hs⟩, ⟨rfl, rfl, trivial⟩, by repeat (first | exact Out.mix _ _ _ | refine Out.updo rfl ?_ | refine Out.upd rfl ?_ | refine Out.mixIn rfl ?_)⟩
      ·
       intro h35; have g35 := of_decide_eq_false h35; rw [if_neg (by omega)] at hv; refine zAd (zA4 (zA4 (zA2 (J0 rfl (Jt rfl rfl (J2 rfl (zB3 (t := _) (d := 38) rfl ?_ ?_)))))))
       ·
        intro h37; have g37 := of_decide_eq_true h37; refine zAl rfl rfl h37 (Jm (v := .int .u8 _) rfl (zAl rfl rfl h37 (Jw rfl rfl (Ja rfl h37 rfl (zA6 (zB2 rfl ?_ ?_))))))
        ·
         intro h40; have g40 := of_decide_eq_true h40; rw [if_pos ⟨by omega, by omega⟩] at hv
         cases hv
         refine zBm rfl (zA4 (zAq zBk hs ?_)); intro w tr hK; replace hs := tr _ hs; clear tr; refine Qd 0 rfl zCq rfl (fun w hs => hE.cellW hs 103 (by decide) rfl) hK (Q5 1 rfl (v := .int .u64 _) rfl hK (Q5 2 rfl (v := .int .i64 _) rfl hK (Q1 3 rfl rfl hK (zAs (by kernel_rfl) ?_)))); clear hK; exact zAe (res3 (v := .int .u64 _) (v2 := .int .i64 _) (v3 := zAk ad _) rfl rfl rfl rfl ⟨_, rfl, rfl, hs⟩)
        ·
         intro h40; have g40 := of_decide_eq_false h40; rw [if_neg (by omega)] at hv
         cases hv
         refine zAd (zA4 (zA2 (Jh rfl (J0 rfl (Jo rfl rfl rfl (inI (by omega) (by omega)) (Ji rfl (J4 rfl (J3 rfl (zA6 (zAe (res3 (v := .int .u64 _) (v2 := .int .i64 _) (v3 := .nilIface) rfl rfl rfl rfl ?_))))))))))); exact ⟨_, rfl, (by rw [zB]; rfl), hs⟩
       ·
        intro h37; have g37 := of_decide_eq_false h37; rw [if_neg (by omega)] at hv
        cases hv
        refine Qe rfl rfl h37 (Qe rfl rfl h37 (J9 rfl h37 rfl (zA6 (zAz rfl rfl (zAd (zA4 (zA2 (Jh rfl (J0 rfl (Jo rfl rfl rfl (inI (by omega) (by omega)) (Ji rfl ?_))))))))))); exact J4 rfl (J3 rfl (zA6 (zAe (res3 (v := .int .u64 _) (v2 := .int .i64 _) (v3 := .nilIface) rfl rfl rfl rfl ⟨_, rfl, (by rw [zB]; rfl), hs⟩))))
    ·
     intro h21; have g21 := of_decide_eq_false h21; rw [if_neg (by omega)] at hv
     have hc9 : i = 9 → ch.toNat ≤ 1 := fun h => by omega
     obtain ⟨hx1, hx2, hx3⟩ := seven_in hsm (by omega) hc9; refine Qe rfl rfl h21 (Qe rfl rfl h21 (J9 rfl h21 rfl (zA6 (zAz rfl rfl (zAd (zA4 (zA2 (Jh rfl (Jm (v := .int .u8 _) rfl (Qa (zFk (v := .int .u8 ((ch.toNat % 128 : Nat) : Int)) (by simp) rfl rfl (by rw [← low7b ch]; rfl)) ?_)))))))))); refine Jy uz5 zCg rfl (c := ((ch.toNat % 128 : Nat) : Int)) (by rw [zCf]; omega) ?_; refine J0 rfl ?_
     refine Qa (run_mul64 rfl rfl (c := ((7 * i : Nat) : Int)) (by omega) (inI (by omega) (by omega))) ?_; refine Qa (run_shl rfl rfl (n := 7 * i) (c := ((ch.toNat % 128 * 2 ^ (7 * i) : Nat) : Int)) rfl (by show 7 * i ≤ 64; omega) (by rw [zCf, show ((ch.toNat % 128 : Nat) : Int) * 2 ^ (7 * i) = ((ch.toNat % 128 * 2 ^ (7 * i) : Nat) : Int) by push_cast; rfl]; omega)) ?_; refine Qa (zFk (v := .int .u64 ((s + ch.toNat % 128 * 2 ^ (7 * i) : Nat) : Int)) (by simp) rfl rfl (by rw [← or_add hsm, ← or_u64 s _ (by omega) hx2]; rfl)) ?_; refine Ji rfl (zA6 (zA4 (zA4 (zA2 (Jm (v := .int .u8 _) rfl ?_)))))
     refine Qa (zD5 rfl rfl) (zA6 (zB2 rfl ?_ ?_))
     ·
      intro h35; have g35 := of_decide_eq_true h35; rw [if_pos (by omega)] at hv; refine zBm rfl (zA2 (Jo rfl rfl rfl (inI (by omega) (by omega)) (J0 rfl (zA6 ?_)))); exact ⟨(i + 1, s + ch.toNat % 128 * 2 ^ (7 * i)), by simp only; omega, ⟨by simp only; omega, hx3, by show vgetF (10 - (i + 1)) (i + 1) _ b = _; rw [show 10 - (i + 1) = 9 - i by omega]; exact hv, hs⟩, ⟨rfl, rfl, trivial⟩, by repeat (first | exact Out.mix _ _ _ | refine Out.updo rfl ?_ | refine Out.upd rfl ?_ | refine Out.mixIn rfl ?_)⟩
     ·
      intro h35; have g35 := of_decide_eq_false h35; rw [if_neg (by omega)] at hv; refine zAd (zA4 (zA4 (zA2 (J0 rfl (Jt rfl rfl (J2 rfl (zB3 (t := _) (d := 38) rfl ?_ ?_)))))))
      ·
       intro h37; have g37 := of_decide_eq_true h37; refine zAl rfl rfl h37 (Jm (v := .int .u8 _) rfl (zAl rfl rfl h37 (Jw rfl rfl (Ja rfl h37 rfl (zA6 (zB2 rfl ?_ ?_))))))
       ·
        intro h40; have g40 := of_decide_eq_true h40; rw [if_pos ⟨by omega, by omega⟩] at hv
        cases hv
        refine zBm rfl (zA4 (zAq zBk hs ?_)); intro w tr hK; replace hs := tr _ hs; clear tr; refine Qd 0 rfl zCq rfl (fun w hs => hE.cellW hs 103 (by decide) rfl) hK (Q5 1 rfl (v := .int .u64 _) rfl hK (Q5 2 rfl (v := .int .i64 _) rfl hK (Q1 3 rfl rfl hK (zAs (by kernel_rfl) ?_)))); clear hK; exact zAe (res3 (v := .int .u64 _) (v2 := .int .i64 _) (v3 := zAk ad _) rfl rfl rfl rfl ⟨_, rfl, rfl, hs⟩)
       ·
        intro h40; have g40 := of_decide_eq_false h40; rw [if_neg (by omega)] at hv
        cases hv
        refine zAd (zA4 (zA2 (Jh rfl (J0 rfl (Jo rfl rfl rfl (inI (by omega) (by omega)) (Ji rfl (J4 rfl (J3 rfl (zA6 (zAe (res3 (v := .int .u64 _) (v2 := .int .i64 _) (v3 := .nilIface) rfl rfl rfl rfl ?_))))))))))); exact ⟨_, rfl, (by rw [zB]; rfl), hs⟩
      ·
       intro h37; have g37 := of_decide_eq_false h37; rw [if_neg (by omega)] at hv
       cases hv
       refine Qe rfl rfl h37 (Qe rfl rfl h37 (J9 rfl h37 rfl (zA6 (zAz rfl rfl (zAd (zA4 (zA2 (Jh rfl (J0 rfl (Jo rfl rfl rfl (inI (by omega) (by omega)) (Ji rfl ?_))))))))))); exact J4 rfl (J3 rfl (zA6 (zAe (res3 (v := .int .u64 _) (v2 := .int .i64 _) (v3 := .nilIface) rfl rfl rfl rfl ⟨_, rfl, (by rw [zB]; rfl), hs⟩))))
  ·
   intro h9; have g9 := of_decide_eq_false h9; refine zBm rfl (zA4 (zAq zBk hs ?_)); intro w tr hK; replace hs := tr _ hs; clear tr; refine Qd 0 rfl zCq rfl (fun w hs => hE.cellW hs 103 (by decide) rfl) hK (Q5 1 rfl (v := .int .u64 _) rfl hK (Q5 2 rfl (v := .int .i64 _) rfl hK (Q1 3 rfl rfl hK (zAs (by kernel_rfl) ?_)))); clear hK; refine zAe (res3 (v := .int .u64 _) (v2 := .int .i64 _) (v3 := zAk ad _) rfl rfl rfl rfl ?_)
   obtain rfl : i = 10 := by omega
   cases hv
   exact ⟨_, rfl, rfl, hs⟩
def vgetI (b : List UInt8) : Nat × Int × Nat := ((vget b).1, zag (vget b).2.1, (vget b).2.2)
theorem vgetF_lt : ∀ {f i n : Nat} {b : List UInt8} {k m q : Nat}, i + f = 10 → n < 2 ^ (7 * i) → vgetF f i n b = (k, m, q) → m < 18446744073709551616
  | 0, _, _, _, _, _, _, _, _, h => by cases h; decide
  | f + 1, i, n, b, k, m, q, hi, hn, h => by
    cases hb : b[i]? with
    | none => rw [zGg hb] at h; cases h; decide
    | some c =>
      rw [zFr hb] at h
      split at h
      · cases h; decide
      · rename_i h1
        have hx := seven_in hn (by omega) (fun e => by omega : i = 9 → c.toNat ≤ 1)
        split at h
        · exact vgetF_lt (by omega) hx.2.2 h
        · split at h
          · cases h; decide
          · cases h; exact hx.1
theorem vget_lt {b : List UInt8} {k m q : Nat} (h : vget b = (k, m, q)) : m < 18446744073709551616 := vgetF_lt rfl (by decide) h
theorem wrap_i64 {n : Int} (h : zDo n) : IntKind.i64.wrap n = n := h.wrap
theorem xor_i64_0 (m : Nat) (h : m < 9223372036854775808) : bits .xor .i64 (m : Int) 0 = (m : Int) := by
  show IntKind.i64.wrap ((BitVec.ofInt 64 (m : Int) ^^^ BitVec.ofInt 64 0).toNat : Int) = _
  rw [show BitVec.ofInt 64 0 = 0#64 from rfl, BitVec.xor_zero, u64_nat m (by omega)]; exact wrap_i64 ⟨by omega, by omega⟩
theorem xor_i64_1 (m : Nat) (h : m < 9223372036854775808) : bits .xor .i64 (m : Int) (-1) = -(m : Int) - 1 := by
  have hx : (BitVec.ofInt 64 (m : Int) ^^^ BitVec.ofInt 64 (-1)).toNat = 18446744073709551615 - m := by
    rw [show BitVec.ofInt 64 (-1) = BitVec.allOnes 64 from rfl, BitVec.xor_allOnes, BitVec.toNat_not, u64_nat m (by omega)]
  show IntKind.i64.wrap ((BitVec.ofInt 64 (m : Int) ^^^ BitVec.ofInt 64 (-1)).toNat : Int) = _
  rw [hx]; simp only [IntKind.wrap, IntKind.bits, IntKind.signed]
  have h64 : (2 : Int) ^ 64 = 18446744073709551616 := by decide
  have h63 : (2 : Int) ^ (64 - 1) = 9223372036854775808 := by decide
  simp only [h64, h63]
  have e : ((18446744073709551615 - m : Nat) : Int) % 18446744073709551616 = 18446744073709551615 - (m : Int) := by omega
  simp only [e, Bool.true_and, decide_eq_true_eq]; rw [if_pos (by omega)]
  omega
theorem zag_bits (n : Nat) (h : n < 18446744073709551616) : bits .xor .i64 ((n / 2 : Nat) : Int) (-((n % 2 : Nat) : Int)) = zag n := by
  unfold zag
  rcases Nat.mod_two_eq_zero_or_one n with h2 | h2
  · rw [h2, if_pos rfl]; exact xor_i64_0 _ (by omega)
  · rw [h2, if_neg (by decide)]; exact xor_i64_1 _ (by omega)
theorem vgetI_sl (hE : ErrW ad g) (hs : Mem g w L) {a : Option Addr} {m c : Nat} {b : List UInt8} (hr : Rd g L (.slice a m c) (zAn b)) (hm : m = b.length) (hlen : b.length ≤ 1073741824) {k q : Nat} {z : Int} (hk : vgetI b = (k, z, q)) :
    Calls Tryz.prog 174 #[.slice a m c] w (Ret fun v w' => v = .tuple #[.int .i64 z, .int .i64 q, zAk ad k] ∧ Mem g w' L) := by
  obtain ⟨k0, n, q0, hv⟩ : ∃ k n q, vget b = (k, n, q) := ⟨_, _, _, rfl⟩; have hn := vget_lt hv; simp only [vgetI, hv, Prod.mk.injEq] at hk; obtain ⟨rfl, rfl, rfl⟩ := hk; have hand : n &&& 1 = n % 2 := Nat.and_one_is_mod n; refine zAh Tryz.func174 rfl rfl ?_
  refine zA4 (zA2 (J4 rfl (J4 rfl (J3 rfl (zA6 (zA4 (zA2 (J7 rfl (Qg en164 (vget_sl hE hs hr hm hlen hv) ?_))))))))); clear hs; rintro _ w ⟨rfl, hs⟩; refine Jc rfl (Ju (v := .int .u64 _) rfl rfl (Ju (v := .int .i64 _) rfl rfl (Jg rfl rfl (Ji rfl (J4 rfl (J6 rfl (zA6 (zA4 (zA2 ?_)))))))))
  refine Jh rfl (Qa (run_shr rfl rfl (n := 1) (c := ((n / 2 : Nat) : Int)) rfl (by decide) (by omega)) (Jy zCg uz2 rfl (c := ((n / 2 : Nat) : Int)) (wrap_i64 ⟨by omega, by omega⟩) (Jh rfl (Qa (zFk (v := .int .u64 ((n % 2 : Nat) : Int)) (by simp) rfl rfl (by rw [← hand, ← and_u64 n 1 hn (by decide)]; rfl)) ?_)))); refine Jy zCg uz2 rfl (c := ((n % 2 : Nat) : Int)) (wrap_i64 ⟨by omega, by omega⟩) (Qa (run_neg64 rfl (c := -((n % 2 : Nat) : Int)) rfl (inI (by omega) (by omega))) ?_)
  refine Qa (zFk (v := .int .i64 (zag n)) (by simp) rfl rfl (by rw [← zag_bits n hn]; rfl)) ?_; exact J0 rfl (J8 rfl (J4 rfl (J4 rfl (J6 rfl (zA6 (zAe (res3 (v := .int .i64 _) (v2 := .int .i64 _) (v3 := zAk ad _) rfl rfl rfl rfl ⟨_, rfl, rfl, hs⟩)))))))
theorem run_neerr {ρ : Env} {dst : Option Tmp} {ty : TypeId} {pos : String} {aft : Array Edge} {x y : Operand} {u : TypeId} {Lc : List Nat} {B : Nat} (h : Errs Lc ad B w) {c d : Nat} (hc : c = 0 ∨ c ∈ Lc) (hd : d ∈ Lc) (hx : ev ρ x = zAk ad c) (hy : ev ρ y = zAk ad d) : (execOp (ev ρ) ⟨dst, .binOp .neq 27 x y u, ty, pos, aft, none⟩).run Tryz.prog w = .ok (.value (.bool (!decide (c = d)))) w := by
  have hgd := guard_code ad .neq 27 x y (w := w) c (h.pos d hd); simp only [execOp, hx, hy, Sem.run_bind, hgd, binOp_errN, equal_err h hc hd, Result.andThen_ok, Sem.run_pure]
def eV (ad : Nat → Addr) (c eb : Nat) : Value := if c = 0 then .nilIface else if c = 101 then zAk ad 101 else .iface 112 (.pointer (some ⟨eb, 0, none⟩))
theorem eV_0 (eb : Nat) : eV ad 0 eb = .nilIface := rfl
theorem eV_101 (eb : Nat) : eV ad 101 eb = zAk ad 101 := rfl
theorem eV_at {c : Nat} (h0 : c ≠ 0) (h1 : c ≠ 101) (eb : Nat) : eV ad c eb = .iface 112 (.pointer (some ⟨eb, 0, none⟩)) := by simp [eV, h0, h1]
section
variable {ρ : Env} {dst : Option Tmp} {ty : TypeId} {pos : String} {aft : Array Edge} {x : Operand} {u : TypeId} {c eb : Nat}
theorem run_eqE (hx : ev ρ x = eV ad c eb) : (execOp (ev ρ) ⟨dst, .binOp .eql 27 x (.const .nilIface) u, ty, pos, aft, none⟩).run Tryz.prog w = .ok (.value (.bool (decide (c = 0)))) w := by
  unfold eV at hx
  split at hx
  · rename_i h; subst h; exact run_eqnn hx
  · rename_i h
    split at hx
    · rename_i h1; subst h1; exact zDl hx
    · rw [decide_eq_false h]
      have hy : ev ρ (.const .nilIface) = .nilIface := rfl
      have hg : (eqGuard .eql 27 x (.const .nilIface) (.iface 112 (.pointer (some ⟨eb, 0, none⟩))) .nilIface).run Tryz.prog w = .ok () w := by cases x <;> rfl
      have hb : binOp .eql 27 (.iface 112 (.pointer (some ⟨eb, 0, none⟩))) .nilIface = (do pure (.bool (← Op.equal 27 (.iface 112 (.pointer (some ⟨eb, 0, none⟩))) .nilIface))) := rfl
      have he : (Op.equal 27 (.iface 112 (.pointer (some ⟨eb, 0, none⟩))) .nilIface).run Tryz.prog w = .ok false w := by
        show (Op.equalIn 10000 _ _ _).run Tryz.prog w = _
        rw [Op.equalIn]
        simp [run_underlying zCq]
      simp only [execOp, hx, hy, Sem.run_bind, hg, hb, he, Result.andThen_ok, Sem.run_pure]
theorem run_neE (hx : ev ρ x = eV ad c eb) : (execOp (ev ρ) ⟨dst, .binOp .neq 27 x (.const .nilIface) u, ty, pos, aft, none⟩).run Tryz.prog w = .ok (.value (.bool (!decide (c = 0)))) w := by
  unfold eV at hx
  split at hx
  · rename_i h; subst h; exact zBu hx
  · rename_i h
    split at hx
    · rename_i h1; subst h1; exact zAv hx
    · rw [decide_eq_false h]
      have hy : ev ρ (.const .nilIface) = .nilIface := rfl
      have hg : (eqGuard .neq 27 x (.const .nilIface) (.iface 112 (.pointer (some ⟨eb, 0, none⟩))) .nilIface).run Tryz.prog w = .ok () w := by cases x <;> rfl
      have hb : binOp .neq 27 (.iface 112 (.pointer (some ⟨eb, 0, none⟩))) .nilIface = (do pure (.bool (!(← Op.equal 27 (.iface 112 (.pointer (some ⟨eb, 0, none⟩))) .nilIface)))) := rfl
      have he : (Op.equal 27 (.iface 112 (.pointer (some ⟨eb, 0, none⟩))) .nilIface).run Tryz.prog w = .ok false w := by
        show (Op.equalIn 10000 _ _ _).run Tryz.prog w = _
        rw [Op.equalIn]
        simp [run_underlying zCq]
      simp only [execOp, hx, hy, Sem.run_bind, hg, hb, he, Result.andThen_ok, Sem.run_pure]
end
def errC (ad : Nat → Addr) (eb at_ c : Nat) : HP := if c = 0 ∨ c = 101 then emp else cells eb [.int .i64 at_, zAk ad c] 114
theorem emp_ok (w : World) : emp.ok (fun _ => False) w := fun _ h => h
theorem errC_bare {eb at_ c : Nat} (h : c = 0 ∨ c = 101) : errC ad eb at_ c = emp := if_pos h
theorem errC_at {eb at_ c : Nat} (h : ¬ (c = 0 ∨ c = 101)) : errC ad eb at_ c = cells eb [.int .i64 at_, zAk ad c] 114 := if_neg h
def RdrC (rb : Nat) (ad : Nat → Addr) (b : List UInt8) (st : Nat × Nat) : HP := ex fun x : Option Addr × Nat × Nat => also (stars [cells rb [.slice x.1 b.length x.2.1, .int .i64 st.1, eV ad st.2 x.2.2] 242, own (.slice x.1 b.length x.2.1) (zAn b), errC ad x.2.2 st.1 st.2]) (st.1 ≤ b.length)
theorem Mem.openR {rb : Nat} {b : List UInt8} {st : Nat × Nat} (hs : Mem g w (RdrC rb ad b st :: L)) : st.1 ≤ b.length ∧ ∃ a c eb, b.length ≤ c ∧ Mem g w (cells rb [.slice a b.length c, .int .i64 st.1, eV ad st.2 eb] 242 :: own (.slice a b.length c) (zAn b) :: errC ad eb st.1 st.2 :: L) := by
  obtain ⟨⟨a, c, eb⟩, h⟩ := hs.unex; obtain ⟨h1, h2⟩ := h.unalso; have h3 := h2.unstars; exact ⟨h1, a, c, eb, (h3.ownForm 1 rfl).2.1, h3⟩
theorem Mem.closeR {rb : Nat} {b : List UInt8} {st : Nat × Nat} {a : Option Addr} {c eb : Nat} (hl : st.1 ≤ b.length) (hs : Mem g w (cells rb [.slice a b.length c, .int .i64 st.1, eV ad st.2 eb] 242 :: own (.slice a b.length c) (zAn b) :: errC ad eb st.1 st.2 :: L)) : Mem g w (RdrC rb ad b st :: L) :=
  Mem.ex (f := fun x : Option Addr × Nat × Nat => Go.Proofs.YthejaanobeonnaaGreatDoor.also (Go.Proofs.YthejaanobeonnaaGreatDoor.stars [cells rb [.slice x.1 b.length x.2.1, .int .i64 st.1, eV ad st.2 x.2.2] 242, own (.slice x.1 b.length x.2.1) (zAn b), errC ad x.2.2 st.1 st.2]) (st.1 ≤ b.length)) (a, c, eb) (Mem.also hl (Mem.stars (M := [cells rb [.slice a b.length c, .int .i64 st.1, eV ad st.2 eb] 242, own (.slice a b.length c) (zAn b), errC ad eb st.1 st.2]) hs))
theorem Mem.closeR0 {rb at_ e0 : Nat} {b : List UInt8} {a : Option Addr} {c eb : Nat} (hl : at_ ≤ b.length) (hs : Mem g w (cells rb [.slice a b.length c, .int .i64 at_, .nilIface] 242 :: own (.slice a b.length c) (zAn b) :: errC ad eb e0 0 :: L)) : Mem g w (RdrC rb ad b (at_, 0) :: L) :=
  Mem.closeR (st := (at_, 0)) (a := a) (c := c) (eb := 0) hl hs
attribute [local irreducible] eV
theorem newr_sl (ad : Nat → Addr) (hs : Mem g w L) {a : Option Addr} {m c : Nat} {b : List UInt8} (hr : Rd g L (.slice a m c) (zAn b)) (hm : m = b.length) (hlen : b.length ≤ 1073741824) :
    Calls Tryz.prog 113 #[.slice a m c] w (Ret fun v w' => ∃ rb, v = .pointer (some ⟨rb, 0, none⟩) ∧ Mem g w' (RdrC rb ad b (0, 0) :: L)) := by
  subst hm; refine zAh Tryz.func113 rfl rfl ?_
  refine zA4 (zA2 (Jf rfl (zA6 (zA4 (zA2 (J7 rfl (Qg en49 (zCt hs (l := b) hr hlen) ?_))))))); clear hs; rintro _ w ⟨a4, c4, rfl, hs⟩; rw [zAw] at hs ⊢; refine Qa (zBw (cs := [.slice a4 b.length c4, .int .i64 0, .nilIface]) zDc ze242 pl242 rfl) (zBp (v := .agg _) hs rfl rfl ?_); clear hs; intro b6 w hs; refine Jd rfl (zA6 (zAe (zBi (v := .pointer (some _)) rfl rfl ?_)))
  exact ⟨_, rfl, b6, rfl, Mem.closeR (st := (0, 0)) (a := a4) (c := c4) (eb := 0) (Nat.zero_le _) (by show Mem g w (cells b6 [_, _, eV ad 0 0] _ :: _ :: errC ad 0 0 0 :: L); rw [eV_0, errC_bare (.inl rfl)]; exact (hs.addE (emp_ok _)).arr [1, 2, 0] 3 (by decide))⟩
theorem err_sl {rb : Nat} {b : List UInt8} {st : Nat × Nat} (hs : Mem g w (RdrC rb ad b st :: L)) : Calls Tryz.prog 115 #[.pointer (some ⟨rb, 0, none⟩)] w (Ret fun v w' => ∃ eb, v = eV ad st.2 eb ∧ Mem g w' (RdrC rb ad b st :: L)) := by
  obtain ⟨hl, a, c, eb, hc, hs⟩ := hs.openR; refine zAh Tryz.func115 rfl rfl ?_
  refine zA4 (zA2 (J3 rfl (zA6 (zA4 (zA2 (J1 rfl (Jx rfl (Jp (o' := 2) zDc rfl sz27 rfl rfl rfl (Qc zCq rfl hs 0 rfl rfl (Jl (v := eV ad _ _) rfl (zA6 (zAe (zBi (v := eV ad _ _) rfl rfl ?_))))))))))))); exact ⟨_, rfl, eb, rfl, Mem.closeR hl hs⟩
theorem errC_sl {rb : Nat} {b : List UInt8} {st : Nat × Nat} (hs : Mem g w (RdrC rb ad b st :: L)) : Calls Tryz.prog 115 #[.pointer (some ⟨rb, 0, none⟩)] w (Ret fun v w' => ∃ eb, v = eV ad st.2 eb ∧ Mem g w' (errC ad eb st.1 st.2 :: L)) := by
  obtain ⟨hl, a, c, eb, hc, hs⟩ := hs.openR; refine zAh Tryz.func115 rfl rfl ?_
  refine zA4 (zA2 (J3 rfl (zA6 (zA4 (zA2 (J1 rfl (Jx rfl (Jp (o' := 2) zDc rfl sz27 rfl rfl rfl (Qc zCq rfl hs 0 rfl rfl (Jl (v := eV ad _ _) rfl (zA6 (zAe (zBi (v := eV ad _ _) rfl rfl ?_))))))))))))); exact ⟨_, rfl, eb, rfl, hs.suffix 2 rfl⟩
theorem left_sl {rb : Nat} {b : List UInt8} {st : Nat × Nat} (hs : Mem g w (RdrC rb ad b st :: L)) (hlen : b.length ≤ 1073741824) : Calls Tryz.prog 132 #[.pointer (some ⟨rb, 0, none⟩)] w (Ret fun v w' => v = .int .i64 ((b.length - st.1 : Nat) : Int) ∧ st.1 ≤ b.length ∧ Mem g w' (RdrC rb ad b st :: L)) := by
  obtain ⟨hl, a, c, eb, hc, hs⟩ := hs.openR; refine zAh Tryz.func132 rfl rfl ?_
  refine zA4 (zA2 (J4 rfl (zA6 (zA4 (zAq zBk hs ?_))))); intro w tr hK; replace hs := tr _ hs; clear tr; refine Q0 0 rfl rfl hK (Q7 1 rfl rfl hK (Q6 2 rfl (o' := 0) zDc rfl sz22 rfl rfl rfl hK (Qd 3 rfl zC6 rfl (fun w hs => hs.cellAt 0 rfl rfl) hK (Qb 4 rfl (fun w hs => zAu zC6 rfl) hK (Q0 5 rfl rfl hK (Q7 6 rfl rfl hK ?_))))))
  refine Q6 7 rfl (o' := 1) zDc rfl sz3 rfl rfl rfl hK (Qd 8 rfl uz3 rfl (fun w hs => hs.cellAt 0 rfl rfl) hK (Qb 9 rfl (fun w hs => zCx rfl rfl (c := ((b.length - st.1 : Nat) : Int)) (by omega) (inI (by omega) (by omega))) hK (Q5 10 rfl (v := .int .i64 _) rfl hK (zAs (by kernel_rfl) ?_)))); clear hK; exact zAe (zBi (v := .int .i64 _) rfl rfl ⟨_, rfl, rfl, hl, Mem.closeR hl hs⟩)
theorem at_sl {rb : Nat} {b : List UInt8} {st : Nat × Nat} (hs : Mem g w (RdrC rb ad b st :: L)) : Calls Tryz.prog 117 #[.pointer (some ⟨rb, 0, none⟩)] w (Ret fun v w' => v = .int .i64 (st.1 : Nat) ∧ Mem g w' (RdrC rb ad b st :: L)) := by
  obtain ⟨hl, a, c, eb, hc, hs⟩ := hs.openR; refine zAh Tryz.func117 rfl rfl ?_
  refine zA4 (zA2 (J4 rfl (zA6 (zA4 (zA2 (J1 rfl (Jx rfl (Jp (o' := 1) zDc rfl sz3 rfl rfl rfl (Qc uz3 rfl hs 0 rfl rfl (J4 rfl (zA6 (zAe (zBi (v := .int .i64 _) rfl rfl ?_))))))))))))); exact ⟨_, rfl, rfl, Mem.closeR hl hs⟩
theorem bad_sl (hE : ErrW ad g) {rb at_ : Nat} {b : List UInt8} {k : Nat} (hk : k ∈ vintCodes) (hs : Mem g w (RdrC rb ad b (at_, 0) :: L)) : Calls Tryz.prog 165 #[.pointer (some ⟨rb, 0, none⟩), .int .i64 at_, zAk ad k] w (Ret fun v w' => v = .tuple #[] ∧ Mem g w' (RdrC rb ad b (at_, k) :: L)) := by
  obtain ⟨hl, a, c, eb, hc, hs⟩ := hs.openR
  have hk0 : k ≠ 0 := fun e => by subst e; exact absurd hk (by decide)
  refine zAh Tryz.func165 rfl rfl ?_
  refine zA4 (zA2 (J1 rfl (J0 rfl (Jx rfl (Jp (o' := 1) zDc rfl sz3 rfl rfl rfl (zB0 (v := .int .i64 _) hs 0 rfl sz3 rfl rfl rfl rfl ?_)))))); clear hs; intro w hs
  try simp only [zzs, zzz] at hs
  refine zA6 (zA4 (zA2 (J1 rfl (J8 rfl (Jx rfl (Jp (o' := 2) zDc rfl sz27 rfl rfl rfl (zB0 (v := zAk ad k) hs 0 rfl sz27 rfl rfl rfl (errV_one ad k) ?_))))))); clear hs; intro w hs; simp only [zzs, zzz] at hs; refine zA6 (zA4 (zA2 (J8 rfl (Jq zCq rfl rfl (hE.cellW hs 101 (by decide) rfl) (Qa (run_neerr (hE.atW hs) (.inr hk) (by decide) rfl rfl) (zA6 (zB2 rfl ?_ ?_)))))))
  ·
   intro h16; have g16 := zFj h16; refine zA2 (J1 rfl (J0 rfl (J8 rfl (Qa (zBg [.int .i64 at_, zAk ad k] uz114 ze114 pl114 rfl (at_one _ _) rfl rfl) (zBp (v := .agg _) hs rfl rfl ?_))))); clear hs; intro b21 w hs; refine Qa (run_mkI uz112 rfl) (Jx rfl (Jp (o' := 2) zDc rfl sz27 rfl rfl rfl (zB0 (v := .iface _ (.pointer (some _))) hs 1 rfl sz27 rfl rfl rfl rfl ?_))); clear hs; intro w hs
   try simp only [zzs, zzz] at hs
   refine zA6 (res0  rfl ?_)
   have hne : k ≠ 101 := by simpa using h16
   refine ⟨_, rfl, rfl, Mem.closeR (st := (at_, k)) (a := a) (c := c) (eb := b21) hl ?_⟩; rw [eV_at hk0 hne, errC_at (by omega)]; exact hs.arr [1, 2, 0] 4 (by decide)
  ·
   intro h16; have g16 := zFi h16; refine zAd (res0  rfl ?_)
   have he : k = 101 := by simpa using h16
   subst he; refine ⟨_, rfl, rfl, Mem.closeR (st := (at_, 101)) (a := a) (c := c) (eb := eb) hl ?_⟩; rw [eV_101, errC_bare (.inr rfl)]; exact hs
theorem vgetF_q : ∀ {f i n : Nat} {b : List UInt8} {m q : Nat}, vgetF f i n b = (0, m, q) → q ≤ b.length
  | 0, _, _, _, _, _, h => by cases h
  | f + 1, i, n, b, m, q, h => by
    cases hb : b[i]? with
    | none => rw [zGg hb] at h; cases h
    | some c =>
      have hlt := (List.getElem?_eq_some_iff.1 hb).1; rw [zFr hb] at h
      split at h
      · cases h
      · split at h
        · exact vgetF_q h
        · split at h
          · cases h
          · cases h; omega
theorem vgetF_code : ∀ {f i n : Nat} {b : List UInt8} {k m q : Nat}, vgetF f i n b = (k, m, q) → k = 0 ∨ k = 101 ∨ k = 103
  | 0, _, _, _, _, _, _, h => by cases h; simp
  | f + 1, i, n, b, k, m, q, h => by
    cases hb : b[i]? with
    | none => rw [zGg hb] at h; cases h; simp
    | some c =>
      rw [zFr hb] at h
      split at h
      · cases h; simp
      · split at h
        · exact vgetF_code h
        · split at h
          · cases h; simp
          · cases h; simp
def vnum (most : Nat) (b : List UInt8) (st : Nat × Nat) : Nat × Nat × Nat :=
  if st.2 ≠ 0 then (0, st) else if (vget (b.drop st.1)).1 ≠ 0 then (0, st.1, (vget (b.drop st.1)).1) else if most < (vget (b.drop st.1)).2.1 then (0, st.1, 105) else ((vget (b.drop st.1)).2.1, st.1 + (vget (b.drop st.1)).2.2, 0)
def vintS (b : List UInt8) (st : Nat × Nat) : Int × Nat × Nat :=
  if st.2 ≠ 0 then (0, st) else if (vgetI (b.drop st.1)).1 ≠ 0 then (0, st.1, (vgetI (b.drop st.1)).1) else ((vgetI (b.drop st.1)).2.1, st.1 + (vgetI (b.drop st.1)).2.2, 0)
theorem num_sl (hE : ErrW ad g) {rb : Nat} {b : List UInt8} {st : Nat × Nat} (hs : Mem g w (RdrC rb ad b st :: L)) (hlen : b.length ≤ 1073741824) {most n : Nat} {st2 : Nat × Nat} (hk : vnum most b st = (n, st2)) :
    Calls Tryz.prog 114 #[.pointer (some ⟨rb, 0, none⟩), .int .u64 most] w (Ret fun v w' => v = .int .u64 n ∧ Mem g w' (RdrC rb ad b st2 :: L)) := by
  obtain ⟨at_, code⟩ := st
  by_cases hc0 : code = 0
  · subst hc0
    obtain ⟨k, x, q, hv⟩ : ∃ k x q, vget (b.drop at_) = (k, x, q) := ⟨_, _, _, rfl⟩; have hcode := vgetF_code hv; obtain ⟨hl, a, c, eb, hc, hs⟩ := hs.openR; simp only at hl; simp only [vnum, hv] at hk; rw [if_neg (by decide)] at hk; simp only [eV_0] at hs; refine zAh Tryz.func114 rfl rfl ?_
    refine zA4 (zA2 (Ji rfl (zA6 (zA4 (zA4 (zA2 (J1 rfl (Jx rfl (Jp (o' := 2) zDc rfl sz27 rfl rfl rfl (Qc zCq rfl hs 0 rfl rfl (Jz rfl (zA6 ?_)))))))))))); refine zAz rfl (rfl) (zAd (zA4 (zAq zBk hs ?_))); intro w tr hK; replace hs := tr _ hs; clear tr; refine Q0 0 rfl rfl hK (Q7 1 rfl rfl hK (Q6 2 rfl (o' := 0) zDc rfl sz22 rfl rfl rfl hK ?_))
    refine Qd 3 rfl zC6 rfl (fun w hs => hs.cellAt 0 rfl rfl) hK (Q0 4 rfl rfl hK (Q7 5 rfl rfl hK (Q6 6 rfl (o' := 1) zDc rfl sz3 rfl rfl rfl hK (Qd 7 rfl uz3 rfl (fun w hs => hs.cellAt 0 rfl rfl) hK (Qb 8 rfl (fun w hs => zD1 zC6 sz5 rfl rfl (lo := at_) rfl (by omega)) hK (zAc [9] ⟨⟨_, rfl, ?_⟩, trivial⟩))))))
    refine Qg en164 (vget_sl hE hs (k := k) (n := x) (q := q) (b := (b.take b.length).drop at_) ((hs.rdOwn 1 rfl).subB hl (Nat.le_refl _)) (by simp) (by simp; omega) (by rw [List.take_length]; exact hv)) ?_; clear hs; rintro _ w ⟨rfl, hs⟩; clear hK; have hK := hs; refine zA6 ⟨hK, ?_⟩; refine Q4 10 rfl (v := .tuple _) rfl hK (Q8 11 rfl (v := .int .u64 _) rfl rfl hK (Q8 12 rfl (v := .int .i64 _) rfl rfl hK (Q8 13 rfl (v := zAk ad _) rfl rfl hK (Q5 14 rfl (v := .int .u64 _) rfl hK ?_))))
    refine Q5 15 rfl (v := .int .i64 _) rfl hK (Q1 16 rfl rfl hK (zAs (by kernel_rfl) ?_)); clear hK; refine zA4 (zA4 (zA2 (J8 rfl (Qa (zDl (ad := ad) rfl) (J2 rfl (zB3 (t := _) (d := 29) rfl ?_ ?_))))))
    ·
     intro h28; have g28 := of_decide_eq_true h28; have hz := of_decide_eq_true h28; subst hz; rw [if_neg (by decide)] at hk; refine zAl rfl rfl h28 (Jh rfl (zAl rfl rfl h28 (Jh rfl (zAl rfl rfl h28 (Jt rfl rfl (Ja rfl h28 rfl (zA6 (zB2 rfl ?_ ?_))))))))
     ·
      intro h32; have g32 := of_decide_eq_true h32; rw [if_pos (by omega)] at hk
      cases hk
      refine zA2 (Jq zCq rfl rfl (hE.cellW hs 105 (by decide) rfl) (J6 rfl (zA6 (zA4 (zA4 (zA2 (J8 rfl (Jv (ad := ad) rfl (zA6 (zBc rfl (rfl) (zA4 (zA2 ?_)))))))))))); refine J1 rfl (J1 rfl (Jx rfl (Jp (o' := 1) zDc rfl sz3 rfl rfl rfl (Qc uz3 rfl hs 0 rfl rfl (J8 rfl ?_)))))
      refine Qg en165 (bad_sl hE (k := 105) (by decide) (Mem.closeR0 hl hs)) ?_; clear hs; rintro _ w ⟨rfl, hs⟩; exact zA6 (zA4 (zA2 (Ji rfl (zA6 (zAe (zBi (v := .int .u64 _) rfl rfl ⟨_, rfl, rfl, hs⟩))))))
     ·
      intro h32; have g32 := of_decide_eq_false h32; rw [if_neg (by omega)] at hk
      cases hk
      refine zAd (zA4 (zA4 (zA2 (J8 rfl (Jv (ad := ad) rfl (zA6 (zAz rfl (rfl) (zAd (zA4 ?_))))))))); have hq := vgetF_q hv; rw [List.length_drop] at hq; refine zA2 (J1 rfl (Jx rfl (Jp (o' := 1) zDc rfl sz3 rfl rfl rfl (Qc uz3 rfl hs 0 rfl rfl (J0 rfl (Jo rfl rfl (c := ((at_ + q : Nat) : Int)) (by omega) (inI (by omega) (by omega)) (Jx rfl ?_)))))))
      refine Jp (o' := 1) zDc rfl sz3 rfl rfl rfl (zB0 (v := .int .i64 _) hs 0 rfl sz3 rfl rfl rfl rfl ?_); clear hs; intro w hs
      try simp only [zzs, zzz] at hs
      exact zA6 (zA4 (zA2 (Jh rfl (Ji rfl (zA6 (zAe (zBi (v := .int .u64 _) rfl rfl ⟨_, rfl, rfl, Mem.closeR0 (by omega) hs⟩)))))))
    ·
     intro h28; have g28 := of_decide_eq_false h28; have hz := of_decide_eq_false h28; rw [if_pos hz] at hk
     cases hk
     refine Qe rfl rfl h28 (Qe rfl rfl h28 (Qe rfl rfl h28 (J9 rfl h28 rfl (zA6 (zAz rfl rfl (zAd (zA4 (zA4 (zA2 (J8 rfl (Jv (ad := ad) rfl ?_))))))))))); refine zA6 (zBc rfl (by rw [decide_eq_false hz]; rfl) ?_); refine zA4 (zA2 (J1 rfl (J1 rfl (Jx rfl (Jp (o' := 1) zDc rfl sz3 rfl rfl rfl (Qc uz3 rfl hs 0 rfl rfl ?_))))))
     refine J8 rfl ?_; refine Qg en165 (bad_sl hE (k := k) (by rcases hcode with h | h | h; exact absurd h hz; rw [h]; decide; rw [h]; decide) (Mem.closeR0 hl hs)) ?_; clear hs; rintro _ w ⟨rfl, hs⟩; exact zA6 (zA4 (zA2 (Ji rfl (zA6 (zAe (zBi (v := .int .u64 _) rfl rfl ⟨_, rfl, rfl, hs⟩))))))
  · obtain ⟨hl, a, c, eb, hc, hs⟩ := hs.openR
    simp only [vnum] at hk; rw [if_pos hc0] at hk
    cases hk
    refine zAh Tryz.func114 rfl rfl ?_
    refine zA4 (zA2 (Ji rfl (zA6 (zA4 (zA4 (zA2 (J1 rfl (Jx rfl (Jp (o' := 2) zDc rfl sz27 rfl rfl rfl (Qc zCq rfl hs 0 rfl rfl (Qa (run_neE (ad := ad) rfl) (zA6 ?_)))))))))))); refine zBc rfl (by rw [decide_eq_false hc0]; rfl) ?_; exact zA4 (zA2 (Ji rfl (zA6 (zAe (zBi (v := .int .u64 _) rfl rfl ⟨_, rfl, rfl, Mem.closeR hl hs⟩)))))
theorem int_sl (hE : ErrW ad g) {rb : Nat} {b : List UInt8} {st : Nat × Nat} (hs : Mem g w (RdrC rb ad b st :: L)) (hlen : b.length ≤ 1073741824) {z : Int} {st2 : Nat × Nat} (hk : vintS b st = (z, st2)) :
    Calls Tryz.prog 131 #[.pointer (some ⟨rb, 0, none⟩), .int .i64 (-9223372036854775808), .int .i64 9223372036854775807] w (Ret fun v w' => v = .int .i64 z ∧ zDo z ∧ Mem g w' (RdrC rb ad b st2 :: L)) := by
  obtain ⟨at_, code⟩ := st
  by_cases hc0 : code = 0
  · subst hc0
    obtain ⟨k, x, q, hv⟩ : ∃ k x q, vget (b.drop at_) = (k, x, q) := ⟨_, _, _, rfl⟩; have hcode := vgetF_code hv; have hxl := vget_lt hv
    have hvI : vgetI (b.drop at_) = (k, zag x, q) := by simp [vgetI, hv]
    have hzl : zDo (zag x) := by unfold zag; split <;> exact ⟨by omega, by omega⟩
    obtain ⟨hz1, hz2⟩ := id hzl; obtain ⟨hl, a, c, eb, hc, hs⟩ := hs.openR; simp only at hl; simp only [vintS, hvI] at hk; rw [if_neg (by decide)] at hk; simp only [eV_0] at hs; refine zAh Tryz.func131 rfl rfl ?_
    refine zA4 (zA2 (J4 rfl (zA6 (zA4 (zA4 (zA2 (J1 rfl (Jx rfl (Jp (o' := 2) zDc rfl sz27 rfl rfl rfl (Qc zCq rfl hs 0 rfl rfl (Jz rfl (zA6 ?_)))))))))))); refine zAz rfl (rfl) (zAd (zA4 (zAq zBk hs ?_))); intro w tr hK; replace hs := tr _ hs; clear tr; refine Q0 0 rfl rfl hK (Q7 1 rfl rfl hK (Q6 2 rfl (o' := 0) zDc rfl sz22 rfl rfl rfl hK ?_))
    refine Qd 3 rfl zC6 rfl (fun w hs => hs.cellAt 0 rfl rfl) hK (Q0 4 rfl rfl hK (Q7 5 rfl rfl hK (Q6 6 rfl (o' := 1) zDc rfl sz3 rfl rfl rfl hK (Qd 7 rfl uz3 rfl (fun w hs => hs.cellAt 0 rfl rfl) hK (Qb 8 rfl (fun w hs => zD1 zC6 sz5 rfl rfl (lo := at_) rfl (by omega)) hK (zAc [9] ⟨⟨_, rfl, ?_⟩, trivial⟩))))))
    refine Qg en174 (vgetI_sl hE hs (k := k) (z := zag x) (q := q) (b := (b.take b.length).drop at_) ((hs.rdOwn 1 rfl).subB hl (Nat.le_refl _)) (by simp) (by simp; omega) (by rw [List.take_length]; exact hvI)) ?_; clear hs; rintro _ w ⟨rfl, hs⟩; clear hK; have hK := hs; refine zA6 ⟨hK, ?_⟩; refine Q4 10 rfl (v := .tuple _) rfl hK (Q8 11 rfl (v := .int .i64 _) rfl rfl hK (Q8 12 rfl (v := .int .i64 _) rfl rfl hK (Q8 13 rfl (v := zAk ad _) rfl rfl hK (Q5 14 rfl (v := .int .i64 _) rfl hK ?_))))
    refine Q5 15 rfl (v := .int .i64 _) rfl hK (Q1 16 rfl rfl hK (zAs (by kernel_rfl) ?_)); clear hK; refine zA4 (zA4 (zA2 (J8 rfl (Qa (zDl (ad := ad) rfl) (J2 rfl (zB3 (t := _) (d := 31) rfl ?_ ?_))))))
    ·
     intro h30; have g30 := of_decide_eq_true h30; have hz := of_decide_eq_true h30; subst hz; rw [if_neg (by decide)] at hk
     cases hk
     refine zAl rfl rfl h30 (J0 rfl (zAl rfl rfl h30 (J0 rfl (zAl rfl rfl h30 (Jn rfl rfl (zAl rfl rfl h30 (J2 rfl (zAl rfl rfl (decide_eq_false (by omega)) (J0 rfl (zAl rfl rfl (decide_eq_false (by omega)) ?_)))))))))); refine J0 rfl (zAl rfl rfl (decide_eq_false (by omega)) (Jt rfl rfl (zAl rfl rfl h30 (J9 rfl (decide_eq_false (by omega)) rfl ?_))))
     refine Ja rfl h30 rfl (zA6 (zAz rfl (decide_eq_false (by omega)) (zAd (zA4 (zA4 (zA2 (J8 rfl (Jv (ad := ad) rfl (zA6 (zAz rfl (rfl) (zAd ?_))))))))))); refine zA4 ?_; have hq := vgetF_q hv; rw [List.length_drop] at hq; refine zA2 (J1 rfl (Jx rfl (Jp (o' := 1) zDc rfl sz3 rfl rfl rfl (Qc uz3 rfl hs 0 rfl rfl (J0 rfl ?_)))))
     refine Jo rfl rfl (c := ((at_ + q : Nat) : Int)) (by omega) (inI (by omega) (by omega)) (Jx rfl (Jp (o' := 1) zDc rfl sz3 rfl rfl rfl (zB0 (v := .int .i64 _) hs 0 rfl sz3 rfl rfl rfl rfl ?_))); clear hs; intro w hs
     try simp only [zzs, zzz] at hs
     exact zA6 (zA4 (zA2 (J0 rfl (J4 rfl (zA6 (zAe (zBi (v := .int .i64 _) rfl rfl ⟨_, rfl, rfl, hzl, Mem.closeR0 (by omega) hs⟩)))))))
    ·
     intro h30; have g30 := of_decide_eq_false h30; have hz := of_decide_eq_false h30; rw [if_pos hz] at hk
     cases hk
     refine Qe rfl rfl h30 (Qe rfl rfl h30 (Qe rfl rfl h30 (Qe rfl rfl h30 (lw_offU rfl rfl rfl (lw_offU rfl rfl rfl (lw_offU rfl rfl rfl (Qe rfl rfl h30 (J9 rfl h30 rfl (zA6 (zAz rfl rfl ?_)))))))))); refine zAd (zA4 (zA4 (zA2 (J8 rfl (Jv (ad := ad) rfl (zA6 (zBc rfl (by rw [decide_eq_false hz]; rfl) ?_))))))); refine zA4 (zA2 (J1 rfl (J1 rfl ?_)))
     refine Jx rfl (Jp (o' := 1) zDc rfl sz3 rfl rfl rfl (Qc uz3 rfl hs 0 rfl rfl (J8 rfl ?_))); refine Qg en165 (bad_sl hE (k := k) (by rcases hcode with h | h | h; exact absurd h hz; rw [h]; decide; rw [h]; decide) (Mem.closeR0 hl hs)) ?_; clear hs; rintro _ w ⟨rfl, hs⟩; refine zA6 (zA4 (zA2 (J4 rfl (zA6 (zAe (zBi (v := .int .i64 _) rfl rfl ?_)))))); exact ⟨_, rfl, rfl, ⟨by decide, by decide⟩, hs⟩
  · obtain ⟨hl, a, c, eb, hc, hs⟩ := hs.openR
    simp only [vintS] at hk; rw [if_pos hc0] at hk
    cases hk
    refine zAh Tryz.func131 rfl rfl ?_
    refine zA4 (zA2 (J4 rfl (zA6 (zA4 (zA4 (zA2 (J1 rfl (Jx rfl (Jp (o' := 2) zDc rfl sz27 rfl rfl rfl (Qc zCq rfl hs 0 rfl rfl (Qa (run_neE (ad := ad) rfl) (zA6 ?_)))))))))))); refine zBc rfl (by rw [decide_eq_false hc0]; rfl) ?_; refine zA4 (zA2 (J4 rfl (zA6 (zAe (zBi (v := .int .i64 _) rfl rfl ?_))))); exact ⟨_, rfl, rfl, ⟨by decide, by decide⟩, Mem.closeR hl hs⟩
end
section
open Go.RowKit
theorem zag_zig {z : Int} (h : zDo z) : zag (zig z) = z := by
  obtain ⟨h1, h2⟩ := h
  unfold zag zig
  split
  · split <;> omega
  · split <;> omega
def zF0 : List Int → List UInt8
  | [] => []
  | z :: l => zBa (zig z) ++ zF0 l
def zFe (l : List Int) : List UInt8 := zBa l.length ++ zF0 l
theorem numsF_app : ∀ (l m : List Int), zF0 (l ++ m) = zF0 l ++ zF0 m
  | [], _ => rfl
  | z :: l, m => by simp [zF0, numsF_app l m]
theorem vget_put : ∀ {f i n s : Nat} {b rest : List UInt8}, 1 ≤ f → i + f = 10 → n < 2 ^ (7 * f) → n < 2 ^ (64 - 7 * i) → (0 < i → 0 < n) → b.drop i = vputF f n ++ rest → vgetF f i s b = (0, s + n * 2 ^ (7 * i), i + (vputF f n).length)
  | 0, _, _, _, _, _, h, _, _, _, _, _ => by omega
  | f + 1, i, n, s, b, rest, _, hi, hn, hn2, hp, hb => by
    have hat : ∀ c l, b.drop i = c :: l → b[i]? = some c := fun c l h => by
      have := congrArg List.head? h
      simpa [List.head?_drop] using this
    by_cases h : n < 128
    · have e : vputF (f + 1) n = [UInt8.ofNat n] := by unfold vputF; rw [if_pos h]
      rw [e] at hb ⊢; have hc := hat _ _ hb
      have hcn : (UInt8.ofNat n).toNat = n := by rw [UInt8.toNat_ofNat']; omega
      rw [zFr hc, hcn]
      have h9 : ¬ (i = 9 ∧ 1 < n) := fun ⟨e1, e2⟩ => by subst e1; simp at hn2; omega
      rw [if_neg h9, if_neg (by omega), if_neg (by omega), Nat.mod_eq_of_lt h]
      simp
    · have e : vputF (f + 1) n = UInt8.ofNat (n % 128 + 128) :: vputF f (n / 128) := by conv => lhs; unfold vputF; rw [if_neg h]
      rw [e] at hb ⊢; have hc := hat _ _ hb
      have hcn : (UInt8.ofNat (n % 128 + 128)).toNat = n % 128 + 128 := by rw [UInt8.toNat_ofNat']; omega
      have hi9 : i < 9 := by
        refine Classical.byContradiction fun hge => ?_
        have : i = 9 := by omega
        subst this
        simp at hn2
        omega
      rw [zFr hc, hcn, if_neg (by omega), if_pos (by omega)]
      have h7 : 2 ^ (7 * (f + 1)) = 128 * 2 ^ (7 * f) := by rw [Nat.mul_add, Nat.pow_add]; omega
      have hq : n / 128 < 2 ^ (7 * f) := by rw [h7] at hn; exact Nat.div_lt_of_lt_mul hn
      have h8 : 2 ^ (64 - 7 * i) = 128 * 2 ^ (64 - 7 * (i + 1)) := by
        rw [show 64 - 7 * i = 7 + (64 - 7 * (i + 1)) by omega, Nat.pow_add]
      have hq2 : n / 128 < 2 ^ (64 - 7 * (i + 1)) := by rw [h8] at hn2; exact Nat.div_lt_of_lt_mul hn2
      have hd : b.drop (i + 1) = vputF f (n / 128) ++ rest := by
        have := congrArg (List.drop 1) hb
        simpa [List.drop_drop] using this
      have hf : 1 ≤ f := by
        refine Classical.byContradiction fun hge => ?_
        have : f = 0 := by omega
        subst this
        simp at hq
        omega
      rw [vget_put hf (by omega) hq hq2 (fun _ => by omega) hd]
      have h9 : 2 ^ (7 * (i + 1)) = 128 * 2 ^ (7 * i) := by rw [Nat.mul_add, Nat.pow_add]; omega
      have hm : (n % 128 + 128) % 128 = n % 128 := by omega
      rw [hm, h9, List.length_cons]
      have hn3 : n % 128 * 2 ^ (7 * i) + n / 128 * (128 * 2 ^ (7 * i)) = n * 2 ^ (7 * i) := by
        have := Nat.mod_add_div n 128
        calc n % 128 * 2 ^ (7 * i) + n / 128 * (128 * 2 ^ (7 * i)) = (n % 128 + 128 * (n / 128)) * 2 ^ (7 * i) := by rw [Nat.add_mul, Nat.mul_comm 128 (n / 128), Nat.mul_assoc]
          _ = n * 2 ^ (7 * i) := by rw [this]
      simp only [Prod.mk.injEq, true_and]
      constructor
      · omega
      · omega
theorem vget_app {n : Nat} (h : n < 18446744073709551616) (rest : List UInt8) : vget (zBa n ++ rest) = (0, n, (zBa n).length) := by
  have := vget_put (f := 10) (i := 0) (n := n) (s := 0) (b := zBa n ++ rest) (rest := rest) (by decide) rfl (by show n < 2 ^ 70; omega) (by show n < 2 ^ 64; omega) (fun h => by omega) rfl
  simpa [vget, zBa] using this
def rloop : Nat → List UInt8 → Nat × Nat → List Int → List Int × Nat × Nat
  | 0, _, st, out => (out, st)
  | f + 1, b, st, out => if st.2 ≠ 0 then (out, st) else rloop f b (vintS b st).2 (out ++ [(vintS b st).1])
def rnums (b : List UInt8) : Nat × List Int :=
  let r := rloop (vnum 4096 b (0, 0)).1 b (vnum 4096 b (0, 0)).2 []
  if r.2.2 ≠ 0 then (r.2.2, []) else if r.2.1 < b.length then (104, []) else (0, r.1)
theorem rloop_nums : ∀ {l : List Int} {b pre out}, (∀ z ∈ l, zDo z) → b = pre ++ zF0 l → rloop l.length b (pre.length, 0) out = (out ++ l, b.length, 0)
  | [], b, pre, out, _, hb => by subst hb; simp [rloop, zF0]
  | z :: l, b, pre, out, hl, hb => by
    have hz := hl z (List.mem_cons_self ..)
    have hd : b.drop pre.length = zBa (zig z) ++ zF0 l := by rw [hb]; simp [zF0]
    have hv : vintS b (pre.length, 0) = (z, pre.length + (zBa (zig z)).length, 0) := by
      simp only [vintS, vgetI, hd, vget_app (zig_lt hz), zag_zig hz]
      simp
    simp only [List.length_cons, rloop, hv]; rw [if_neg (by decide)]; have := rloop_nums (l := l) (b := b) (pre := pre ++ zBa (zig z)) (out := out ++ [z]) (fun y hy => hl y (List.mem_cons_of_mem _ hy)) (by rw [hb]; simp [zF0]); rw [List.length_append] at this; rw [this]
    simp
theorem rnums_nums {l : List Int} (h : ∀ z ∈ l, zDo z) (hn : l.length ≤ 4096) : rnums (zFe l) = (0, l) := by
  have hv : vnum 4096 (zFe l) (0, 0) = (l.length, (zBa l.length).length, 0) := by
    simp only [vnum, List.drop_zero, zFe, vget_app (show l.length < 18446744073709551616 by omega)]
    simp
    omega
  have hr := rloop_nums (l := l) (b := zFe l) (pre := zBa l.length) (out := []) h rfl; simp only [rnums, hv, hr]
  simp
end
section
open Go.RowKit
attribute [local irreducible] zAk eV
variable {g w : World} {L M : List HP} {ad : Nat → Addr} {rb at_ : Nat} {b rest : List UInt8}
theorem zBz (hE : ErrW ad g) (hs : Mem g w (RdrC rb ad b (at_, 0) :: L)) (hlen : b.length ≤ 1073741824) {n most : Nat} (hb : b.drop at_ = zBa n ++ rest) (hn : n < 18446744073709551616) (hm : n ≤ most) :
    Calls Tryz.prog 114 #[.pointer (some ⟨rb, 0, none⟩), .int .u64 most] w (Ret fun v w' => v = .int .u64 n ∧ Mem g w' (RdrC rb ad b (at_ + (zBa n).length, 0) :: L)) :=
  num_sl hE hs hlen (by simp only [vnum, hb, vget_app hn rest]; rw [if_neg (by decide), if_neg (by decide), if_neg (by omega)])
theorem errOK_sl (hs : Mem g w (RdrC rb ad b (at_, 0) :: L)) : Calls Tryz.prog 115 #[.pointer (some ⟨rb, 0, none⟩)] w (Ret fun v w' => v = .nilIface ∧ Mem g w' (RdrC rb ad b (at_, 0) :: L)) :=
  (err_sl hs).mono fun _ _ ⟨v, h1, eb, h2, h3⟩ => ⟨v, h1, by rw [h2, eV_0], h3⟩
theorem intOK_sl (hE : ErrW ad g) (hs : Mem g w (RdrC rb ad b (at_, 0) :: L)) (hlen : b.length ≤ 1073741824) {z f t : Int} (hb : b.drop at_ = zBa (zig z) ++ rest) (hz : zDo z) (hft : f ≤ z ∧ z ≤ t) :
    Calls Tryz.prog 131 #[.pointer (some ⟨rb, 0, none⟩), .int .i64 f, .int .i64 t] w (Ret fun v w' => v = .int .i64 z ∧ Mem g w' (RdrC rb ad b (at_ + (zBa (zig z)).length, 0) :: L)) := by
  obtain ⟨hl, a, c, eb, hc, hs⟩ := hs.openR; simp only at hl; simp only [eV_0] at hs; have hq := congrArg List.length hb; rw [List.length_drop, List.length_append] at hq
  have hv : vgetI (b.drop at_) = (0, z, (zBa (zig z)).length) := by simp [vgetI, hb, vget_app (zig_lt hz), zag_zig hz]
  refine zAh Tryz.func131 rfl rfl ?_
  refine zA4 (zA2 (J4 rfl (zA6 (zA4 (zA4 (zA2 (J1 rfl (Jx rfl (Jp (o' := 2) zDc rfl sz27 rfl rfl rfl (Qc zCq rfl hs 0 rfl rfl (Jz rfl (zA6 ?_)))))))))))); refine zAz rfl (rfl) (zAd (zA4 (zAq zBk hs ?_))); intro w tr hK; replace hs := tr _ hs; clear tr; refine Q0 0 rfl rfl hK (Q7 1 rfl rfl hK (Q6 2 rfl (o' := 0) zDc rfl sz22 rfl rfl rfl hK ?_))
  refine Qd 3 rfl zC6 rfl (fun w hs => hs.cellAt 0 rfl rfl) hK (Q0 4 rfl rfl hK (Q7 5 rfl rfl hK (Q6 6 rfl (o' := 1) zDc rfl sz3 rfl rfl rfl hK (Qd 7 rfl uz3 rfl (fun w hs => hs.cellAt 0 rfl rfl) hK (Qb 8 rfl (fun w hs => zD1 zC6 sz5 rfl rfl (lo := at_) rfl (by omega)) hK (zAc [9] ⟨⟨_, rfl, ?_⟩, trivial⟩))))))
  refine Qg en174 (vgetI_sl hE hs (k := 0) (z := z) (q := (zBa (zig z)).length) (b := (b.take b.length).drop at_) ((hs.rdOwn 1 rfl).subB hl (Nat.le_refl _)) (by simp) (by simp; omega) (by rw [List.take_length]; exact hv)) ?_; clear hs; rintro _ w ⟨rfl, hs⟩; clear hK; have hK := hs; refine zA6 ⟨hK, ?_⟩; refine Q4 10 rfl (v := .tuple _) rfl hK (Q8 11 rfl (v := .int .i64 _) rfl rfl hK (Q8 12 rfl (v := .int .i64 _) rfl rfl hK (Q8 13 rfl (v := zAk ad _) rfl rfl hK (Q5 14 rfl (v := .int .i64 _) rfl hK ?_))))
  refine Q5 15 rfl (v := .int .i64 _) rfl hK (Q1 16 rfl rfl hK (zAs (by kernel_rfl) ?_)); clear hK; refine zA4 (zA4 (zA2 (J8 rfl (Qa (zDl (ad := ad) rfl) (J2 rfl (zAl rfl rfl (rfl) (J0 rfl (zAl rfl rfl (rfl) (J0 rfl (zAl rfl rfl (rfl) (Jn rfl rfl ?_))))))))))); refine zAl rfl rfl (rfl) (J2 rfl (zAl rfl rfl (decide_eq_false (by omega)) ?_))
  refine J0 rfl (zAl rfl rfl (decide_eq_false (by omega)) (J0 rfl (zAl rfl rfl (decide_eq_false (by omega)) (Jt rfl rfl (zAl rfl rfl (rfl) (J9 rfl (decide_eq_false (by omega)) rfl (Ja rfl (rfl) rfl (zA6 (zAz rfl (decide_eq_false (by omega)) (zAd ?_)))))))))); refine zA4 (zA4 (zA2 (J8 rfl (Jv (ad := ad) rfl (zA6 (zAz rfl (rfl) (zAd (zA4 (zA2 ?_)))))))))
  refine J1 rfl (Jx rfl (Jp (o' := 1) zDc rfl sz3 rfl rfl rfl (Qc uz3 rfl hs 0 rfl rfl (J0 rfl (Jo rfl rfl (c := ((at_ + (zBa (zig z)).length : Nat) : Int)) (by omega) (inI (by omega) (by omega)) (Jx rfl (Jp (o' := 1) zDc rfl sz3 rfl rfl rfl (zB0 (v := .int .i64 _) hs 0 rfl sz3 rfl rfl rfl rfl ?_)))))))); clear hs; intro w hs
  try simp only [zzs, zzz] at hs
  exact zA6 (zA4 (zA2 (J0 rfl (J4 rfl (zA6 (zAe (zBi (v := .int .i64 _) rfl rfl ⟨_, rfl, rfl, Mem.closeR0 (by omega) hs⟩)))))))
theorem bytesOK_sl (hE : ErrW ad g) (hs : Mem g w (RdrC rb ad b (at_, 0) :: L)) (hlen : b.length ≤ 1073741824) {l : List UInt8} {most : Nat} (hb : b.drop at_ = zBa l.length ++ (l ++ rest)) (hm : l.length ≤ most) (hm2 : most ≤ 1000000000) :
    Calls Tryz.prog 167 #[.pointer (some ⟨rb, 0, none⟩), .int .i64 most] w (Ret fun v w' => ∃ s : SA, v = .slice s.1 l.length s.2 ∧ Mem g w' (own (.slice s.1 l.length s.2) (zAn l) :: RdrC rb ad b (at_ + (zBa l.length).length + l.length, 0) :: L)) := by
  obtain ⟨hl, a, c, eb, hc, hs⟩ := hs.openR; simp only at hl; simp only [eV_0] at hs; have hq := congrArg List.length hb; rw [List.length_drop, List.length_append, List.length_append] at hq; obtain ⟨vl, hvl⟩ : ∃ vl, vl = (zBa l.length).length := ⟨_, rfl⟩
  have hx1 : (b.take (at_ + vl + l.length)).drop (at_ + vl) = l := by
    have h1 : b.drop (at_ + vl) = l ++ rest := by rw [← List.drop_drop, hb, hvl, List.drop_left]
    rw [List.drop_take, h1, show at_ + vl + l.length - (at_ + vl) = l.length by omega, List.take_left]
  refine zAh Tryz.func167 rfl rfl ?_
  refine zA4 (zA2 (Jb rfl (zA6 (zA4 (zA2 (J1 rfl (Jx rfl (Jp (o' := 1) zDc rfl sz3 rfl rfl rfl (Qc uz3 rfl hs 0 rfl rfl (J4 rfl (zA6 ?_))))))))))); replace hs := Mem.closeR0 hl hs; refine zA4 (zA2 (J1 rfl (J0 rfl (Qa (run_max rfl rfl) (Jy uz3 zCg rfl (c := ((most : Nat) : Int)) (by rw [zCf]; omega) ?_))))); refine zAa rfl zE7 (zBz hE hs hlen hb (by omega) hm) ?_; clear hs
  rintro _ w ⟨rfl, hs⟩; obtain ⟨hl2, a2, c2, eb2, hc2, hs⟩ := hs.openR; simp only [eV_0] at hs; rw [← hvl] at hs hl2 ⊢; simp only at hl2; refine Ji rfl (zA6 (zA4 (zA4 (zA2 (J1 rfl (Jx rfl (Jp (o' := 2) zDc rfl sz27 rfl rfl rfl (Qc zCq rfl hs 0 rfl rfl ?_)))))))); replace hs := Mem.closeR0 hl2 hs; refine Qa (run_eqnn rfl) (J2 rfl (zAl rfl rfl (rfl) (Jh rfl (zAl rfl rfl (rfl) ?_))))
  refine J1 rfl (zAl rfl rfl (rfl) (Qg en132 (left_sl hs hlen) ?_)); clear hs; rintro _ w ⟨rfl, hl3, hs⟩; obtain ⟨hl4, a4, c4, eb4, hc4, hs⟩ := hs.openR; simp only [eV_0] at hs; refine zAl rfl rfl (rfl) (Jy uz3 zCg rfl (c := ((b.length - (at_ + vl) : Nat) : Int)) (by rw [zCf]; omega) ?_); refine zAl rfl rfl (rfl) (Jt rfl rfl (Ja rfl (rfl) rfl (zA6 (zAz rfl (decide_eq_false (by omega)) (zAd (zA4 (zA4 (zA2 (J1 rfl (Jx rfl ?_))))))))))
  refine Jp (o' := 2) zDc rfl sz27 rfl rfl rfl (Qc zCq rfl hs 0 rfl rfl (Jz rfl (zA6 (zAz rfl (rfl) (zAd (zA4 (zA2 (J1 rfl (Jx rfl (Jp (o' := 1) zDc rfl sz3 rfl rfl rfl (Qc uz3 rfl hs 0 rfl rfl ?_))))))))))); refine Jh rfl (Jy zCg uz3 rfl (c := ((l.length : Nat) : Int)) (zDo.wrap ⟨by omega, by omega⟩) (Jo rfl rfl (c := ((at_ + vl + l.length : Nat) : Int)) (by omega) (inI (by omega) (by omega)) ?_))
  refine Jx rfl (Jp (o' := 1) zDc rfl sz3 rfl rfl rfl (zB0 (v := .int .i64 _) hs 0 rfl sz3 rfl rfl rfl rfl ?_)); clear hs; intro w hs
  try simp only [zzs, zzz] at hs
  refine zA6 (zA4 (zAq zBk hs ?_)); intro w tr hK; replace hs := tr _ hs; clear tr; refine Q0 0 rfl rfl hK (Q7 1 rfl rfl hK (Q6 2 rfl (o' := 0) zDc rfl sz22 rfl rfl rfl hK (Qd 3 rfl zC6 rfl (fun w hs => hs.cellAt 0 rfl rfl) hK (Q0 4 rfl rfl hK (Q7 5 rfl rfl hK (Q6 6 rfl (o' := 1) zDc rfl sz3 rfl rfl rfl hK (Qd 7 rfl uz3 rfl (fun w hs => hs.cellAt 0 rfl rfl) hK ?_)))))))
  refine Q4 8 rfl (v := .int .u64 _) rfl hK (Q9 9 rfl zCg uz3 rfl (c := ((l.length : Nat) : Int)) (zDo.wrap ⟨by omega, by omega⟩) hK (Qb 10 rfl (fun w hs => zCx rfl rfl (c := ((at_ + vl : Nat) : Int)) (by omega) (inI (by omega) (by omega))) hK (Q0 11 rfl rfl hK (Q7 12 rfl rfl hK (Q6 13 rfl (o' := 1) zDc rfl sz3 rfl rfl rfl hK (Qd 14 rfl uz3 rfl (fun w hs => hs.cellAt 0 rfl rfl) hK ?_))))))
  refine Qb 15 rfl (fun w hs => run_slice zC6 sz5 rfl rfl rfl (lo := at_ + vl) (hi := at_ + vl + l.length) rfl rfl (by omega) (by omega)) hK (zAc [16] ⟨⟨_, rfl, ?_⟩, trivial⟩); refine Qg en49 (zCt hs (l := (b.take (at_ + vl + l.length)).drop (at_ + vl)) ((hs.rdOwn 1 rfl).subB (by omega) (by omega)) (by rw [hx1]; omega)) ?_; clear hs; rintro _ w ⟨a62, c62, rfl, hs⟩; rw [hx1, zAw] at hs ⊢; clear hK; have hK := hs.tail; refine zA6 ⟨hK, ?_⟩; refine Q5 17 rfl (v := .slice _ _ _) rfl hK (zAs (by kernel_rfl) ?_); clear hK; refine zAe (zBi (v := .slice _ _ _) rfl rfl ?_)
  exact ⟨_, rfl, (a62, c62), rfl, (Mem.closeR0 (L := own _ _ :: L) (by omega) (hs.arr [1, 2, 3, 0] 4 (by decide))).arr [1, 0] 2 (by decide)⟩
end
section
open Go.RowKit
attribute [local irreducible] zAk eV
variable {g w : World} {L M : List HP} {ad : Nat → Addr} {rb at_ : Nat} {b rest : List UInt8}
def leR : Nat → Nat → List UInt8
  | 0, _ => []
  | k + 1, n => UInt8.ofNat n :: leR k (n / 256)
def valL : List UInt8 → Nat
  | [] => 0
  | c :: l => c.toNat + 256 * valL l
theorem zDd : ∀ k n, (leR k n).length = k
  | 0, _ => rfl
  | k + 1, n => by simp [leR, zDd k]
theorem valL_le : ∀ (k : Nat) {n : Nat}, n < 256 ^ k → valL (leR k n) = n
  | 0, n, h => by simp at h; simp [leR, valL, h]
  | k + 1, n, h => by
    have h1 : n / 256 < 256 ^ k := by rw [Nat.pow_succ] at h; exact Nat.div_lt_of_lt_mul (by rw [Nat.mul_comm]; exact h)
    have h2 := UInt8.toNat_ofNat' (n := n); simp only [leR, valL, valL_le k h1, h2]
    omega
theorem valL_snoc (c : UInt8) : ∀ l : List UInt8, valL (l ++ [c]) = valL l + c.toNat * 2 ^ (8 * l.length)
  | [] => by simp [valL]
  | a :: l => by
    have h1 : 2 ^ (8 * (l.length + 1)) = 256 * 2 ^ (8 * l.length) := by rw [Nat.mul_add, Nat.pow_add]; omega
    simp only [List.cons_append, valL, valL_snoc c l, List.length_cons]; rw [h1, Nat.mul_left_comm c.toNat 256]; generalize c.toNat * 2 ^ (8 * l.length) = z
    omega
theorem valL_lt : ∀ l : List UInt8, valL l < 2 ^ (8 * l.length)
  | [] => by simp [valL]
  | a :: l => by
    have h1 : 2 ^ (8 * (l.length + 1)) = 256 * 2 ^ (8 * l.length) := by rw [Nat.mul_add, Nat.pow_add]; omega
    have h2 := valL_lt l; have h3 := a.toNat_lt; simp only [valL, List.length_cons, h1]
    omega
theorem leR_snoc : ∀ (k n : Nat), leR (k + 1) n = leR k n ++ [UInt8.ofNat (n / 2 ^ (8 * k))]
  | 0, n => by simp [leR]
  | k + 1, n => by
    have h1 := leR_snoc k (n / 256)
    have h2 : n / 256 / 2 ^ (8 * k) = n / 2 ^ (8 * (k + 1)) := by rw [Nat.div_div_eq_div_mul, Nat.mul_add, Nat.pow_add, Nat.mul_comm]
    rw [h2] at h1
    show UInt8.ofNat n :: leR (k + 1) (n / 256) = _
    rw [h1]
    rfl
theorem little_sl (hs : Mem g w L) {n k : Nat} (hk : k ≤ 8) (hn : n < 18446744073709551616) : Calls Tryz.prog 136 #[.slice none 0 0, .int .u64 n, .int .i64 k] w (Ret fun v w' => ∃ s : SA, v = .slice s.1 (leR k n).length s.2 ∧ Mem g w' (own (.slice s.1 (leR k n).length s.2) (zAn (leR k n)) :: L)) := by
  refine zAh Tryz.func136 rfl rfl ?_
  refine zA4 (zA2 (Jb rfl (zA6 (zA4 (zA4 ?_))))); replace hs := hs.addE (zDn _); refine zA2 (J0 rfl (J0 rfl (zA6 (zAp (zBs (X := Nat × SA) [0, 7, 9, 10, 11, 12, 13, 14, 15, 16, 17, 18, 19, 20] (fun q => [(0, .slice q.2.1 (leR q.1 n).length q.2.2), (9, .int .i64 (q.1 : Nat))]) (fun q w => q.1 ≤ k ∧ Mem g w (own (.slice q.2.1 (leR q.1 n).length q.2.2) (zAn (leR q.1 n)) :: L)) (fun q => k - q.1) ((0, (none, 0))) ?_ ?_ ?_)))))
  · exact ⟨rfl, rfl, trivial⟩
  · exact ⟨Nat.zero_le _, hs⟩
  clear hs; rintro x ξ w hI; obtain ⟨i, s⟩ := x; obtain ⟨hi, hs⟩ := hI; simp only at hi hs
  show cw _ _ _ _ _ _ (updL (mix _ ξ _) [(0, .slice s.1 (leR i n).length s.2), (9, .int .i64 (i : Nat))]) w
  refine zA4 (zA2 (Jn rfl rfl (zA6 (zA4 (zB2 rfl ?_ ?_)))))
  ·
   intro h10; have g10 := of_decide_eq_true h10; have e1 := leR_snoc i n; have hll := zDd i n; refine zAd (zA4 (zAp (zA4 (zA2 (J0 rfl (J4 rfl (zA6 (zA2 (J7 rfl (Jh rfl (J0 rfl ?_))))))))))); refine Qa (run_mul64 rfl rfl (c := ((8 * i : Nat) : Int)) (by omega) (inI (by omega) (by omega))) (Qa (run_shr rfl rfl (n := 8 * i) (c := ((n / 2 ^ (8 * i) : Nat) : Int)) rfl (by show 8 * i ≤ 64; omega) (by push_cast; rfl)) ?_)
   refine Jy zCg uz5 rfl (c := (((UInt8.ofNat (n / 2 ^ (8 * i))).toNat : Nat) : Int)) (wrapB _) (zB4 hs rfl ((zAn [UInt8.ofNat (n / 2 ^ (8 * i))])) zC6 zs5 rfl (zEk (zCd _)) rfl rfl rfl ?_); clear hs; intro b18 w hs
   try simp only [zzs, zzz] at hs
   refine zD3 hs rfl 1 rfl zC6 in5 rfl rfl rfl (zCr (P := Tryz.prog) zC6 ((Rd.cells (n := 1) (cs := zAn [UInt8.ofNat (n / 2 ^ (8 * i))]) 0 rfl rfl).seq hs) (zCd _)) (by simp only [zAw, List.length_cons, List.length_nil]; omega) (by simp only [zAw, List.length_cons, List.length_nil]; omega) ?_; clear hs; intro a19 c19 w hs; simp only [zzs, zzz] at hs; refine Jb rfl (zA6 (zA2 (Jo rfl rfl rfl (inI (by omega) (by omega)) (J0 rfl (zA6 ?_)))))
   have e2 : (zAn (leR i n)).length + (zAn [UInt8.ofNat (n / 2 ^ (8 * i))]).length = (leR (i + 1) n).length := by rw [e1]; simp [zAw]
   have e3 : zAn (leR i n) ++ zAn [UInt8.ofNat (n / 2 ^ (8 * i))] = zAn (leR (i + 1) n) := by rw [e1, zDw]
   rw [e2, e3] at hs; exact ⟨(i + 1, (a19, c19)), by simp only; omega, ⟨by simp only; omega, hs.tail⟩, ⟨by rw [← e2]; rfl, rfl, trivial⟩, by repeat (first | exact Out.mix _ _ _ | refine Out.updo rfl ?_ | refine Out.upd rfl ?_ | refine Out.mixIn rfl ?_)⟩
  ·
   intro h10; have g10 := of_decide_eq_false h10; refine zBm rfl (zA4 (zA2 (J7 rfl (Jb rfl (zA6 (zAe (zBi (v := .slice _ _ _) rfl rfl ?_)))))))
   obtain rfl : i = k := by omega
   exact ⟨_, rfl, s, rfl, hs⟩
theorem shlN (u k : Nat) (hu : u < 256) (hk : k ≤ 7) : IntKind.u64.wrap ((u : Int) * 2 ^ (8 * k)) = ((u * 2 ^ (8 * k) : Nat) : Int) := by
  have h1 : 2 ^ (8 * k) ≤ 2 ^ 56 := Nat.pow_le_pow_right (by decide) (by omega); have h2 : u * 2 ^ (8 * k) ≤ 255 * 2 ^ 56 := Nat.mul_le_mul (by omega) h1; rw [zCf]
  have h3 : ((u : Int) * 2 ^ (8 * k)) = ((u * 2 ^ (8 * k) : Nat) : Int) := by push_cast; rfl
  rw [h3]
  omega
theorem fixN_sl (hE : ErrW ad g) (hs : Mem g w (RdrC rb ad b (at_, 0) :: L)) (hlen : b.length ≤ 1073741824) {l : List UInt8} (hb : b.drop at_ = l ++ rest) {n : Nat} (hn : n = l.length) (h8 : n ≤ 8) :
    Calls Tryz.prog 166 #[.pointer (some ⟨rb, 0, none⟩), .int .i64 n] w (Ret fun v w' => v = .int .u64 (valL l : Nat) ∧ Mem g w' (RdrC rb ad b (at_ + n, 0) :: L)) := by
  subst hn; obtain ⟨hl, a, c, eb, hc, hs⟩ := hs.openR; simp only at hl; simp only [eV_0] at hs; have hq := congrArg List.length hb; rw [List.length_drop, List.length_append] at hq; refine zAh Tryz.func166 rfl rfl ?_
  refine zA4 (zA2 (Ji rfl (zA6 (zA4 (zA4 (zA2 (J1 rfl (Jx rfl (Jp (o' := 2) zDc rfl sz27 rfl rfl rfl (Qc zCq rfl hs 0 rfl rfl (Jz rfl (J2 rfl ?_)))))))))))); refine zAl rfl rfl (rfl) (J0 rfl (zAl rfl rfl (rfl) (Jn rfl rfl (J9 rfl (rfl) rfl (J2 rfl (zAl rfl rfl (decide_eq_false (by omega)) ?_))))))
  refine J0 rfl (zAl rfl rfl (decide_eq_false (by omega)) (Jt rfl rfl (J9 rfl (decide_eq_false (by omega)) rfl (zA6 (zAz rfl (decide_eq_false (by omega)) (zAd (zA4 (zA4 ?_)))))))); replace hs := Mem.closeR0 hl hs; refine zA2 (J0 rfl (J1 rfl (Qg en132 (left_sl hs hlen) ?_))); clear hs; rintro _ w ⟨rfl, hl2, hs⟩; obtain ⟨hl3, a3, c3, eb3, hc3, hs⟩ := hs.openR; simp only [eV_0] at hs; refine Jt rfl rfl (zA6 ?_)
  refine zAz rfl (decide_eq_false (by omega)) (zAd (zA4 (zA2 (Ji rfl (zA6 (zA4 (zA4 (zAq zBk hs ?_)))))))); intro w tr hK; replace hs := tr _ hs; clear tr; refine Q0 0 rfl rfl hK (Q7 1 rfl rfl hK (Q6 2 rfl (o' := 0) zDc rfl sz22 rfl rfl rfl hK (Qd 3 rfl zC6 rfl (fun w hs => hs.cellAt 0 rfl rfl) hK (Q0 4 rfl rfl hK (Q7 5 rfl rfl hK ?_)))))
  refine Q6 6 rfl (o' := 1) zDc rfl sz3 rfl rfl rfl hK (Qd 7 rfl uz3 rfl (fun w hs => hs.cellAt 0 rfl rfl) hK (Q0 8 rfl rfl hK (Q7 9 rfl rfl hK (Q6 10 rfl (o' := 1) zDc rfl sz3 rfl rfl rfl hK (Qd 11 rfl uz3 rfl (fun w hs => hs.cellAt 0 rfl rfl) hK (Q2 12 rfl rfl hK (Qb 13 rfl (fun w hs => zAo rfl rfl (c := ((at_ + l.length : Nat) : Int)) (by omega) (inI (by omega) (by omega))) hK ?_)))))))
  refine Qb 14 rfl (fun w hs => run_slice zC6 sz5 rfl rfl rfl (lo := at_) (hi := at_ + l.length) rfl rfl (by omega) (by omega)) hK (Qb 15 rfl (fun w hs => zAu zC6 rfl) hK (Q2 16 rfl rfl hK (zAs (by kernel_rfl) ?_))); clear hK; obtain ⟨sa, sc, hsub⟩ : ∃ sa sc, subS a3 c3 at_ (at_ + l.length) = .slice sa l.length sc := ⟨_, _, by unfold subS; rw [show at_ + l.length - at_ = l.length by omega]⟩
  have hrs := fun (L : List HP) => (Rd.own (g := g) (L := cells rb [.slice a3 b.length c3, .int .i64 (at_ : Nat), .nilIface] 242 :: own (.slice a3 b.length c3) (zAn b) :: L) 1 rfl).subB (show at_ ≤ at_ + l.length by omega) (show at_ + l.length ≤ b.length by omega)
  have hx1 : (b.take (at_ + l.length)).drop at_ = l := by rw [List.drop_take, hb, show at_ + l.length - at_ = l.length by omega, List.take_left]
  rw [hx1, hsub] at hrs; rw [hsub]; refine zAp (zBs (X := Nat) [5, 6, 7, 48, 49, 50, 51, 52, 53, 54, 55, 56, 57, 58, 59, 60] (fun k => [(5, .int .u64 ((valL (l.take k) : Nat) : Int)), (48, .int .i64 (k : Nat))]) (fun k w => k ≤ l.length ∧ Mem g w (cells rb [.slice a3 b.length c3, .int .i64 (at_ : Nat), .nilIface] 242 :: own (.slice a3 b.length c3) (zAn b) :: errC ad eb3 at_ 0 :: L)) (fun k => l.length - k) (0) ?_ ?_ ?_)
  · exact ⟨rfl, rfl, trivial⟩
  · exact ⟨Nat.zero_le _, hs⟩
  clear hs; rintro x ξ w hI; obtain ⟨hk, hs⟩ := hI; refine zA4 (zA2 (Jn rfl rfl (zA6 (zA4 (zB2 rfl ?_ ?_)))))
  ·
   intro h49; have g49 := of_decide_eq_true h49; obtain ⟨u, hu⟩ : ∃ u, l[x]? = some u := ⟨_, List.getElem?_eq_getElem (by omega)⟩; have hut := u.toNat_lt
   have hx8 : x ≤ 7 := by omega
   have htl : (l.take x).length = x := by rw [List.length_take]; omega
   have hvs : valL (l.take (x + 1)) = valL (l.take x) + u.toNat * 2 ^ (8 * x) := by rw [List.take_add_one, hu]; have h9 := valL_snoc u (l.take x); rw [htl] at h9; exact h9
   have hvl : valL (l.take x) < 2 ^ (8 * x) := by have h9 := valL_lt (l.take x); rw [htl] at h9; exact h9
   have hv64 : valL (l.take x) < 18446744073709551616 := Nat.lt_of_lt_of_le hvl (Nat.le_trans (Nat.pow_le_pow_right (by decide) (show 8 * x ≤ 64 by omega)) (by decide)); have hs64 : u.toNat * 2 ^ (8 * x) < 18446744073709551616 := Nat.lt_of_le_of_lt (Nat.mul_le_mul (show u.toNat ≤ 255 by omega) (Nat.pow_le_pow_right (by decide) (show 8 * x ≤ 56 by omega))) (by decide); obtain ⟨b1, o1, rfl, _⟩ := (hrs _).cells' hs (by rw [zAw]; omega); refine zAd (zA4 (zAp (zA4 (zA2 (J0 rfl (Qa (zB5 zC6 sz5 rfl rfl rfl (by omega) rfl) (Jq uz5 rfl rfl ((hrs _).cellAt hs (zGk hu)) ?_)))))))
   refine J4 rfl (Jl (v := .int .u8 _) rfl (zA6 (zA2 (Jh rfl (Jm (v := .int .u8 _) rfl (Jy uz5 zCg rfl (c := ((u.toNat : Nat) : Int)) (by rw [zCf]; omega) ?_)))))); refine J0 rfl (Qa (run_mul64 rfl rfl (c := ((8 * x : Nat) : Int)) (by omega) (inI (by omega) (by omega))) (Qa (run_shl rfl rfl (n := 8 * x) (c := ((u.toNat * 2 ^ (8 * x) : Nat) : Int)) rfl (by show 8 * x ≤ 64; omega) (shlN _ _ (by omega) hx8)) ?_))
   refine Qa (zFk (v := .int .u64 ((valL (l.take (x + 1)) : Nat) : Int)) (by simp) rfl rfl (by have h9 := or_u64 (valL (l.take x)) (u.toNat * 2 ^ (8 * x)) hv64 hs64; rw [or_add hvl, ← hvs] at h9; exact (show _ = Result.ok (Value.int IntKind.u64 (bits .or .u64 ((valL (l.take x) : Nat) : Int) ((u.toNat * 2 ^ (8 * x) : Nat) : Int))) _ from rfl).trans (by rw [h9]))) ?_; refine Ji rfl (zA6 (zA2 (Jo rfl rfl rfl (inI (by omega) (by omega)) (J0 rfl (zA6 ?_)))))
   exact ⟨x + 1, by omega, ⟨by omega, hs⟩, ⟨rfl, rfl, trivial⟩, by repeat (first | exact Out.mix _ _ _ | refine Out.updo rfl ?_ | refine Out.upd rfl ?_ | refine Out.mixIn rfl ?_)⟩
  ·
   intro h49; have g49 := of_decide_eq_false h49
   obtain rfl : x = l.length := by omega
   rw [List.take_length]; refine zBm rfl (zA4 (zA2 (J1 rfl (Jx rfl (Jp (o' := 1) zDc rfl sz3 rfl rfl rfl (Qc uz3 rfl hs 0 rfl rfl (J0 rfl (Jo rfl rfl (c := ((at_ + l.length : Nat) : Int)) (by omega) (inI (by omega) (by omega)) (Jx rfl (Jp (o' := 1) zDc rfl sz3 rfl rfl rfl (zB0 (v := .int .i64 _) hs 0 rfl sz3 rfl rfl rfl rfl ?_))))))))))); clear hs; intro w hs
   try simp only [zzs, zzz] at hs
   refine zA6 (zA4 (zA2 (Jh rfl (Ji rfl (zA6 (zAe (zBi (v := .int .u64 _) rfl rfl ?_))))))); exact ⟨_, rfl, by simp only [List.take_length], Mem.closeR0 (by omega) hs⟩
abbrev En := Int × Mf
def enIn (q : Nat) (e : En) : List UInt8 := leR 8 q ++ (UInt8.ofNat e.1.toNat :: mfB e.2)
def frame (q : Nat) (e : En) : List UInt8 := leR 4 (zC0 (enIn q e)).length ++ zC0 (enIn q e)
def EnOk (e : En) : Prop := mfF e.2 = (0, none) ∧ 1 ≤ e.1 ∧ e.1 ≤ 4 ∧ ∀ o ∈ e.2.obs, o.2.2 < 4294967296
theorem enIn_len (q : Nat) (e : En) : (enIn q e).length = (mfB e.2).length + 9 := by simp [enIn, zDd]; omega
theorem zF7 (q : Nat) (e : En) : (frame q e).length = (mfB e.2).length + 17 := by simp [frame, zDd, zCk, enIn_len]; omega
theorem frame_le {q : Nat} {e : En} (h : EnOk e) : (frame q e).length ≤ 6021 := by
  have := zGq (mf_fine (x := e.2) (by rw [h.1])); have h2 : (mfB e.2).length = (mfBody e.2).length + 4 := zCk _
  rw [zF7]; omega
theorem known_sl (hs : Mem g w L) (k : Int) : Calls Tryz.prog 134 #[.int .i64 k] w (Ret fun v w' => v = .bool (decide (1 ≤ k) && decide (k ≤ 4)) ∧ Mem g w' L) := by
  refine zAh Tryz.func134 rfl rfl ?_
  refine zA4 (zA2 (J5 rfl (zA6 (zA4 (zA2 (J0 rfl (Qa (zD5 rfl rfl) (J2 rfl (zB3 (t := _) (d := 5) rfl ?_ ?_)))))))))
  ·
   intro h4; have g4 := of_decide_eq_true h4; refine zAl rfl rfl h4 (J0 rfl (zAl rfl rfl h4 (Qa (zE8 rfl rfl) (Ja rfl h4 rfl (J5 rfl (zA6 (zAe (zBi (v := .bool _) rfl rfl ?_)))))))); exact ⟨_, rfl, zDr (by first | (rw [decide_eq_true (by omega : (1 : Int) ≤ k)]; rfl) | (rw [decide_eq_false (by omega : ¬ (1 : Int) ≤ k)]; rfl)), hs⟩
  ·
   intro h4; have g4 := of_decide_eq_false h4; refine Qe rfl rfl h4 (Qe rfl rfl h4 (J9 rfl h4 rfl (J5 rfl (zA6 (zAe (zBi (v := .bool _) rfl rfl ?_)))))); exact ⟨_, rfl, zDr (by first | (rw [decide_eq_true (by omega : (1 : Int) ≤ k)]; rfl) | (rw [decide_eq_false (by omega : ¬ (1 : Int) ≤ k)]; rfl)), hs⟩
set_option maxHeartbeats 1000000 in
theorem enBytes_sl (hE : ErrV ad g) (hs : Mem g w L) {q : Nat} (hq : q < 9223372036854775808) {k : Int} {x : Mf} {e o : SA} (hm : MfR g L x e o) (hk : EnOk (k, x)) : Calls Tryz.prog 94 #[.int .i64 q, .agg (.int .i64 k :: mfL x e o).toArray] w (Ret fun v w' => ∃ s : SA, v = .tuple #[.slice s.1 (frame q (k, x)).length s.2, .nilIface] ∧ Mem g w' (own (.slice s.1 (frame q (k, x)).length s.2) (zAn (frame q (k, x))) :: L)) := by
  obtain ⟨h0, hk1, hk2, hsu⟩ := hk; simp only at h0 hk1 hk2 hsu; have hml : (mfB x).length = (mfBody x).length + 4 := zCk _; have hmb := zGq (mf_fine (x := x) (by rw [h0])); have h8 := zDd 8 q
  have hst : (UInt8.ofNat k.toNat).toNat = k.toNat := by rw [UInt8.toNat_ofNat']; omega
  refine zAh Tryz.func94 rfl rfl ?_
  refine zA4 (zA2 (zBp (v := .agg _) hs rfl rfl ?_)); clear hs; intro b3 w hs
  try simp only [zzs, zzz] at hs
  refine Jb rfl (J3 rfl (zA6 (zA4 (zA4 (zA2 (J0 rfl (Jn rfl rfl (zA6 (zAz rfl (decide_eq_false (by omega)) (zAd (zA4 ?_))))))))))); refine zA4 (zA2 (Jp (o' := 0) zE1 rfl sz3 rfl rfl rfl (Qc uz3 rfl hs 0 rfl rfl (Qg en134 (known_sl hs k) ?_)))); clear hs; rintro _ w ⟨rfl, hs⟩; refine Jr rfl (zA6 (zAz rfl (zBt ((by rw [decide_eq_true hk1, decide_eq_true hk2]; rfl))) ?_)); refine zAd (zA4 (zA2 ?_))
  refine Jp (o' := 1) zE1 rfl zEt rfl rfl rfl (Qa (zCj hs 0 (mfL x e o) rfl zCp zEt rfl rfl) (Qg en135 (maniB_sl hE hs hm.cons h0 hsu) ?_)); clear hs; rintro _ w ⟨a20, c20, rfl, hs⟩; refine Jc rfl (Ju (v := .slice _ _ _) rfl rfl (Jk rfl rfl (Jb rfl (J3 rfl (zA6 (zA4 (zA4 (zA2 (Jj rfl (Jz rfl (zA6 ?_))))))))))); refine zAz rfl (rfl) (zAd (zA4 (zAq zBk hs ?_))); intro w tr hK
  replace hs := tr _ hs; clear tr; refine Q2 0 rfl rfl hK (Q9 1 rfl uz2 zCg rfl (c := ((q : Nat) : Int)) (by rw [zCf]; omega) hK ?_); refine Q6 3 rfl (o' := 0) zE1 rfl sz3 rfl rfl rfl hK (Qd 4 rfl uz3 rfl (fun w hs => hs.cellAt 1 rfl rfl) hK (Q9 5 rfl uz3 uz5 rfl (c := (((UInt8.ofNat k.toNat).toNat : Nat) : Int)) (by rw [← wrapB]; congr 1; omega) hK ?_)); refine zAc [2, 6] ⟨⟨_, rfl, ?_⟩, ⟨_, rfl, ?_⟩, trivial⟩; refine Qg en136 (little_sl hs (n := q) (k := 8) (by decide) (by omega)) ?_; clear hs; rintro _ w ⟨s28, rfl, hs⟩
  clear hK; have hK := hs.tail; refine zA6 ⟨hK, ?_⟩; refine zAc [6] ⟨⟨_, rfl, ?_⟩, trivial⟩; refine zB4 hs rfl ((zAn [UInt8.ofNat k.toNat])) zC6 zs5 rfl (zEk (zCd _)) rfl rfl rfl ?_; clear hs; intro b32 w hs
  try simp only [zzs, zzz] at hs
  clear hK; have hK := hs.tail.tail; refine zA6 ⟨hK, ?_⟩; refine zAc [7] ⟨⟨_, rfl, ?_⟩, trivial⟩; refine zD3 hs rfl 1 rfl zC6 in5 rfl rfl rfl (zCr (P := Tryz.prog) zC6 ((Rd.cells (n := 1) (cs := zAn [UInt8.ofNat k.toNat]) 0 rfl rfl).seq hs) (zCd _)) (by simp only [zAw, List.length_cons, List.length_nil]; omega) (by simp only [zAw, List.length_cons, List.length_nil]; omega) ?_; clear hs; intro a33 c33 w hs; simp only [zzs, zzz] at hs; have e1 : zAn (leR 8 q) ++ zAn [UInt8.ofNat k.toNat] = zAn (leR 8 q ++ [UInt8.ofNat k.toNat]) := (zDw _ _).symm
  have e2 : (zAn (leR 8 q)).length + (zAn [UInt8.ofNat k.toNat]).length = (leR 8 q ++ [UInt8.ofNat k.toNat]).length := by simp [zAw]
  rw [e2] at hs ⊢; rw [e1] at hs; clear hK; have hK := hs.tail.tail; refine zA6 ⟨hK, ?_⟩; refine Q5 8 rfl (v := .slice _ _ _) rfl hK (zAs (by kernel_rfl) ?_); clear hK; refine zA4 ?_; have h9 : Mem g w (own (.slice a33 (leR 8 q ++ [UInt8.ofNat k.toNat]).length c33) (zAn (leR 8 q ++ [UInt8.ofNat k.toNat])) :: cells b32 (zAn [UInt8.ofNat k.toNat]) 5 :: own (.slice a20 (mfB x).length c20) (zAn (mfB x)) :: cells b3 (Value.agg (.int .i64 k :: mfL x e o).toArray).cells.toList 121 :: L) := hs.arr [1, 0] 2 (by decide); replace hs := h9; clear h9
  rotate_left
  refine zB4 hs rfl ((zAn [UInt8.ofNat k.toNat])) zC6 zs5 rfl (zEk (zCd _)) rfl rfl rfl ?_; clear hs; intro b32 w hs
  try simp only [zzs, zzz] at hs
  clear hK; have hK := hs.tail; refine zA6 ⟨hK, ?_⟩; refine zAc [2] ⟨⟨_, rfl, ?_⟩, trivial⟩; refine Qg en136 (little_sl hs (n := q) (k := 8) (by decide) (by omega)) ?_; clear hs; rintro _ w ⟨s28, rfl, hs⟩; clear hK; have hK := hs.tail.tail; refine zA6 ⟨hK, ?_⟩; refine zAc [7] ⟨⟨_, rfl, ?_⟩, trivial⟩; refine zD3 hs rfl 0 rfl zC6 in5 rfl rfl rfl (zCr (P := Tryz.prog) zC6 ((Rd.cells (n := 1) (cs := zAn [UInt8.ofNat k.toNat]) 1 rfl rfl).seq hs) (zCd _)) (by simp only [zAw, List.length_cons, List.length_nil]; omega) (by simp only [zAw, List.length_cons, List.length_nil]; omega) ?_; clear hs; intro a33 c33 w hs; simp only [zzs, zzz] at hs
  have e1 : zAn (leR 8 q) ++ zAn [UInt8.ofNat k.toNat] = zAn (leR 8 q ++ [UInt8.ofNat k.toNat]) := (zDw _ _).symm
  have e2 : (zAn (leR 8 q)).length + (zAn [UInt8.ofNat k.toNat]).length = (leR 8 q ++ [UInt8.ofNat k.toNat]).length := by simp [zAw]
  rw [e2] at hs ⊢; rw [e1] at hs; clear hK; have hK := hs.tail.tail; refine zA6 ⟨hK, ?_⟩; refine Q5 8 rfl (v := .slice _ _ _) rfl hK (zAs (by kernel_rfl) ?_); clear hK; refine zA4 ?_
  rotate_left
  all_goals
   refine zA2 (J7 rfl (J7 rfl (zD3 hs rfl 0 rfl zC6 in5 rfl rfl rfl (zCr (P := Tryz.prog) zC6 ((Rd.own (l := zAn (mfB x)) 2 rfl).seq hs) (zCd _)) (by simp only [zAw, List.length_append, List.length_cons, List.length_nil]; omega) (by simp only [zAw, List.length_append, List.length_cons, List.length_nil]; omega) ?_))); clear hs; intro a36 c36 w hs; simp only [zzs, zzz] at hs
   have e1 : zAn (leR 8 q ++ [UInt8.ofNat k.toNat]) ++ zAn (mfB x) = zAn (enIn q (k, x)) := by rw [← zDw]; simp [enIn]
   have e2 : (zAn (leR 8 q ++ [UInt8.ofNat k.toNat])).length + (zAn (mfB x)).length = (enIn q (k, x)).length := by simp [zAw, enIn]; omega
   rw [e2] at hs ⊢; rw [e1] at hs; refine Qg en137 (seal_sl hs (l := enIn q (k, x)) (hs.rdOwn 0 rfl) rfl (by rw [enIn_len]; simp only; omega)) ?_; clear hs; rintro _ w ⟨a37, c37, rfl, hs⟩
   have hsl : (zC0 (enIn q (k, x))).length = (mfB x).length + 13 := by rw [zCk, enIn_len]
   refine Jb rfl (zA6 (zA4 (zA2 (J7 rfl (Js zC6 rfl (Jy uz3 zCg rfl (c := (((zC0 (enIn q (k, x))).length : Nat) : Int)) (by rw [zCf]; omega) ?_)))))); refine Qg en136 (little_sl hs (n := (zC0 (enIn q (k, x))).length) (k := 4) (by decide) (by omega)) ?_; clear hs; rintro _ w ⟨s41, rfl, hs⟩; refine J7 rfl (zD3 hs rfl 0 rfl zC6 in5 rfl rfl rfl (zCr (P := Tryz.prog) zC6 ((Rd.own (l := zAn (zC0 (enIn q (k, x)))) 1 rfl).seq hs) (zCd _)) (by simp only [zAw, zDd]; omega) (by simp only [zAw, zDd]; omega) ?_); clear hs; intro a43 c43 w hs
   simp only [zzs, zzz] at hs
   have e1 : zAn (leR 4 (zC0 (enIn q (k, x))).length) ++ zAn (zC0 (enIn q (k, x))) = zAn (frame q (k, x)) := by rw [← zDw]; rfl
   have e2 : (zAn (leR 4 (zC0 (enIn q (k, x))).length)).length + (zAn (zC0 (enIn q (k, x)))).length = (frame q (k, x)).length := by simp [zAw, frame]
   rw [e2] at hs ⊢; rw [e1] at hs; exact Jb rfl (J3 rfl (zA6 (zAe (zEd (v := .slice _ _ _) (v2 := .nilIface) rfl rfl rfl ⟨_, rfl, (a43, c43), rfl, hs.arr [0] 6 (by decide)⟩))))
end
end Go.Proofs.YthejaanobeonnaaGreatDoor
namespace Go.Proofs
open Go.Shelf
def Tryz.keys64_ren : Go.Shelf.Ren := ⟨fun | 7 => 64 | 10 => 106 | n => n, fun | 23 => 90 | 26 => 3 | 3 => 141 | 28 => 139 | 0 => 0 | 27 => 138 | 33 => 182 | 4 => 4 | n => n, fun | n => n⟩
def Tryz.keys182_ren : Go.Shelf.Ren := ⟨fun | 7 => 182 | 10 => 205 | n => n, fun | 23 => 129 | 26 => 3 | 3 => 128 | 28 => 139 | 0 => 0 | 27 => 138 | 33 => 182 | 4 => 4 | n => n, fun | n => n⟩
def Tryz.sorted63_ren : Go.Shelf.Ren := ⟨fun | 6 => 63 | 8 => 104 | 9 => 105 | 11 => 152 | 13 => 111 | 12 => 153 | 23 => 162 | 24 => 163 | 14 => 191 | 15 => 192 | 16 => 193 | 17 => 194 | 18 => 195 | 19 => 196 | 20 => 197 | 21 => 198 | 22 => 199 | 25 => 212 | 26 => 201 | 27 => 202 | 28 => 213 | 29 => 214 | 30 => 215 | 31 => 218 | n => n, fun | 26 => 3 | 28 => 139 | 24 => 74 | 0 => 0 | 3 => 3 | 37 => 192 | 48 => 64 | 50 => 196 | 4 => 4 | 40 => 233 | 39 => 232 | 45 => 237 | 5 => 5 | 9 => 9 | 51 => 271 | 55 => 275 | 57 => 283 | 58 => 72 | 33 => 182 | n => n, fun | n => n⟩
def Tryz.sort105_ren : Go.Shelf.Ren := ⟨fun | 5 => 105 | 8 => 111 | 7 => 153 | 19 => 162 | 20 => 163 | 10 => 191 | 11 => 192 | 12 => 193 | 13 => 194 | 14 => 195 | 15 => 196 | 16 => 197 | 17 => 198 | 18 => 199 | 30 => 212 | 31 => 201 | 32 => 202 | 33 => 213 | 34 => 214 | 35 => 215 | 40 => 218 | n => n, fun | 23 => 74 | 25 => 3 | 3 => 3 | 32 => 192 | 22 => 74 | 0 => 0 | 44 => 64 | 46 => 196 | 4 => 4 | 36 => 233 | 35 => 232 | 41 => 237 | 5 => 5 | 9 => 9 | 53 => 271 | 57 => 275 | 63 => 283 | 64 => 72 | n => n, fun | n => n⟩
end Go.Proofs
namespace Go.Proofs.YthejaanobeonnaaGreatDoor
section
open Go.RowKit Go.MapKept Go.Maps Go.Sort Go.Shelf Go.WideElems
variable {g w : World} {L M : List HP} {ad : Nat → Addr} {p q : Nat}
def anyR (_ : Value) : Option (DataW Unit × List MemPlace) := some (.nil, [])
def sortI (l : List Int) : List Int := l.mergeSort fun x y => decide (x ≤ y)
end
section
open Go.RowKit Go.MapKept Go.Maps Go.Sort Go.Shelf Go.WideElems
attribute [local irreducible] zAk
variable {g w : World} {L M : List HP} {ad : Nat → Addr} {p q : Nat}
end
section
open Go.RowKit
attribute [local irreducible] zAk
variable {g w : World} {L M : List HP} {ad : Nat → Addr} {p : Nat} {V : Vw}
def itB (i : Itm) : List UInt8 := UInt8.ofNat i.st.toNat :: (zBa (mfB i.m).length ++ mfB i.m)
def itAt (V : Vw) (k : Int) : List UInt8 := (zAx V k).elim [] itB
def vwBody (V : Vw) : List UInt8 := zBa V.length ++ (sortI (zAm V)).flatMap (itAt V)
def vwB (V : Vw) : List UInt8 := zC0 (vwBody V)
def Vw.sums (V : Vw) : Prop := ∀ x ∈ V, ∀ q ∈ x.2.m.obs, q.2.2 < 4294967296
end
section
open Go.RowKit
attribute [local irreducible] zAk
variable {g w : World} {L M : List HP} {ad : Nat → Addr}
def digR (n : Nat) : Nat → ByteArray
  | 0 => ByteArray.empty
  | i + 1 => ⟨#[UInt8.ofNat (48 + n / 10 ^ i % 10)]⟩ ++ digR n i
def bSeg : ByteArray := ⟨#[115, 101, 103, 45]⟩
def bDash : ByteArray := ⟨#[45]⟩
def zGd : ByteArray := ⟨#[100, 97, 116, 97]⟩
def zEv : ByteArray := ⟨#[109, 97, 114, 107, 115]⟩
def zDu (id : Nat) (kind : ByteArray) (base : Nat) : ByteArray := bSeg ++ digR id 10 ++ bDash ++ kind ++ bDash ++ digR base 13
def oneM (id base : Nat) : Mf := ⟨id, base, base + 5, 0, [(1, base)], [(zDu id zGd base, 0, 0), (zDu id zEv base, 0, 0)]⟩
end
section
open Go.RowKit
set_option maxHeartbeats 800000 in
set_option maxRecDepth 100000 in
theorem refValid_any (s : ByteArray) (w : World) :
    Calls Tryz.prog 60 #[.string s] w fun e w' => e = .returned (.bool (zBy s.data.toList)) ∧ w = w' := by
  by_cases h : 1 ≤ s.size
  · by_cases h2 : s.size ≤ 64
    · go_enter Tryz.func60, Tryz.ntmps60
      go_wp2
      go_loop [3] (fun i => ∃ k : Nat, k ≤ s.size ∧ i = .int .i64 k ∧ (s.data.toList.take k).all (fun c => zDk c.toNat) = true) (fun i => s.size - (intOf i).toNat)
      case atStart => exact ⟨0, Nat.zero_le _, rfl, rfl⟩
      case round =>
        obtain ⟨k, hk, rfl, hall⟩ := hrel; have Hall := Lib.hid hall; clear hall
        by_cases hlt : k < s.size
        · have hstep := all_take_snoc s k hlt (fun c => zDk c.toNat)
          have Hs := Lib.hid hstep; clear hstep
          have hkl : k < s.data.toList.length := by simpa using hlt
          have hget : s.data.toList[k] = s[k] := by rw [Array.getElem_toList]; rfl
          have Hg := Lib.hid hget; clear hget
          have hgo : zDk (s[k].toNat : Int) = true → ((s.data.toList.take (k + 1)).all fun c => zDk c.toNat) = true := fun h => by rw [Hs.out, Hall.out, h]; rfl
          have hno : zDk (s[k].toNat : Int) = false → zBy s.data.toList = false := fun h => by
            have := all_false_of (p := fun c => zDk c.toNat) hkl (by rw [Hg.out]; exact h)
            simp [zBy, this]
          rcases (by omega : (97 ≤ s[k].toNat ∧ s[k].toNat ≤ 122) ∨ (48 ≤ s[k].toNat ∧ s[k].toNat ≤ 57) ∨ (s[k].toNat = 46) ∨ (s[k].toNat = 45) ∨ (s[k].toNat = 95) ∨ ((s[k].toNat < 48 ∧ s[k].toNat ≠ 46 ∧ s[k].toNat ≠ 45)) ∨ ((57 < s[k].toNat ∧ s[k].toNat < 97 ∧ s[k].toNat ≠ 95)) ∨ (122 < s[k].toNat)) with hc | hc | hc | hc | hc | hc | hc | hc
          · have b46 : ((s[k].toNat : Int) != 46) = true := by rw [bne_iff_ne]; omega
            have b45 : ((s[k].toNat : Int) != 45) = true := by rw [bne_iff_ne]; omega
            have b95 : ((s[k].toNat : Int) != 95) = true := by rw [bne_iff_ne]; omega
            have hn : zDk (s[k].toNat : Int) = true := by simp [zDk, zG8]; omega
            have h1 := hgo hn; clear hgo hno hn; have H1 := Lib.hid h1; clear h1
            have q0 : (97 : Int) ≤ (s[k].toNat : Int) := by omega
            have q1 : (s[k].toNat : Int) ≤ 122 := by omega
            clear hc
            go_wp2
            go_round
            case rel => exact ⟨k + 1, by omega, by go_num, H1.out⟩
            case measure => simp [intOf]; omega
          · have b46 : ((s[k].toNat : Int) != 46) = true := by rw [bne_iff_ne]; omega
            have b45 : ((s[k].toNat : Int) != 45) = true := by rw [bne_iff_ne]; omega
            have b95 : ((s[k].toNat : Int) != 95) = true := by rw [bne_iff_ne]; omega
            have hn : zDk (s[k].toNat : Int) = true := by simp [zDk, zG8]; omega
            have h1 := hgo hn; clear hgo hno hn; have H1 := Lib.hid h1; clear h1
            have q0 : (48 : Int) ≤ (s[k].toNat : Int) := by omega
            have q1 : (s[k].toNat : Int) ≤ 57 := by omega
            clear hc
            go_wp2
            go_round
            case rel => exact ⟨k + 1, by omega, by go_num, H1.out⟩
            case measure => simp [intOf]; omega
          · have b46 : ((s[k].toNat : Int) != 46) = false := by rw [bne_eq_false_iff_eq]; omega
            have b45 : ((s[k].toNat : Int) != 45) = true := by rw [bne_iff_ne]; omega
            have b95 : ((s[k].toNat : Int) != 95) = true := by rw [bne_iff_ne]; omega
            have hn : zDk (s[k].toNat : Int) = true := by simp [zDk, zG8]; omega
            have h1 := hgo hn; clear hgo hno hn; have H1 := Lib.hid h1; clear h1
            have q0 : (0 : Int) ≤ (s[k].toNat : Int) := by omega
            have q1 : (s[k].toNat : Int) < 48 := by omega
            clear hc
            go_wp2
            go_round
            case rel => exact ⟨k + 1, by omega, by go_num, H1.out⟩
            case measure => simp [intOf]; omega
          · have b46 : ((s[k].toNat : Int) != 46) = true := by rw [bne_iff_ne]; omega
            have b45 : ((s[k].toNat : Int) != 45) = false := by rw [bne_eq_false_iff_eq]; omega
            have b95 : ((s[k].toNat : Int) != 95) = true := by rw [bne_iff_ne]; omega
            have hn : zDk (s[k].toNat : Int) = true := by simp [zDk, zG8]; omega
            have h1 := hgo hn; clear hgo hno hn; have H1 := Lib.hid h1; clear h1
            have q0 : (0 : Int) ≤ (s[k].toNat : Int) := by omega
            have q1 : (s[k].toNat : Int) < 48 := by omega
            clear hc
            go_wp2
            go_round
            case rel => exact ⟨k + 1, by omega, by go_num, H1.out⟩
            case measure => simp [intOf]; omega
          · have b46 : ((s[k].toNat : Int) != 46) = true := by rw [bne_iff_ne]; omega
            have b45 : ((s[k].toNat : Int) != 45) = true := by rw [bne_iff_ne]; omega
            have b95 : ((s[k].toNat : Int) != 95) = false := by rw [bne_eq_false_iff_eq]; omega
            have hn : zDk (s[k].toNat : Int) = true := by simp [zDk, zG8]; omega
            have h1 := hgo hn; clear hgo hno hn; have H1 := Lib.hid h1; clear h1
            have q0 : (57 : Int) < (s[k].toNat : Int) := by omega
            have q1 : (s[k].toNat : Int) < 97 := by omega
            clear hc
            go_wp2
            go_round
            case rel => exact ⟨k + 1, by omega, by go_num, H1.out⟩
            case measure => simp [intOf]; omega
          · have b46 : ((s[k].toNat : Int) != 46) = true := by rw [bne_iff_ne]; omega
            have b45 : ((s[k].toNat : Int) != 45) = true := by rw [bne_iff_ne]; omega
            have b95 : ((s[k].toNat : Int) != 95) = true := by rw [bne_iff_ne]; omega
            have hn : zDk (s[k].toNat : Int) = false := by simp [zDk, zG8]; omega
            have h1 := hno hn; clear hgo hno hn; have H1 := Lib.hid h1; clear h1
            have q0 : (0 : Int) ≤ (s[k].toNat : Int) := by omega
            have q1 : (s[k].toNat : Int) < 48 := by omega
            clear hc
            go_wp2
            go_ret
            exact ⟨zDz H1.out.symm, rfl⟩
          · have b46 : ((s[k].toNat : Int) != 46) = true := by rw [bne_iff_ne]; omega
            have b45 : ((s[k].toNat : Int) != 45) = true := by rw [bne_iff_ne]; omega
            have b95 : ((s[k].toNat : Int) != 95) = true := by rw [bne_iff_ne]; omega
            have hn : zDk (s[k].toNat : Int) = false := by simp [zDk, zG8]; omega
            have h1 := hno hn; clear hgo hno hn; have H1 := Lib.hid h1; clear h1
            have q0 : (57 : Int) < (s[k].toNat : Int) := by omega
            have q1 : (s[k].toNat : Int) < 97 := by omega
            clear hc
            go_wp2
            go_ret
            exact ⟨zDz H1.out.symm, rfl⟩
          · have b46 : ((s[k].toNat : Int) != 46) = true := by rw [bne_iff_ne]; omega
            have b45 : ((s[k].toNat : Int) != 45) = true := by rw [bne_iff_ne]; omega
            have b95 : ((s[k].toNat : Int) != 95) = true := by rw [bne_iff_ne]; omega
            have hn : zDk (s[k].toNat : Int) = false := by simp [zDk, zG8]; omega
            have h1 := hno hn; clear hgo hno hn; have H1 := Lib.hid h1; clear h1
            have q0 : (122 : Int) < (s[k].toNat : Int) := by omega
            clear hc
            go_wp2
            go_ret
            exact ⟨zDz H1.out.symm, rfl⟩
        · have hk' : k = s.size := by omega
          subst hk'
          have hv : zBy s.data.toList = true := by
            have := Hall.out; rw [List.take_of_length_le (by simp)] at this; simp only [zBy, this, Bool.and_true, Bool.and_eq_true, decide_eq_true_eq]; exact ⟨by simpa using h, by simpa using h2⟩
          have Hv := Lib.hid hv; clear hv
          go_wp2
          go_ret
          exact ⟨zDz Hv.out.symm, rfl⟩
    · have hv : zBy s.data.toList = false := by simp [zBy]; omega
      have Hv := Lib.hid hv; clear hv
      go_enter Tryz.func60, Tryz.ntmps60
      go_wp2
      go_ret
      exact ⟨zDz Hv.out.symm, rfl⟩
  · have hv : zBy s.data.toList = false := by simp [zBy]; omega
    have Hv := Lib.hid hv; clear hv
    go_enter Tryz.func60, Tryz.ntmps60
    go_wp2
    go_ret
    exact ⟨zDz Hv.out.symm, rfl⟩
end
section
open Go.RowKit
theorem odd_bits {v : Nat} (hv : v < 4294967296) (h : v % 2 = 1) : bits .and .u32 (v : Int) 1 = 1 ∧ bits .xor .u32 ((v : Int) / 2) 2197175160 = ((zD8 v : Nat) : Int) := by
  have e1 : bits .and .u32 (v : Int) 1 = ((v % 2 : Nat) : Int) := by
    have := bits_and_u32_nat v 1 hv (by decide); rw [show ((1 : Nat) : Int) = 1 from rfl] at this; rw [this, show v &&& 1 = v % 2 from Nat.and_two_pow_sub_one_eq_mod v 1]
  refine ⟨by rw [e1, h]; rfl, ?_⟩; have := zD9 (v / 2) 2197175160 (by omega) (by decide); rw [show ((v : Int) / 2) = ((v / 2 : Nat) : Int) by omega, show (2197175160 : Int) = ((2197175160 : Nat) : Int) from rfl, this]
  unfold zD8
  rw [if_pos h]
theorem even_bits {v : Nat} (hv : v < 4294967296) (h : v % 2 = 0) : bits .and .u32 (v : Int) 1 = 0 ∧ (v : Int) / 2 = ((zD8 v : Nat) : Int) := by
  have e1 : bits .and .u32 (v : Int) 1 = ((v % 2 : Nat) : Int) := by
    have := bits_and_u32_nat v 1 hv (by decide); rw [show ((1 : Nat) : Int) = 1 from rfl] at this; rw [this, show v &&& 1 = v % 2 from Nat.and_two_pow_sub_one_eq_mod v 1]
  refine ⟨by rw [e1, h]; rfl, ?_⟩
  unfold zD8
  rw [if_neg (by omega), Nat.xor_zero]
  omega
set_option maxRecDepth 100000 in
theorem refMore_any {w : World} {b : Value} {l : List UInt8} {s : Nat} (hs : s < 4294967296) (hb : zEs w b (zAn l)) (hlen : l.length ≤ 1073741824) :
    Calls Tryz.prog 82 #[.int .u32 (s : Int), b] w fun e w' => e = .returned (.int .u32 ((zC4 s l : Nat) : Int)) ∧ w = w' := by
  have HB := Lib.hid hb; obtain ⟨a, n, c, rfl, hal, ha2⟩ := id hb
  have hal' : n = l.length := by simpa [zAn] using hal
  clear hal; subst hal'; clear hb ha2
  go_enter Tryz.func82, Tryz.ntmps82
  go_wp2
  go_loopg [5, 6] l.length (fun g x i wr => wr = w ∧ ∃ k : Nat, g = l.length - k ∧ k ≤ l.length ∧ i = .int .i64 k ∧ x = .int .u32 ((zFh (4294967295 ^^^ s) (l.take k) : Nat) : Int))
  case atStart => exact ⟨rfl, 0, rfl, Nat.zero_le _, rfl, by rw [not_u32 _ hs]; rfl⟩
  case round =>
    obtain ⟨rfl, k, hg, hk, rfl, rfl⟩ := hrel; subst hg
    by_cases hkl : k < l.length
    · obtain ⟨bb, off, rfl, lt, hc⟩ := HB.out.cell hkl
      have hk' : k < (zAn l).length := by simpa [zAn] using hkl
      have cx := hc k hk'; obtain ⟨x, hlx, hx⟩ := oneU8c l (List.getElem?_eq_getElem hk'); rw [hx] at cx; clear hc hx hk'; have hlt : zFh (4294967295 ^^^ s) (l.take k) < 4294967296 := zGp _ (not_lt hs); obtain ⟨y1, i1, t1, y2, i2, t2, y3, R⟩ := round_at hlt x
      have hnext : zFh (4294967295 ^^^ s) (l.take (k + 1)) = y3 := by
        rw [R.h3, List.take_add_one, hlx, zFh, zFh, List.foldl_append]; rfl
      have Hn := Lib.hid hnext; have H8 := Lib.hid (show crcN 8 y1 = y3 from R.h0); have e1 := R.e1; have b1 := R.b1; generalize zFh (4294967295 ^^^ s) (l.take k) = z at *; clear R hnext hlx
      go_wp2
      try rw [show decide ((k : Int) < (l.length : Int)) = true from by simp; omega]
      go_loopg [5, 7] 8 (fun g x i wi => wi = wr ∧ ∃ m : Nat, g = 8 - m ∧ m ≤ 8 ∧ i = .int .i64 m ∧ x = .int .u32 ((crcN m y1 : Nat) : Int))
      case atStart => exact ⟨rfl, 0, rfl, by omega, rfl, rfl⟩
      case round =>
        obtain ⟨rfl, m, hg, hm, rfl, rfl⟩ := hrel; subst hg; have hv := crcN_lt b1 m; have Hm := Lib.hid (show crcN (m + 1) y1 = zD8 (crcN m y1) from rfl)
        by_cases hm8 : m < 8
        · generalize crcN m y1 = v at *
          rcases Nat.mod_two_eq_zero_or_one v with h | h
          · obtain ⟨f1, f2⟩ := even_bits hv h
            generalize zD8 v = u at *; clear h
            go_wp2
            go_roundg (8 - (m + 1))
            case measure => omega
            case rel => exact ⟨rfl, m + 1, rfl, by omega, by go_num, by rw [Hm.out]⟩
          · obtain ⟨f1, f2⟩ := odd_bits hv h
            generalize zD8 v = u at *; clear h
            go_wp2
            go_roundg (8 - (m + 1))
            case measure => omega
            case rel => exact ⟨rfl, m + 1, rfl, by omega, by go_num, by rw [Hm.out]⟩
        · have hm' : m = 8 := by omega
          subst hm'
          go_wp2
          go_roundg (l.length - (k + 1))
          case measure => omega
          case rel => exact ⟨rfl, k + 1, rfl, by omega, by go_num, by rw [Hn.out, H8.out]⟩
    · have hk' : k = l.length := by omega
      subst hk'
      go_wp2
      go_ret
      refine ⟨?_, rfl⟩
      show Ending.returned (.int .u32 (bits .xor .u32 IntKind.u32.max ((zFh (4294967295 ^^^ s) l : Nat) : Int))) = _
      rw [not_u32 _ (zGp l (not_lt hs))]
      rfl
theorem refSum_any {w : World} {b : Value} {l : List UInt8} (hb : zEs w b (zAn l)) (hlen : l.length ≤ 1073741824) :
    Calls Tryz.prog 44 #[b] w fun e w' => e = .returned (.int .u32 ((zC4 0 l : Nat) : Int)) ∧ w = w' := by
  have HB := Lib.hid hb; obtain ⟨a, n, c, rfl, hal, ha2⟩ := id hb; clear hb hal ha2
  go_enter Tryz.func44, Tryz.ntmps44
  go_wp2_with (go_at_call 82; refine (refMore_any (s := 0) (l := l) (by decide) HB.out hlen).mono ?_; rintro e w1 ⟨rfl, rfl⟩)
  go_ret
  exact ⟨rfl, rfl⟩
end
section
open Go.RowKit
attribute [local irreducible] zAk
variable {g w : World} {L M : List HP} {ad : Nat → Addr} {p : Nat}
def fltV (f : Flt) : Value := .agg #[.int .i64 (f.1 : Nat), .bool f.2.isSome, .int .i64 (f.2.getD 0 : Nat)]
theorem zE6 (hs : Mem g w L) (c : Nat) : Calls Tryz.prog 24 #[.int .i64 c] w (Ret fun v w' => v = fltV (c, none) ∧ Mem g w' L) := hs.calls (bare_any c w)
theorem none_sl (hs : Mem g w L) : Calls Tryz.prog 22 #[] w (Ret fun v w' => v = fltV (0, none) ∧ Mem g w' L) := by
  refine zAh Tryz.func22 rfl rfl ?_
  refine zA4 (zA2 (zBj hs rfl ze42 ?_)); clear hs; intro b0 w hs
  try simp only [zzs, zzz] at hs
  refine zA6 (zA4 (zA2 (Qa (zBw (cs := [.int .i64 0, .bool false, .int .i64 0]) uz42 ze42 pl42 rfl) (zAr hs 0 rfl rfl rfl zGe rfl rfl ?_)))); clear hs; intro w hs
  try simp only [zzs, zzz] at hs
  exact zA6 (zAe (resG [(.cell 0 42, .agg _)] rfl ⟨⟨_, rfl, zC3 hs 0 rfl uz42 zGe⟩, trivial⟩ ⟨_, rfl, rfl, hs.tail⟩))
theorem placedR_sl (hs : Mem g w L) {c : Nat} (hc : c ≠ 0) (q : Nat) : Calls Tryz.prog 26 #[.int .i64 c, .int .i64 q] w (Ret fun v w' => v = fltV (c, some q) ∧ Mem g w' L) := by
  refine zAh Tryz.func26 rfl rfl ?_
  refine zA4 (zA2 (zBj hs rfl ze42 ?_)); clear hs; intro b4 w hs
  try simp only [zzs, zzz] at hs
  refine zA6 (zA4 (zA4 (zA2 (J0 rfl (Jw rfl rfl (zA6 (zAz rfl (decide_eq_false (by omega)) (zAd (zA4 (zA2 (J0 rfl (J0 rfl ?_)))))))))))); refine Qa (zBg ([.int .i64 c, .bool true, .int .i64 q]) uz42 ze42 pl42 rfl (by simp [Value.cells]) rfl rfl) (zAr hs 0 rfl rfl rfl zGe rfl rfl ?_); clear hs; intro w hs
  try simp only [zzs, zzz] at hs
  exact zA6 (zAe (resG [(.cell 4 42, .agg _)] rfl ⟨⟨_, rfl, zC3 hs 0 rfl uz42 zGe⟩, trivial⟩ ⟨_, rfl, rfl, hs.tail⟩))
theorem rRight_sl (hs : Mem g w L) (n : Int) : Calls Tryz.prog 57 #[.int .i64 n] w (Ret fun v w' => v = .bool (zEu n) ∧ Mem g w' L) := by
  refine zAh Tryz.func57 rfl rfl ?_
  refine zA4 (zA2 (J5 rfl (zA6 (zA4 (zA2 (J0 rfl (Qa (zD5 rfl rfl) (J2 rfl (zB3 (t := _) (d := 5) rfl ?_ ?_)))))))))
  ·
   intro h4; have g4 := of_decide_eq_true h4; exact zAl rfl rfl h4 (J0 rfl (zAl rfl rfl h4 (Qa (zE8 rfl rfl) (Ja rfl h4 rfl (J5 rfl (zA6 (zAe (zBi (v := .bool _) rfl rfl ⟨_, rfl, zDr (by rw [Bool.eq_iff_iff]; simp [zEu]; omega), hs⟩))))))))
  ·
   intro h4; have g4 := of_decide_eq_false h4; exact Qe rfl rfl h4 (Qe rfl rfl h4 (J9 rfl h4 rfl (J5 rfl (zA6 (zAe (zBi (v := .bool _) rfl rfl ⟨_, rfl, zDr (by rw [Bool.eq_iff_iff]; simp [zEu]; omega), hs⟩))))))
theorem rEpoch_sl (hs : Mem g w L) (n : Int) : Calls Tryz.prog 102 #[.int .i64 n] w (Ret fun v w' => v = .bool (rightE n) ∧ Mem g w' L) := by
  refine zAh Tryz.func102 rfl rfl ?_
  refine zA4 (zA2 (J5 rfl (zA6 (zA4 (zA2 (J0 rfl (Qa (zD5 rfl rfl) (J2 rfl (zB3 (t := _) (d := 5) rfl ?_ ?_)))))))))
  ·
   intro h4; have g4 := of_decide_eq_true h4; exact zAl rfl rfl h4 (J0 rfl (zAl rfl rfl h4 (Qa (zE8 rfl rfl) (Ja rfl h4 rfl (J5 rfl (zA6 (zAe (zBi (v := .bool _) rfl rfl ⟨_, rfl, zDr (by rw [Bool.eq_iff_iff]; simp [rightE]; omega), hs⟩))))))))
  ·
   intro h4; have g4 := of_decide_eq_false h4; exact Qe rfl rfl h4 (Qe rfl rfl h4 (J9 rfl h4 rfl (J5 rfl (zA6 (zAe (zBi (v := .bool _) rfl rfl ⟨_, rfl, zDr (by rw [Bool.eq_iff_iff]; simp [rightE]; omega), hs⟩))))))
theorem rTime_sl (hs : Mem g w L) (n : Int) : Calls Tryz.prog 58 #[.int .i64 n] w (Ret fun v w' => v = .bool (rightT n) ∧ Mem g w' L) := by
  refine zAh Tryz.func58 rfl rfl ?_
  refine zA4 (zA2 (J5 rfl (zA6 (zA4 (zA2 (J0 rfl (Qa (zD5 rfl rfl) (J2 rfl (zB3 (t := _) (d := 5) rfl ?_ ?_)))))))))
  ·
   intro h4; have g4 := of_decide_eq_true h4; exact zAl rfl rfl h4 (J0 rfl (zAl rfl rfl h4 (Qa (zE8 rfl rfl) (Ja rfl h4 rfl (J5 rfl (zA6 (zAe (zBi (v := .bool _) rfl rfl ⟨_, rfl, zDr (by rw [Bool.eq_iff_iff]; simp [rightT]; omega), hs⟩))))))))
  ·
   intro h4; have g4 := of_decide_eq_false h4; exact Qe rfl rfl h4 (Qe rfl rfl h4 (J9 rfl h4 rfl (J5 rfl (zA6 (zAe (zBi (v := .bool _) rfl rfl ⟨_, rfl, zDr (by rw [Bool.eq_iff_iff]; simp [rightT]; omega), hs⟩))))))
theorem all_no {l : List Pr} {x : Nat} {y : Pr} (hy : l[x]? = some y) (h : prOk y = false) : l.all prOk = false := Bool.eq_false_iff.2 (fun h2 => absurd ((List.all_eq_true.1 h2 y (List.mem_of_getElem? hy)).symm.trans h) (by decide))
theorem rPairs_sl (hs : Mem g w L) {a : Option Addr} {n c : Nat} {l : List Pr} (hr : RdK g L 2 (.slice a n c) (l.map prL)) (hn : n = l.length) : Calls Tryz.prog 59 #[.slice a n c] w (Ret fun v w' => v = .int .i64 (epF l : Nat) ∧ Mem g w' L) := by
  subst hn; refine zAh Tryz.func59 rfl rfl ?_
  refine zA4 (zA2 (J4 rfl (zA6 (zA4 (zA4 (zA2 (J7 rfl (Js zE rfl (Jt rfl rfl (zA6 (zB2 rfl ?_ ?_)))))))))))
  ·
   intro h7; have g7 := of_decide_eq_true h7; refine zA4 (zA2 (J4 rfl (zA6 (zAe (zBi (v := .int .i64 _) rfl rfl ?_))))); exact ⟨_, rfl, by rw [epF, if_pos (by omega)]; rfl, hs⟩
  ·
   intro h7; have g7 := of_decide_eq_false h7; refine zAd (zA4 (zA4 (zA2 (J4 rfl (zA6 (zAp (zBs (X := Nat) [2, 3, 8, 9, 10, 11, 12, 13, 14, 15, 16, 17, 18, 19, 20, 21, 22, 23, 24, 25, 26, 27, 28, 29] (fun k => [(3, .int .i64 (k : Nat))]) (fun k w => k ≤ l.length ∧ (l.take k).all prOk = true ∧ Mem g w L) (fun k => l.length - k) (0) ?_ ?_ ?_)))))))
   · exact ⟨rfl, trivial⟩
   · exact ⟨Nat.zero_le _, rfl, hs⟩
   clear hs; rintro x ξ w hI; obtain ⟨hk, hq, hs⟩ := hI; refine zA4 (zA4 (zA2 (J0 rfl (J7 rfl (Js zE rfl (Jn rfl rfl (zA6 (zB2 rfl ?_ ?_))))))))
   ·
    intro h11; have g11 := of_decide_eq_true h11; obtain ⟨y, hy⟩ : ∃ y, l[x]? = some y := ⟨_, List.getElem?_eq_getElem (by omega)⟩; obtain ⟨b1, o1, rfl⟩ := hr.at hs (by rw [zEy]; omega); refine zAd (zA4 (zAp (zA4 (zA2 (J7 rfl (J0 rfl (Qa (zAy zE sz46 rfl rfl rfl (by omega) rfl) (Jp uz46 rfl sz3 rfl rfl rfl (Jq uz3 rfl rfl (hr.cell hs (zEh hy) (j := 0) rfl) (Qg en102 (rEpoch_sl hs y.1) ?_)))))))))); clear hs; rintro _ w ⟨rfl, hs⟩; refine Jr rfl (J2 rfl ?_)
    refine zB3 (t := _) (d := 21) rfl ?_ ?_
    ·
     intro h19; replace h19 := zFc h19; refine Qe rfl rfl (zCs h19) (Qe rfl rfl (zCs h19) (Qe rfl rfl (zCs h19) (Qe rfl rfl (zCs h19) (Qe rfl rfl (zCs h19) (Qe rfl rfl (zCs h19) (Qe rfl rfl (zCs h19) (Ja rfl (zCs h19) rfl (zA6 (zBc rfl rfl (zA4 (zA2 ?_))))))))))); refine J4 rfl (zA6 (zAe (zBi (v := .int .i64 _) rfl rfl ?_)))
     have e : prOk y = false := by simp [prOk, h19]
     exact ⟨_, rfl, by rw [epF, if_neg (by omega), if_pos (all_no hy e)]; rfl, hs⟩
    ·
     intro h19; replace h19 := zEr h19; refine zAl rfl rfl (zBt h19) (J7 rfl (zAl rfl rfl (zBt h19) (J0 rfl (zAl rfl rfl (zBt h19) (Qa (zAy zE sz46 rfl rfl rfl (by omega) rfl) (zAl rfl rfl (zBt h19) (Jp uz46 rfl sz2 rfl rfl rfl (zAl rfl rfl (zBt h19) (Jq uz2 rfl rfl (hr.cell hs (zEh hy) (j := 1) rfl) (zAl rfl rfl (zBt h19) ?_)))))))))); refine Qg en57 (rRight_sl hs y.2) ?_; clear hs; rintro _ w ⟨rfl, hs⟩; refine zAl rfl rfl (zBt h19) (Jr rfl ?_)
     refine J9 rfl (zBt h19) rfl (zA6 (zB2 rfl ?_ ?_))
     ·
      intro h27; replace h27 := zFc h27; refine zA4 (zA2 (J4 rfl (zA6 (zAe (zBi (v := .int .i64 _) rfl rfl ?_)))))
      have e : prOk y = false := by simp [prOk, h27]
      exact ⟨_, rfl, by rw [epF, if_neg (by omega), if_pos (all_no hy e)]; rfl, hs⟩
     ·
      intro h27; replace h27 := zEr h27; refine zAd (zA2 (J0 rfl (Jo rfl rfl rfl (inI (by omega) (by omega)) (J4 rfl (zA6 ?_))))); exact ⟨x + 1, by omega, ⟨by omega, by rw [List.take_add_one, hy]; simp [hq, prOk, h19, h27], hs⟩, ⟨rfl, trivial⟩, by repeat (first | exact Out.mix _ _ _ | refine Out.updo rfl ?_ | refine Out.upd rfl ?_ | refine Out.mixIn rfl ?_)⟩
   ·
    intro h11; have g11 := of_decide_eq_false h11
    have hall : l.all prOk = true := by have e : x = l.length := (by omega); rw [e, List.take_length] at hq; exact hq
    refine zBm rfl (zA4 (zA4 (zA2 (J4 rfl (zA6 (zAp (zBs (X := Nat) [2, 4, 30, 31, 32, 33, 34, 35, 36, 37, 38, 39, 40, 41, 42, 43, 44, 45, 46, 47, 48, 49, 50, 51, 52, 53, 54, 55, 56, 57, 58, 59, 60, 61] (fun k => [(4, .int .i64 (k : Nat))]) (fun k w => 1 ≤ k ∧ (∀ i, 1 ≤ i → i < k → i < l.length → risAt l i = true) ∧ Mem g w L) (fun k => l.length - k) (1) ?_ ?_ ?_)))))))
    · exact ⟨rfl, trivial⟩
    · exact ⟨Nat.le_refl _, fun i h1 h2 => by omega, hs⟩
    clear hs; rintro x ξ w hI; obtain ⟨hk1, hq1, hs⟩ := hI; refine zA4 (zA4 (zA2 (J0 rfl (J7 rfl (Js zE rfl (Jn rfl rfl (zA6 (zB2 rfl ?_ ?_))))))))
    ·
     intro h33; have g33 := of_decide_eq_true h33; obtain ⟨y, hy⟩ : ∃ y, l[x]? = some y := ⟨_, List.getElem?_eq_getElem (by omega)⟩; obtain ⟨y0, hy0⟩ : ∃ y, l[x - 1]? = some y := ⟨_, List.getElem?_eq_getElem (by omega)⟩; obtain ⟨b1, o1, rfl⟩ := hr.at hs (by rw [zEy]; omega); have hra := risAt_eq hy0 hy; refine zAd (zA4 (zAp (zA4 (zAq zBk hs ?_)))); intro w tr hK; replace hs := tr _ hs; clear tr; refine Q3 0 rfl rfl hK (Q2 1 rfl rfl hK (Qb 2 rfl (fun w hs => zAy zE sz46 rfl rfl rfl (by omega) rfl) hK ?_))
     refine Q6 3 rfl uz46 rfl sz3 rfl rfl rfl hK (Qd 4 rfl uz3 rfl (fun w hs => hr.cell hs (zEh hy) (j := 0) rfl) hK (Q3 5 rfl rfl hK (Q2 6 rfl rfl hK (Qb 7 rfl (fun w hs => zCx rfl rfl (c := ((x - 1 : Nat) : Int)) (by omega) (inI (by omega) (by omega))) hK (Qb 8 rfl (fun w hs => zAy zE sz46 rfl rfl rfl (by omega) rfl) hK (Q6 9 rfl uz46 rfl sz3 rfl rfl rfl hK (Qd 10 rfl uz3 rfl (fun w hs => hr.cell hs (zEh hy0) (j := 0) rfl) hK ?_)))))))
     refine Qb 11 rfl (fun w hs => zE8 rfl rfl) hK (Q4 12 rfl (v := .bool _) rfl hK (zGu (t := _) (d := 48) rfl ?_ ?_))
     ·
      intro h47; have g47 := of_decide_eq_true h47; refine zAf 13 rfl rfl rfl rfl h47 hK (zAf 14 rfl rfl rfl rfl h47 hK (zAf 15 rfl rfl rfl rfl h47 hK (zAf 16 rfl rfl rfl rfl h47 hK (zAf 17 rfl rfl rfl rfl h47 hK (zAf 18 rfl rfl rfl rfl h47 hK (zAf 19 rfl rfl rfl rfl h47 hK (zAf 20 rfl rfl rfl rfl h47 hK (zAf 21 rfl rfl rfl rfl h47 hK (zAf 22 rfl rfl rfl rfl h47 hK (zAf 23 rfl rfl rfl rfl h47 hK ?_)))))))))); refine zAf 24 rfl rfl rfl rfl h47 hK (Qb 25 rfl (fun w hs => zAj (v := .bool _) rfl h47 rfl) hK (zAs (by kernel_rfl) ?_)); clear hK; refine zBc rfl rfl ?_
      refine zA4 (zA2 (J4 rfl (zA6 (zAe (zBi (v := .int .i64 _) rfl rfl ?_))))); exact ⟨_, rfl, by rw [epF, if_neg (by omega), if_neg (by rw [hall]; decide), if_pos (ris_no hk1 (by omega) (by rw [hra]; simp; omega))]; rfl, hs⟩
     ·
      intro h47; have g47 := of_decide_eq_false h47; refine zAi 13 rfl rfl rfl rfl h47 (fun w hs => zA1 (v := .slice _ _ _) rfl) hK (zAi 14 rfl rfl rfl rfl h47 (fun w hs => zA1 (v := .int .i64 _) rfl) hK (zAi 15 rfl rfl rfl rfl h47 (fun w hs => zAy zE sz46 rfl rfl rfl (by omega) rfl) hK (zAi 16 rfl rfl rfl rfl h47 (fun w hs => zA5 uz46 rfl sz2 rfl rfl rfl) hK (zAi 17 rfl rfl rfl rfl h47 (fun w hs => zA7 uz2 rfl rfl (hr.cell hs (zEh hy) (j := 1) rfl)) hK (zAi 18 rfl rfl rfl rfl h47 (fun w hs => zA1 (v := .slice _ _ _) rfl) hK (zAi 19 rfl rfl rfl rfl h47 (fun w hs => zA1 (v := .int .i64 _) rfl) hK ?_))))))
      refine zAi 20 rfl rfl rfl rfl h47 (fun w hs => zCx rfl rfl (c := ((x - 1 : Nat) : Int)) (by omega) (inI (by omega) (by omega))) hK (zAi 21 rfl rfl rfl rfl h47 (fun w hs => zAy zE sz46 rfl rfl rfl (by omega) rfl) hK (zAi 22 rfl rfl rfl rfl h47 (fun w hs => zA5 uz46 rfl sz2 rfl rfl rfl) hK (zAi 23 rfl rfl rfl rfl h47 (fun w hs => zA7 uz2 rfl rfl (hr.cell hs (zEh hy0) (j := 1) rfl)) hK (zAi 24 rfl rfl rfl rfl h47 (fun w hs => zE8 rfl rfl) hK (Qb 25 rfl (fun w hs => zAg (v := .bool _) rfl h47 rfl) hK (zAs (by kernel_rfl) ?_)))))); clear hK; refine zB2 rfl ?_ ?_
      ·
       intro h60; have g60 := of_decide_eq_true h60; refine zA4 (zA2 (J4 rfl (zA6 (zAe (zBi (v := .int .i64 _) rfl rfl ?_))))); exact ⟨_, rfl, by rw [epF, if_neg (by omega), if_neg (by rw [hall]; decide), if_pos (ris_no hk1 (by omega) (by rw [hra]; simp; omega))]; rfl, hs⟩
      ·
       intro h60; have g60 := of_decide_eq_false h60; refine zAd (zA2 (J0 rfl (Jo rfl rfl rfl (inI (by omega) (by omega)) (J4 rfl (zA6 ?_))))); exact ⟨x + 1, by omega, ⟨by omega, (fun i h1 h2 h3 => by rcases Nat.lt_or_ge i x with h | h; exact hq1 i h1 h h3; obtain rfl : i = x := (by omega); rw [hra]; simp; omega), hs⟩, ⟨rfl, trivial⟩, by repeat (first | exact Out.mix _ _ _ | refine Out.updo rfl ?_ | refine Out.upd rfl ?_ | refine Out.mixIn rfl ?_)⟩
    ·
     intro h33; have g33 := of_decide_eq_false h33; refine zBm rfl (zA4 (zA2 (J4 rfl (zA6 (zAe (zBi (v := .int .i64 _) rfl rfl ?_)))))); exact ⟨_, rfl, by rw [epF, if_neg (by omega), if_neg (by rw [hall]; decide), if_neg (by rw [ris_iff.2 (fun i h1 h2 => hq1 i h1 (by omega) h2)]; decide)]; rfl, hs⟩
end
end Go.Proofs.YthejaanobeonnaaGreatDoor
