/- The disk in plain words: files by their numbers, names that lead to them, what is kept, changes. The disk in plain words: what every call keeps. The disk in plain words: a crash. The disk in plain words: what a call does while the power is there. -/
import Derived.Test.YtmnfehbnjgmgjaaDoorZb
import Derived.Test.YtmnfehbnjgmgjaaDoorZa
namespace Go.Proofs.YtmnfehbnjgmgjaaDoor
set_option linter.all false
open Go.RowKit

structure Fl where
  id : Nat
  b : List UInt8
  syn : Nat
structure Chg where
  name : ByteArray
  gone : ByteArray
  f : Option Nat
structure Dk where
  room : Nat
  names : List (ByteArray × Nat)
  kept : List (ByteArray × Nat)
  changes : List Chg
  files : Nat
  armed : Nat
  down : Bool
  calls : Nat
  fs : List (Nat × Fl)
def Dk.empty (room : Nat) : Dk := ⟨room, [], [], [], 0, 0, false, 0, []⟩
/-- Behind the begin of a call that changes. -/
def Dk.begin (d : Dk) : Nat × Dk := if d.down then (110, d) else if d.armed = 0 then (0, d) else if d.armed = 1 then (110, { d with armed := 0, down := true }) else (0, { d with armed := d.armed - 1 })
/-- A file, by its name. -/
def Dk.file (n : ByteArray) (d : Dk) : Nat × Option Nat := if d.down then (110, none) else match aget d.names n with
  | some i => (0, some i)
  | none => (107, none)
def Chg.app (c : Chg) (l : List (ByteArray × Nat)) : List (ByteArray × Nat) :=
  let l1 := if c.gone = ByteArray.empty then l else adel l c.gone
  match c.f with
  | some i => aput l1 c.name i
  | none => l1
def Dk.change (c : Chg) (d : Dk) : Dk := { d with names := c.app d.names, changes := d.changes ++ [c], calls := d.calls + 1 }
def Dk.len (d : Dk) (i : Nat) : Nat := ((aget d.fs i).map (·.b.length)).getD 0
def Dk.used (d : Dk) : Nat := (d.names.map fun x => d.len x.2).sum
/-- Go on with a file; what it is refused with. -/
def Dk.find (n : ByteArray) (d : Dk) : Nat × Option Nat × Dk := if d.begin.1 = 0 then ((d.begin.2.file n).1, (d.begin.2.file n).2, d.begin.2) else (110, none, d.begin.2)
def Dk.setF (d : Dk) (i : Nat) (f : Fl) : Dk := { d with fs := aput d.fs i f }
def Dk.fl (d : Dk) (i : Nat) : Fl := (aget d.fs i).getD ⟨0, [], 0⟩
def Dk.create (n : ByteArray) (d : Dk) : Nat × Dk :=
  if d.begin.1 ≠ 0 then (110, d.begin.2) else
  let d1 := d.begin.2
  if validB n.data.toList = false then (106, d1) else if (aget d1.names n).isSome then (108, d1) else
  (0, ({ d1 with files := d1.files + 1, fs := d1.fs ++ [(d1.files + 1, ⟨d1.files + 1, [], 0⟩)] } : Dk).change ⟨n, ByteArray.empty, some (d1.files + 1)⟩)
def Dk.append (n : ByteArray) (b : List UInt8) (d : Dk) : Nat × Dk :=
  match d.find n with
  | (_, some i, d1) => if d1.room < d1.used + b.length then (109, d1) else (0, { d1.setF i { d1.fl i with b := (d1.fl i).b ++ b } with calls := d1.calls + 1 })
  | (c, none, d1) => (c, d1)
def Dk.cut (n : ByteArray) (k : Int) (d : Dk) : Nat × Dk :=
  match d.find n with
  | (_, some i, d1) => if k < 0 ∨ ((d1.fl i).b.length : Int) < k then (105, d1) else (0, { d1.setF i { d1.fl i with b := (d1.fl i).b.take k.toNat, syn := k.toNat } with calls := d1.calls + 1 })
  | (c, none, d1) => (c, d1)
def Dk.sync (n : ByteArray) (d : Dk) : Nat × Dk :=
  match d.find n with
  | (_, some i, d1) => (0, { d1.setF i { d1.fl i with syn := (d1.fl i).b.length } with calls := d1.calls + 1 })
  | (c, none, d1) => (c, d1)
def Dk.rename (n m : ByteArray) (d : Dk) : Nat × Dk :=
  match d.find n with
  | (_, some i, d1) => if validB m.data.toList = false then (106, d1) else (0, d1.change ⟨m, if n = m then ByteArray.empty else n, some i⟩)
  | (c, none, d1) => (c, d1)
def Dk.remove (n : ByteArray) (d : Dk) : Nat × Dk :=
  match d.find n with
  | (_, some _, d1) => (0, d1.change ⟨ByteArray.empty, n, none⟩)
  | (c, none, d1) => (c, d1)
def Dk.syncDir (d : Dk) : Nat × Dk := if d.begin.1 ≠ 0 then (110, d.begin.2) else (0, { d.begin.2 with kept := d.begin.2.names, changes := [], calls := d.begin.2.calls + 1 })
def Dk.readR (n : ByteArray) (off k : Int) (d : Dk) : Nat × List UInt8 :=
  match d.file n with
  | (_, some i) => if off < 0 ∨ k < 0 ∨ ((d.fl i).b.length : Int) < off ∨ ((d.fl i).b.length : Int) - off < k then (105, []) else (0, ((d.fl i).b.take (off.toNat + k.toNat)).drop off.toNat)
  | (c, none) => (c, [])
def pickN (picks : List Int) (k n : Nat) : Nat := match picks[k]? with
  | some x => (x % ((n : Int) + 1)).toNat
  | none => 0
def applyAll (l : List (ByteArray × Nat)) (cs : List Chg) : List (ByteArray × Nat) := cs.foldl (fun l c => c.app l) l
/-- The files that are kept, by their numbers. -/
def keptIds (fs : List (Nat × Fl)) (kept : List (ByteArray × Nat)) : List Nat := (keysOf fs).filter fun i => decide (i ∈ kept.map (·.2))
def Fl.crashed (f : Fl) (picks : List Int) (k : Nat) : Fl := { f with b := f.b.take (f.syn + pickN picks (k + 1) (f.b.length - f.syn)), syn := (f.b.take (f.syn + pickN picks (k + 1) (f.b.length - f.syn))).length }
def crashFs (picks : List Int) : Nat → List Nat → List (Nat × Fl) → List (Nat × Fl)
  | _, [], fs => fs
  | k, i :: l, fs => crashFs picks (k + 1) l (match aget fs i with | some f => aput fs i (f.crashed picks k) | none => fs)
def Dk.crash (picks : List Int) (d : Dk) : Dk :=
  let kept := applyAll d.kept (d.changes.take (pickN picks 0 d.changes.length))
  { d with kept := kept, names := kept, changes := [], armed := 0, down := false, fs := crashFs picks 0 (keptIds d.fs kept) d.fs }
/-- It hangs together. -/
structure Dk.okB (d : Dk) : Prop where
  room : d.room ≤ 4194304
  ids : (keysOf d.fs).Pairwise (· < ·) ∧ ∀ i ∈ keysOf d.fs, 1 ≤ i ∧ i ≤ d.files
  fid : ∀ i f, aget d.fs i = some f → f.id = i ∧ f.syn ≤ f.b.length ∧ f.b.length ≤ 4194304
  nnd : (keysOf d.names).Nodup
  knd : (keysOf d.kept).Nodup
  nin : ∀ x ∈ d.names, x.2 ∈ keysOf d.fs
  kin : ∀ x ∈ d.kept, x.2 ∈ keysOf d.fs
  cin : ∀ c ∈ d.changes, ∀ i, c.f = some i → i ∈ keysOf d.fs
/-- And its numbers are no more than its calls. -/
structure Dk.ok (d : Dk) : Prop extends Dk.okB d where
  fcl : d.files ≤ d.calls
  nl : d.names.length ≤ d.calls
  kl : d.kept.length + d.changes.length ≤ d.calls
  al : d.armed ≤ 9223372036854775807
end Go.Proofs.YtmnfehbnjgmgjaaDoor
namespace Go.Proofs.YtmnfehbnjgmgjaaDoor
set_option linter.all false
open Go.RowKit
variable {d : Dk} {n m : ByteArray} {i : Nat}

theorem aget_keys {κ α : Type} [DecidableEq κ] {l : List (κ × α)} {k : κ} {v : α} (h : aget l k = some v) : k ∈ keysOf l := List.mem_map_of_mem (aget_mem h)
theorem aget_of_key {κ α : Type} [DecidableEq κ] {l : List (κ × α)} {k : κ} (h : k ∈ keysOf l) : ∃ v, aget l k = some v := by
  cases hc : aget l k with
  | some v => exact ⟨v, rfl⟩
  | none => exact absurd h ((aget_none_iff _ _).1 hc)
theorem aput_keys {κ α : Type} [DecidableEq κ] {l : List (κ × α)} {k : κ} {v : α} (h : k ∈ keysOf l) : keysOf (aput l k v) = keysOf l := by rw [keys_put, if_pos h]
theorem aput_nodup {κ α : Type} [DecidableEq κ] {l : List (κ × α)} {k : κ} {v : α} (h : (keysOf l).Nodup) : (keysOf (aput l k v)).Nodup := by
  rw [keys_put]
  split
  · exact h
  · rename_i hn
    rw [List.nodup_append]
    refine ⟨h, by simp, fun a ha c hc e => ?_⟩
    simp only [List.mem_cons, List.not_mem_nil, or_false] at hc
    subst hc
    exact hn (e ▸ ha)
theorem aput_in {κ α : Type} [DecidableEq κ] {l : List (κ × α)} {k : κ} {v : α} {x : κ × α} (h : x ∈ aput l k v) : x = (k, v) ∨ x ∈ l := by
  induction l with
  | nil => simp [aput] at h; exact .inl h
  | cons y l ih =>
    obtain ⟨a, b⟩ := y
    simp only [aput] at h
    split at h
    · rcases List.mem_cons.1 h with h | h
      · exact .inl h
      · exact .inr (List.mem_cons_of_mem _ h)
    · rcases List.mem_cons.1 h with h | h
      · exact .inr (by rw [h]; exact List.mem_cons_self ..)
      · rcases ih h with h | h
        · exact .inl h
        · exact .inr (List.mem_cons_of_mem _ h)
theorem adel_in {κ α : Type} [DecidableEq κ] {l : List (κ × α)} {k : κ} {x : κ × α} (h : x ∈ adel l k) : x ∈ l := by
  induction l with
  | nil => simp [adel] at h
  | cons y l ih =>
    obtain ⟨a, b⟩ := y
    simp only [adel] at h
    split at h
    · exact List.mem_cons_of_mem _ h
    · rcases List.mem_cons.1 h with h | h
      · rw [h]; exact List.mem_cons_self ..
      · exact List.mem_cons_of_mem _ (ih h)
theorem aput_end {κ α : Type} [DecidableEq κ] {l : List (κ × α)} {k : κ} {v : α} (h : k ∉ keysOf l) : aput l k v = l ++ [(k, v)] := by
  induction l with
  | nil => rfl
  | cons x l ih =>
    obtain ⟨a, b⟩ := x
    simp only [keysOf, List.map_cons, List.mem_cons, not_or] at h
    simp only [List.cons_append, aput]
    rw [if_neg (fun e => h.1 e.symm), ih h.2]

theorem Dk.okB.key (h : d.okB) (hi : i ∈ keysOf d.fs) : 1 ≤ i ∧ i ≤ d.files := h.ids.2 i hi
theorem Dk.okB.fresh (h : d.okB) : d.files + 1 ∉ keysOf d.fs := fun hm => by have := h.key hm; omega
theorem Dk.okB.fnd (h : d.okB) : (keysOf d.fs).Nodup := h.ids.1.imp fun h => Nat.ne_of_lt h
theorem Dk.okB.fl_some (h : d.okB) (hi : i ∈ keysOf d.fs) : aget d.fs i = some (d.fl i) := by
  obtain ⟨f, hf⟩ := aget_of_key hi
  simp [Dk.fl, hf]
theorem Dk.begin_same (d : Dk) : d.begin.2.room = d.room ∧ d.begin.2.names = d.names ∧ d.begin.2.kept = d.kept ∧ d.begin.2.changes = d.changes ∧ d.begin.2.files = d.files ∧ d.begin.2.fs = d.fs ∧ d.begin.2.calls = d.calls ∧ d.begin.2.armed ≤ d.armed := by
  unfold Dk.begin
  split
  · exact ⟨rfl, rfl, rfl, rfl, rfl, rfl, rfl, Nat.le_refl _⟩
  · split
    · exact ⟨rfl, rfl, rfl, rfl, rfl, rfl, rfl, Nat.le_refl _⟩
    · split
      · exact ⟨rfl, rfl, rfl, rfl, rfl, rfl, rfl, Nat.zero_le _⟩
      · exact ⟨rfl, rfl, rfl, rfl, rfl, rfl, rfl, Nat.sub_le _ _⟩
theorem Dk.begin_code (d : Dk) : d.begin.1 = 0 ∨ d.begin.1 = 110 := by
  unfold Dk.begin
  split
  · exact .inr rfl
  · split
    · exact .inl rfl
    · split
      · exact .inr rfl
      · exact .inl rfl
/-- What hangs together hangs on these alone. -/
theorem Dk.okB.same {e : Dk} (h : d.okB) (h1 : e.room = d.room) (h2 : e.names = d.names) (h3 : e.kept = d.kept) (h4 : e.changes = d.changes) (h5 : e.files = d.files) (h6 : e.fs = d.fs) : e.okB :=
  ⟨h1 ▸ h.room, by rw [h6, h5]; exact h.ids, by rw [h6]; exact h.fid, by rw [h2]; exact h.nnd, by rw [h3]; exact h.knd, by rw [h2, h6]; exact h.nin, by rw [h3, h6]; exact h.kin, by rw [h4, h6]; exact h.cin⟩
theorem Dk.okB.begin (h : d.okB) : d.begin.2.okB := by
  obtain ⟨h1, h2, h3, h4, h5, h6, _⟩ := d.begin_same
  exact h.same h1 h2 h3 h4 h5 h6
theorem Chg.app_nodup {c : Chg} {l : List (ByteArray × Nat)} (h : (keysOf l).Nodup) : (keysOf (c.app l)).Nodup := by
  have h1 : (keysOf (if c.gone = ByteArray.empty then l else adel l c.gone)).Nodup := by
    split
    · exact h
    · rw [keys_del h]; exact h.filter _
  unfold Chg.app
  cases c.f with
  | none => exact h1
  | some i => exact aput_nodup h1
theorem Chg.app_in {c : Chg} {l : List (ByteArray × Nat)} {S : Nat → Prop} (h : ∀ x ∈ l, S x.2) (hc : ∀ i, c.f = some i → S i) : ∀ x ∈ c.app l, S x.2 := by
  have h1 : ∀ x ∈ (if c.gone = ByteArray.empty then l else adel l c.gone), S x.2 := by
    split
    · exact h
    · exact fun x hx => h x (adel_in hx)
  intro x hx
  unfold Chg.app at hx
  cases hf : c.f with
  | none => rw [hf] at hx; exact h1 x hx
  | some i =>
    rw [hf] at hx
    rcases aput_in hx with e | hx
    · rw [e]; exact hc i hf
    · exact h1 x hx
theorem Dk.okB.change (h : d.okB) {c : Chg} (hc : ∀ i, c.f = some i → i ∈ keysOf d.fs) : (d.change c).okB :=
  ⟨h.room, h.ids, h.fid, Chg.app_nodup h.nnd, h.knd, Chg.app_in h.nin hc, h.kin, fun x hx i hi => by
    rcases List.mem_append.1 hx with hx | hx
    · exact h.cin x hx i hi
    · simp only [List.mem_cons, List.not_mem_nil, or_false] at hx; subst hx; exact hc i hi⟩
theorem Dk.okB.addF (h : d.okB) : ({ d with files := d.files + 1, fs := d.fs ++ [(d.files + 1, ⟨d.files + 1, [], 0⟩)] } : Dk).okB := by
  have hk : keysOf (d.fs ++ [(d.files + 1, (⟨d.files + 1, [], 0⟩ : Fl))]) = keysOf d.fs ++ [d.files + 1] := by simp [keysOf]
  refine ⟨h.room, ?_, fun i f hf => ?_, h.nnd, h.knd, fun x hx => ?_, fun x hx => ?_, fun c hc i hi => ?_⟩
  · show (keysOf (d.fs ++ _)).Pairwise _ ∧ ∀ i ∈ keysOf (d.fs ++ _), 1 ≤ i ∧ i ≤ d.files + 1
    rw [hk]
    refine ⟨List.pairwise_append.2 ⟨h.ids.1, by simp, fun a ha b hb => ?_⟩, fun i hi => ?_⟩
    · simp only [List.mem_cons, List.not_mem_nil, or_false] at hb
      have := h.key ha
      omega
    · rcases List.mem_append.1 hi with hi | hi
      · have := h.key hi; omega
      · simp only [List.mem_cons, List.not_mem_nil, or_false] at hi; omega
  · have hf : aget (d.fs ++ [(d.files + 1, (⟨d.files + 1, [], 0⟩ : Fl))]) i = some f := hf
    rw [← aput_end h.fresh] at hf
    by_cases e : i = d.files + 1
    · subst e; rw [aget_put_same] at hf; cases hf; exact ⟨rfl, Nat.le_refl _, by simp⟩
    · rw [aget_put_other _ _ e] at hf; exact h.fid i f hf
  · show _ ∈ keysOf (d.fs ++ _); rw [hk]; exact List.mem_append_left _ (h.nin x hx)
  · show _ ∈ keysOf (d.fs ++ _); rw [hk]; exact List.mem_append_left _ (h.kin x hx)
  · show _ ∈ keysOf (d.fs ++ _); rw [hk]; exact List.mem_append_left _ (h.cin c hc i hi)
theorem Dk.okB.setF (h : d.okB) (hi : i ∈ keysOf d.fs) {f : Fl} (hf : f.id = i ∧ f.syn ≤ f.b.length ∧ f.b.length ≤ 4194304) (k : Nat) : ({ d.setF i f with calls := k } : Dk).okB := by
  have hk : keysOf (aput d.fs i f) = keysOf d.fs := aput_keys hi
  refine ⟨h.room, by show (keysOf (aput d.fs i f)).Pairwise _ ∧ ∀ j ∈ keysOf (aput d.fs i f), _; rw [hk]; exact h.ids, fun j x hx => ?_, h.nnd, h.knd, fun x hx => by show _ ∈ keysOf (aput d.fs i f); rw [hk]; exact h.nin x hx, fun x hx => by show _ ∈ keysOf (aput d.fs i f); rw [hk]; exact h.kin x hx, fun c hc j hj => by show _ ∈ keysOf (aput d.fs i f); rw [hk]; exact h.cin c hc j hj⟩
  have hx : aget (aput d.fs i f) j = some x := hx
  by_cases e : j = i
  · subst e; rw [aget_put_same] at hx; cases hx; exact hf
  · rw [aget_put_other _ _ e] at hx; exact h.fid j x hx
theorem sum_mem {α : Type} (f : α → Nat) : ∀ {l : List α} {x : α}, x ∈ l → f x ≤ (l.map f).sum
  | y :: l, x, h => by
    simp only [List.map_cons, List.sum_cons]
    rcases List.mem_cons.1 h with rfl | h
    · omega
    · have := sum_mem f h; omega
theorem Dk.len_used (h : aget d.names n = some i) : d.len i ≤ d.used := sum_mem (fun x : ByteArray × Nat => d.len x.2) (aget_mem h)
theorem Dk.okB.len_eq (h : d.okB) (hi : i ∈ keysOf d.fs) : d.len i = (d.fl i).b.length := by unfold Dk.len; rw [h.fl_some hi]; rfl
/-- What find tells. -/
theorem Dk.find_some {c : Nat} {d1 : Dk} (h : d.find n = (c, some i, d1)) : c = 0 ∧ d.begin = (0, d1) ∧ d1.down = false ∧ aget d1.names n = some i := by
  unfold Dk.find at h
  split at h
  · rename_i h0
    have hb : d.begin = (0, d.begin.2) := by rw [← h0]
    simp only [Prod.mk.injEq] at h
    obtain ⟨h1, h2, rfl⟩ := h
    unfold Dk.file at h1 h2
    cases hd : d.begin.2.down with
    | true => rw [hd] at h2; simp at h2
    | false =>
      rw [hd] at h1 h2
      simp only [Bool.false_eq_true, if_false] at h1 h2
      cases ha : aget d.begin.2.names n with
      | none => rw [ha] at h2; simp at h2
      | some j =>
        rw [ha] at h1 h2
        simp only [Option.some.injEq] at h2
        subst h2
        exact ⟨h1.symm, hb, rfl, rfl⟩
  · simp at h
theorem adel_len {κ α : Type} [DecidableEq κ] (l : List (κ × α)) (k : κ) : (adel l k).length ≤ l.length := by
  induction l with
  | nil => simp [adel]
  | cons x l ih =>
    obtain ⟨a, b⟩ := x
    simp only [adel]
    split
    · simp
    · simpa using ih
theorem adel_shrink {κ α : Type} [DecidableEq κ] : ∀ {l : List (κ × α)} {k : κ} {v : α}, aget l k = some v → (adel l k).length < l.length
  | (a, b) :: l, k, v, h => by
    simp only [aget] at h
    simp only [adel]
    split at h
    · rename_i e; rw [if_pos e]; simp
    · rename_i e; rw [if_neg e]; have := adel_shrink h; simpa using this
theorem aput_len {κ α : Type} [DecidableEq κ] (l : List (κ × α)) (k : κ) (v : α) : (aput l k v).length ≤ l.length + 1 := by
  induction l with
  | nil => simp [aput]
  | cons x l ih =>
    obtain ⟨a, b⟩ := x
    simp only [aput]
    split
    · simp
    · simpa using ih
theorem Chg.app_len (c : Chg) (l : List (ByteArray × Nat)) : (c.app l).length ≤ l.length + 1 := by
  have h1 : (if c.gone = ByteArray.empty then l else adel l c.gone).length ≤ l.length := by
    split
    · exact Nat.le_refl _
    · exact adel_len _ _
  unfold Chg.app
  cases c.f with
  | none => exact Nat.le_succ_of_le h1
  | some i => exact Nat.le_trans (aput_len _ _ _) (by omega)
theorem Dk.ok.begin (h : d.ok) : d.begin.2.ok := by
  obtain ⟨h1, h2, h3, h4, h5, h6, h7, h8⟩ := d.begin_same
  exact ⟨h.tookB.begin, by rw [h5, h7]; exact h.fcl, by rw [h2, h7]; exact h.nl, by rw [h3, h4, h7]; exact h.kl, by have := h.al; omega⟩
theorem Dk.ok.change (h : d.ok) {c : Chg} (hc : ∀ i, c.f = some i → i ∈ keysOf d.fs) : (d.change c).ok := by
  have h1 := c.app_len d.names
  have h2 := h.fcl
  have h3 := h.nl
  have h4 := h.kl
  refine ⟨h.tookB.change hc, ?_, ?_, ?_, h.al⟩
  · show d.files ≤ d.calls + 1; omega
  · show (c.app d.names).length ≤ d.calls + 1; omega
  · show d.kept.length + (d.changes ++ [c]).length ≤ d.calls + 1; simp; omega
/-- With a new file. -/
def Dk.addF (d : Dk) : Dk := { d with files := d.files + 1, fs := d.fs ++ [(d.files + 1, ⟨d.files + 1, [], 0⟩)] }
theorem Dk.ok.create (h : d.ok) {c : Chg} (hc : ∀ i, c.f = some i → i = d.files + 1) : (d.addF.change c).ok := by
  have h1 := c.app_len d.names
  have h2 := h.fcl
  have h3 := h.nl
  have h4 := h.kl
  refine ⟨h.tookB.addF.change fun i hi => ?_, ?_, ?_, ?_, h.al⟩
  · rw [hc i hi]; simp [keysOf]
  · show d.files + 1 ≤ d.calls + 1; omega
  · show (c.app d.names).length ≤ d.calls + 1; omega
  · show d.kept.length + (d.changes ++ [c]).length ≤ d.calls + 1; simp; omega
theorem Dk.ok.setF (h : d.ok) (hi : i ∈ keysOf d.fs) {f : Fl} (hf : f.id = i ∧ f.syn ≤ f.b.length ∧ f.b.length ≤ 4194304) : ({ d.setF i f with calls := d.calls + 1 } : Dk).ok := by
  have h2 := h.fcl
  have h3 := h.nl
  have h4 := h.kl
  refine ⟨h.tookB.setF hi hf _, ?_, ?_, ?_, h.al⟩
  · show d.files ≤ d.calls + 1; omega
  · show d.names.length ≤ d.calls + 1; omega
  · show d.kept.length + d.changes.length ≤ d.calls + 1; omega
theorem Dk.ok.syncDir (h : d.ok) : ({ d with kept := d.names, changes := [], calls := d.calls + 1 } : Dk).ok := by
  have h2 := h.fcl
  have h3 := h.nl
  refine ⟨⟨h.room, h.ids, h.fid, h.nnd, h.nnd, h.nin, h.nin, fun c hc => by simp at hc⟩, ?_, ?_, ?_, h.al⟩
  · show d.files ≤ d.calls + 1; omega
  · show d.names.length ≤ d.calls + 1; omega
  · show d.names.length + 0 ≤ d.calls + 1; omega
/-- What find leaves. -/
theorem Dk.find_dk {c : Nat} {o : Option Nat} {d1 : Dk} (h : d.find n = (c, o, d1)) : d1 = d.begin.2 := by
  unfold Dk.find at h
  split at h <;> (simp only [Prod.mk.injEq] at h; exact h.2.2.symm)
theorem Dk.ok.find (h : d.ok) {c : Nat} {o : Option Nat} {d1 : Dk} (hf : d.find n = (c, o, d1)) : d1.ok := Dk.find_dk hf ▸ h.begin
theorem Dk.okB.named (h : d.okB) (hn : aget d.names n = some i) : i ∈ keysOf d.fs := h.nin _ (aget_mem hn)
theorem Dk.used_le (h : d.ok) : d.used ≤ d.calls * 4194304 := by
  have : ∀ l : List (ByteArray × Nat), (∀ x ∈ l, x.2 ∈ keysOf d.fs) → (l.map fun x => d.len x.2).sum ≤ l.length * 4194304 := by
    intro l
    induction l with
    | nil => intro _; simp
    | cons x l ih =>
      intro hl
      have h1 := ih fun y hy => hl y (List.mem_cons_of_mem _ hy)
      have hx := hl x (List.mem_cons_self ..)
      have h2 := h.tookB.len_eq hx
      have h3 := (h.fid _ _ (h.tookB.fl_some hx)).2.2
      simp only [List.map_cons, List.sum_cons, List.length_cons]
      omega
  have h1 := this d.names h.nin
  exact Nat.le_trans h1 (Nat.mul_le_mul_right _ h.nl)
end Go.Proofs.YtmnfehbnjgmgjaaDoor
namespace Go.Proofs.YtmnfehbnjgmgjaaDoor
set_option linter.all false
open Go.RowKit
variable {d : Dk} {picks : List Int} {n i k : Nat}

theorem pickN_le (picks : List Int) (k n : Nat) : pickN picks k n ≤ n := by
  unfold pickN
  cases picks[k]? with
  | none => exact Nat.zero_le _
  | some x =>
    have h1 := Int.emod_nonneg x (b := (n : Int) + 1) (by omega)
    have h2 := Int.emod_lt_of_pos x (b := (n : Int) + 1) (by omega)
    show (x % ((n : Int) + 1)).toNat ≤ n
    omega
theorem applyAll_take {l : List (ByteArray × Nat)} {cs : List Chg} {c : Chg} (h : cs[k]? = some c) : applyAll l (cs.take (k + 1)) = c.app (applyAll l (cs.take k)) := by
  rw [List.take_add_one, h]
  simp [applyAll, List.foldl_append]
theorem applyAll_props {cs : List Chg} {S : Nat → Prop} : ∀ {l : List (ByteArray × Nat)}, (keysOf l).Nodup → (∀ x ∈ l, S x.2) → (∀ c ∈ cs, ∀ i, c.f = some i → S i) → (keysOf (applyAll l cs)).Nodup ∧ (∀ x ∈ applyAll l cs, S x.2) ∧ (applyAll l cs).length ≤ l.length + cs.length := by
  induction cs with
  | nil => exact fun h1 h2 _ => ⟨h1, h2, Nat.le_refl _⟩
  | cons c cs ih =>
    intro l h1 h2 h3
    have h4 := ih (l := c.app l) (Chg.app_nodup h1) (Chg.app_in h2 (h3 c (List.mem_cons_self ..))) fun c' hc => h3 c' (List.mem_cons_of_mem _ hc)
    have h5 := c.app_len l
    refine ⟨h4.1, h4.2.1, ?_⟩
    have h6 := h4.2.2
    simp only [applyAll, List.foldl_cons, List.length_cons] at h6 ⊢
    omega

/-! ### the files that are kept -/
theorem Dk.okB.keys_rise (h : d.okB) : (keysOf d.fs).Pairwise (· < ·) := h.ids.1
theorem keptIds_mem {fs : List (Nat × Fl)} {kept : List (ByteArray × Nat)} : i ∈ keptIds fs kept ↔ i ∈ keysOf fs ∧ i ∈ kept.map (·.2) := by simp [keptIds]
/-- Numbers in order, each once, are the kept ones. -/
theorem ids_eq (h : d.okB) {kept : List (ByteArray × Nat)} (hk : ∀ x ∈ kept, x.2 ∈ keysOf d.fs) {ids ids' : List Nat} (hp : ids'.Perm ids) (hs : ids'.Pairwise (· ≤ ·)) (hn : ids.Nodup) (hm : ∀ i, i ∈ ids ↔ i ∈ kept.map (·.2)) : ids' = keptIds d.fs kept := by
  have h1 : (keptIds d.fs kept).Pairwise (· < ·) := h.keys_rise.filter _
  have h2 : ids.Perm (keptIds d.fs kept) := (List.perm_ext_iff_of_nodup hn (h1.imp fun h => Nat.ne_of_lt h)).2 fun i => by
    rw [keptIds_mem, hm]
    constructor
    · intro hi
      obtain ⟨x, hx, rfl⟩ := List.mem_map.1 hi
      exact ⟨hk x hx, hi⟩
    · exact fun h => h.2
  exact (hp.trans h2).eq_of_pairwise (fun a b _ _ h1 h2 => Nat.le_antisymm h1 h2) hs (h1.imp fun h => Nat.le_of_lt h)

/-! ### what is cut off -/
def crashStep (picks : List Int) (k i : Nat) (fs : List (Nat × Fl)) : List (Nat × Fl) := match aget fs i with | some f => aput fs i (f.crashed picks k) | none => fs
theorem crashFs_snoc (i : Nat) : ∀ (l : List Nat) (k : Nat) (fs : List (Nat × Fl)), crashFs picks k (l ++ [i]) fs = crashStep picks (k + l.length) i (crashFs picks k l fs)
  | [], k, fs => rfl
  | j :: l, k, fs => by
    simp only [List.cons_append, crashFs, List.length_cons]
    rw [crashFs_snoc i l (k + 1), show k + 1 + l.length = k + (l.length + 1) by omega]
theorem crashFs_keys : ∀ (l : List Nat) (k : Nat) (fs : List (Nat × Fl)), keysOf (crashFs picks k l fs) = keysOf fs
  | [], _, _ => rfl
  | j :: l, k, fs => by
    simp only [crashFs]
    rw [crashFs_keys l]
    cases h : aget fs j with
    | none => rfl
    | some f => exact aput_keys (aget_keys h)
theorem crashFs_other : ∀ (l : List Nat) (k : Nat) (fs : List (Nat × Fl)), i ∉ l → aget (crashFs picks k l fs) i = aget fs i
  | [], _, _, _ => rfl
  | j :: l, k, fs, h => by
    simp only [List.mem_cons, not_or] at h
    simp only [crashFs]
    rw [crashFs_other l _ _ h.2]
    cases hj : aget fs j with
    | none => rfl
    | some f => exact aget_put_other _ _ h.1
theorem crashFs_at : ∀ (l : List Nat) (k : Nat) (fs : List (Nat × Fl)) {q : Nat} {f : Fl}, l.Nodup → l[q]? = some i → aget fs i = some f → aget (crashFs picks k l fs) i = some (f.crashed picks (k + q))
  | [], _, _, _, _, _, h, _ => by simp at h
  | j :: l, k, fs, 0, f, hn, h, hf => by
    simp only [List.getElem?_cons_zero, Option.some.injEq] at h
    subst h
    simp only [crashFs, hf]
    rw [crashFs_other l _ _ (List.nodup_cons.1 hn).1, aget_put_same]
    rfl
  | j :: l, k, fs, q + 1, f, hn, h, hf => by
    simp only [List.getElem?_cons_succ] at h
    have hne : i ≠ j := fun e => (List.nodup_cons.1 hn).1 (e ▸ List.mem_of_getElem? h)
    simp only [crashFs]
    rw [show k + (q + 1) = k + 1 + q by omega]
    refine crashFs_at l (k + 1) _ (List.nodup_cons.1 hn).2 h ?_
    cases hj : aget fs j with
    | none => exact hf
    | some f' => rw [← hf]; exact aget_put_other _ _ hne
theorem Fl.crashed_fine {f : Fl} (h : f.syn ≤ f.b.length) (picks : List Int) (k : Nat) : (f.crashed picks k).id = f.id ∧ (f.crashed picks k).syn ≤ (f.crashed picks k).b.length ∧ (f.crashed picks k).b.length ≤ f.b.length := by
  refine ⟨rfl, Nat.le_refl _, ?_⟩
  show (f.b.take _).length ≤ _
  simp
  omega
theorem crashFs_fine {P : Nat → Fl → Prop} (hP : ∀ i f picks k, P i f → P i (f.crashed picks k)) : ∀ (l : List Nat) (k : Nat) (fs : List (Nat × Fl)), (∀ i f, aget fs i = some f → P i f) → ∀ i f, aget (crashFs picks k l fs) i = some f → P i f
  | [], _, _, h => h
  | j :: l, k, fs, h => by
    refine crashFs_fine hP l _ _ fun i f hf => ?_
    cases hj : aget fs j with
    | none => simp only [hj] at hf; exact h i f hf
    | some f' =>
      simp only [hj] at hf
      by_cases e : i = j
      · subst e; rw [aget_put_same] at hf; cases hf; exact hP _ _ _ _ (h _ _ hj)
      · rw [aget_put_other _ _ e] at hf; exact h i f hf
theorem Dk.ok.crash (h : d.ok) (picks : List Int) : (d.crash picks).ok := by
  have h1 := applyAll_props (cs := d.changes.take (pickN picks 0 d.changes.length)) (l := d.kept) (S := fun i => i ∈ keysOf d.fs) h.knd h.kin fun c hc i hi => h.cin c (List.mem_of_mem_take hc) i hi
  have h2 := h.kl
  have h3 := h.fcl
  have h4 : (d.changes.take (pickN picks 0 d.changes.length)).length ≤ d.changes.length := by simp; omega
  have h5 := h1.2.2
  refine ⟨⟨h.room, ?_, ?_, h1.1, h1.1, ?_, ?_, ?_⟩, h3, ?_, ?_, Nat.zero_le _⟩
  · show (keysOf (crashFs _ _ _ _)).Pairwise _ ∧ ∀ i ∈ keysOf (crashFs _ _ _ _), _; rw [crashFs_keys]; exact h.ids
  · exact crashFs_fine (P := fun i f => f.id = i ∧ f.syn ≤ f.b.length ∧ f.b.length ≤ 4194304) (fun i f picks k hf => by
      have := Fl.crashed_fine hf.2.1 picks k
      exact ⟨this.1.trans hf.1, this.2.1, Nat.le_trans this.2.2 hf.2.2⟩) _ _ _ h.fid
  · intro x hx; show _ ∈ keysOf (crashFs _ _ _ _); rw [crashFs_keys]; exact h1.2.1 x hx
  · intro x hx; show _ ∈ keysOf (crashFs _ _ _ _); rw [crashFs_keys]; exact h1.2.1 x hx
  · intro c hc; simp [Dk.crash] at hc
  · show (applyAll _ _).length ≤ d.calls; omega
  · show (applyAll _ _).length + 0 ≤ d.calls; omega
end Go.Proofs.YtmnfehbnjgmgjaaDoor
namespace Go.Proofs.YtmnfehbnjgmgjaaDoor
set_option linter.all false
open Go.RowKit
variable {d : Dk} {n m : ByteArray} {i : Nat} {b : List UInt8}

theorem Dk.begin_up (h1 : d.down = false) (h2 : d.armed = 0) : d.begin = (0, d) := by simp [Dk.begin, h1, h2]
theorem Dk.find_up (h1 : d.down = false) (h2 : d.armed = 0) (hn : aget d.names n = some i) : d.find n = (0, some i, d) := by simp [Dk.find, Dk.begin_up h1 h2, Dk.file, h1, hn]
theorem Dk.find_none (h1 : d.down = false) (h2 : d.armed = 0) (hn : aget d.names n = none) : d.find n = (107, none, d) := by simp [Dk.find, Dk.begin_up h1 h2, Dk.file, h1, hn]
theorem Dk.append_up (h1 : d.down = false) (h2 : d.armed = 0) (hn : aget d.names n = some i) (hr : d.used + b.length ≤ d.room) : d.append n b = (0, { d.setF i { d.fl i with b := (d.fl i).b ++ b } with calls := d.calls + 1 }) := by
  simp only [Dk.append, Dk.find_up h1 h2 hn]
  rw [if_neg (by omega)]
theorem Dk.append_full (h1 : d.down = false) (h2 : d.armed = 0) (hn : aget d.names n = some i) (hr : d.room < d.used + b.length) : d.append n b = (109, d) := by
  simp only [Dk.append, Dk.find_up h1 h2 hn]
  rw [if_pos hr]
theorem Dk.sync_up (h1 : d.down = false) (h2 : d.armed = 0) (hn : aget d.names n = some i) : d.sync n = (0, { d.setF i { d.fl i with syn := (d.fl i).b.length } with calls := d.calls + 1 }) := by simp only [Dk.sync, Dk.find_up h1 h2 hn]
theorem Dk.create_up (h1 : d.down = false) (h2 : d.armed = 0) (hv : validB n.data.toList = true) (hn : aget d.names n = none) : d.create n = (0, ({ d with files := d.files + 1, fs := d.fs ++ [(d.files + 1, ⟨d.files + 1, [], 0⟩)] } : Dk).change ⟨n, ByteArray.empty, some (d.files + 1)⟩) := by simp [Dk.create, Dk.begin_up h1 h2, hv, hn]
theorem Dk.remove_up (h1 : d.down = false) (h2 : d.armed = 0) (hn : aget d.names n = some i) : d.remove n = (0, d.change ⟨ByteArray.empty, n, none⟩) := by simp only [Dk.remove, Dk.find_up h1 h2 hn]
theorem Dk.rename_up (h1 : d.down = false) (h2 : d.armed = 0) (hn : aget d.names n = some i) (hv : validB m.data.toList = true) : d.rename n m = (0, d.change ⟨m, if n = m then ByteArray.empty else n, some i⟩) := by
  simp only [Dk.rename, Dk.find_up h1 h2 hn]
  rw [if_neg (by simp [hv])]
theorem Dk.syncDir_up (h1 : d.down = false) (h2 : d.armed = 0) : d.syncDir = (0, { d with kept := d.names, changes := [], calls := d.calls + 1 }) := by simp [Dk.syncDir, Dk.begin_up h1 h2]
end Go.Proofs.YtmnfehbnjgmgjaaDoor
