/- What a Write of what is kept aside leaves, in plain words; whatever the power does. -/
import Derived.Test.YtmnfehbnjgmgjaaDoorPq
import Derived.Test.YtmnfehbnjgmgjaaDoorZd
namespace Go.Proofs.YtmnfehbnjgmgjaaDoor
set_option linter.all false
open Go.RowKit
variable {d : Dk} {s t : ByteArray} {b : List UInt8}

/-- The disk d with other names, changes, files. -/
abbrev pw (d : Dk) (l : List (ByteArray × Nat)) (ch : List Chg) (n : Nat) (fs : List (Nat × Fl)) (a : Nat) (dn : Bool) (c : Nat) : Dk := ⟨d.room, l, d.kept, ch, n, a, dn, c, fs⟩
theorem pw_begin {l : List (ByteArray × Nat)} {ch : List Chg} {n : Nat} {fs : List (Nat × Fl)} {a c : Nat} : (pw d l ch n fs a false c).begin = if a = 1 then (110, pw d l ch n fs 0 true c) else (0, pw d l ch n fs (a - 1) false c) := by
  unfold Dk.begin
  by_cases h0 : a = 0
  · subst h0; rfl
  · by_cases h1 : a = 1
    · subst h1; rfl
    · simp [h0, h1]
theorem pw_find {l : List (ByteArray × Nat)} {ch : List Chg} {n : Nat} {fs : List (Nat × Fl)} {a c i : Nat} {m : ByteArray} (hm : aget l m = some i) : (pw d l ch n fs a false c).find m = if a = 1 then (110, none, pw d l ch n fs 0 true c) else (0, some i, pw d l ch n fs (a - 1) false c) := by
  unfold Dk.find
  rw [pw_begin]
  by_cases h1 : a = 1
  · simp [h1]
  · simp [h1, Dk.file, hm]
theorem adel_none {κ α : Type} [DecidableEq κ] : ∀ {l : List (κ × α)} {k : κ}, aget l k = none → adel l k = l
  | [], _, _ => rfl
  | (a, b) :: l, k, h => by
    simp only [aget] at h
    split at h
    · cases h
    · rename_i e
      simp only [adel]
      rw [if_neg e, adel_none h]
abbrev rmC (t : ByteArray) : Chg := ⟨ByteArray.empty, t, none⟩
abbrev crC (t : ByteArray) (j : Nat) : Chg := ⟨t, ByteArray.empty, some j⟩
abbrev rnC (s t : ByteArray) (j : Nat) : Chg := ⟨s, t, some j⟩
theorem newN_ne (s : ByteArray) : newN s ≠ s := fun e => by
  have := congrArg (fun x : ByteArray => x.size) e
  simp only [newN, ByteArray.size_append] at this
  have h4 : (⟨#[46, 110, 101, 119]⟩ : ByteArray).size = 4 := rfl
  omega
theorem newN_some (s : ByteArray) : newN s ≠ ByteArray.empty := fun e => by
  have := congrArg (fun x : ByteArray => x.size) e
  simp only [newN, ByteArray.size_append] at this
  have h4 : (⟨#[46, 110, 101, 119]⟩ : ByteArray).size = 4 := rfl
  have h0 : ByteArray.empty.size = 0 := rfl
  omega
/-- Names without the one beside. -/
def wl (s : ByteArray) (d : Dk) : List (ByteArray × Nat) := adel d.names (newN s)
def wc (s : ByteArray) (d : Dk) : List Chg := d.changes ++ (if (aget d.names (newN s)).isSome then [rmC (newN s)] else [])
structure UpD (d : Dk) : Prop where
  ok : d.ok
  up : d.down = false
structure Calm (d : Dk) : Prop extends UpD d where
  kept : d.names = d.kept
  still : d.changes = []
theorem UpD.fresh (h : UpD d) : newN s ∉ keysOf (wl s d) := by
  rw [wl, keys_del h.ok.nnd]
  simp
theorem UpD.key (h : UpD d) : d.files + 1 ∉ keysOf d.fs := h.ok.fresh
theorem UpD.form (h : UpD d) : d = pw d d.names d.changes d.files d.fs d.armed false d.calls := by
  have h1 := h.up
  obtain ⟨room, names, kept, changes, files, armed, down, calls, fs⟩ := d
  simp only at h1
  subst h1
  rfl
section
variable (h : UpD d) {a c : Nat}
include h
theorem UpD.st0 : (pw d d.names d.changes d.files d.fs a false c).wstep s b 0 = if (aget d.names (newN s)).isSome = true ∧ a = 1 then (110, pw d d.names d.changes d.files d.fs 0 true c) else (0, pw d (wl s d) (wc s d) d.files d.fs (if (aget d.names (newN s)).isSome then a - 1 else a) false (if (aget d.names (newN s)).isSome then c + 1 else c)) := by
  cases hn : aget d.names (newN s) with
  | none =>
    have h1 : (pw d d.names d.changes d.files d.fs a false c).lenR (newN s) = (107, 0) := by simp [Dk.lenR, Dk.file, hn]
    simp only [Dk.wstep, h1, wl, wc, hn, adel_none hn]
    simp
  | some i =>
    obtain ⟨m, h1⟩ : ∃ m, (pw d d.names d.changes d.files d.fs a false c).lenR (newN s) = (0, m) := ⟨_, by simp only [Dk.lenR, Dk.file, hn]; rfl⟩
    simp only [Dk.wstep, h1, Dk.remove, pw_find hn]
    by_cases ha : a = 1
    · simp [ha]
    · simp [ha, wl, wc, hn, Dk.change, Chg.app, newN_some]
theorem UpD.st1 (hv : validB (newN s).data.toList = true) : (pw d (wl s d) (wc s d) d.files d.fs a false c).wstep s b 1 = if a = 1 then (110, pw d (wl s d) (wc s d) d.files d.fs 0 true c) else (0, pw d (wl s d ++ [(newN s, d.files + 1)]) (wc s d ++ [crC (newN s) (d.files + 1)]) (d.files + 1) (d.fs ++ [(d.files + 1, ⟨d.files + 1, [], 0⟩)]) (a - 1) false (c + 1)) := by
  have hf := (aget_none_iff _ _).2 (h.fresh (s := s))
  simp only [Dk.wstep, Dk.create, pw_begin]
  by_cases ha : a = 1
  · simp [ha]
  · simp only [if_neg ha, hv, hf, Dk.change, Chg.app]
    simp
    exact aput_end h.fresh
theorem UpD.st2 (hr : useL d.fs (wl s d) + (b.length + 4) ≤ d.room) : (pw d (wl s d ++ [(newN s, d.files + 1)]) (wc s d ++ [crC (newN s) (d.files + 1)]) (d.files + 1) (d.fs ++ [(d.files + 1, ⟨d.files + 1, [], 0⟩)]) a false c).wstep s b 2 = if a = 1 then (110, pw d (wl s d ++ [(newN s, d.files + 1)]) (wc s d ++ [crC (newN s) (d.files + 1)]) (d.files + 1) (d.fs ++ [(d.files + 1, ⟨d.files + 1, [], 0⟩)]) 0 true c) else (0, pw d (wl s d ++ [(newN s, d.files + 1)]) (wc s d ++ [crC (newN s) (d.files + 1)]) (d.files + 1) (d.fs ++ [(d.files + 1, ⟨d.files + 1, sealL b, 0⟩)]) (a - 1) false (c + 1)) := by
  have hf : aget (wl s d ++ [(newN s, d.files + 1)]) (newN s) = some (d.files + 1) := aget_app_new h.fresh
  have hin : ∀ x ∈ wl s d, x.2 ∈ keysOf d.fs := fun x hx => h.ok.nin x (adel_in hx)
  simp only [Dk.wstep, Dk.append, pw_find hf]
  by_cases ha : a = 1
  · simp [ha]
  · simp only [if_neg ha]
    have hu : ∀ a c, (pw d (wl s d ++ [(newN s, d.files + 1)]) (wc s d ++ [crC (newN s) (d.files + 1)]) (d.files + 1) (d.fs ++ [(d.files + 1, ⟨d.files + 1, [], 0⟩)]) a false c).used = useL d.fs (wl s d) := fun a c => (useL_snoc _ h.key hin).trans (by simp)
    rw [if_neg (by rw [hu, sealL_len]; show ¬ (d.room < _); omega)]
    have hfl : ∀ a c, (pw d (wl s d ++ [(newN s, d.files + 1)]) (wc s d ++ [crC (newN s) (d.files + 1)]) (d.files + 1) (d.fs ++ [(d.files + 1, ⟨d.files + 1, [], 0⟩)]) a false c).fl (d.files + 1) = ⟨d.files + 1, [], 0⟩ := fun a c => by simp [Dk.fl, aget_app_new h.key]
    rw [hfl]
    simp [Dk.setF, aput_app_new h.key]
theorem UpD.st2full (hr : d.room < useL d.fs (wl s d) + (b.length + 4)) : (pw d (wl s d ++ [(newN s, d.files + 1)]) (wc s d ++ [crC (newN s) (d.files + 1)]) (d.files + 1) (d.fs ++ [(d.files + 1, ⟨d.files + 1, [], 0⟩)]) 0 false c).wstep s b 2 = (109, pw d (wl s d ++ [(newN s, d.files + 1)]) (wc s d ++ [crC (newN s) (d.files + 1)]) (d.files + 1) (d.fs ++ [(d.files + 1, ⟨d.files + 1, [], 0⟩)]) 0 false c) := by
  have hf : aget (wl s d ++ [(newN s, d.files + 1)]) (newN s) = some (d.files + 1) := aget_app_new h.fresh
  have hin : ∀ x ∈ wl s d, x.2 ∈ keysOf d.fs := fun x hx => h.ok.nin x (adel_in hx)
  simp only [Dk.wstep, Dk.append, pw_find hf]
  have hu : ∀ a c, (pw d (wl s d ++ [(newN s, d.files + 1)]) (wc s d ++ [crC (newN s) (d.files + 1)]) (d.files + 1) (d.fs ++ [(d.files + 1, ⟨d.files + 1, [], 0⟩)]) a false c).used = useL d.fs (wl s d) := fun a c => (useL_snoc _ h.key hin).trans (by simp)
  rw [if_neg (by decide)]
  simp only
  rw [if_pos (by rw [hu, sealL_len]; show d.room < _; omega)]
theorem UpD.st3 : (pw d (wl s d ++ [(newN s, d.files + 1)]) (wc s d ++ [crC (newN s) (d.files + 1)]) (d.files + 1) (d.fs ++ [(d.files + 1, ⟨d.files + 1, sealL b, 0⟩)]) a false c).wstep s b 3 = if a = 1 then (110, pw d (wl s d ++ [(newN s, d.files + 1)]) (wc s d ++ [crC (newN s) (d.files + 1)]) (d.files + 1) (d.fs ++ [(d.files + 1, ⟨d.files + 1, sealL b, 0⟩)]) 0 true c) else (0, pw d (wl s d ++ [(newN s, d.files + 1)]) (wc s d ++ [crC (newN s) (d.files + 1)]) (d.files + 1) (d.fs ++ [(d.files + 1, ⟨d.files + 1, sealL b, (sealL b).length⟩)]) (a - 1) false (c + 1)) := by
  have hf : aget (wl s d ++ [(newN s, d.files + 1)]) (newN s) = some (d.files + 1) := aget_app_new h.fresh
  simp only [Dk.wstep, Dk.sync, pw_find hf]
  by_cases ha : a = 1
  · simp [ha]
  · simp only [if_neg ha]
    have hfl : ∀ a c, (pw d (wl s d ++ [(newN s, d.files + 1)]) (wc s d ++ [crC (newN s) (d.files + 1)]) (d.files + 1) (d.fs ++ [(d.files + 1, ⟨d.files + 1, sealL b, 0⟩)]) a false c).fl (d.files + 1) = ⟨d.files + 1, sealL b, 0⟩ := fun a c => by simp [Dk.fl, aget_app_new h.key]
    rw [hfl]
    simp [Dk.setF, aput_app_new h.key]
theorem UpD.st4 {fs : List (Nat × Fl)} (hv : validB s.data.toList = true) : (pw d (wl s d ++ [(newN s, d.files + 1)]) (wc s d ++ [crC (newN s) (d.files + 1)]) (d.files + 1) fs a false c).wstep s b 4 = if a = 1 then (110, pw d (wl s d ++ [(newN s, d.files + 1)]) (wc s d ++ [crC (newN s) (d.files + 1)]) (d.files + 1) fs 0 true c) else (0, pw d (aput (wl s d) s (d.files + 1)) (wc s d ++ [crC (newN s) (d.files + 1)] ++ [rnC s (newN s) (d.files + 1)]) (d.files + 1) fs (a - 1) false (c + 1)) := by
  have hf : aget (wl s d ++ [(newN s, d.files + 1)]) (newN s) = some (d.files + 1) := aget_app_new h.fresh
  simp only [Dk.wstep, Dk.rename, pw_find hf]
  by_cases ha : a = 1
  · simp [ha]
  · simp only [if_neg ha]
    rw [if_neg (by simp [hv]), if_neg (newN_ne s)]
    simp only [Dk.change, Chg.app, if_neg (newN_some s), adel_app_new h.fresh]
end
theorem pw_st5 {l : List (ByteArray × Nat)} {ch : List Chg} {n : Nat} {fs : List (Nat × Fl)} {a c : Nat} : (pw d l ch n fs a false c).wstep s b 5 = if a = 1 then (110, pw d l ch n fs 0 true c) else (0, ⟨d.room, l, l, [], n, a - 1, false, c + 1, fs⟩) := by
  simp only [Dk.wstep, Dk.syncDir, pw_begin]
  by_cases ha : a = 1
  · simp [ha]
  · simp [ha]

/-- What the power may have left of a Write: the names that were synced, changes that touch two names alone; the file that is to be is whole once it takes the name. -/
structure Mid (d : Dk) (s : ByteArray) (b : List UInt8) (e : Dk) : Prop where
  len : ∀ i F, aget e.fs i = some F → aget d.fs i = some F ∨ F.b.length ≤ b.length + 4
  room : e.room = d.room
  kept : e.kept = d.kept
  old : ∀ i F, aget d.fs i = some F → aget e.fs i = some F
  chs : ∀ c ∈ e.changes, c ∈ d.changes ∨ c = rmC (newN s) ∨ c = crC (newN s) (d.files + 1) ∨ c = rnC s (newN s) (d.files + 1) ∧ aget e.fs (d.files + 1) = some ⟨d.files + 1, sealL b, (sealL b).length⟩
/-- What a Write that is done leaves. -/
structure Done (d : Dk) (s : ByteArray) (b : List UInt8) (e : Dk) : Prop where
  room : e.room = d.room
  up : e.down = false
  kept : e.names = e.kept
  still : e.changes = []
  names : e.names = aput (wl s d) s (d.files + 1)
  old : ∀ i F, aget d.fs i = some F → aget e.fs i = some F
  new : aget e.fs (d.files + 1) = some ⟨d.files + 1, sealL b, (sealL b).length⟩
  arm : d.armed = 0 → e.armed = 0
  fs : e.fs = d.fs ++ [(d.files + 1, ⟨d.files + 1, sealL b, (sealL b).length⟩)]
theorem Dk.wrun_succ (f k : Nat) (d : Dk) : Dk.wrun s b (f + 1) k d = if (d.wstep s b k).1 = 0 then Dk.wrun s b f (k + 1) (d.wstep s b k).2 else d.wstep s b k := rfl
theorem wrun_step {f k : Nat} {e e1 e2 : Dk} {a : Nat} {p : Prop} [Decidable p] (hst : e.wstep s b k = if p then (110, e1) else (0, e2)) : Dk.wrun s b (f + 1) k e = if p then (110, e1) else Dk.wrun s b f (k + 1) e2 := by
  rw [Dk.wrun_succ, hst]
  by_cases hp : p
  · simp [hp]
  · simp [hp]
theorem UpD.write (h : UpD d) (hv : validB s.data.toList = true) (hv2 : validB (newN s).data.toList = true) (hr : useL d.fs (wl s d) + (b.length + 4) ≤ d.room) :
    ∃ k e, d.write s b = (k, e) ∧ (k = 0 ∧ Done d s b e ∨ k = 110 ∧ e.down = true ∧ d.armed ≠ 0 ∧ Mid d s b e) := by
  have hw : d.write s b = Dk.wrun s b 6 0 (pw d d.names d.changes d.files d.fs d.armed false d.calls) := by
    unfold Dk.write
    rw [if_pos ⟨hv, hv2⟩, ← h.form]
  have hold : ∀ (F : Fl) i G, aget d.fs i = some G → aget (d.fs ++ [(d.files + 1, F)]) i = some G := fun F i G hG => by rw [aget_app_old h.key (fun e => h.key (e ▸ aget_keys hG)), hG]
  have hwc : ∀ x ∈ wc s d, x ∈ d.changes ∨ x = rmC (newN s) := fun x hx => by
    unfold wc at hx
    rcases List.mem_append.1 hx with hx | hx
    · exact .inl hx
    · split at hx
      · exact .inr (by simpa using hx)
      · simp at hx
  have m0 : ∀ a dn c, Mid d s b (pw d d.names d.changes d.files d.fs a dn c) := fun a dn c => ⟨fun i F hF => .inl hF, rfl, rfl, fun i F hF => hF, fun c hc => .inl hc⟩
  have m1 : ∀ a dn c, Mid d s b (pw d (wl s d) (wc s d) d.files d.fs a dn c) := fun a dn c => ⟨fun i F hF => .inl hF, rfl, rfl, fun i F hF => hF, fun c hc => (hwc c hc).imp id .inl⟩
  have hlen : ∀ (F : Fl), F.b.length ≤ b.length + 4 → ∀ i G, aget (d.fs ++ [(d.files + 1, F)]) i = some G → aget d.fs i = some G ∨ G.b.length ≤ b.length + 4 := fun F hF i G hG => by
    by_cases e : i = d.files + 1
    · subst e; rw [aget_app_new h.key] at hG; cases hG; exact .inr hF
    · rw [aget_app_old h.key e] at hG; exact .inl hG
  have m2 : ∀ F, F.b.length ≤ b.length + 4 → ∀ a dn c, Mid d s b (pw d (wl s d ++ [(newN s, d.files + 1)]) (wc s d ++ [crC (newN s) (d.files + 1)]) (d.files + 1) (d.fs ++ [(d.files + 1, F)]) a dn c) := fun F hF a dn c => ⟨hlen F hF, rfl, rfl, hold F, fun c hc => by
    rcases List.mem_append.1 hc with hc | hc
    · exact (hwc c hc).imp id .inl
    · simp only [List.mem_cons, List.not_mem_nil, or_false] at hc; exact .inr (.inr (.inl hc))⟩
  have m5 : ∀ a dn c, Mid d s b (pw d (aput (wl s d) s (d.files + 1)) (wc s d ++ [crC (newN s) (d.files + 1)] ++ [rnC s (newN s) (d.files + 1)]) (d.files + 1) (d.fs ++ [(d.files + 1, ⟨d.files + 1, sealL b, (sealL b).length⟩)]) a dn c) := fun a dn c => ⟨hlen _ (by rw [sealL_len]; exact Nat.le_refl _), rfl, rfl, hold _, fun c hc => by
    rcases List.mem_append.1 hc with hc | hc
    · rcases List.mem_append.1 hc with hc | hc
      · exact (hwc c hc).imp id .inl
      · simp only [List.mem_cons, List.not_mem_nil, or_false] at hc; exact .inr (.inr (.inl hc))
    · simp only [List.mem_cons, List.not_mem_nil, or_false] at hc; exact .inr (.inr (.inr ⟨hc, aget_app_new h.key⟩))⟩
  rw [hw, wrun_step (a := 0) h.st0]
  by_cases p0 : (aget d.names (newN s)).isSome = true ∧ d.armed = 1
  · rw [if_pos p0]; exact ⟨_, _, rfl, .inr ⟨rfl, rfl, by omega, m0 _ _ _⟩⟩
  rw [if_neg p0]
  obtain ⟨a1, h1⟩ : ∃ a1, (if (aget d.names (newN s)).isSome then d.armed - 1 else d.armed) = a1 := ⟨_, rfl⟩
  obtain ⟨c1, g1⟩ : ∃ c1, (if (aget d.names (newN s)).isSome then d.calls + 1 else d.calls) = c1 := ⟨_, rfl⟩
  have ha1 : d.armed = 0 → a1 = 0 := fun e => by rw [← h1, e]; split <;> rfl
  rw [h1, g1, wrun_step (a := 0) (h.st1 hv2)]
  by_cases p1 : a1 = 1
  · rw [if_pos p1]; exact ⟨_, _, rfl, .inr ⟨rfl, rfl, fun e => by have := ha1 e; omega, m1 _ _ _⟩⟩
  rw [if_neg p1, wrun_step (a := 0) (h.st2 hr)]
  by_cases p2 : a1 - 1 = 1
  · rw [if_pos p2]; exact ⟨_, _, rfl, .inr ⟨rfl, rfl, fun e => by have := ha1 e; omega, m2 _ (by simp [sealL_len]) _ _ _⟩⟩
  rw [if_neg p2, wrun_step (a := 0) h.st3]
  by_cases p3 : a1 - 1 - 1 = 1
  · rw [if_pos p3]; exact ⟨_, _, rfl, .inr ⟨rfl, rfl, fun e => by have := ha1 e; omega, m2 _ (by simp [sealL_len]) _ _ _⟩⟩
  rw [if_neg p3, wrun_step (a := 0) (h.st4 hv)]
  by_cases p4 : a1 - 1 - 1 - 1 = 1
  · rw [if_pos p4]; exact ⟨_, _, rfl, .inr ⟨rfl, rfl, fun e => by have := ha1 e; omega, m2 _ (by simp [sealL_len]) _ _ _⟩⟩
  rw [if_neg p4, wrun_step (a := 0) pw_st5]
  by_cases p5 : a1 - 1 - 1 - 1 - 1 = 1
  · rw [if_pos p5]; exact ⟨_, _, rfl, .inr ⟨rfl, rfl, fun e => by have := ha1 e; omega, m5 _ _ _⟩⟩
  rw [if_neg p5]
  exact ⟨_, _, rfl, .inl ⟨rfl, rfl, rfl, rfl, rfl, rfl, hold _, aget_app_new h.key, fun e => by have := ha1 e; show a1 - 1 - 1 - 1 - 1 - 1 = 0; omega, rfl⟩⟩
end Go.Proofs.YtmnfehbnjgmgjaaDoor
