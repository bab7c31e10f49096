/- The law DiskRooms: all files together have at most the room. -/
import Derived.Test.YtmnfehbnjgmgjaaDoorDD
namespace Go.Proofs.YtmnfehbnjgmgjaaDoor
set_option linter.all false
open Go.RowKit
attribute [local irreducible] errV
variable {g w : World} {L M : List HP} {ad : Nat → Addr} {p : Nat} {d : Dk}

def nmI (i : Nat) : ByteArray := nm1 (UInt8.ofNat (97 + i))
theorem nmI_valid : ∀ i < 20, validB (nmI i).data.toList = true := by decide +kernel
theorem nmI_inj {i j : Nat} (hi : i < 20) (hj : j < 20) (h : nmI i = nmI j) : i = j := by
  simp only [nmI, nm1, ByteArray.mk.injEq, Array.mk.injEq, List.cons.injEq, and_true] at h
  have := congrArg UInt8.toNat h
  rw [UInt8.toNat_ofNat', UInt8.toNat_ofNat'] at this
  omega
theorem aget_app_new {κ α : Type} [DecidableEq κ] {l : List (κ × α)} {k : κ} {v : α} (h : k ∉ keysOf l) : aget (l ++ [(k, v)]) k = some v := by rw [← aput_end h, aget_put_same]
theorem aget_app_old {κ α : Type} [DecidableEq κ] {l : List (κ × α)} {k j : κ} {v : α} (h : k ∉ keysOf l) (hj : j ≠ k) : aget (l ++ [(k, v)]) j = aget l j := by rw [← aput_end h, aget_put_other _ _ hj]
theorem adel_app_new {κ α : Type} [DecidableEq κ] : ∀ {l : List (κ × α)} {k : κ} {v : α}, k ∉ keysOf l → adel (l ++ [(k, v)]) k = l
  | [], k, v, _ => by simp [adel]
  | (a, b) :: l, k, v, h => by
    simp only [keysOf, List.map_cons, List.mem_cons, not_or] at h
    simp only [List.cons_append, adel]
    rw [if_neg (fun e => h.1 e.symm), adel_app_new h.2]
theorem aput_app_new {κ α : Type} [DecidableEq κ] {l : List (κ × α)} {k : κ} {v v' : α} (h : k ∉ keysOf l) : aput (l ++ [(k, v)]) k v' = l ++ [(k, v')] := by
  induction l with
  | nil => simp [aput]
  | cons x l ih =>
    obtain ⟨a, b⟩ := x
    simp only [keysOf, List.map_cons, List.mem_cons, not_or] at h
    simp only [List.cons_append, aput]
    rw [if_neg (fun e => h.1 e.symm), ih h.2]
def useL (fs : List (Nat × Fl)) (l : List (ByteArray × Nat)) : Nat := (l.map fun x => ((aget fs x.2).map (·.b.length)).getD 0).sum
theorem useL_snoc {fs : List (Nat × Fl)} {l : List (ByteArray × Nat)} {k : Nat} {F : Fl} (n : ByteArray) (hk : k ∉ keysOf fs) (hl : ∀ x ∈ l, x.2 ∈ keysOf fs) : useL (fs ++ [(k, F)]) (l ++ [(n, k)]) = useL fs l + F.b.length := by
  simp only [useL, List.map_append, List.sum_append, List.map_cons, List.map_nil, aget_app_new hk]
  congr 1
  · congr 1
    exact List.map_congr_left fun x hx => by rw [aget_app_old hk (fun e => hk (e ▸ hl x hx))]
theorem useL_old {fs : List (Nat × Fl)} {l : List (ByteArray × Nat)} {k : Nat} {F : Fl} (hk : k ∉ keysOf fs) (hl : ∀ x ∈ l, x.2 ∈ keysOf fs) : useL (fs ++ [(k, F)]) l = useL fs l := by
  unfold useL
  congr 1
  exact List.map_congr_left fun x hx => by rw [aget_app_old hk (fun e => hk (e ▸ hl x hx))]
/-- What holds at the i-th file. -/
structure RoomI (room i u : Nat) (d : Dk) : Prop where
  ok : d.ok
  up : d.down = false
  arm : d.armed = 0
  rm : d.room = room
  files : d.files = i
  calls : d.calls ≤ 3 * i
  names : ∀ x ∈ d.names, ∃ j, j < i ∧ x.1 = nmI j
  used : u = d.used
  fits : u ≤ room
theorem RoomI.fresh {room i u : Nat} (h : RoomI room i u d) (hi : i < 20) : nmI i ∉ keysOf d.names := fun hm => by
  obtain ⟨x, hx, e⟩ := List.mem_map.1 hm
  obtain ⟨j, hj, e2⟩ := h.names x hx
  have := nmI_inj (by omega) hi (e2.symm.trans e)
  omega
/-- Behind the file that is made, with bytes or without. -/
def roomD (d : Dk) (i : Nat) (b : List UInt8) (c : Nat) : Dk := ⟨d.room, d.names ++ [(nmI i, i + 1)], d.kept, d.changes ++ [⟨nmI i, ByteArray.empty, some (i + 1)⟩], i + 1, 0, false, d.calls + c, d.fs ++ [(i + 1, ⟨i + 1, b, 0⟩)]⟩
theorem RoomI.key {room i u : Nat} (h : RoomI room i u d) : i + 1 ∉ keysOf d.fs := by have := h.ok.fresh; rw [h.files] at this; exact this
theorem RoomI.create {room i u : Nat} (h : RoomI room i u d) (hi : i < 20) : d.create (nmI i) = (0, roomD d i [] 1) := by
  rw [Dk.create_up h.up h.arm (nmI_valid i hi) ((aget_none_iff _ _).2 (h.fresh hi))]
  simp only [Dk.change, Chg.app, roomD, h.files, h.up, h.arm, aput_end (h.fresh hi), if_true]
theorem RoomI.used_of {room i u : Nat} (h : RoomI room i u d) (b : List UInt8) (c : Nat) : (roomD d i b c).used = u + b.length := by
  show useL (d.fs ++ [(i + 1, ⟨i + 1, b, 0⟩)]) (d.names ++ [(nmI i, i + 1)]) = _
  rw [useL_snoc _ h.key h.ok.nin, h.used]
  rfl
theorem RoomI.named {room i u : Nat} (h : RoomI room i u d) (hi : i < 20) (b : List UInt8) (c : Nat) : aget (roomD d i b c).names (nmI i) = some (i + 1) := aget_app_new (h.fresh hi)
theorem RoomI.append {room i u : Nat} (h : RoomI room i u d) (hi : i < 20) (b : List UInt8) (hf : u + b.length ≤ room) : (roomD d i [] 1).append (nmI i) b = (0, roomD d i b 2) := by
  have hu := h.used_of [] 1
  rw [Dk.append_up rfl rfl (h.named hi [] 1) (by rw [hu]; show _ ≤ d.room; rw [h.rm]; simpa using hf)]
  have hfl : (roomD d i [] 1).fl (i + 1) = ⟨i + 1, [], 0⟩ := by simp [Dk.fl, roomD, aget_app_new h.key]
  rw [hfl]
  simp only [Dk.setF, roomD, aput_app_new h.key, List.nil_append]
theorem RoomI.full {room i u : Nat} (h : RoomI room i u d) (hi : i < 20) (b : List UInt8) (hf : room < u + b.length) : (roomD d i [] 1).append (nmI i) b = (109, roomD d i [] 1) := by
  have hu := h.used_of [] 1
  exact Dk.append_full rfl rfl (h.named hi [] 1) (by rw [hu]; show d.room < _; rw [h.rm]; simpa using hf)
theorem RoomI.lenR {room i u : Nat} (h : RoomI room i u d) (hi : i < 20) (b : List UInt8) (c : Nat) : (roomD d i b c).lenR (nmI i) = (0, b.length) := by
  have e : (roomD d i b c).file (nmI i) = (0, some (i + 1)) := by
    unfold Dk.file
    rw [h.named hi b c]
    rfl
  simp only [Dk.lenR, e]
  simp [Dk.fl, roomD, aget_app_new h.key]
def roomR (d : Dk) (i : Nat) (b : List UInt8) (c : Nat) : Dk := ⟨d.room, d.names, d.kept, d.changes ++ [⟨nmI i, ByteArray.empty, some (i + 1)⟩] ++ [⟨ByteArray.empty, nmI i, none⟩], i + 1, 0, false, d.calls + c + 1, d.fs ++ [(i + 1, ⟨i + 1, b, 0⟩)]⟩
theorem RoomI.remove {room i u : Nat} (h : RoomI room i u d) (hi : i < 20) (b : List UInt8) (c : Nat) : (roomD d i b c).remove (nmI i) = (0, roomR d i b c) := by
  rw [Dk.remove_up rfl rfl (h.named hi b c)]
  have hne : nmI i ≠ ByteArray.empty := fun e => absurd (congrArg (fun b : ByteArray => b.data.size) e) (by show ¬ 1 = 0; decide)
  simp only [Dk.change, Chg.app, roomD, roomR, if_neg hne, adel_app_new (h.fresh hi)]
theorem RoomI.next {room i u : Nat} (h : RoomI room i u d) {b : List UInt8} {c : Nat} (hc : c ≤ 2) (ho : (roomD d i b c).ok) (hf : u + b.length ≤ room) : RoomI room (i + 1) (u + b.length) (roomD d i b c) :=
  ⟨ho, rfl, rfl, h.rm, rfl, by have := h.calls; show d.calls + c ≤ _; omega, fun x hx => by
    rcases List.mem_append.1 hx with hx | hx
    · obtain ⟨j, hj, e⟩ := h.names x hx; exact ⟨j, by omega, e⟩
    · simp only [List.mem_cons, List.not_mem_nil, or_false] at hx; subst hx; exact ⟨i, by omega, rfl⟩, (h.used_of b c).symm, hf⟩
theorem RoomI.nextR {room i u : Nat} (h : RoomI room i u d) {b : List UInt8} {c : Nat} (hc : c ≤ 2) (ho : (roomR d i b c).ok) : RoomI room (i + 1) u (roomR d i b c) :=
  ⟨ho, rfl, rfl, h.rm, rfl, by have := h.calls; show d.calls + c + 1 ≤ _; omega, fun x hx => by obtain ⟨j, hj, e⟩ := h.names x hx; exact ⟨j, by omega, e⟩, by
    show u = useL (d.fs ++ [(i + 1, ⟨i + 1, b, 0⟩)]) d.names
    rw [useL_old h.key h.ok.nin, h.used]
    rfl, h.fits⟩
end Go.Proofs.YtmnfehbnjgmgjaaDoor
