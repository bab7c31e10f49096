/- The law DiskKeeps: what was synced, under a name that was synced, is there behind any crash. The law DiskCuts: what is cut is cut, synced at once. The law DiskDown: while the power is gone nothing is changed or told. The law DiskRooms: all files together have at most the room. -/
import Derived.Test.YtmnfehbnjgmgjaaDoorDf
import Derived.Test.YtmnfehbnjgmgjaaDoorBc
namespace Go.Proofs.YtmnfehbnjgmgjaaDoor
set_option linter.all false
open Go.RowKit
attribute [local irreducible] errV
variable {g w : World} {L M : List HP} {ad : Nat → Addr} {p : Nat} {d : Dk}

theorem Dk.readR_at {n : ByteArray} {i o m : Nat} {F : Fl} (h1 : d.down = false) (hn : aget d.names n = some i) (hf : aget d.fs i = some F) (hl : o + m ≤ F.b.length) : d.readR n o m = (0, (F.b.take (o + m)).drop o) := by
  have e : d.fl i = F := by simp [Dk.fl, hf]
  simp only [Dk.readR, Dk.file, h1, hn, Bool.false_eq_true, if_false, e]
  rw [if_neg (by omega)]
  simp
abbrev kD (names kept : List (ByteArray × Nat)) (ch : List Chg) (files calls : Nat) (fs : List (Nat × Fl)) : Dk := ⟨2000, names, kept, ch, files, 0, false, calls, fs⟩
abbrev chG : Chg := ⟨nm1 103, ByteArray.empty, some 2⟩
theorem keeps_crash (la lb lc : List UInt8) (picks : List Int) : ∃ m kg mg : Nat, la.length ≤ m ∧ m ≤ la.length + lb.length ∧ (kg = 0 ∧ mg = lc.length ∨ kg = 107 ∧ mg = 0) ∧
    Dk.lenR (nm1 102) ((kD [(nm1 102, 1), (nm1 103, 2)] [(nm1 102, 1)] [chG] 2 8 [(1, ⟨1, la ++ lb, la.length⟩), (2, ⟨2, lc, lc.length⟩)]).crash picks) = (0, m) ∧
    Dk.readR (nm1 102) 0 (m : Int) ((kD [(nm1 102, 1), (nm1 103, 2)] [(nm1 102, 1)] [chG] 2 8 [(1, ⟨1, la ++ lb, la.length⟩), (2, ⟨2, lc, lc.length⟩)]).crash picks) = (0, (la ++ lb).take m) ∧
    Dk.synR (nm1 102) ((kD [(nm1 102, 1), (nm1 103, 2)] [(nm1 102, 1)] [chG] 2 8 [(1, ⟨1, la ++ lb, la.length⟩), (2, ⟨2, lc, lc.length⟩)]).crash picks) = (0, m) ∧
    Dk.lenR (nm1 103) ((kD [(nm1 102, 1), (nm1 103, 2)] [(nm1 102, 1)] [chG] 2 8 [(1, ⟨1, la ++ lb, la.length⟩), (2, ⟨2, lc, lc.length⟩)]).crash picks) = (kg, mg) := by
  have hp := pickN_le picks 1 ((la ++ lb).length - la.length)
  obtain ⟨t, ht⟩ : ∃ t, t = la.length + pickN picks 1 ((la ++ lb).length - la.length) := ⟨_, rfl⟩
  simp only [List.length_append] at hp ht
  have htl : t ≤ la.length + lb.length := by omega
  have hlen : ((la ++ lb).take t).length = t := by simp; omega
  have h0 := pickN_le picks 0 1
  have hlc : (lc.take (lc.length + pickN picks 2 (lc.length - lc.length))).length = lc.length := by simp
  rcases Nat.lt_or_ge (pickN picks 0 1) 1 with h | h
  · have e : (kD [(nm1 102, 1), (nm1 103, 2)] [(nm1 102, 1)] [chG] 2 8 [(1, ⟨1, la ++ lb, la.length⟩), (2, ⟨2, lc, lc.length⟩)]).crash picks = kD [(nm1 102, 1)] [(nm1 102, 1)] [] 2 8 [(1, ⟨1, (la ++ lb).take t, ((la ++ lb).take t).length⟩), (2, ⟨2, lc, lc.length⟩)] := by
      unfold Dk.crash
      rw [show pickN picks 0 (List.length _) = 0 from (by show pickN picks 0 1 = 0; omega), ht, ← List.length_append]
      rfl
    rw [e]
    refine ⟨t, 107, 0, by omega, htl, .inr ⟨rfl, rfl⟩, ?_, ?_, ?_, rfl⟩
    · rw [show (0, t) = (0, ((la ++ lb).take t).length) by rw [hlen]]; rfl
    · exact (Dk.readR_at (d := kD [(nm1 102, 1)] [(nm1 102, 1)] [] 2 8 [(1, ⟨1, (la ++ lb).take t, ((la ++ lb).take t).length⟩), (2, ⟨2, lc, lc.length⟩)]) (n := nm1 102) (o := 0) (m := t) rfl rfl rfl (by show 0 + t ≤ ((la ++ lb).take t).length; omega)).trans (by simp [List.take_take])
    · rw [show (0, t) = (0, ((la ++ lb).take t).length) by rw [hlen]]; rfl
  · have e : (kD [(nm1 102, 1), (nm1 103, 2)] [(nm1 102, 1)] [chG] 2 8 [(1, ⟨1, la ++ lb, la.length⟩), (2, ⟨2, lc, lc.length⟩)]).crash picks = kD [(nm1 102, 1), (nm1 103, 2)] [(nm1 102, 1), (nm1 103, 2)] [] 2 8 [(1, ⟨1, (la ++ lb).take t, ((la ++ lb).take t).length⟩), (2, ⟨2, lc.take (lc.length + pickN picks 2 (lc.length - lc.length)), (lc.take (lc.length + pickN picks 2 (lc.length - lc.length))).length⟩)] := by
      unfold Dk.crash
      rw [show pickN picks 0 (List.length _) = 1 from (by show pickN picks 0 1 = 1; omega), ht, ← List.length_append]
      rfl
    rw [e]
    refine ⟨t, 0, lc.length, by omega, htl, .inl ⟨rfl, rfl⟩, ?_, ?_, ?_, ?_⟩
    · rw [show (0, t) = (0, ((la ++ lb).take t).length) by rw [hlen]]; rfl
    · exact (Dk.readR_at (d := kD [(nm1 102, 1), (nm1 103, 2)] [(nm1 102, 1), (nm1 103, 2)] [] 2 8 [(1, ⟨1, (la ++ lb).take t, ((la ++ lb).take t).length⟩), (2, ⟨2, lc.take (lc.length + pickN picks 2 (lc.length - lc.length)), (lc.take (lc.length + pickN picks 2 (lc.length - lc.length))).length⟩)]) (n := nm1 102) (o := 0) (m := t) rfl rfl rfl (by show 0 + t ≤ ((la ++ lb).take t).length; omega)).trans (by simp [List.take_take])
    · rw [show (0, t) = (0, ((la ++ lb).take t).length) by rw [hlen]]; rfl
    · rw [show (0, lc.length) = (0, (lc.take (lc.length + pickN picks 2 (lc.length - lc.length))).length) by rw [hlc]]; rfl
end Go.Proofs.YtmnfehbnjgmgjaaDoor
namespace Go.Proofs.YtmnfehbnjgmgjaaDoor
set_option linter.all false
open Go.RowKit
attribute [local irreducible] errV
variable {g w : World} {L M : List HP} {ad : Nat → Addr} {p : Nat} {d : Dk}

/-- A disk of one file. -/
abbrev oneD (room : Nat) (n : ByteArray) (kept : List (ByteArray × Nat)) (ch : List Chg) (calls : Nat) (b : List UInt8) (s : Nat) : Dk := ⟨room, [(n, 1)], kept, ch, 1, 0, false, calls, [(1, ⟨1, b, s⟩)]⟩
theorem crash_one (picks : List Int) (room calls s arm : Nat) (dn : Bool) (n : ByteArray) (b : List UInt8) {t : Nat} (ht : s + pickN picks 1 (b.length - s) = t) : (⟨room, [(n, 1)], [(n, 1)], [], 1, arm, dn, calls, [(1, ⟨1, b, s⟩)]⟩ : Dk).crash picks = oneD room n [(n, 1)] [] calls (b.take t) (b.take t).length := by
  subst ht
  simp [Dk.crash, applyAll, keptIds, keysOf, crashFs, aget, aput, Fl.crashed]
theorem one_lenR (room calls s : Nat) (n : ByteArray) (kept : List (ByteArray × Nat)) (ch : List Chg) (b : List UInt8) : Dk.lenR n (oneD room n kept ch calls b s) = (0, b.length) := by simp [Dk.lenR, Dk.file, aget, Dk.fl]
theorem one_synR (room calls s : Nat) (n : ByteArray) (kept : List (ByteArray × Nat)) (ch : List Chg) (b : List UInt8) : Dk.synR n (oneD room n kept ch calls b s) = (0, s) := by simp [Dk.synR, Dk.file, aget, Dk.fl]
theorem one_names (room calls s : Nat) (n : ByteArray) (kept : List (ByteArray × Nat)) (ch : List Chg) (b : List UInt8) : aget (oneD room n kept ch calls b s).names n = some 1 := by simp [aget]
theorem one_cut_bad (room calls s : Nat) (n : ByteArray) (kept : List (ByteArray × Nat)) (ch : List Chg) (b : List UInt8) {z : Int} (h : z < 0 ∨ (b.length : Int) < z) : (oneD room n kept ch calls b s).cut n z = (105, oneD room n kept ch calls b s) := by
  simp only [Dk.cut, Dk.find_up (d := oneD room n kept ch calls b s) rfl rfl (one_names ..)]
  have h1 : z < 0 ∨ (((oneD room n kept ch calls b s).fl 1).b.length : Int) < z := h
  rw [if_pos h1]
theorem one_cut (room calls s : Nat) (n : ByteArray) (kept : List (ByteArray × Nat)) (ch : List Chg) (b : List UInt8) {q : Nat} (h : q ≤ b.length) : (oneD room n kept ch calls b s).cut n (q : Int) = (0, oneD room n kept ch (calls + 1) (b.take q) q) := by
  have h1 : ¬ ((q : Int) < 0 ∨ (((oneD room n kept ch calls b s).fl 1).b.length : Int) < q) := by show ¬ ((q : Int) < 0 ∨ (b.length : Int) < q); omega
  simp only [Dk.cut, Dk.find_up (d := oneD room n kept ch calls b s) rfl rfl (one_names ..)]
  rw [if_neg h1]
  rfl
end Go.Proofs.YtmnfehbnjgmgjaaDoor
namespace Go.Proofs.YtmnfehbnjgmgjaaDoor
set_option linter.all false
open Go.RowKit
attribute [local irreducible] errV
variable {g w : World} {L M : List HP} {ad : Nat → Addr} {p : Nat} {d : Dk}

theorem Dk.begin_down (h : d.down = true) : d.begin = (110, d) := by simp [Dk.begin, h]
theorem Dk.find_down (h : d.down = true) (n : ByteArray) : d.find n = (110, none, d) := by simp [Dk.find, Dk.begin_down h]
theorem Dk.file_down (h : d.down = true) (n : ByteArray) : d.file n = (110, none) := by simp [Dk.file, h]
theorem Dk.create_down (h : d.down = true) (n : ByteArray) : d.create n = (110, d) := by simp [Dk.create, Dk.begin_down h]
theorem Dk.append_down (h : d.down = true) (n : ByteArray) (b : List UInt8) : d.append n b = (110, d) := by simp only [Dk.append, Dk.find_down h]
theorem Dk.cut_down (h : d.down = true) (n : ByteArray) (z : Int) : d.cut n z = (110, d) := by simp only [Dk.cut, Dk.find_down h]
theorem Dk.sync_down (h : d.down = true) (n : ByteArray) : d.sync n = (110, d) := by simp only [Dk.sync, Dk.find_down h]
theorem Dk.rename_down (h : d.down = true) (n m : ByteArray) : d.rename n m = (110, d) := by simp only [Dk.rename, Dk.find_down h]
theorem Dk.remove_down (h : d.down = true) (n : ByteArray) : d.remove n = (110, d) := by simp only [Dk.remove, Dk.find_down h]
theorem Dk.syncDir_down (h : d.down = true) : d.syncDir = (110, d) := by simp [Dk.syncDir, Dk.begin_down h]
theorem Dk.readR_down (h : d.down = true) (n : ByteArray) (o m : Int) : d.readR n o m = (110, []) := by simp only [Dk.readR, Dk.file_down h]
theorem Dk.lenR_down (h : d.down = true) (n : ByteArray) : d.lenR n = (110, 0) := by simp only [Dk.lenR, Dk.file_down h]
theorem Dk.synR_down (h : d.down = true) (n : ByteArray) : d.synR n = (110, 0) := by simp only [Dk.synR, Dk.file_down h]
/-- The disk while the power is gone. -/
abbrev dnD (lb : List UInt8) : Dk := ⟨500, [(nm1 97, 1)], [(nm1 97, 1)], [], 1, 0, true, 4, [(1, ⟨1, lb, lb.length⟩)]⟩
theorem dn_crash (lb : List UInt8) : (dnD lb).crash [] = oneD 500 (nm1 97) [(nm1 97, 1)] [] 4 lb lb.length := by
  have := crash_one [] 500 4 lb.length 0 true (nm1 97) lb (t := lb.length) (by simp [pickN])
  rw [List.take_length] at this
  exact this
end Go.Proofs.YtmnfehbnjgmgjaaDoor
namespace Go.Proofs.YtmnfehbnjgmgjaaDoor
set_option linter.all false
open Go.RowKit
attribute [local irreducible] errV
variable {g w : World} {L M : List HP} {ad : Nat → Addr} {p : Nat} {d : Dk}

def nmI (i : Nat) : ByteArray := nm1 (UInt8.ofNat (97 + i))
theorem nmI_valid : ∀ i < 20, validB (nmI i).data.toList = true := by decide +kernel
theorem nmI_inj {i j : Nat} (hi : i < 20) (hj : j < 20) (h : nmI i = nmI j) : i = j := by
  simp only [nmI, nm1, ByteArray.mk.injEq, Array.mk.injEq, List.cons.injEq, and_true] at h
  have := congrArg UInt8.toNat h
  rw [UInt8.toNat_ofNat', UInt8.toNat_ofNat'] at this
  omega
theorem aget_app_new {κ α : Type} [DecidableEq κ] {l : List (κ × α)} {k : κ} {v : α} (h : k ∉ keysOf l) : aget (l ++ [(k, v)]) k = some v := by rw [← aput_end h, aget_put_same]
theorem aget_app_old {κ α : Type} [DecidableEq κ] {l : List (κ × α)} {k j : κ} {v : α} (h : k ∉ keysOf l) (hj : j ≠ k) : aget (l ++ [(k, v)]) j = aget l j := by rw [← aput_end h, aget_put_other _ _ hj]
theorem adel_app_new {κ α : Type} [DecidableEq κ] : ∀ {l : List (κ × α)} {k : κ} {v : α}, k ∉ keysOf l → adel (l ++ [(k, v)]) k = l
  | [], k, v, _ => by simp [adel]
  | (a, b) :: l, k, v, h => by
    simp only [keysOf, List.map_cons, List.mem_cons, not_or] at h
    simp only [List.cons_append, adel]
    rw [if_neg (fun e => h.1 e.symm), adel_app_new h.2]
theorem aput_app_new {κ α : Type} [DecidableEq κ] {l : List (κ × α)} {k : κ} {v v' : α} (h : k ∉ keysOf l) : aput (l ++ [(k, v)]) k v' = l ++ [(k, v')] := by
  induction l with
  | nil => simp [aput]
  | cons x l ih =>
    obtain ⟨a, b⟩ := x
    simp only [keysOf, List.map_cons, List.mem_cons, not_or] at h
    simp only [List.cons_append, aput]
    rw [if_neg (fun e => h.1 e.symm), ih h.2]
def useL (fs : List (Nat × Fl)) (l : List (ByteArray × Nat)) : Nat := (l.map fun x => ((aget fs x.2).map (·.b.length)).getD 0).sum
theorem useL_snoc {fs : List (Nat × Fl)} {l : List (ByteArray × Nat)} {k : Nat} {F : Fl} (n : ByteArray) (hk : k ∉ keysOf fs) (hl : ∀ x ∈ l, x.2 ∈ keysOf fs) : useL (fs ++ [(k, F)]) (l ++ [(n, k)]) = useL fs l + F.b.length := by
  simp only [useL, List.map_append, List.sum_append, List.map_cons, List.map_nil, aget_app_new hk]
  congr 1
  · congr 1
    exact List.map_congr_left fun x hx => by rw [aget_app_old hk (fun e => hk (e ▸ hl x hx))]
theorem useL_old {fs : List (Nat × Fl)} {l : List (ByteArray × Nat)} {k : Nat} {F : Fl} (hk : k ∉ keysOf fs) (hl : ∀ x ∈ l, x.2 ∈ keysOf fs) : useL (fs ++ [(k, F)]) l = useL fs l := by
  unfold useL
  congr 1
  exact List.map_congr_left fun x hx => by rw [aget_app_old hk (fun e => hk (e ▸ hl x hx))]
/-- What holds at the i-th file. -/
structure RoomI (room i u : Nat) (d : Dk) : Prop where
  ok : d.ok
  up : d.down = false
  arm : d.armed = 0
  rm : d.room = room
  files : d.files = i
  calls : d.calls ≤ 3 * i
  names : ∀ x ∈ d.names, ∃ j, j < i ∧ x.1 = nmI j
  used : u = d.used
  fits : u ≤ room
theorem RoomI.fresh {room i u : Nat} (h : RoomI room i u d) (hi : i < 20) : nmI i ∉ keysOf d.names := fun hm => by
  obtain ⟨x, hx, e⟩ := List.mem_map.1 hm
  obtain ⟨j, hj, e2⟩ := h.names x hx
  have := nmI_inj (by omega) hi (e2.symm.trans e)
  omega
/-- Behind the file that is made, with bytes or without. -/
def roomD (d : Dk) (i : Nat) (b : List UInt8) (c : Nat) : Dk := ⟨d.room, d.names ++ [(nmI i, i + 1)], d.kept, d.changes ++ [⟨nmI i, ByteArray.empty, some (i + 1)⟩], i + 1, 0, false, d.calls + c, d.fs ++ [(i + 1, ⟨i + 1, b, 0⟩)]⟩
theorem RoomI.key {room i u : Nat} (h : RoomI room i u d) : i + 1 ∉ keysOf d.fs := by have := h.ok.fresh; rw [h.files] at this; exact this
theorem RoomI.create {room i u : Nat} (h : RoomI room i u d) (hi : i < 20) : d.create (nmI i) = (0, roomD d i [] 1) := by
  rw [Dk.create_up h.up h.arm (nmI_valid i hi) ((aget_none_iff _ _).2 (h.fresh hi))]
  simp only [Dk.change, Chg.app, roomD, h.files, h.up, h.arm, aput_end (h.fresh hi), if_true]
theorem RoomI.used_of {room i u : Nat} (h : RoomI room i u d) (b : List UInt8) (c : Nat) : (roomD d i b c).used = u + b.length := by
  show useL (d.fs ++ [(i + 1, ⟨i + 1, b, 0⟩)]) (d.names ++ [(nmI i, i + 1)]) = _
  rw [useL_snoc _ h.key h.ok.nin, h.used]
  rfl
theorem RoomI.named {room i u : Nat} (h : RoomI room i u d) (hi : i < 20) (b : List UInt8) (c : Nat) : aget (roomD d i b c).names (nmI i) = some (i + 1) := aget_app_new (h.fresh hi)
theorem RoomI.append {room i u : Nat} (h : RoomI room i u d) (hi : i < 20) (b : List UInt8) (hf : u + b.length ≤ room) : (roomD d i [] 1).append (nmI i) b = (0, roomD d i b 2) := by
  have hu := h.used_of [] 1
  rw [Dk.append_up rfl rfl (h.named hi [] 1) (by rw [hu]; show _ ≤ d.room; rw [h.rm]; simpa using hf)]
  have hfl : (roomD d i [] 1).fl (i + 1) = ⟨i + 1, [], 0⟩ := by simp [Dk.fl, roomD, aget_app_new h.key]
  rw [hfl]
  simp only [Dk.setF, roomD, aput_app_new h.key, List.nil_append]
theorem RoomI.full {room i u : Nat} (h : RoomI room i u d) (hi : i < 20) (b : List UInt8) (hf : room < u + b.length) : (roomD d i [] 1).append (nmI i) b = (109, roomD d i [] 1) := by
  have hu := h.used_of [] 1
  exact Dk.append_full rfl rfl (h.named hi [] 1) (by rw [hu]; show d.room < _; rw [h.rm]; simpa using hf)
theorem RoomI.lenR {room i u : Nat} (h : RoomI room i u d) (hi : i < 20) (b : List UInt8) (c : Nat) : (roomD d i b c).lenR (nmI i) = (0, b.length) := by
  have e : (roomD d i b c).file (nmI i) = (0, some (i + 1)) := by
    unfold Dk.file
    rw [h.named hi b c]
    rfl
  simp only [Dk.lenR, e]
  simp [Dk.fl, roomD, aget_app_new h.key]
def roomR (d : Dk) (i : Nat) (b : List UInt8) (c : Nat) : Dk := ⟨d.room, d.names, d.kept, d.changes ++ [⟨nmI i, ByteArray.empty, some (i + 1)⟩] ++ [⟨ByteArray.empty, nmI i, none⟩], i + 1, 0, false, d.calls + c + 1, d.fs ++ [(i + 1, ⟨i + 1, b, 0⟩)]⟩
theorem RoomI.remove {room i u : Nat} (h : RoomI room i u d) (hi : i < 20) (b : List UInt8) (c : Nat) : (roomD d i b c).remove (nmI i) = (0, roomR d i b c) := by
  rw [Dk.remove_up rfl rfl (h.named hi b c)]
  have hne : nmI i ≠ ByteArray.empty := fun e => absurd (congrArg (fun b : ByteArray => b.data.size) e) (by show ¬ 1 = 0; decide)
  simp only [Dk.change, Chg.app, roomD, roomR, if_neg hne, adel_app_new (h.fresh hi)]
theorem RoomI.next {room i u : Nat} (h : RoomI room i u d) {b : List UInt8} {c : Nat} (hc : c ≤ 2) (ho : (roomD d i b c).ok) (hf : u + b.length ≤ room) : RoomI room (i + 1) (u + b.length) (roomD d i b c) :=
  ⟨ho, rfl, rfl, h.rm, rfl, by have := h.calls; show d.calls + c ≤ _; omega, fun x hx => by
    rcases List.mem_append.1 hx with hx | hx
    · obtain ⟨j, hj, e⟩ := h.names x hx; exact ⟨j, by omega, e⟩
    · simp only [List.mem_cons, List.not_mem_nil, or_false] at hx; subst hx; exact ⟨i, by omega, rfl⟩, (h.used_of b c).symm, hf⟩
theorem RoomI.nextR {room i u : Nat} (h : RoomI room i u d) {b : List UInt8} {c : Nat} (hc : c ≤ 2) (ho : (roomR d i b c).ok) : RoomI room (i + 1) u (roomR d i b c) :=
  ⟨ho, rfl, rfl, h.rm, rfl, by have := h.calls; show d.calls + c + 1 ≤ _; omega, fun x hx => by obtain ⟨j, hj, e⟩ := h.names x hx; exact ⟨j, by omega, e⟩, by
    show u = useL (d.fs ++ [(i + 1, ⟨i + 1, b, 0⟩)]) d.names
    rw [useL_old h.key h.ok.nin, h.used]
    rfl, h.fits⟩
end Go.Proofs.YtmnfehbnjgmgjaaDoor
