/- The law DiskRooms: all files together have at most the room. -/
import Derived.Test.YthlnkniocklegaaDoorDD
namespace Go.Proofs.YthlnkniocklegaaDoor
set_option linter.all false
open Go.RowKit
attribute [local irreducible] errV
variable {g w : World} {L M : List HP} {ad : Nat → Addr} {p : Nat} {d : Dk}

def nmI (i : Nat) : ByteArray := nm1 (UInt8.ofNat (97 + i))
theorem nmI_valid : ∀ i < 20, validB (nmI i).data.toList = true := by decide +kernel
theorem nmI_inj {i j : Nat} (hi : i < 20) (hj : j < 20) (h : nmI i = nmI j) : i = j := by
  simp only [nmI, nm1, ByteArray.mk.injEq, Array.mk.injEq, List.cons.injEq, and_true] at h
  have := congrArg UInt8.toNat h
  rw [UInt8.toNat_ofNat', UInt8.toNat_ofNat'] at this
  omega
theorem aget_app_new {κ α : Type} [DecidableEq κ] {l : List (κ × α)} {k : κ} {v : α} (h : k ∉ keysOf l) : aget (l ++ [(k, v)]) k = some v := by rw [← aput_end h, aget_put_same]
theorem aget_app_old {κ α : Type} [DecidableEq κ] {l : List (κ × α)} {k j : κ} {v : α} (h : k ∉ keysOf l) (hj : j ≠ k) : aget (l ++ [(k, v)]) j = aget l j := by rw [← aput_end h, aget_put_other _ _ hj]
theorem adel_app_new {κ α : Type} [DecidableEq κ] : ∀ {l : List (κ × α)} {k : κ} {v : α}, k ∉ keysOf l → adel (l ++ [(k, v)]) k = l
  | [], k, v, _ => by simp [adel]
  | (a, b) :: l, k, v, h => by
    simp only [keysOf, List.map_cons, List.mem_cons, not_or] at h
    simp only [List.cons_append, adel]
    rw [if_neg (fun e => h.1 e.symm), adel_app_new h.2]
theorem aput_app_new {κ α : Type} [DecidableEq κ] {l : List (κ × α)} {k : κ} {v v' : α} (h : k ∉ keysOf l) : aput (l ++ [(k, v)]) k v' = l ++ [(k, v')] := by
  induction l with
  | nil => simp [aput]
  | cons x l ih =>
    obtain ⟨a, b⟩ := x
    simp only [keysOf, List.map_cons, List.mem_cons, not_or] at h
    simp only [List.cons_append, aput]
    rw [if_neg (fun e => h.1 e.symm), ih h.2]
def useL (fs : List (Nat × Fl)) (l : List (ByteArray × Nat)) : Nat := (l.map fun x => ((aget fs x.2).map (·.b.length)).getD 0).sum
theorem useL_snoc {fs : List (Nat × Fl)} {l : List (ByteArray × Nat)} {k : Nat} {F : Fl} (n : ByteArray) (hk : k ∉ keysOf fs) (hl : ∀ x ∈ l, x.2 ∈ keysOf fs) : useL (fs ++ [(k, F)]) (l ++ [(n, k)]) = useL fs l + F.b.length := by
  simp only [useL, List.map_append, List.sum_append, List.map_cons, List.map_nil, aget_app_new hk]
  congr 1
  · congr 1
    exact List.map_congr_left fun x hx => by rw [aget_app_old hk (fun e => hk (e ▸ hl x hx))]
theorem useL_old {fs : List (Nat × Fl)} {l : List (ByteArray × Nat)} {k : Nat} {F : Fl} (hk : k ∉ keysOf fs) (hl : ∀ x ∈ l, x.2 ∈ keysOf fs) : useL (fs ++ [(k, F)]) l = useL fs l := by
  unfold useL
  congr 1
  exact List.map_congr_left fun x hx => by rw [aget_app_old hk (fun e => hk (e ▸ hl x hx))]
/-- What holds at the i-th file. -/
structure RoomI (room i u : Nat) (d : Dk) : Prop where
  ok : d.ok
  up : d.down = false
  arm : d.armed = 0
  rm : d.room = room
  files : d.files = i
  calls : d.calls ≤ 3 * i
  names : ∀ x ∈ d.names, ∃ j, j < i ∧ x.1 = nmI j
  used : u = d.used
  fits : u ≤ room
theorem RoomI.fresh {room i u : Nat} (h : RoomI room i u d) (hi : i < 20) : nmI i ∉ keysOf d.names := fun hm => by
  obtain ⟨x, hx, e⟩ := List.mem_map.1 hm
  obtain ⟨j, hj, e2⟩ := h.names x hx
  have := nmI_inj (by omega) hi (e2.symm.trans e)
  omega
/-- Behind the file that is made, with bytes or without. -/
def roomD (d : Dk) (i : Nat) (b : List UInt8) (c : Nat) : Dk := ⟨d.room, d.names ++ [(nmI i, i + 1)], d.kept, d.changes ++ [⟨nmI i, ByteArray.empty, some (i + 1)⟩], i + 1, 0, false, d.calls + c, d.fs ++ [(i + 1, ⟨i + 1, b, 0⟩)]⟩
theorem RoomI.key {room i u : Nat} (h : RoomI room i u d) : i + 1 ∉ keysOf d.fs := by have := h.ok.fresh; rw [h.files] at this; exact this
theorem RoomI.create {room i u : Nat} (h : RoomI room i u d) (hi : i < 20) : d.create (nmI i) = (0, roomD d i [] 1) := by
  rw [Dk.create_up h.up h.arm (nmI_valid i hi) ((aget_none_iff _ _).2 (h.fresh hi))]
  simp only [Dk.change, Chg.app, roomD, h.files, h.up, h.arm, aput_end (h.fresh hi), if_true]
theorem RoomI.used_of {room i u : Nat} (h : RoomI room i u d) (b : List UInt8) (c : Nat) : (roomD d i b c).used = u + b.length := by
  show useL (d.fs ++ [(i + 1, ⟨i + 1, b, 0⟩)]) (d.names ++ [(nmI i, i + 1)]) = _
  rw [useL_snoc _ h.key h.ok.nin, h.used]
  rfl
theorem RoomI.named {room i u : Nat} (h : RoomI room i u d) (hi : i < 20) (b : List UInt8) (c : Nat) : aget (roomD d i b c).names (nmI i) = some (i + 1) := aget_app_new (h.fresh hi)
theorem RoomI.append {room i u : Nat} (h : RoomI room i u d) (hi : i < 20) (b : List UInt8) (hf : u + b.length ≤ room) : (roomD d i [] 1).append (nmI i) b = (0, roomD d i b 2) := by
  have hu := h.used_of [] 1
  rw [Dk.append_up rfl rfl (h.named hi [] 1) (by rw [hu]; show _ ≤ d.room; rw [h.rm]; simpa using hf)]
  have hfl : (roomD d i [] 1).fl (i + 1) = ⟨i + 1, [], 0⟩ := by simp [Dk.fl, roomD, aget_app_new h.key]
  rw [hfl]
  simp only [Dk.setF, roomD, aput_app_new h.key, List.nil_append]
theorem RoomI.full {room i u : Nat} (h : RoomI room i u d) (hi : i < 20) (b : List UInt8) (hf : room < u + b.length) : (roomD d i [] 1).append (nmI i) b = (109, roomD d i [] 1) := by
  have hu := h.used_of [] 1
  exact Dk.append_full rfl rfl (h.named hi [] 1) (by rw [hu]; show d.room < _; rw [h.rm]; simpa using hf)
theorem RoomI.lenR {room i u : Nat} (h : RoomI room i u d) (hi : i < 20) (b : List UInt8) (c : Nat) : (roomD d i b c).lenR (nmI i) = (0, b.length) := by
  have e : (roomD d i b c).file (nmI i) = (0, some (i + 1)) := by
    unfold Dk.file
    rw [h.named hi b c]
    rfl
  simp only [Dk.lenR, e]
  simp [Dk.fl, roomD, aget_app_new h.key]
def roomR (d : Dk) (i : Nat) (b : List UInt8) (c : Nat) : Dk := ⟨d.room, d.names, d.kept, d.changes ++ [⟨nmI i, ByteArray.empty, some (i + 1)⟩] ++ [⟨ByteArray.empty, nmI i, none⟩], i + 1, 0, false, d.calls + c + 1, d.fs ++ [(i + 1, ⟨i + 1, b, 0⟩)]⟩
theorem RoomI.remove {room i u : Nat} (h : RoomI room i u d) (hi : i < 20) (b : List UInt8) (c : Nat) : (roomD d i b c).remove (nmI i) = (0, roomR d i b c) := by
  rw [Dk.remove_up rfl rfl (h.named hi b c)]
  have hne : nmI i ≠ ByteArray.empty := fun e => absurd (congrArg (fun b : ByteArray => b.data.size) e) (by show ¬ 1 = 0; decide)
  simp only [Dk.change, Chg.app, roomD, roomR, if_neg hne, adel_app_new (h.fresh hi)]
theorem RoomI.next {room i u : Nat} (h : RoomI room i u d) {b : List UInt8} {c : Nat} (hc : c ≤ 2) (ho : (roomD d i b c).ok) (hf : u + b.length ≤ room) : RoomI room (i + 1) (u + b.length) (roomD d i b c) :=
  ⟨ho, rfl, rfl, h.rm, rfl, by have := h.calls; show d.calls + c ≤ _; omega, fun x hx => by
    rcases List.mem_append.1 hx with hx | hx
    · obtain ⟨j, hj, e⟩ := h.names x hx; exact ⟨j, by omega, e⟩
    · simp only [List.mem_cons, List.not_mem_nil, or_false] at hx; subst hx; exact ⟨i, by omega, rfl⟩, (h.used_of b c).symm, hf⟩
theorem RoomI.nextR {room i u : Nat} (h : RoomI room i u d) {b : List UInt8} {c : Nat} (hc : c ≤ 2) (ho : (roomR d i b c).ok) : RoomI room (i + 1) u (roomR d i b c) :=
  ⟨ho, rfl, rfl, h.rm, rfl, by have := h.calls; show d.calls + c + 1 ≤ _; omega, fun x hx => by obtain ⟨j, hj, e⟩ := h.names x hx; exact ⟨j, by omega, e⟩, by
    show u = useL (d.fs ++ [(i + 1, ⟨i + 1, b, 0⟩)]) d.names
    rw [useL_old h.key h.ok.nin, h.used]
    rfl, h.fits⟩
set_option maxRecDepth 100000 in
theorem diskRooms_sl (hA : ErrA ad g) (hs : Mem g w []) {rm : Int} {a1 : Option Addr} {n1 c1 : Nat} {l : List Int} (h1 : Came g (.slice a1 n1 c1) (intsL l)) (e1 : n1 = l.length) : Calls Tryd.prog 3 #[.int .i64 rm, .slice a1 n1 c1] w (Ret fun v w' => v = .bool true ∧ Mem g w' []) := by
  subst e1
  have hE := hA.disk
  refine calls_cw Tryd.func3 rfl rfl ?_
  skip
  refine cw_seq ?_
  refine cw_region ?_
  first | refine lw_val rfl (run_assign (v := .bool _) rfl) ?_
  refine lw_nil ?_
  refine cw_seq ?_
  refine cw_region ?_
  refine lw_call rfl en15 (first4_sl hE hs) ?_
  clear hs
  rintro _ w ⟨rfl, hs⟩
  first | refine lw_val rfl (run_assign (v := .bool _) rfl) ?_
  refine lw_nil ?_
  refine cw_seq ?_
  refine cw_seq ?_
  refine cw_region ?_
  first | refine lw_val rfl (run_move (v := .bool _) rfl) ?_
  refine lw_val rfl (run_not rfl) ?_
  refine lw_nil ?_
  refine cw_iff rfl (not_f (rfl)) ?_
  refine cw_skip ?_
  refine cw_seq ?_
  refine cw_region ?_
  first | refine lw_val rfl (run_move (v := .int .i64 _) rfl) ?_
  refine lw_call rfl en16 (number_sl hs rm 300 (by decide)) ?_
  clear hs
  rintro _ w ⟨r, hr, rfl, hs⟩
  refine lw_val rfl (run_add64 rfl rfl (c := ((r + 1 : Nat) : Int)) rfl (inI (by omega) (by omega))) ?_
  first | refine lw_val rfl (run_assign (v := .int .i64 _) rfl) ?_
  refine lw_nil ?_
  refine cw_seq ?_
  refine cw_seq ?_
  refine cw_region ?_
  first | refine lw_val rfl (run_move (v := .slice _ _ _) rfl) ?_
  refine lw_val rfl (run_lenS Tryd.underlying22 rfl) ?_
  refine lw_val rfl (run_gtr rfl rfl) ?_
  first | refine lw_val rfl (run_move (v := .bool _) rfl) ?_
  refine lw_split (t := _) (d := 25) rfl ?_ ?_
  · intro h24
    have g24 := of_decide_eq_true h24
    refine lw_off rfl rfl rfl h24 ?_
    refine lw_off rfl rfl rfl h24 ?_
    first | refine lw_val rfl (run_pickT (v := .bool _) rfl h24 rfl) ?_
    refine lw_nil ?_
    refine cw_ift rfl rfl ?_
    refine cw_seq ?_
    refine cw_region ?_
    first | refine lw_val rfl (run_move (v := .bool _) rfl) ?_
    first | refine lw_val rfl (run_assign (v := .bool _) rfl) ?_
    refine lw_nil ?_
    refine cw_ret ?_
    refine res1 (v := .bool _) rfl rfl ?_
    exact ⟨_, rfl, rfl, hs⟩
  · intro h24
    have g24 := of_decide_eq_false h24
    refine lw_on rfl rfl h24 ?_
    first | refine lw_val rfl (run_move (v := .bool _) rfl) ?_
    refine lw_on rfl rfl h24 ?_
    refine lw_val rfl (run_not rfl) ?_
    first | refine lw_val rfl (run_pickF (v := .bool _) rfl h24 rfl) ?_
    refine lw_nil ?_
    refine cw_iff rfl (not_f (rfl)) ?_
    refine cw_skip ?_
    refine cw_seq ?_
    refine cw_region ?_
    first | refine lw_val rfl (run_move (v := .int .i64 _) rfl) ?_
    refine lw_call rfl en17 (newd_sl hs (r := r + 1) (by omega) (by omega)) ?_
    clear hs
    rintro _ w ⟨p, rfl, hs⟩
    first | refine lw_val rfl (run_move (v := .tuple _) rfl) ?_
    first | refine lw_val rfl (run_extract (v := .pointer (some _)) rfl rfl) ?_ | refine lw_val rfl (run_extract (v := .pointer none) rfl rfl) ?_
    first | refine lw_val rfl (run_extract (v := errV ad _) rfl rfl) ?_ | refine lw_val rfl (run_extract (v := .nilIface) rfl rfl) ?_
    first | refine lw_val rfl (run_assign (v := .pointer (some _)) rfl) ?_ | refine lw_val rfl (run_assign (v := .pointer none) rfl) ?_
    first | refine lw_val rfl (run_assign (v := errV ad _) rfl) ?_ | refine lw_val rfl (run_assign (v := .nilIface) rfl) ?_
    refine lw_nil ?_
    refine cw_seq ?_
    refine cw_seq ?_
    refine cw_region ?_
    first | refine lw_val rfl (run_move (v := .pointer (some _)) rfl) ?_ | refine lw_val rfl (run_move (v := .pointer none) rfl) ?_
    refine lw_val rfl (run_eqpn Tryd.underlying25 rfl rfl) ?_
    first | refine lw_val rfl (run_move (v := .bool _) rfl) ?_
    refine lw_on rfl rfl rfl ?_
    first | refine lw_val rfl (run_move (v := errV ad _) rfl) ?_ | refine lw_val rfl (run_move (v := .nilIface) rfl) ?_
    refine lw_on rfl rfl rfl ?_
    first | refine lw_val rfl (run_neerrn (ad := ad) rfl) ?_ | refine lw_val rfl (run_nenn rfl) ?_
    first | refine lw_val rfl (run_pickF (v := .bool _) rfl rfl rfl) ?_
    refine lw_nil ?_
    refine cw_iff rfl (rfl) ?_
    refine cw_skip ?_
    refine cw_seq ?_
    refine cw_region ?_
    first | refine lw_val rfl (run_assign (v := .int .i64 _) rfl) ?_
    refine lw_nil ?_
    refine cw_seq ?_
    refine cw_seq ?_
    refine cw_region ?_
    first | refine lw_val rfl (run_assign (v := .int .i64 _) rfl) ?_
    refine lw_nil ?_
    refine cw_block ?_
    refine cw_loop (X := Nat × Nat × Dk) [4, 8, 9, 10, 11, 12, 13, 14, 15, 41, 42, 43, 44, 45, 46, 47, 48, 49, 50, 51, 52, 53, 54, 55, 56, 57, 58, 59, 60, 61, 62, 63, 64, 65, 66, 67, 68, 69, 70, 71, 72, 73, 74, 75, 76, 77, 78, 79, 80, 81, 82, 83, 84, 85, 86, 87, 88, 89, 90, 91, 92, 93, 94, 95, 96, 97, 98, 99, 100, 101, 102, 103, 104, 105, 106, 107, 108, 109, 110] (fun x => [(8, .int .i64 (x.2.1 : Nat)), (9, .int .i64 (x.1 : Nat))]) (fun x w => x.1 ≤ l.length ∧ RoomI (r + 1) x.1 x.2.1 x.2.2 ∧ Mem g w [DiskC p x.2.2]) (fun x => l.length - x.1) ((0, 0, Dk.empty (r + 1))) ?_ ?_ ?_
    · exact ⟨rfl, rfl, trivial⟩
    · exact ⟨Nat.zero_le _, ⟨Dk.empty_ok (by omega), rfl, rfl, rfl, rfl, Nat.le_refl _, fun x hx => by simp [Dk.empty] at hx, rfl, Nat.zero_le _⟩, hs⟩
    clear hs
    rintro x ξ w hI
    obtain ⟨i, u, d⟩ := x
    obtain ⟨hi, hI, hs⟩ := hI
    simp only at hi hI hs
    have hcl := hI.calls
    have hft := hI.fits
    show cw _ _ _ _ _ _ (updL (mix _ ξ _) [(8, .int .i64 (u : Nat)), (9, .int .i64 (i : Nat))]) w
    refine cw_seq ?_
    refine cw_seq ?_
    refine cw_region ?_
    first | refine lw_val rfl (run_move (v := .int .i64 _) rfl) ?_
    first | refine lw_val rfl (run_move (v := .slice _ _ _) rfl) ?_
    refine lw_val rfl (run_lenS Tryd.underlying22 rfl) ?_
    refine lw_val rfl (run_lss rfl rfl) ?_
    refine lw_nil ?_
    refine cw_if rfl ?_ ?_
    · intro h44
      have g44 := of_decide_eq_true h44
      obtain ⟨z, hz⟩ : ∃ z, l[i]? = some z := ⟨_, List.getElem?_eq_getElem (by omega)⟩
      obtain ⟨b1, o1, rfl, _⟩ := (h1.rd _).cells' hs (by rw [intsL_len]; omega)
      refine cw_skip ?_
      refine cw_seq ?_
      refine cw_block ?_
      refine cw_seq ?_
      refine cw_region ?_
      first | refine lw_val rfl (run_move (v := .int .i64 _) rfl) ?_
      refine lw_val rfl (run_add64 rfl rfl (c := ((97 + i : Nat) : Int)) (by omega) (inI (by omega) (by omega))) ?_
      refine lw_val rfl (run_convIn Tryd.underlying3 Tryd.underlying5 rfl (c := (((UInt8.ofNat (97 + i)).toNat : Nat) : Int)) (wrapU8 (by omega))) ?_
      refine lw_buildSlice hs rfl ((bytesL [UInt8.ofNat (97 + i)])) Tryd.underlying30 zs5 rfl (cells_one (bytesL_one _)) rfl rfl rfl ?_
      clear hs
      intro b50 w hs
      try simp only [List.set_cons_succ, List.set_cons_zero] at hs
      refine lw_val rfl (run_bytesStr Tryd.underlying30 Tryd.underlying5 Tryd.underlying9 rfl (l := [UInt8.ofNat (97 + i)]) rfl (fun j v hj => by rw [Nat.zero_add]; exact hs.cellAt 0 rfl hj)) ?_
      first | refine lw_val rfl (run_assign (v := .string _) rfl) ?_
      refine lw_nil ?_
      refine cw_seq ?_
      refine cw_region ?_
      first | refine lw_val rfl (run_move (v := .slice _ _ _) rfl) ?_
      first | refine lw_val rfl (run_move (v := .int .i64 _) rfl) ?_
      refine lw_val rfl (run_indexAddr Tryd.underlying22 sz3 rfl rfl rfl (by omega) rfl) ?_
      refine lw_val rfl (run_load Tryd.underlying3 rfl rfl ((h1.rd _).cellAt hs (intsL_at hz))) ?_
      refine lw_call rfl en16 (number_sl hs z 80 (by decide)) ?_
      clear hs
      rintro _ w ⟨k, hk, rfl, hs⟩
      replace hs := hs.tail
      first | refine lw_val rfl (run_assign (v := .int .i64 _) rfl) ?_
      refine lw_nil ?_
      refine cw_seq ?_
      refine cw_region ?_
      first | refine lw_val rfl (run_move (v := .pointer (some _)) rfl) ?_ | refine lw_val rfl (run_move (v := .pointer none) rfl) ?_
      first | refine lw_val rfl (run_move (v := .string _) rfl) ?_
      refine lw_call rfl en18 (create_sl hE hs (by omega) (nmI i) (hI.create (by omega))) ?_
      clear hs
      rintro _ w ⟨rfl, hs⟩
      first | refine lw_val rfl (run_assign (v := errV ad _) rfl) ?_ | refine lw_val rfl (run_assign (v := .nilIface) rfl) ?_
      refine lw_nil ?_
      refine cw_seq ?_
      refine cw_region ?_
      first | refine lw_val rfl (run_move (v := .pointer (some _)) rfl) ?_ | refine lw_val rfl (run_move (v := .pointer none) rfl) ?_
      first | refine lw_val rfl (run_move (v := .string _) rfl) ?_
      first | refine lw_val rfl (run_move (v := .int .i64 _) rfl) ?_
      refine lw_makeSlice hs rfl Tryd.underlying30 in5 rfl rfl rfl (l := k) (c := k) rfl rfl (by omega) (by omega) (by omega) ?_
      clear hs
      intro b63 w hs
      try simp only [List.set_cons_succ, List.set_cons_zero] at hs
      obtain ⟨kc, d2, happ, hk2⟩ : ∃ kc d2, (roomD d i [] 1).append (nmI i) (List.replicate k 0) = (kc, d2) ∧ (u + k ≤ r + 1 ∧ kc = 0 ∧ d2 = roomD d i (List.replicate k 0) 2 ∨ r + 1 < u + k ∧ kc = 109 ∧ d2 = roomD d i [] 1) := by rcases Nat.lt_or_ge (r + 1) (u + k) with h | h; exact ⟨_, _, hI.full (by omega) _ (by simpa using h), .inr ⟨h, rfl, rfl⟩⟩; exact ⟨_, _, hI.append (by omega) _ (by simpa using h), .inl ⟨h, rfl, rfl⟩⟩
      refine lw_call rfl en19 (append_sl (d := roomD d i [] 1) (L := [own _ _]) hE (hs.arr [1, 0] 2 (by decide)) (by show d.calls + 1 < _; omega) (nmI i) (x := List.replicate k 0) (by have h := hs.rdOwn 0 rfl; exact Rd.own 0 (by simp [bytesL, u8v])) (by simp) (by simp; omega) happ) ?_
      clear hs
      rintro _ w ⟨rfl, hs⟩
      replace hs := hs.drop 1
      have hdec : decide (kc = 0) = decide ((u : Int) + (k : Int) ≤ ((r + 1 : Nat) : Int)) := by rcases hk2 with ⟨h, rfl, _⟩ | ⟨h, rfl, _⟩; rw [decide_eq_true rfl, decide_eq_true (by omega)]; rw [decide_eq_false (by decide), decide_eq_false (by omega)]
      first | refine lw_val rfl (run_assign (v := errV ad _) rfl) ?_ | refine lw_val rfl (run_assign (v := .nilIface) rfl) ?_
      refine lw_nil ?_
      refine cw_seq ?_
      refine cw_seq ?_
      refine cw_region ?_
      first | refine lw_val rfl (run_move (v := errV ad _) rfl) ?_ | refine lw_val rfl (run_move (v := .nilIface) rfl) ?_
      first | refine lw_val rfl (run_neerrn (ad := ad) rfl) ?_ | refine lw_val rfl (run_nenn rfl) ?_
      first | refine lw_val rfl (run_move (v := .bool _) rfl) ?_
      refine lw_on rfl rfl (rfl) ?_
      first | refine lw_val rfl (run_move (v := errV ad _) rfl) ?_ | refine lw_val rfl (run_move (v := .nilIface) rfl) ?_
      refine lw_on rfl rfl (rfl) ?_
      first | refine lw_val rfl (run_eqerrn (ad := ad) rfl) ?_ | refine lw_val rfl (run_eqnn rfl) ?_
      refine lw_on rfl rfl (rfl) ?_
      first | refine lw_val rfl (run_move (v := .int .i64 _) rfl) ?_
      refine lw_on rfl rfl (rfl) ?_
      first | refine lw_val rfl (run_move (v := .int .i64 _) rfl) ?_
      refine lw_on rfl rfl (rfl) ?_
      refine lw_val rfl (run_add64 rfl rfl rfl (inI (by omega) (by omega))) ?_
      refine lw_on rfl rfl (rfl) ?_
      first | refine lw_val rfl (run_move (v := .int .i64 _) rfl) ?_
      refine lw_on rfl rfl (rfl) ?_
      refine lw_val rfl (run_leq rfl rfl) ?_
      refine lw_on rfl rfl (rfl) ?_
      refine lw_val rfl (run_neb Tryd.underlying4 rfl rfl) ?_
      first | refine lw_val rfl (run_pickF (v := .bool _) rfl (rfl) rfl) ?_
      first | refine lw_val rfl (run_move (v := .bool _) rfl) ?_
      refine lw_on rfl rfl (by rw [hdec]; simp) ?_
      first | refine lw_val rfl (run_move (v := errV ad _) rfl) ?_ | refine lw_val rfl (run_move (v := .nilIface) rfl) ?_
      refine lw_on rfl rfl (by rw [hdec]; simp) ?_
      first | refine lw_val rfl (run_neerrn (ad := ad) rfl) ?_ | refine lw_val rfl (run_nenn rfl) ?_
      refine lw_on rfl rfl (by rw [hdec]; simp) ?_
      first | refine lw_val rfl (run_move (v := .bool _) rfl) ?_
      refine lw_split (t := _) (d := 80) rfl ?_ ?_
      · intro h79
        have g79 := ne_t h79
        have hz : kc ≠ 0 := by simpa using h79
        obtain ⟨hf, rfl, rfl⟩ := hk2.resolve_left (fun h => hz h.2.1)
        refine lw_on rfl rfl h79 ?_
        first | refine lw_val rfl (run_move (v := errV ad _) rfl) ?_ | refine lw_val rfl (run_move (v := .nilIface) rfl) ?_
        refine lw_on rfl rfl h79 ?_
        refine lw_call rfl en20 (isA_sl hA hs (d := 109) (by decide) 109) ?_
        clear hs
        rintro _ w ⟨rfl, hs⟩
        refine lw_on rfl rfl h79 ?_
        refine lw_val rfl (run_not rfl) ?_
        refine lw_on rfl rfl (by rw [hdec]; simp) ?_
        first | refine lw_val rfl (run_pickT (v := .bool _) rfl h79 rfl) ?_
        first | refine lw_val rfl (run_pickF (v := .bool _) rfl (by rw [hdec]; simp) rfl) ?_
        refine lw_nil ?_
        refine cw_iff rfl (not_f (decide_eq_true rfl)) ?_
        refine cw_skip ?_
        refine cw_seq ?_
        refine cw_seq ?_
        refine cw_region ?_
        first | refine lw_val rfl (run_move (v := errV ad _) rfl) ?_ | refine lw_val rfl (run_move (v := .nilIface) rfl) ?_
        first | refine lw_val rfl (run_eqerrn (ad := ad) rfl) ?_ | refine lw_val rfl (run_eqnn rfl) ?_
        refine lw_nil ?_
        refine cw_iff rfl (rfl) ?_
        refine cw_skip ?_
        refine cw_seq ?_
        refine cw_seq ?_
        refine cw_region ?_
        first | refine lw_val rfl (run_move (v := .int .i64 _) rfl) ?_
        refine lw_val rfl (run_rem64 rfl rfl (by omega) (by omega) rfl) ?_
        refine lw_val rfl (run_eqi rfl rfl) ?_
        refine lw_nil ?_
        refine cw_if rfl ?_ ?_
        · intro h93
          have g93 := of_decide_eq_true h93
          refine cw_seq ?_
          refine cw_region ?_
          first | refine lw_val rfl (run_move (v := .pointer (some _)) rfl) ?_ | refine lw_val rfl (run_move (v := .pointer none) rfl) ?_
          first | refine lw_val rfl (run_move (v := .string _) rfl) ?_
          refine lw_call rfl en21 (len_sl hE hs (nmI i) (hI.lenR (by omega) [] 1)) ?_
          clear hs
          rintro _ w ⟨rfl, hs⟩
          first | refine lw_val rfl (run_move (v := .tuple _) rfl) ?_
          first | refine lw_val rfl (run_extract (v := .int .i64 _) rfl rfl) ?_
          first | refine lw_val rfl (run_extract (v := errV ad _) rfl rfl) ?_ | refine lw_val rfl (run_extract (v := .nilIface) rfl rfl) ?_
          first | refine lw_val rfl (run_assign (v := .int .i64 _) rfl) ?_
          first | refine lw_val rfl (run_assign (v := errV ad _) rfl) ?_ | refine lw_val rfl (run_assign (v := .nilIface) rfl) ?_
          refine lw_nil ?_
          refine cw_seq ?_
          refine cw_seq ?_
          refine cw_region ?_
          first | refine lw_val rfl (run_move (v := .pointer (some _)) rfl) ?_ | refine lw_val rfl (run_move (v := .pointer none) rfl) ?_
          first | refine lw_val rfl (run_move (v := .string _) rfl) ?_
          refine lw_call rfl en22 (remove_sl hE hs (show d.calls + 1 < 1000000 by omega) (nmI i) (hI.remove (by omega) [] 1)) ?_
          clear hs
          rintro _ w ⟨rfl, hs⟩
          first | refine lw_val rfl (run_neerrn (ad := ad) rfl) ?_ | refine lw_val rfl (run_nenn rfl) ?_
          refine lw_nil ?_
          refine cw_iff rfl (rfl) ?_
          refine cw_skip ?_
          refine cw_region ?_
          first | refine lw_val rfl (run_move (v := .int .i64 _) rfl) ?_
          first | refine lw_val rfl (run_move (v := .int .i64 _) rfl) ?_
          refine lw_val rfl (run_sub64 rfl rfl (c := ((u : Nat) : Int)) (by simp only [List.length_nil, List.length_replicate]; omega) (inI (by omega) (by omega))) ?_
          first | refine lw_val rfl (run_assign (v := .int .i64 _) rfl) ?_
          refine lw_nil ?_
          refine cw_seq ?_
          obtain ⟨hok, _⟩ := hs.openD
          have hN := hI.nextR (b := []) (c := 1) (by omega) hok
          have hcl2 := hN.calls
          refine cw_region ?_
          first | refine lw_val rfl (run_move (v := .pointer (some _)) rfl) ?_ | refine lw_val rfl (run_move (v := .pointer none) rfl) ?_
          refine lw_call rfl en23 (used_sl hs (by omega)) ?_
          clear hs
          rintro _ w ⟨rfl, hs⟩
          first | refine lw_val rfl (run_move (v := .int .i64 _) rfl) ?_
          refine lw_val rfl (run_nei rfl rfl) ?_
          refine lw_nil ?_
          refine cw_iff rfl (by rw [← hN.used]; simp) ?_
          refine cw_skip ?_
          refine cw_region ?_
          first | refine lw_val rfl (run_move (v := .int .i64 _) rfl) ?_
          refine lw_val rfl (run_add64 rfl rfl rfl (inI (by omega) (by omega))) ?_
          first | refine lw_val rfl (run_assign (v := .int .i64 _) rfl) ?_
          refine lw_nil ?_
          exact ⟨(i + 1, u, _), by simp only; omega, ⟨by simp only; omega, hN, hs⟩, ⟨rfl, rfl, trivial⟩, by repeat (first | exact Out.mix _ _ _ | refine Out.updo rfl ?_ | refine Out.upd rfl ?_ | refine Out.mixIn rfl ?_)⟩
        · intro h93
          have g93 := of_decide_eq_false h93
          refine cw_skip ?_
          refine cw_seq ?_
          obtain ⟨hok, _⟩ := hs.openD
          have hN := hI.next (b := []) (c := 1) (by omega) hok (by simpa using hft)
          simp only [List.length_nil, Nat.add_zero] at hN
          have hcl2 := hN.calls
          refine cw_region ?_
          first | refine lw_val rfl (run_move (v := .pointer (some _)) rfl) ?_ | refine lw_val rfl (run_move (v := .pointer none) rfl) ?_
          refine lw_call rfl en23 (used_sl hs (by omega)) ?_
          clear hs
          rintro _ w ⟨rfl, hs⟩
          first | refine lw_val rfl (run_move (v := .int .i64 _) rfl) ?_
          refine lw_val rfl (run_nei rfl rfl) ?_
          refine lw_nil ?_
          refine cw_iff rfl (by rw [← hN.used]; simp) ?_
          refine cw_skip ?_
          refine cw_region ?_
          first | refine lw_val rfl (run_move (v := .int .i64 _) rfl) ?_
          refine lw_val rfl (run_add64 rfl rfl rfl (inI (by omega) (by omega))) ?_
          first | refine lw_val rfl (run_assign (v := .int .i64 _) rfl) ?_
          refine lw_nil ?_
          exact ⟨(i + 1, u, _), by simp only; omega, ⟨by simp only; omega, hN, hs⟩, ⟨rfl, rfl, trivial⟩, by repeat (first | exact Out.mix _ _ _ | refine Out.updo rfl ?_ | refine Out.upd rfl ?_ | refine Out.mixIn rfl ?_)⟩
      · intro h79
        have g79 := ne_f h79
        have hz : kc = 0 := by simpa using h79
        obtain ⟨hf, _, rfl⟩ := hk2.resolve_right (fun h => by have := h.2.1; omega)
        subst hz
        refine lw_off rfl rfl rfl h79 ?_
        refine lw_off rfl rfl rfl h79 ?_
        refine lw_off rfl rfl rfl h79 ?_
        refine lw_on rfl rfl (by rw [hdec]; simp) ?_
        first | refine lw_val rfl (run_pickF (v := .bool _) rfl h79 rfl) ?_
        first | refine lw_val rfl (run_pickF (v := .bool _) rfl (by rw [hdec]; simp) rfl) ?_
        refine lw_nil ?_
        refine cw_iff rfl rfl ?_
        refine cw_skip ?_
        refine cw_seq ?_
        refine cw_seq ?_
        refine cw_region ?_
        first | refine lw_val rfl (run_move (v := errV ad _) rfl) ?_ | refine lw_val rfl (run_move (v := .nilIface) rfl) ?_
        first | refine lw_val rfl (run_eqerrn (ad := ad) rfl) ?_ | refine lw_val rfl (run_eqnn rfl) ?_
        refine lw_nil ?_
        refine cw_ift rfl (rfl) ?_
        refine cw_region ?_
        first | refine lw_val rfl (run_move (v := .int .i64 _) rfl) ?_
        first | refine lw_val rfl (run_move (v := .int .i64 _) rfl) ?_
        refine lw_val rfl (run_add64 rfl rfl (c := ((u + k : Nat) : Int)) (by omega) (inI (by omega) (by omega))) ?_
        first | refine lw_val rfl (run_assign (v := .int .i64 _) rfl) ?_
        refine lw_nil ?_
        refine cw_seq ?_
        refine cw_seq ?_
        refine cw_region ?_
        first | refine lw_val rfl (run_move (v := .int .i64 _) rfl) ?_
        refine lw_val rfl (run_rem64 rfl rfl (by omega) (by omega) rfl) ?_
        refine lw_val rfl (run_eqi rfl rfl) ?_
        refine lw_nil ?_
        refine cw_if rfl ?_ ?_
        · intro h93
          have g93 := of_decide_eq_true h93
          refine cw_seq ?_
          refine cw_region ?_
          first | refine lw_val rfl (run_move (v := .pointer (some _)) rfl) ?_ | refine lw_val rfl (run_move (v := .pointer none) rfl) ?_
          first | refine lw_val rfl (run_move (v := .string _) rfl) ?_
          refine lw_call rfl en21 (len_sl hE hs (nmI i) (hI.lenR (by omega) (List.replicate k 0) 2)) ?_
          clear hs
          rintro _ w ⟨rfl, hs⟩
          first | refine lw_val rfl (run_move (v := .tuple _) rfl) ?_
          first | refine lw_val rfl (run_extract (v := .int .i64 _) rfl rfl) ?_
          first | refine lw_val rfl (run_extract (v := errV ad _) rfl rfl) ?_ | refine lw_val rfl (run_extract (v := .nilIface) rfl rfl) ?_
          first | refine lw_val rfl (run_assign (v := .int .i64 _) rfl) ?_
          first | refine lw_val rfl (run_assign (v := errV ad _) rfl) ?_ | refine lw_val rfl (run_assign (v := .nilIface) rfl) ?_
          refine lw_nil ?_
          refine cw_seq ?_
          refine cw_seq ?_
          refine cw_region ?_
          first | refine lw_val rfl (run_move (v := .pointer (some _)) rfl) ?_ | refine lw_val rfl (run_move (v := .pointer none) rfl) ?_
          first | refine lw_val rfl (run_move (v := .string _) rfl) ?_
          refine lw_call rfl en22 (remove_sl hE hs (show d.calls + 2 < 1000000 by omega) (nmI i) (hI.remove (by omega) (List.replicate k 0) 2)) ?_
          clear hs
          rintro _ w ⟨rfl, hs⟩
          first | refine lw_val rfl (run_neerrn (ad := ad) rfl) ?_ | refine lw_val rfl (run_nenn rfl) ?_
          refine lw_nil ?_
          refine cw_iff rfl (rfl) ?_
          refine cw_skip ?_
          refine cw_region ?_
          first | refine lw_val rfl (run_move (v := .int .i64 _) rfl) ?_
          first | refine lw_val rfl (run_move (v := .int .i64 _) rfl) ?_
          refine lw_val rfl (run_sub64 rfl rfl (c := ((u : Nat) : Int)) (by simp only [List.length_nil, List.length_replicate]; omega) (inI (by omega) (by omega))) ?_
          first | refine lw_val rfl (run_assign (v := .int .i64 _) rfl) ?_
          refine lw_nil ?_
          refine cw_seq ?_
          obtain ⟨hok, _⟩ := hs.openD
          have hN := hI.nextR (b := List.replicate k 0) (c := 2) (by omega) hok
          have hcl2 := hN.calls
          refine cw_region ?_
          first | refine lw_val rfl (run_move (v := .pointer (some _)) rfl) ?_ | refine lw_val rfl (run_move (v := .pointer none) rfl) ?_
          refine lw_call rfl en23 (used_sl hs (by omega)) ?_
          clear hs
          rintro _ w ⟨rfl, hs⟩
          first | refine lw_val rfl (run_move (v := .int .i64 _) rfl) ?_
          refine lw_val rfl (run_nei rfl rfl) ?_
          refine lw_nil ?_
          refine cw_iff rfl (by rw [← hN.used]; simp) ?_
          refine cw_skip ?_
          refine cw_region ?_
          first | refine lw_val rfl (run_move (v := .int .i64 _) rfl) ?_
          refine lw_val rfl (run_add64 rfl rfl rfl (inI (by omega) (by omega))) ?_
          first | refine lw_val rfl (run_assign (v := .int .i64 _) rfl) ?_
          refine lw_nil ?_
          exact ⟨(i + 1, u, _), by simp only; omega, ⟨by simp only; omega, hN, hs⟩, ⟨rfl, rfl, trivial⟩, by repeat (first | exact Out.mix _ _ _ | refine Out.updo rfl ?_ | refine Out.upd rfl ?_ | refine Out.mixIn rfl ?_)⟩
        · intro h93
          have g93 := of_decide_eq_false h93
          refine cw_skip ?_
          refine cw_seq ?_
          obtain ⟨hok, _⟩ := hs.openD
          have hN := hI.next (b := List.replicate k 0) (c := 2) (by omega) hok (by simpa using hf)
          simp only [List.length_replicate] at hN
          have hcl2 := hN.calls
          refine cw_region ?_
          first | refine lw_val rfl (run_move (v := .pointer (some _)) rfl) ?_ | refine lw_val rfl (run_move (v := .pointer none) rfl) ?_
          refine lw_call rfl en23 (used_sl hs (by omega)) ?_
          clear hs
          rintro _ w ⟨rfl, hs⟩
          first | refine lw_val rfl (run_move (v := .int .i64 _) rfl) ?_
          refine lw_val rfl (run_nei rfl rfl) ?_
          refine lw_nil ?_
          refine cw_iff rfl (by rw [← hN.used]; simp) ?_
          refine cw_skip ?_
          refine cw_region ?_
          first | refine lw_val rfl (run_move (v := .int .i64 _) rfl) ?_
          refine lw_val rfl (run_add64 rfl rfl rfl (inI (by omega) (by omega))) ?_
          first | refine lw_val rfl (run_assign (v := .int .i64 _) rfl) ?_
          refine lw_nil ?_
          exact ⟨(i + 1, u + k, _), by simp only; omega, ⟨by simp only; omega, hN, hs⟩, ⟨rfl, rfl, trivial⟩, by repeat (first | exact Out.mix _ _ _ | refine Out.updo rfl ?_ | refine Out.upd rfl ?_ | refine Out.mixIn rfl ?_)⟩
    · intro h44
      have g44 := of_decide_eq_false h44
      refine cw_exit rfl ?_
      refine cw_seq ?_
      refine cw_region ?_
      first | refine lw_val rfl (run_assign (v := .bool _) rfl) ?_
      refine lw_nil ?_
      refine cw_ret ?_
      refine res1 (v := .bool _) rfl rfl ?_
      exact ⟨_, rfl, rfl, hs.nil⟩
end Go.Proofs.YthlnkniocklegaaDoor
