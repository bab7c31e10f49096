/- cordwoodsee: what an error is, as plain data. -/
import Derived.Test.YtmnfehbnjgmgjaaDoorErr
namespace Go.Proofs.YtmnfehbnjgmgjaaDoor
set_option linter.all false
open Go.RowKit

def IntNew (n : Int) (w : World) (e : Ending) (w' : World) : Prop := e = .returned (.int .i64 n) ∧ Below w.heap.size w w'
def BoolNew (b : Bool) (w : World) (e : Ending) (w' : World) : Prop := e = .returned (.bool b) ∧ Below w.heap.size w w'
def FaultNew (c : Int) (p : Bool) (q : Int) (w : World) (e : Ending) (w' : World) : Prop := e = .returned (.agg #[.int .i64 c, .bool p, .int .i64 q]) ∧ Below w.heap.size w w'

theorem sentinel_any {ad : Nat → Addr} {B : Nat} {w : World} (h : Errs allCodes ad B w) (hB : B ≤ w.heap.size) {c : Nat} (hc : c ∈ allCodes) :
    Calls Tryd.prog 102 #[.iface 192 (.pointer (some (ad c)))] w (IntNew c w) := by
  have hcr : 101 ≤ c ∧ c ≤ 119 := by simp only [allCodes, List.mem_cons, List.not_mem_nil, or_false] at hc; omega
  have hw1 : Errs allCodes ad B (w.alloc (.cells (allCodes.map (errV ad)).toArray 30)) := h.below ((Below.refl B w).alloc hB _)
  have hcell : ∀ k, k < 19 → (w.alloc (.cells (allCodes.map (errV ad)).toArray 30)).cell? ⟨w.heap.size, k, none⟩ = some (.iface 192 (.pointer (some (ad (101 + k))))) := by
    intro k hk
    refine cell_at (World.alloc_heap_new w _) ?_
    rw [List.getElem?_toArray, List.getElem?_map]
    have : allCodes[k]? = some (101 + k) := by
      rcases (by omega : k = 0 ∨ k = 1 ∨ k = 2 ∨ k = 3 ∨ k = 4 ∨ k = 5 ∨ k = 6 ∨ k = 7 ∨ k = 8 ∨ k = 9 ∨ k = 10 ∨ k = 11 ∨ k = 12 ∨ k = 13 ∨ k = 14 ∨ k = 15 ∨ k = 16 ∨ k = 17 ∨ k = 18) with e | e | e | e | e | e | e | e | e | e | e | e | e | e | e | e | e | e | e <;> (subst e; rfl)
    rw [this, Option.map_some, errV_pos ad (by omega)]
  have hbel : Below w.heap.size w (w.alloc (.cells (allCodes.map (errV ad)).toArray 30)) := (Below.refl _ w).alloc (Nat.le_refl _) _
  generalize hw' : w.alloc (.cells (allCodes.map (errV ad)).toArray 30) = W at *
  have Hw := Lib.hid hw'
  clear hw'
  have H := Lib.hid h
  clear h
  have Hcell := Lib.hid hcell
  clear hcell
  go_enter Tryd.func102, Tryd.ntmps102
  go_wp2_with (go_at_call 114; refine (sentinels_any H.out).mono ?_; rintro e w' ⟨rfl, rfl⟩; rw [Hw.out])
  go_loop [4] (fun i => ∃ k : Nat, 101 + k ≤ c ∧ i = .int .i64 k) (fun i => 19 - (intOf i).toNat)
  case atStart => exact ⟨0, by omega, rfl⟩
  case round =>
    obtain ⟨k, hk, rfl⟩ := hrel
    have hk19 : k < 19 := by omega
    have hck := Hcell.out k hk19
    have hkm : 101 + k ∈ allCodes := by
      simp only [allCodes, List.mem_cons, List.not_mem_nil, or_false]; omega
    by_cases he : c = 101 + k
    · have hb : (c == 101 + k) = true := by simp [he]
      have Hb := Lib.hid hb
      have He := Lib.hid he
      clear hb he
      go_wp2_with (go_at_call 115; refine (alike_any hw1 hc hkm).mono ?_; rintro e w' ⟨rfl, rfl⟩; rw [Hb.out])
      go_ret
      exact ⟨ret_int (by rw [He.out]; simp), hbel⟩
    · have hb : (c == 101 + k) = false := by simp [he]
      have Hb := Lib.hid hb
      have hlt : 101 + (k + 1) ≤ c := by omega
      clear hb he
      go_wp2_with (go_at_call 115; refine (alike_any hw1 hc hkm).mono ?_; rintro e w' ⟨rfl, rfl⟩; rw [Hb.out])
      go_round
      case rel => exact ⟨k + 1, hlt, by go_num⟩
      case measure => simp [intOf]; omega

theorem bare_any (c : Int) (w : World) : Calls Tryd.prog 82 #[.int .i64 c] w (FaultNew c false 0 w) := by
  go_enter Tryd.func82, Tryd.ntmps82
  go_wp2
  exact bodyPost_ret (v := .agg #[.int .i64 c, .bool false, .int .i64 0]) (by simp [results, Tryd.results82, go_sem]) rfl ⟨rfl, (Below.refl _ _).alloc (Nat.le_refl _) _⟩
theorem none_any (w : World) : Calls Tryd.prog 101 #[] w (FaultNew 0 false 0 w) := by
  go_enter Tryd.func101, Tryd.ntmps101
  go_wp2
  exact bodyPost_ret (v := .agg #[.int .i64 0, .bool false, .int .i64 0]) (by simp [results, Tryd.results101, go_sem]) rfl ⟨rfl, (Below.refl _ _).alloc (Nat.le_refl _) _⟩
theorem sameFault_any (c d : Int) (p q : Bool) (x y : Int) (w : World) : Calls Tryd.prog 68 #[.agg #[.int .i64 c, .bool p, .int .i64 x], .agg #[.int .i64 d, .bool q, .int .i64 y]] w (BoolNew (c == d && (p == q && x == y)) w) := by
  have hbel : ∀ o o', Below w.heap.size w ((w.alloc o).alloc o') := fun o o' => ((Below.refl _ _).alloc (Nat.le_refl _) _).alloc (by simp) _
  have Hb := Lib.hid hbel
  clear hbel
  cases hb : (c == d)
  · go_enter Tryd.func68, Tryd.ntmps68
    go_wp2
    go_ret
    exact ⟨rfl, Hb.out _ _⟩
  · cases hb2 : (p == q)
    · go_enter Tryd.func68, Tryd.ntmps68
      go_wp2
      go_ret
      exact ⟨rfl, Hb.out _ _⟩
    · go_enter Tryd.func68, Tryd.ntmps68
      go_wp2
      go_ret
      exact ⟨rfl, Hb.out _ _⟩

theorem agg_fault (w : World) : (isAgg 35).run Tryd.prog w = .ok true w := by kernel_rfl
theorem size_fault (vs : Array Value) (h : vs.size = 3) : (Tryd.prog.info? 35).map (·.size) = some vs.size := by rw [h]; kernel_rfl

/-- What an error is: its code, whether an At is around it, its place. -/
theorem fault_nil (w : World) : Calls Tryd.prog 69 #[.nilIface] w (FaultNew 0 false 0 w) := by
  go_enter Tryd.func69, Tryd.ntmps69
  go_wp2_with (first
    | (go_at_call 101; refine (none_any _).mono ?_; rintro e w' ⟨rfl, hb⟩; have hblk := (hb.block w.heap.size (by simp)).trans (World.alloc_heap_new w _); have H := Lib.hid hblk; have HB := Lib.hid hb; clear hblk hb)
    | (refine wpList_storeRow rfl _ _ _ rfl w.heap.size _ rfl rfl H.out (size_fault _ rfl) rfl (by simp [Value.oneCell']) ?_; intro w2 h2 k2 _; have H2 := Lib.hid h2; have K2 := Lib.hid k2; clear h2 k2))
  refine bodyPost_ret (results_row rfl rfl (agg_fault _) (size_fault _ rfl) H2.out) rfl ⟨rfl, ?_⟩
  exact (((Keeps.refl (fun _ => False) w).alloc _).trans' (Keeps.of_below HB.out (fun _ => False)) (fun _ _ h => h)).trans' K2.out (fun i hi h => by omega) |>.below (Nat.le_refl _) (fun _ _ h => h)
set_option maxRecDepth 100000 in
theorem fault_err {ad : Nat → Addr} {B : Nat} {w : World} (h : Errs allCodes ad B w) (hB : B ≤ w.heap.size) {c : Nat} (hc : c ∈ allCodes) :
    Calls Tryd.prog 69 #[.iface 192 (.pointer (some (ad c)))] w (FaultNew c false 0 w) := by
  have h1 : ∀ o, Errs allCodes ad B (w.alloc o) := fun o => h.below ((Below.refl B w).alloc hB _)
  have H1 := Lib.hid h1
  clear h1 h
  go_enter Tryd.func69, Tryd.ntmps69
  have hta : ∀ (v : Value) (w : World), (Instr.typeAssert (.iface 192 v) 30 98 true).run Tryd.prog w = .ok (.tuple #[.pointer none, .bool false]) w := fun _ _ => by kernel_rfl
  go_wp2_with (first
    | (go_at_call 102; refine (sentinel_any (H1.out _) (by simp; omega) hc).mono ?_; rintro e w1 ⟨rfl, hb⟩; have hblk := (hb.block w.heap.size (by simp)).trans (World.alloc_heap_new w _); have H := Lib.hid hblk; have HB := Lib.hid hb; clear hblk hb)
    | (go_at_call 82; refine (bare_any _ _).mono ?_; rintro e w3 ⟨rfl, hb⟩; have hblk := (hb.block w.heap.size (lt_of_block H.out)).trans H.out; have H3 := Lib.hid hblk; have HB3 := Lib.hid hb; clear hblk hb)
    | (refine wpList_storeRow rfl _ _ _ rfl w.heap.size _ rfl rfl H3.out (size_fault _ rfl) rfl (by simp [Value.oneCell']) ?_; intro w2 h2 k2 _; have H2 := Lib.hid h2; have K2 := Lib.hid k2; clear h2 k2))
  refine bodyPost_ret (results_row rfl rfl (agg_fault _) (size_fault _ rfl) H2.out) rfl ⟨rfl, ?_⟩
  exact ((((Keeps.refl (fun _ => False) w).alloc _).trans' (Keeps.of_below HB.out (fun _ => False)) (fun _ _ h => h)).trans' (Keeps.of_below HB3.out (fun _ => False)) (fun _ _ h => h)).trans' K2.out (fun i hi h => by omega) |>.below (Nat.le_refl _) (fun _ _ h => h)

theorem below2 {w w1 w2 : World} {o : Obj} (hb : Below (w.alloc o).drew.heap.size (w.alloc o).drew w1) (hb2 : Below w1.heap.size w1 w2) : Below w.heap.size w w2 :=
  (((Below.refl _ w).alloc (Nat.le_refl _) o).drew.trans (hb.mono (by simp))).trans (hb2.mono (by have := hb.size; simp at this; omega))
theorem same_nil (c : Int) (w : World) : Calls Tryd.prog 24 #[.nilIface, .agg #[.int .i64 c, .bool false, .int .i64 0]] w (BoolNew (0 == c) w) := by
  go_enter Tryd.func24, Tryd.ntmps24
  go_wp2_with fail
  go_region_held3 (fun w' => w'.cell? ⟨w.heap.size, 0, none⟩ = some (.int .i64 c) ∧ w'.cell? ⟨w.heap.size, 1, none⟩ = some (.bool false) ∧ w'.cell? ⟨w.heap.size, 2, none⟩ = some (.int .i64 0)) (go_keep)
    (first | (go_at_call 69; refine (fault_nil _).mono ?_; rintro e w' ⟨rfl, hb⟩; have k0 := hb.cell (p := ⟨w.heap.size, 0, none⟩) (by simp); have k1 := hb.cell (p := ⟨w.heap.size, 1, none⟩) (by simp); have k2 := hb.cell (p := ⟨w.heap.size, 2, none⟩) (by simp)) | (go_at_call 68; refine (sameFault_any _ _ _ _ _ _ _).mono ?_; rintro e w2 ⟨rfl, hb2⟩; have k0 := hb2.cell (p := ⟨w.heap.size, 0, none⟩) (by have := hb.size; simp at this; show w.heap.size < w'.heap.size; omega); have k1 := hb2.cell (p := ⟨w.heap.size, 1, none⟩) (by have := hb.size; simp at this; show w.heap.size < w'.heap.size; omega); have k2 := hb2.cell (p := ⟨w.heap.size, 2, none⟩) (by have := hb.size; simp at this; show w.heap.size < w'.heap.size; omega)))
  all_goals
    have HB := Lib.hid (below2 hb hb2)
    clear hb hb2
    go_wp2
    go_ret
    exact ⟨ret_bool (by simp), HB.out⟩
theorem same_err {ad : Nat → Addr} {B : Nat} {w : World} (h : Errs allCodes ad B w) (hB : B ≤ w.heap.size) {d : Nat} (hd : d ∈ allCodes) (c : Int) :
    Calls Tryd.prog 24 #[.iface 192 (.pointer (some (ad d))), .agg #[.int .i64 c, .bool false, .int .i64 0]] w (BoolNew ((d : Int) == c) w) := by
  have h1 : ∀ o, Errs allCodes ad B (w.alloc o).drew := fun o => h.below ((Below.refl B w).alloc hB _).drew
  have H1 := Lib.hid h1
  clear h1 h
  go_enter Tryd.func24, Tryd.ntmps24
  go_wp2_with fail
  go_region_held3 (fun w' => w'.cell? ⟨w.heap.size, 0, none⟩ = some (.int .i64 c) ∧ w'.cell? ⟨w.heap.size, 1, none⟩ = some (.bool false) ∧ w'.cell? ⟨w.heap.size, 2, none⟩ = some (.int .i64 0)) (go_keep)
    (first | (go_at_call 69; refine (fault_err (H1.out _) (by simp; omega) hd).mono ?_; rintro e w' ⟨rfl, hb⟩; have k0 := hb.cell (p := ⟨w.heap.size, 0, none⟩) (by simp); have k1 := hb.cell (p := ⟨w.heap.size, 1, none⟩) (by simp); have k2 := hb.cell (p := ⟨w.heap.size, 2, none⟩) (by simp)) | (go_at_call 68; refine (sameFault_any _ _ _ _ _ _ _).mono ?_; rintro e w2 ⟨rfl, hb2⟩; have k0 := hb2.cell (p := ⟨w.heap.size, 0, none⟩) (by have := hb.size; simp at this; show w.heap.size < w'.heap.size; omega); have k1 := hb2.cell (p := ⟨w.heap.size, 1, none⟩) (by have := hb.size; simp at this; show w.heap.size < w'.heap.size; omega); have k2 := hb2.cell (p := ⟨w.heap.size, 2, none⟩) (by have := hb.size; simp at this; show w.heap.size < w'.heap.size; omega)))
  all_goals
    have HB := Lib.hid (below2 hb hb2)
    clear hb hb2
    go_wp2
    go_ret
    exact ⟨ret_bool (by simp), HB.out⟩

/-- 'Is': an error is this one, with nothing around it. -/
theorem is_any {ad : Nat → Addr} {B : Nat} {w : World} (h : Errs allCodes ad B w) (hB : B ≤ w.heap.size) {d : Nat} (hd : d = 0 ∨ d ∈ allCodes) (c : Int) :
    Calls Tryd.prog 34 #[errV ad d, .int .i64 c] w (BoolNew ((d : Int) == c) w) := by
  rcases hd with rfl | hd
  · rw [errV_zero]
    clear h
    go_enter Tryd.func34, Tryd.ntmps34
    go_wp2_with (first
      | (go_at_call 82; refine (bare_any _ _).mono ?_; rintro e w1 ⟨rfl, hb1⟩; have HB1 := Lib.hid hb1; clear hb1)
      | (go_at_call 24; refine (same_nil _ _).mono ?_; rintro e w2 ⟨rfl, hb2⟩; have HB2 := Lib.hid hb2; clear hb2))
    go_ret
    exact ⟨rfl, HB1.out.trans (HB2.out.mono HB1.out.size)⟩
  · rw [errV_pos ad (h.pos d hd)]
    have H := Lib.hid h
    clear h
    go_enter Tryd.func34, Tryd.ntmps34
    go_wp2_with (first
      | (go_at_call 82; refine (bare_any _ _).mono ?_; rintro e w1 ⟨rfl, hb1⟩; have HB1 := Lib.hid hb1; clear hb1)
      | (go_at_call 24; refine (same_err (H.out.below (HB1.out.mono hB)) (Nat.le_trans hB HB1.out.size) hd _).mono ?_; rintro e w2 ⟨rfl, hb2⟩; have HB2 := Lib.hid hb2; clear hb2))
    go_ret
    exact ⟨rfl, HB1.out.trans (HB2.out.mono HB1.out.size)⟩
end Go.Proofs.YtmnfehbnjgmgjaaDoor
