/- PartLost, PartAnew: the walks. -/
import Derived.Test.YtjiigajekminaaaDoorSP
namespace Go.Proofs.YtjiigajekminaaaDoor
set_option linter.all false
open Go.RowKit
attribute [local irreducible] errV
variable {g w : World} {L M : List HP} {ad : Nat → Addr} {p q : Nat} {st : St}

/-! ### the parts so far -/
def chunkN (l : List UInt8) (e k : Nat) : List UInt8 := (l.take (min ((k + 1) * e) l.length)).drop (k * e)
def pts (l : List UInt8) (e k : Nat) : List (Int × List UInt8) := (List.range k).map fun (i : Nat) => (((i : Nat) : Int), chunkN l e i)
theorem pts_succ (l : List UInt8) (e k : Nat) : pts l e (k + 1) = pts l e k ++ [((k : Int), chunkN l e k)] := by simp [pts, List.range_succ]
theorem aget_app {κ α : Type} [DecidableEq κ] {l : List (κ × α)} {k : κ} {v : α} (h : aget l k = none) : aget (l ++ [(k, v)]) k = some v := by
  induction l with
  | nil => simp [aget]
  | cons x l ih =>
    obtain ⟨a, b⟩ := x
    simp only [aget] at h
    simp only [List.cons_append, aget]
    split
    · rename_i e; rw [if_pos e] at h; cases h
    · rename_i e; rw [if_neg e] at h; exact ih h
theorem aget_app1 {κ α : Type} [DecidableEq κ] {l : List (κ × α)} {k k' : κ} {v v' : α} (h : aget l k = some v) : aget (l ++ [(k', v')]) k = some v := by
  induction l with
  | nil => simp [aget] at h
  | cons x l ih =>
    obtain ⟨a, b⟩ := x
    simp only [aget] at h
    simp only [List.cons_append, aget]
    split
    · rename_i e; rw [if_pos e] at h; exact h
    · rename_i e; rw [if_neg e] at h; exact ih h
theorem aget_app2 {κ α : Type} [DecidableEq κ] {l : List (κ × α)} {k k' : κ} {v' : α} (h : aget l k = none) (hk : k' ≠ k) : aget (l ++ [(k', v')]) k = none := by
  induction l with
  | nil => simp [aget, hk]
  | cons x l ih =>
    obtain ⟨a, b⟩ := x
    simp only [aget] at h
    simp only [List.cons_append, aget]
    split
    · rename_i e; rw [if_pos e] at h; cases h
    · rename_i e; rw [if_neg e] at h; exact ih h
theorem aput_app {κ α : Type} [DecidableEq κ] {l : List (κ × α)} {k : κ} {v : α} (h : aget l k = none) : aput l k v = l ++ [(k, v)] := by
  induction l with
  | nil => rfl
  | cons x l ih =>
    obtain ⟨a, b⟩ := x
    simp only [aget] at h
    simp only [List.cons_append, aput]
    split
    · rename_i e; rw [if_pos e] at h; cases h
    · rename_i e; rw [if_neg e] at h; rw [ih h]
theorem pts_none (l : List UInt8) (e : Nat) : ∀ (k i : Nat), k ≤ i → aget (pts l e k) ((i : Nat) : Int) = none
  | 0, i, _ => rfl
  | k + 1, i, h => by rw [pts_succ]; exact aget_app2 (pts_none l e k i (by omega)) (by omega)
theorem pts_get (l : List UInt8) (e : Nat) : ∀ (k i : Nat), i < k → aget (pts l e k) ((i : Nat) : Int) = some (chunkN l e i)
  | k + 1, i, h => by
    rw [pts_succ]
    by_cases hi : i = k
    · subst hi; exact aget_app (pts_none l e i i (Nat.le_refl _))
    · exact aget_app1 (pts_get l e k i (by omega))
theorem pts_put (l : List UInt8) (e k : Nat) : aput (pts l e k) ((k : Nat) : Int) (chunkN l e k) = pts l e (k + 1) := by rw [pts_succ]; exact aput_app (pts_none l e k k (Nat.le_refl _))
theorem pts_put2 (l : List UInt8) (e k : Nat) : aput (pts l e (k + 1)) ((k : Nat) : Int) (chunkN l e k) = pts l e (k + 1) := aput_same (pts_get l e (k + 1) k (by omega))
theorem pts_all (l : List UInt8) (e k : Nat) : haveAll (pts l e k) k = true := haveAll_iff.2 fun i hi => by rw [pts_get l e k i hi]; rfl
theorem take_drop_app {l : List UInt8} {a c : Nat} (h : a ≤ c) : l.take a ++ (l.take c).drop a = l.take c := by
  have : l.take a = (l.take c).take a := by rw [List.take_take, Nat.min_eq_left h]
  rw [this, List.take_append_drop]
theorem pts_out (l : List UInt8) {e : Nat} (h1 : 1 ≤ e) : ∀ k, k ≤ partsN l.length e → ∀ K, k ≤ K → outK (pts l e K) k = l.take (min (k * e) l.length)
  | 0, _, K, _ => by simp [outK]
  | k + 1, h, K, hK => by
    have hke := partsN_lt (size := l.length) (e := e) h1 (show k < partsN l.length e by omega)
    have hkm : (k + 1) * e = k * e + e := Nat.succ_mul _ _
    rw [outK_succ (pts_get l e K k (by omega)), pts_out l h1 k (by omega) K (by omega), chunkN, Nat.min_eq_left (by omega : k * e ≤ l.length)]
    exact take_drop_app (by omega)
theorem pts_whole (l : List UInt8) {e : Nat} (h1 : 1 ≤ e) : outK (pts l e (partsN l.length e)) (partsN l.length e) = l := by
  rw [pts_out l h1 _ (Nat.le_refl _) _ (Nat.le_refl _), Nat.min_eq_right (partsN_end h1), List.take_length]
theorem pts_mem {l : List UInt8} {e k : Nat} {i : Int} {b : List UInt8} (h : (i, b) ∈ pts l e k) : b.length ≤ l.length := by
  simp only [pts, List.mem_map, Prod.mk.injEq] at h
  obtain ⟨j, _, _, rfl⟩ := h
  simp only [chunkN, List.length_drop, List.length_take]
  omega
theorem partsN_le {n e : Nat} (h1 : 1 ≤ e) : partsN n e ≤ n := by
  by_cases h : partsN n e = 0
  · omega
  · have := partsN_lt (size := n) (e := e) h1 (show partsN n e - 1 < partsN n e by omega)
    have h2 : (partsN n e - 1) * 1 ≤ (partsN n e - 1) * e := Nat.mul_le_mul_left _ h1
    omega
theorem fairN {l : List UInt8} {e : Nat} (h1 : 1 ≤ e) (h2 : e ≤ 1000) (h3 : l.length ≤ 256) : Fair l.length e (partsN l.length e) := ⟨h1, by omega, by omega, rfl, by have := partsN_le (n := l.length) h1; omega⟩

/-! ### the store of an upload -/
def nO : ByteArray := ⟨#[111]⟩
theorem nO_valid : validB nO.data.toList = true := by decide +kernel
theorem mk_ok {l : List UInt8} {e : Nat} (h1 : 1 ≤ e) (h2 : e ≤ 1000) (h3 : l.length ≤ 256) : mkR nO l e = (0, nO, ((l.length : Nat) : Int), ((crcMore 0 l : Nat) : Int), ((e : Nat) : Int), ((partsN l.length e : Nat) : Int)) := by
  have := partsN_le (n := l.length) h1
  unfold mkR; rw [if_neg (by simp [nO_valid]), if_neg (by omega), if_neg (by simp; omega)]; simp
def upO (l : List UInt8) (e k : Nat) : List (Int × Up) := [(1, ⟨nO, pts l e k⟩)]
theorem again_ok {σ : Type} {step : σ → Nat × σ} {s s2 : σ} {x t : Nat} (h : step s = (x, s2)) (hx : x ≠ 111) : againR step (t + 1) s = (false, x, 1, s2) := by simp [againR, h, hx]
theorem up_start (l : List UInt8) (e t : Nat) : againR (startStep nO) (t + 1) (St.empty, 0) = (false, 0, 1, tw [] (upO l e 0) [] 1 0, 1) := by
  refine again_ok ?_ (by decide)
  simp [startStep, St.startR, St.next, St.begin, St.empty, St.start1, nO_valid, tw, aput, upO, pts]
theorem up_part (l : List UInt8) (e k t c : Nat) (hk : k < 256) : againR (fun s => s.run (St.part1 1 k (chunkN l e k))) (t + 1) (tw [] (upO l e k) [] c 0) = (false, 0, 1, tw [] (upO l e (k + 1)) [] (c + 1) 0) := by
  refine again_ok ?_ (by decide)
  rw [run_ok rfl]
  have h : aget (tw [] (upO l e k) [] (c + 1) 0).ups 1 = some ⟨nO, pts l e k⟩ := by simp [tw, upO, aget]
  show St.part1 1 k (chunkN l e k) (tw [] (upO l e k) [] (c + 1) 0) = _
  simp only [St.part1, h]
  rw [if_neg (by omega), pts_put]
  simp [tw, upO, aput]
theorem up_complete1 (l : List UInt8) {e : Nat} (h1 : 1 ≤ e) (h3 : l.length ≤ 256) (s : List Int) (c f : Nat) : (tw [] (upO l e (partsN l.length e)) s c f).complete1 1 (partsN l.length e : Nat) = (0, tw [(nO, l)] [] s c f) := by
  have hp := partsN_le (n := l.length) h1
  have h : aget (tw [] (upO l e (partsN l.length e)) s c f).ups 1 = some ⟨nO, pts l e (partsN l.length e)⟩ := by simp [tw, upO, aget]
  simp only [St.complete1, h]
  rw [if_neg (by omega), Int.toNat_natCast, if_pos (pts_all l e _), pts_whole l h1]
  simp [tw, upO, aput, adel]
theorem no_complete1 (l : List UInt8) (k : Int) (s : List Int) (c f : Nat) : (tw [(nO, l)] [] s c f).complete1 1 k = (107, tw [(nO, l)] [] s c f) := rfl
theorem upO_small {l : List UInt8} {e k : Nat} {o : List (ByteArray × List UInt8)} (ho : ∀ n b, (n, b) ∈ o → b.length ≤ 1000) (h : l.length ≤ 256) (s : List Int) (c f : Nat) : (tw o (upO l e k) s c f).small := by
  refine tw_small ho fun i x hx j b hb => ?_
  simp only [upO, List.mem_singleton, Prod.mk.injEq] at hx
  rw [hx.2] at hb
  have := pts_mem hb
  omega
theorem oneO_small {l : List UInt8} (h : l.length ≤ 256) (s : List Int) (c f : Nat) : (tw [(nO, l)] [] s c f).small := by
  refine tw_small (fun n b hb => ?_) fun i x hx => by simp at hx
  simp at hb; rw [hb.2]; omega

/-! ### PartLost -/
/-- The store after i steps. -/
def plSt (l : List UInt8) (e : Nat) : Nat → St
  | 0 => St.empty
  | i + 1 => tw [] (upO l e i) [] (i + 1) 0
theorem lost_step (hE : ErrG ad g) {t i : Nat} (ht : t + 1 ≤ 8) {l : List UInt8} {e : Nat} (h1 : 1 ≤ e) (h2 : e ≤ 1000) (h3 : l.length ≤ 256) (hi : i ≤ partsN l.length e) {ba : Option Addr} {c : Nat} (hs : Mem g w (clientC q p (t + 1 : Nat) i :: StoreC p (plSt l e i) :: M)) (hr : Rd g M (.slice ba l.length c) (bytesL l)) :
    Calls Tryd.prog 46 #[.pointer (some ⟨q, 0, none⟩), .agg (planC nO l.length (crcMore 0 l : Nat) e (partsN l.length e : Nat)).toArray, .slice ba l.length c, .int .i64 (if i = 0 then 0 else 1), .int .i64 (i - 1 : Nat)] w
      (Ret fun v w' => v = .tuple #[.int .i64 1, .int .i64 (i : Nat), .bool false, errV ad 0] ∧ Mem g w' (clientC q p (t + 1 : Nat) (i + 1 : Nat) :: StoreC p (plSt l e (i + 1)) :: M)) := by
  have hp := partsN_le (n := l.length) h1
  cases i with
  | zero => exact step_start (i := 1) (n := 1) hE ⟨by decide, by decide⟩ ht hs (by simp [plSt, St.empty]) (by simp [plSt, St.empty]) (by simp [plSt, St.empty]) (fairN h1 h2 h3) ⟨by decide, by omega⟩ (up_start l e t)
  | succ k =>
    exact step_part (n := 1) (id := 1) (k := k) hE ⟨by omega, by omega⟩ ht hs (by simp [plSt, tw]; omega) (by simp [plSt, tw]) (fairN h1 h2 h3) (by decide) (by omega) hr (up_part l e k t (k + 1) (by omega))
theorem up_lost (l : List UInt8) {e : Nat} (h1 : 1 ≤ e) (h3 : l.length ≤ 256) (r c : Nat) : againR (fun s => s.run (St.complete1 1 (partsN l.length e : Nat))) (r + 1) (tw [] (upO l e (partsN l.length e)) [2] c 0) = (true, if r = 0 then 111 else 107, if r = 0 then 1 else 2, tw [(nO, l)] [] [] (if r = 0 then c + 1 else c + 2) 1) := by
  have hr : (tw [] (upO l e (partsN l.length e)) [2] c 0).run (St.complete1 1 (partsN l.length e : Nat)) = (111, tw [(nO, l)] [] [] (c + 1) 1) := by
    have := up_complete1 l h1 h3 [] (c + 1) 1
    simp only [St.run, St.next, St.begin, tw] at this ⊢
    simp [this]
  cases r with
  | zero => simp [againR, hr]
  | succ r =>
    have h2 : (tw [(nO, l)] [] [] (c + 1) 1).run (St.complete1 1 (partsN l.length e : Nat)) = (107, tw [(nO, l)] [] [] (c + 2) 1) := by rw [run_ok rfl]; rfl
    simp [againR, hr, h2]
theorem up_head (l : List UInt8) (t c f : Nat) : againR (headStep nO) (t + 1) (tw [(nO, l)] [] [] c f, 0, 0) = (false, 0, 1, tw [(nO, l)] [] [] (c + 1) f, (l.length : Int), ((crcMore 0 l : Nat) : Int)) := by
  refine again_ok ?_ (by decide)
  simp only [headStep, head_ok (show (tw [(nO, l)] [] [] c f).script = [] from rfl)]
  simp [tw, aget]
theorem lost_last (hE : ErrG ad g) {r x : Nat} (ht : r + 1 ≤ 8) {l : List UInt8} {e : Nat} (h1 : 1 ≤ e) (h2 : e ≤ 1000) (h3 : l.length ≤ 256) {a : Int} (ha : 0 ≤ a ∧ a < 1000) (hx : x < 1000) {ba : Option Addr} {c : Nat} (hs : Mem g w (clientC q p (r + 1 : Nat) a :: StoreC p (tw [] (upO l e (partsN l.length e)) [2] x 0) :: M)) :
    Calls Tryd.prog 46 #[.pointer (some ⟨q, 0, none⟩), .agg (planC nO l.length (crcMore 0 l : Nat) e (partsN l.length e : Nat)).toArray, .slice ba l.length c, .int .i64 1, .int .i64 (partsN l.length e : Nat)] w
      (Ret fun v w' => v = .tuple #[.int .i64 1, .int .i64 (partsN l.length e : Nat), .bool (decide (r ≠ 0)), errV ad (if r = 0 then 111 else 0)] ∧ Mem g w' (clientC q p (r + 1 : Nat) (a + ((if r = 0 then 1 else 3 : Nat) : Nat)) :: StoreC p (tw [(nO, l)] [] [] (if r = 0 then x + 1 else x + 3) 1) :: M)) := by
  have := step_complete (id := 1) hE (upO_small (fun _ _ h => by simp at h) h3 [2] x 0) ⟨by omega, by omega⟩ ht hs (by simp [tw]; omega) (by simp [tw]) (fairN h1 h2 h3) (by decide) (ba := ba) (c := c) (sum := crcMore 0 l) (up_lost l h1 h3 r x) (up_head l r _ 1) (r := if r = 0 then 111 else 0) (N := if r = 0 then 1 else 3) (st4 := tw [(nO, l)] [] [] (if r = 0 then x + 1 else x + 3) 1)
    (by by_cases h : r = 0 <;> simp [h]) (by by_cases h : r = 0 <;> simp [h]) (by by_cases h : r = 0 <;> simp [h])
  refine this.mono ?_
  rintro _ w' ⟨v, rfl, rfl, hs⟩
  refine ⟨_, rfl, ?_, hs⟩
  by_cases h : r = 0 <;> simp [h]
theorem step_gone (hE : ErrG ad g) (hsm : st.small) (hsc : st.script = []) (hu : aget st.ups 1 = none) (hcl : st.calls < 10000) (hfl : st.failed < 10000) {name : ByteArray} {sum each parts k : Nat} {l : List UInt8} (h : Fair l.length each parts) (hk : k ≤ parts) {a : Int} (ha : 0 ≤ a ∧ a < 10000) {ba : Option Addr} {c : Nat} (hs : Mem g w (clientC q p 1 a :: StoreC p st :: M)) (hr : Rd g M (.slice ba l.length c) (bytesL l)) :
    Calls Tryd.prog 46 #[.pointer (some ⟨q, 0, none⟩), .agg (planC name l.length sum each parts).toArray, .slice ba l.length c, .int .i64 1, .int .i64 (k : Nat)] w
      (Ret fun v w' => v = .tuple #[.int .i64 0, .int .i64 0, .bool false, errV ad 0] ∧ Mem g w' M) := by
  by_cases hlt : k < parts
  · have hr1 : st.run (St.part1 1 k ((l.take (min ((k + 1) * each) l.length)).drop (k * each))) = (107, { st with calls := st.calls + 1 }) := by rw [run_ok hsc]; simp [St.part1, hu]
    refine (step_part (t := 1) (id := 1) (sum := sum) (name := name) hE ⟨by omega, by omega⟩ (by decide) hs (by omega) (by omega) h (by decide) hlt hr (again_ok (t := 0) hr1 (by decide))).mono ?_
    rintro _ w' ⟨v, rfl, rfl, hs⟩
    exact ⟨_, rfl, rfl, hs.tail.tail⟩
  · obtain rfl : k = parts := by omega
    have hr1 : st.run (St.complete1 1 (k : Nat)) = (107, { st with calls := st.calls + 1 }) := by rw [run_ok hsc]; simp [St.complete1, hu]
    refine (step_complete (t := 1) (id := 1) (sum := sum) (name := name) (ba := ba) (c := c) hE hsm ⟨by omega, by omega⟩ (by decide) hs (by omega) (by omega) h (by decide) (again_ok (t := 0) hr1 (by decide)) rfl (r := 107) (N := 1) (st4 := { st with calls := st.calls + 1 }) (if_neg (by simp)) (if_neg (by simp)) (if_neg (by simp))).mono ?_
    rintro _ w' ⟨v, rfl, rfl, hs⟩
    exact ⟨_, rfl, rfl, hs.tail.tail⟩
end Go.Proofs.YtjiigajekminaaaDoor
