/- PartSteps: what each thing that Step does makes of the store, whatever is lost. -/
import Derived.Test.YtjiigajekminaaaDoorPL
namespace Go.Proofs.YtjiigajekminaaaDoor
set_option linter.all false
open Go.RowKit

/-! ### asking again, in general -/
section
variable {σ : Type} {step : σ → Nat × σ}
theorem again_ind (I : σ → Prop) (hI : ∀ s, I s → (step s).1 = 111 → I (step s).2) : ∀ (t : Nat) (s : σ), I s →
    ((againR step t s).2.1 = 111 ∧ I (againR step t s).2.2.2) ∨ ∃ s', I s' ∧ (step s').1 ≠ 111 ∧ (againR step t s).2.1 = (step s').1 ∧ (againR step t s).2.2.2 = (step s').2 ∧ ((againR step t s).1 = true ∨ s' = s)
  | 0, s, h => .inl ⟨rfl, h⟩
  | t + 1, s, h => by
    by_cases h1 : (step s).1 = 111
    · simp only [againR, if_pos h1]
      rcases again_ind I hI t _ (hI s h h1) with ⟨a, b⟩ | ⟨s', a, b, c, d, _⟩
      · exact .inl ⟨a, b⟩
      · exact .inr ⟨s', a, b, c, d, .inl trivial⟩
    · simp only [againR, if_neg h1]
      exact .inr ⟨s, h, h1, rfl, rfl, .inr rfl⟩
theorem again_add (f : σ → Nat) (hf : ∀ s, f (step s).2 ≤ f s + 1) : ∀ (t : Nat) (s : σ), f (againR step t s).2.2.2 ≤ f s + t
  | 0, s => Nat.le_refl _
  | t + 1, s => by
    have h1 := hf s
    have h2 := again_add f hf t (step s).2
    simp only [againR]
    split <;> simp only <;> omega
theorem again_n : ∀ (t : Nat) (s : σ), (againR step t s).2.2.1 ≤ t
  | 0, s => Nat.le_refl _
  | t + 1, s => by
    have h2 := again_n t (step s).2
    simp only [againR]
    split <;> simp only <;> omega
theorem again_less0 (f : σ → Nat) (hf : ∀ s, f (step s).2 ≤ f s - 1) : ∀ (t : Nat) (s : σ), f (againR step t s).2.2.2 ≤ f s
  | 0, s => Nat.le_refl _
  | t + 1, s => by
    have h1 := hf s
    have h2 := again_less0 f hf t (step s).2
    simp only [againR]
    split <;> simp only <;> omega
theorem again_less (f : σ → Nat) (hf : ∀ s, f (step s).2 ≤ f s - 1) (t : Nat) (s : σ) : f (againR step (t + 1) s).2.2.2 ≤ f s - 1 := by
  have h1 := hf s
  have h2 := again_less0 f hf t (step s).2
  simp only [againR]
  split <;> simp only <;> omega
theorem again_first {t : Nat} {s : σ} (h : (step s).1 ≠ 111) : againR step (t + 1) s = (false, (step s).1, 1, (step s).2) := by simp only [againR, if_neg h]
end

/-! ### what stands in the store, whatever is lost -/
structure PInv (l : List UInt8) (st : St) : Prop where
  small : st.small
  objs : st.objs = [] ∨ st.objs = [(nO, l)]
  nd : (keysOf st.ups).Nodup
  rng : ∀ x ∈ keysOf st.ups, 1 ≤ x ∧ x ≤ (st.ids : Nat)
  len : st.ups.length ≤ st.ids
theorem len_keys {κ α β : Type} {l : List (κ × α)} {m : List (κ × β)} (h : keysOf l = keysOf m) : l.length = m.length := by
  have := congrArg List.length h
  simpa [keysOf] using this
variable {l : List UInt8} {st : St} {e k : Nat} {id : Int}
theorem PInv.begin (h : PInv l st) : PInv l st.begin := ⟨h.small, h.objs, h.nd, h.rng, h.len⟩
theorem PInv.empty (s : List Int) : PInv l { St.empty with script := s } := ⟨⟨fun _ _ h => by simp [St.empty] at h, fun _ _ h => by simp [St.empty] at h⟩, .inl rfl, by simp [St.empty, keysOf], fun x hx => by simp [St.empty, keysOf] at hx, by simp [St.empty]⟩
theorem start1_eq (st : St) : st.start1 nO = (0, ((st.ids + 1 : Nat) : Int), { st with ids := st.ids + 1, ups := aput st.ups ((st.ids + 1 : Nat) : Int) ⟨nO, []⟩ }) := by simp [St.start1, nO_valid]
theorem PInv.new (h : PInv l st) : aget st.ups ((st.ids + 1 : Nat) : Int) = none := (aget_none_iff _ _).2 fun hm => by have := (h.rng _ hm).2; omega
theorem PInv.start (h : PInv l st) : PInv l (st.start1 nO).2.2 := by
  rw [start1_eq]
  have hn := h.new
  have hk : keysOf (aput st.ups ((st.ids + 1 : Nat) : Int) (⟨nO, []⟩ : Up)) = keysOf st.ups ++ [((st.ids + 1 : Nat) : Int)] := by rw [keys_put, if_neg ((aget_none_iff _ _).1 hn)]
  refine ⟨⟨h.small.1, fun i u hm => ?_⟩, h.objs, ?_, fun x hx => ?_, ?_⟩
  · rcases aput_mem hm with hm | hm
    · simp only [Prod.mk.injEq] at hm; rw [hm.2]; exact fun _ _ h => by simp at h
    · exact h.small.2 i u hm
  · simp only [hk, List.nodup_append, List.nodup_cons, List.not_mem_nil, not_false_eq_true, List.nodup_nil, and_self, true_and]
    refine ⟨h.nd, fun a ha b hb => ?_⟩
    simp only [List.mem_cons, List.not_mem_nil, or_false] at hb
    have := (h.rng a ha).2
    omega
  · simp only [hk, List.mem_append, List.mem_cons, List.not_mem_nil, or_false] at hx
    rcases hx with hx | rfl
    · have := h.rng x hx; simp only; omega
    · simp only; omega
  · rw [aput_app hn]; have := h.len; simp only [List.length_append, List.length_cons, List.length_nil]; omega
/-- The upload has its first k parts. -/
def Has (l : List UInt8) (e k : Nat) (id : Int) (st : St) : Prop := aget st.ups id = some ⟨nO, pts l e k⟩
theorem part1_has (hk : k < 256) {j : Nat} (hj : j = k ∨ j = k + 1) (h : Has l e j id st) : st.part1 id k (chunkN l e k) = (0, { st with ups := aput st.ups id ⟨nO, pts l e (k + 1)⟩ }) := by
  unfold St.part1
  rw [h]
  simp only
  rw [if_neg (by omega)]
  rcases hj with rfl | rfl
  · rw [pts_put]
  · rw [pts_put2]
theorem keys_there {κ α : Type} [DecidableEq κ] {l : List (κ × α)} {k : κ} {v v' : α} (h : aget l k = some v) : keysOf (aput l k v') = keysOf l := by
  rw [keys_put, if_pos]
  exact Classical.byContradiction fun hn => by rw [(aget_none_iff _ _).2 hn] at h; cases h
theorem PInv.part (hl : l.length ≤ 256) (h : PInv l st) (hk : k < 256) {j : Nat} (hj : j = k ∨ j = k + 1) (hh : Has l e j id st) : PInv l (st.part1 id k (chunkN l e k)).2 ∧ Has l e (k + 1) id (st.part1 id k (chunkN l e k)).2 ∧ (st.part1 id k (chunkN l e k)).1 = 0 := by
  rw [part1_has hk hj hh]
  have hk := keys_there (v' := (⟨nO, pts l e (k + 1)⟩ : Up)) hh
  refine ⟨⟨⟨h.small.1, fun i u hm => ?_⟩, h.objs, by simp only [hk]; exact h.nd, fun x hx => ?_, ?_⟩, aget_put_same _ _ _, rfl⟩
  · rcases aput_mem hm with hm | hm
    · simp only [Prod.mk.injEq] at hm; rw [hm.2]; exact fun i b hb => by have := pts_mem hb; omega
    · exact h.small.2 i u hm
  · simp only [hk] at hx; exact h.rng x hx
  · simp only [len_keys hk]; exact h.len
/-- The upload is no more, its object is there. -/
def Gone (l : List UInt8) (id : Int) (st : St) : Prop := aget st.ups id = none ∧ st.objs = [(nO, l)]
theorem complete1_gone (h : Gone l id st) (n : Int) : st.complete1 id n = (107, st) := by unfold St.complete1; rw [h.1]
theorem complete1_has (h1 : 1 ≤ e) (h3 : l.length ≤ 256) (h : Has l e (partsN l.length e) id st) : st.complete1 id (partsN l.length e : Nat) = (0, { st with objs := aput st.objs nO l, ups := adel st.ups id }) := by
  have hp := partsN_le (n := l.length) h1
  unfold St.complete1
  rw [h]
  simp only
  rw [if_neg (by omega), Int.toNat_natCast, if_pos (pts_all l e _), pts_whole l h1]
theorem PInv.complete (h1 : 1 ≤ e) (h3 : l.length ≤ 256) (h : PInv l st) (hh : Has l e (partsN l.length e) id st ∨ Gone l id st) :
    PInv l (st.complete1 id (partsN l.length e : Nat)).2 ∧ Gone l id (st.complete1 id (partsN l.length e : Nat)).2 ∧ (Has l e (partsN l.length e) id st → (st.complete1 id (partsN l.length e : Nat)).1 = 0) ∧ (Gone l id st → (st.complete1 id (partsN l.length e : Nat)).1 = 107) := by
  rcases hh with hh | hh
  · have hc := complete1_small h.small id (partsN l.length e : Nat)
    rw [complete1_has h1 h3 hh] at hc ⊢
    have hk := keys_del h.nd id
    have ho : aput st.objs nO l = [(nO, l)] := by rcases h.objs with h | h <;> simp [h, aput]
    refine ⟨⟨hc, .inr ho, ?_, fun x hx => ?_, ?_⟩, ⟨aget_del_same h.nd id, ho⟩, fun _ => rfl, fun hg => ?_⟩
    · simp only [hk]; exact h.nd.filter _
    · simp only [hk] at hx; exact h.rng x (List.mem_filter.1 hx).1
    · have h2 : (keysOf (adel st.ups id)).length ≤ (keysOf st.ups).length := by rw [hk]; exact List.length_filter_le _ _
      simp only [keysOf, List.length_map] at h2
      have := h.len
      simp only
      omega
    · have := hg.1
      unfold Has at hh
      rw [hh] at this; cases this
  · rw [complete1_gone hh]
    refine ⟨h, hh, fun hg => ?_, fun _ => rfl⟩
    have := hh.1
    unfold Has at hg
    rw [hg] at this; cases this

/-! ### runs -/
theorem next_cases (st : St) : st.next = 1 ∨ st.next = 2 ∨ (st.next ≠ 1 ∧ st.next ≠ 2) := by omega
theorem run_111 {good : St → Nat × St} (h : (st.run good).1 = 111) (hg : (good st.begin).1 ≠ 111) : st.next = 1 ∧ (st.run good).2 = st.begin ∨ st.next = 2 ∧ (st.run good).2 = (good st.begin).2 := by
  unfold St.run at h ⊢
  by_cases h1 : st.next = 1
  · exact .inl ⟨h1, by rw [if_pos h1]⟩
  · rw [if_neg h1] at h ⊢
    by_cases h2 : st.next = 2
    · exact .inr ⟨h2, rfl⟩
    · rw [if_neg h2] at h; exact absurd h hg
theorem run_ans {good : St → Nat × St} (h : (st.run good).1 ≠ 111) : st.next ≠ 1 ∧ st.next ≠ 2 ∧ st.run good = good st.begin := by
  unfold St.run at h ⊢
  by_cases h1 : st.next = 1
  · rw [if_pos h1] at h; exact absurd rfl h
  · rw [if_neg h1] at h ⊢
    by_cases h2 : st.next = 2
    · rw [if_pos h2] at h; exact absurd rfl h
    · rw [if_neg h2]; exact ⟨h1, h2, rfl⟩
theorem run_script {good : St → Nat × St} (hg : ∀ s, (good s).2.script = s.script) (st : St) : (st.run good).2.script.length ≤ st.script.length - 1 := by
  unfold St.run
  split
  · simp [St.begin]
  · simp [hg, St.begin]
/-- Asking till there is an answer keeps what every call keeps. -/
theorem again_keep {good : St → Nat × St} (I J : St → Prop) (hb : ∀ s, I s → I s.begin) (hg : ∀ s, I s → I (good s).2 ∧ (good s).1 ≠ 111) {t : Nat} (h : I st) {lost : Bool} {x n : Nat} {st2 : St} (hk : againR (fun s => s.run good) t st = (lost, x, n, st2)) :
    (x = 111 ∧ I st2) ∨ ∃ s, I s ∧ x = (good s).1 ∧ st2 = (good s).2 ∧ (lost = true ∨ s = st.begin) := by
  have := again_ind (step := fun s : St => s.run good) I (fun s hs h1 => by
    rcases run_111 h1 (hg _ (hb _ hs)).2 with ⟨_, e⟩ | ⟨_, e⟩
    · simp only [e]; exact hb _ hs
    · simp only [e]; exact (hg _ (hb _ hs)).1) t st h
  rw [hk] at this
  rcases this with h | ⟨s, h1, h2, h3, h4, h5⟩
  · exact .inl h
  · obtain ⟨_, _, e⟩ := run_ans h2
    simp only [e] at h3 h4
    exact .inr ⟨s.begin, hb _ h1, h3, h4, h5.imp id fun e => by rw [e]⟩
theorem begin_script (st : St) : st.begin.script.length ≤ st.script.length - 1 := by simp [St.begin]
theorem part1_script (id k : Int) (b : List UInt8) (st : St) : (st.part1 id k b).2.script = st.script := by
  unfold St.part1; split
  · rfl
  · split <;> rfl
theorem part1_ids (id k : Int) (b : List UInt8) (st : St) : (st.part1 id k b).2.ids = st.ids := by
  unfold St.part1; split
  · rfl
  · split <;> rfl
theorem complete1_script (id k : Int) (st : St) : (st.complete1 id k).2.script = st.script := by
  unfold St.complete1; split
  · rfl
  · split
    · rfl
    · split <;> rfl
theorem complete1_ids (id k : Int) (st : St) : (st.complete1 id k).2.ids = st.ids := by
  unfold St.complete1; split
  · rfl
  · split
    · rfl
    · split <;> rfl
theorem run_ids {good : St → Nat × St} (hg : ∀ s, (good s).2.ids = s.ids) (st : St) : (st.run good).2.ids = st.ids := by
  unfold St.run
  split
  · rfl
  · simp [hg, St.begin]
end Go.Proofs.YtjiigajekminaaaDoor
