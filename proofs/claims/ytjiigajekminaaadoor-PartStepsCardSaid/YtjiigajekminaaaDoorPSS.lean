/- PartSteps: one step, whatever comes of the store's calls. -/
import Derived.Test.YtjiigajekminaaaDoorPSL
namespace Go.Proofs.YtjiigajekminaaaDoor
set_option linter.all false
open Go.RowKit
attribute [local irreducible] errV
variable {g w : World} {L M : List HP} {ad : Nat → Addr} {p q : Nat} {st : St} {l : List UInt8} {e : Nat} {id : Int}

structure Bud (i : Nat) (st : St) (a : Nat) : Prop where
  calls : st.calls ≤ 4 * i
  failed : st.failed ≤ 4 * i
  ids : st.ids ≤ 2 * i
  asked : a ≤ 4 * i
/-- Where it is; m: how many things are left, if the store answers. -/
def Phase (l : List UInt8) (e : Nat) (id : Int) (done : Nat) (st : St) (m : Nat) : Prop :=
  (id = 0 ∧ done = 0 ∧ m = partsN l.length e + 2) ∨
  (1 ≤ id ∧ done ≤ partsN l.length e ∧ m = partsN l.length e - done + 1 ∧ (Has l e done id st ∨ done < partsN l.length e ∧ Has l e (done + 1) id st)) ∨
  (1 ≤ id ∧ done = partsN l.length e ∧ m = partsN l.length e + 3 ∧ Gone l id st)
def Time (i : Nat) (st : St) (m : Nat) : Prop := i + st.script.length ≤ 30 ∨ (st.script = [] ∧ i + m ≤ 240)
theorem Time.step {i m m' : Nat} {st st' : St} (h : Time i st m) (hs : st'.script.length ≤ st.script.length - 1) (hm : st.script = [] → m' + 1 ≤ m) (hm' : m' ≤ 203) : Time (i + 1) st' m' := by
  by_cases hn : st.script = []
  · have h1 : st'.script = [] := List.eq_nil_of_length_eq_zero (by rw [hn] at hs; simp at hs; simp [hs])
    have := hm hn
    rcases h with h | ⟨_, h⟩
    · exact .inr ⟨h1, by omega⟩
    · exact .inr ⟨h1, by omega⟩
  · have := List.length_pos_iff.2 hn
    rcases h with h | ⟨h, _⟩
    · exact .inl (by omega)
    · exact absurd h hn
structure PSt (l : List UInt8) (e i : Nat) (id : Int) (done : Nat) (st : St) (a : Nat) : Prop where
  bud : Bud i st a
  inv : PInv l st
  ph : ∃ m, Phase l e id done st m ∧ Time i st m
structure POver (l : List UInt8) (i : Nat) (id : Int) (st : St) (a : Nat) : Prop where
  bud : Bud i st a
  inv : PInv l st
  gone : Gone l id st
def PRes (l : List UInt8) (e i : Nat) (id : Int) (done : Nat) (id' : Int) (done' : Nat) (is : Bool) (x : Nat) (st' : St) (a' : Nat) : Prop :=
  (x = 111 ∧ id' = id ∧ done' = done ∧ is = false ∧ PSt l e (i + 1) id done st' a') ∨
  (x = 0 ∧ is = false ∧ (id' = id → id ≠ 0 → done' = done + 1) ∧ PSt l e (i + 1) id' done' st' a') ∨
  (x = 0 ∧ is = true ∧ id' = id ∧ done' = done ∧ done = partsN l.length e ∧ POver l (i + 1) id st' a')
theorem has_gone {k : Nat} (h : Has l e k id st) (hg : Gone l id st) : False := by
  have := hg.1
  unfold Has at h
  rw [h] at this
  cases this

/-! ### Start -/
theorem startR_eq (st : St) : st.startR nO = if st.next = 1 then (0, 111, st.begin) else if st.next = 2 then (0, 111, (st.begin.start1 nO).2.2) else (((st.ids + 1 : Nat) : Int), 0, (st.begin.start1 nO).2.2) := by
  unfold St.startR
  split
  · rfl
  · split
    · rfl
    · rw [start1_eq]; rfl
theorem start_script (s : St × Int) : (startStep nO s).2.1.script.length ≤ s.1.script.length - 1 := by
  simp only [startStep, startR_eq]
  split
  · exact begin_script _
  · split <;> (simp only [start1_eq]; exact begin_script _)
theorem start_res (h : PInv l st) {lost : Bool} {x n : Nat} {st2 : St} {i : Int} (hk : againR (startStep nO) 2 (st, 0) = (lost, x, n, st2, i)) : PInv l st2 ∧ (x = 111 ∨ x = 0 ∧ 1 ≤ i ∧ Has l e 0 i st2) ∧ (st.script = [] → x ≠ 111) := by
  refine ⟨?_, ?_, ?_⟩
  · have := again_ind (step := startStep nO) (fun s => PInv l s.1) (fun s hs h1 => by
      simp only [startStep, startR_eq] at h1 ⊢
      split
      · exact hs.begin
      · split <;> exact hs.begin.start) 2 (st, 0) h
    rw [hk] at this
    rcases this with ⟨_, h⟩ | ⟨s, hs, _, _, h, _⟩
    · exact h
    · have e2 : st2 = (startStep nO s).2.1 := congrArg Prod.fst h
      rw [e2]
      simp only [startStep, startR_eq]
      split
      · exact hs.begin
      · split <;> exact hs.begin.start
  · have := again_ind (step := startStep nO) (fun s => PInv l s.1) (fun s hs h1 => by
      simp only [startStep, startR_eq] at h1 ⊢
      split
      · exact hs.begin
      · split <;> exact hs.begin.start) 2 (st, 0) h
    rw [hk] at this
    rcases this with ⟨h, _⟩ | ⟨s, hs, h1, h2, h3, _⟩
    · exact .inl h
    · have e2 : st2 = (startStep nO s).2.1 := congrArg Prod.fst h3
      have e3 : i = (startStep nO s).2.2 := congrArg Prod.snd h3
      simp only at h2
      rw [e2, e3, h2]
      simp only [startStep, startR_eq] at h1 ⊢
      by_cases n1 : s.1.next = 1
      · rw [if_pos n1] at h1; exact absurd rfl h1
      · rw [if_neg n1] at h1 ⊢
        by_cases n2 : s.1.next = 2
        · rw [if_pos n2] at h1; exact absurd rfl h1
        · rw [if_neg n2]
          refine .inr ⟨rfl, by simp only; omega, ?_⟩
          rw [start1_eq]
          exact aget_put_same _ _ _
  · intro hn
    have n0 : st.next = 0 := by simp [St.next, hn]
    have : (startStep nO (st, 0)).1 ≠ 111 := by simp only [startStep, startR_eq]; rw [if_neg (by omega), if_neg (by omega)]; show (0 : Nat) ≠ 111; decide
    have := again_first (t := 1) this
    rw [hk] at this
    have e1 : x = (startStep nO (st, 0)).1 := by have := congrArg (fun r => r.2.1) this; exact this
    rw [e1]; assumption
theorem run_first {good : St → Nat × St} (hn : st.script = []) (hg : ∀ s, st.begin = s → (good s).1 ≠ 111) {t : Nat} {lost : Bool} {x n : Nat} {st2 : St} (hk : againR (fun s => s.run good) (t + 1) st = (lost, x, n, st2)) : lost = false ∧ x ≠ 111 := by
  have n0 : st.next = 0 := by simp [St.next, hn]
  have hr : st.run good = good st.begin := by unfold St.run; rw [if_neg (by omega)]; simp [n0]
  have h1 : ((fun s : St => s.run good) st).1 ≠ 111 := by simp only [hr]; exact hg _ rfl
  have := again_first (step := fun s : St => s.run good) (t := t) h1
  rw [hk] at this
  refine ⟨congrArg (fun r => r.1) this, ?_⟩
  have e1 : x = (st.run good).1 := congrArg (fun r => r.2.1) this
  rw [e1]; exact h1
theorem run_bud {good : St → Nat × St} (hgc : ∀ st, (good st).2.calls = st.calls ∧ (good st).2.failed = st.failed) (hgi : ∀ s, (good s).2.ids = s.ids) (hgs : ∀ s, (good s).2.script = s.script) {lost : Bool} {x n : Nat} {st2 : St} (hk : againR (fun s => s.run good) 2 st = (lost, x, n, st2)) :
    st2.calls ≤ st.calls + 2 ∧ st2.failed ≤ st.failed + 2 ∧ st2.ids = st.ids ∧ n ≤ 2 ∧ st2.script.length ≤ st.script.length - 1 := by
  have h1 := again_add (step := fun s : St => s.run good) (fun s => s.calls) (fun s => Nat.le_of_eq (runs_counts hgc s).1) 2 st
  have h2 := again_add (step := fun s : St => s.run good) (fun s => s.failed) (fun s => (runs_counts hgc s).2) 2 st
  have h3 := again_n (step := fun s : St => s.run good) 2 st
  have h4 := again_less (step := fun s : St => s.run good) (fun s => s.script.length) (fun s => run_script hgs s) 1 st
  have h5 : ∀ (t : Nat) (s : St), (againR (fun s : St => s.run good) t s).2.2.2.ids = s.ids := by
    intro t
    induction t with
    | zero => intro s; rfl
    | succ t ih =>
      intro s
      simp only [againR]
      split
      · simp only [ih]; exact run_ids hgi s
      · exact run_ids hgi s
  have h5 := h5 2 st
  rw [hk] at h1 h2 h3 h4 h5
  exact ⟨h1, h2, h5, h3, h4⟩

/-! ### Head, behind a Complete that was not answered -/
theorem head_res (h : PInv l st) (hg : Gone l id st) {lost : Bool} {x n : Nat} {st2 : St} {i j : Int} (hk : againR (headStep nO) 2 (st, 0, 0) = (lost, x, n, st2, i, j)) :
    PInv l st2 ∧ Gone l id st2 ∧ (x = 111 ∨ x = 0 ∧ i = (l.length : Nat) ∧ j = (crcMore 0 l : Nat)) := by
  have hh : ∀ s : St, Gone l id s → s.headR nO = if s.next = 1 ∨ s.next = 2 then (0, 0, 111, s.begin) else (((l.length : Nat) : Int), ((crcMore 0 l : Nat) : Int), 0, s.begin) := fun s hs => by
    have h0 : s.begin.head1 nO = (0, ((l.length : Nat) : Int), ((crcMore 0 l : Nat) : Int)) := by
      have : s.begin.objs = [(nO, l)] := hs.2
      simp [St.head1, this, aget]
    unfold St.headR
    split
    · rfl
    · rw [h0]; simp
  have := again_ind (step := headStep nO) (fun s => PInv l s.1 ∧ Gone l id s.1) (fun s hs h1 => by
      simp only [headStep, headR_counts]
      exact ⟨hs.1.begin, hs.2⟩) 2 (st, 0, 0) ⟨h, hg⟩
  rw [hk] at this
  rcases this with ⟨h, h1, h2⟩ | ⟨s, ⟨h0, hs⟩, h1, h2, h3, _⟩
  · exact ⟨h1, h2, .inl h⟩
  · have e2 : st2 = (headStep nO s).2.1 := congrArg Prod.fst h3
    have e3 : i = (headStep nO s).2.2.1 := congrArg (fun r => r.2.1) h3
    have e4 : j = (headStep nO s).2.2.2 := congrArg (fun r => r.2.2) h3
    have e5 : x = (headStep nO s).1 := h2
    subst e2 e3 e4 e5
    simp only [headStep] at h1 ⊢
    rw [headR_counts]
    refine ⟨h0.begin, hs, ?_⟩
    rw [hh _ hs] at h1 ⊢
    split
    · exact .inl rfl
    · exact .inr ⟨rfl, rfl, rfl⟩
theorem head_bud {lost : Bool} {x n : Nat} {st2 : St} {i j : Int} (hk : againR (headStep nO) 2 (st, 0, 0) = (lost, x, n, st2, i, j)) :
    st2.calls ≤ st.calls + 2 ∧ st2.failed ≤ st.failed + 2 ∧ st2.ids = st.ids ∧ n ≤ 2 ∧ st2.script.length ≤ st.script.length := by
  have h1 := again_add (step := headStep nO) (fun s => s.1.calls) (fun s => by have := begin_counts s.1; simp only [headStep, headR_counts]; omega) 2 (st, 0, 0)
  have h2 := again_add (step := headStep nO) (fun s => s.1.failed) (fun s => by have := begin_counts s.1; simp only [headStep, headR_counts]; omega) 2 (st, 0, 0)
  have h3 := again_n (step := headStep nO) 2 (st, 0, 0)
  have h4 := again_less0 (step := headStep nO) (fun s => s.1.script.length) (fun s => by simp only [headStep, headR_counts]; exact begin_script _) 2 (st, 0, 0)
  have h5 : ∀ (t : Nat) (s : St × Int × Int), (againR (headStep nO) t s).2.2.2.1.ids = s.1.ids := by
    intro t
    induction t with
    | zero => intro s; rfl
    | succ t ih =>
      intro s
      simp only [againR]
      split
      · simp only [ih]; simp only [headStep, headR_counts]; rfl
      · simp only [headStep, headR_counts]; rfl
  have h5 := h5 2 (st, 0, 0)
  rw [hk] at h1 h2 h3 h4 h5
  exact ⟨h1, h2, h5, h3, h4⟩
theorem Bud.more {i a a' : Nat} {st st' : St} (h : Bud i st a) (h1 : st'.calls ≤ st.calls + 4) (h2 : st'.failed ≤ st.failed + 4) (h3 : st'.ids ≤ st.ids + 2) (h4 : a' ≤ a + 4) : Bud (i + 1) st' a' := by
  obtain ⟨k1, k2, k3, k4⟩ := h
  exact ⟨by omega, by omega, by omega, by omega⟩

/-! ### the step -/
theorem ps_step (hE : ErrG ad g) {i : Nat} (h1 : 1 ≤ e) (h2 : e ≤ 1000) (h3 : l.length ≤ 200) (hi : i < 400) {done a : Nat} (hp : PSt l e i id done st a) {ba : Option Addr} {c : Nat} (hs : Mem g w (clientC q p 2 (a : Nat) :: StoreC p st :: M)) (hr : Rd g M (.slice ba l.length c) (bytesL l)) :
    Calls Tryd.prog 46 #[.pointer (some ⟨q, 0, none⟩), .agg (planC nO l.length (crcMore 0 l : Nat) e (partsN l.length e : Nat)).toArray, .slice ba l.length c, .int .i64 id, .int .i64 (done : Nat)] w
      (Ret fun v w' => ∃ (id' : Int) (done' : Nat) (is : Bool) (x : Nat) (st' : St) (a' : Nat), v = .tuple #[.int .i64 id', .int .i64 (done' : Nat), .bool is, errV ad x] ∧ Mem g w' (clientC q p 2 (a' : Nat) :: StoreC p st' :: M) ∧ PRes l e i id done id' done' is x st' a') := by
  obtain ⟨hb, hv, m, hph, ht⟩ := hp
  have hb' := hb
  obtain ⟨b1, b2, b3, b4⟩ := hb'
  have hP := partsN_le (n := l.length) h1
  have hF : Fair l.length e (partsN l.length e) := fairN h1 h2 (by omega)
  by_cases hz : id = 0
  · subst hz
    have hd : done = 0 ∧ m = partsN l.length e + 2 := by rcases hph with h | h | h <;> first | exact h.2 | (exfalso; omega)
    obtain ⟨rfl, rfl⟩ := hd
    obtain ⟨lost, x, n, st2, i2, hk⟩ : ∃ lost x n st2 i2, againR (startStep nO) 2 (st, 0) = (lost, x, n, st2, i2) := ⟨_, _, _, _, _, rfl⟩
    obtain ⟨r1, r2, r3⟩ := start_res (e := e) hv hk
    have c1 := again_add (step := startStep nO) (fun s => s.1.calls) (fun s => by have := startR_counts nO s.1; simp only [startStep]; omega) 2 (st, 0)
    have c2 := again_add (step := startStep nO) (fun s => s.1.failed) (fun s => by have := startR_counts nO s.1; simp only [startStep]; omega) 2 (st, 0)
    have c3 := again_add (step := startStep nO) (fun s => s.1.ids) (fun s => by have := startR_counts nO s.1; simp only [startStep]; omega) 2 (st, 0)
    have c4 := again_n (step := startStep nO) 2 (st, 0)
    have c5 := again_less (step := startStep nO) (fun s => s.1.script.length) start_script 1 (st, 0)
    rw [hk] at c1 c2 c3 c4 c5
    simp only at c1 c2 c3 c4 c5
    have hbud : Bud (i + 1) st2 (a + n) := hb.more (by omega) (by omega) (by omega) (by omega)
    refine (step_start (t := 2) hE ⟨by omega, by omega⟩ (by decide) hs (by omega) (by omega) (by omega) hF (done := ((0 : Nat) : Int)) ⟨by omega, by omega⟩ hk).mono ?_
    rintro _ w' ⟨v, rfl, rfl, hs⟩
    rcases r2 with rfl | ⟨rfl, hi1, hh⟩
    · exact ⟨_, rfl, 0, 0, false, 111, st2, a + n, rfl, hs, .inl ⟨rfl, rfl, rfl, rfl, hbud, r1, _, .inl ⟨rfl, rfl, rfl⟩, ht.step c5 (fun hn => absurd rfl (r3 hn)) (by omega)⟩⟩
    · exact ⟨_, rfl, i2, 0, false, 0, st2, a + n, rfl, hs, .inr (.inl ⟨rfl, rfl, fun _ h => absurd rfl h, hbud, r1, _, .inr (.inl ⟨hi1, Nat.zero_le _, rfl, .inl hh⟩), ht.step c5 (fun _ => by omega) (by omega)⟩)⟩
  · by_cases hd : done < partsN l.length e
    · have hm : 1 ≤ id ∧ m = partsN l.length e - done + 1 ∧ (Has l e done id st ∨ Has l e (done + 1) id st) := by
        rcases hph with h | ⟨k1, k2, k3, k4⟩ | h
        · exact absurd h.1 hz
        · exact ⟨k1, k3, k4.imp (fun h => h) fun h => h.2⟩
        · omega
      obtain ⟨hid, rfl, hh⟩ := hm
      obtain ⟨lost, x, n, st2, hk⟩ : ∃ lost x n st2, againR (fun s => s.run (St.part1 id done (chunkN l e done))) 2 st = (lost, x, n, st2) := ⟨_, _, _, _, rfl⟩
      obtain ⟨c1, c2, c3, c4, c5⟩ := run_bud (part1_counts id done (chunkN l e done)) (part1_ids id done _) (part1_script id done _) hk
      have hbud : Bud (i + 1) st2 (a + n) := hb.more (by omega) (by omega) (by omega) (by omega)
      have hg : ∀ s : St, (PInv l s ∧ (Has l e done id s ∨ Has l e (done + 1) id s)) → PInv l (s.part1 id done (chunkN l e done)).2 ∧ Has l e (done + 1) id (s.part1 id done (chunkN l e done)).2 ∧ (s.part1 id done (chunkN l e done)).1 = 0 := fun s ⟨k1, k2⟩ =>
        k2.elim (k1.part (by omega) (by omega) (.inl rfl)) (k1.part (by omega) (by omega) (.inr rfl))
      have hx := again_keep (good := St.part1 id done (chunkN l e done)) (fun s => PInv l s ∧ (Has l e done id s ∨ Has l e (done + 1) id s)) (fun _ => True) (fun s k => ⟨k.1.begin, k.2⟩) (fun s k => by have := hg s k; exact ⟨⟨this.1, .inr this.2.1⟩, by rw [this.2.2]; decide⟩) ⟨hv, hh⟩ hk
      refine (step_part (t := 2) (l := l) hE ⟨by omega, by omega⟩ (by decide) hs (by omega) (by omega) hF hz hd hr hk).mono ?_
      rintro _ w' ⟨v, rfl, rfl, hs⟩
      rcases hx with ⟨rfl, k1, k2⟩ | ⟨s, k1, k2, k3, _⟩
      · refine ⟨_, rfl, id, done, false, 111, st2, a + n, rfl, hs, .inl ⟨rfl, rfl, rfl, rfl, hbud, k1, _, .inr (.inl ⟨hid, by omega, rfl, k2.imp _root_.id fun h => ⟨hd, h⟩⟩), ht.step c5 (fun hn => ?_) (by omega)⟩⟩
        exact absurd rfl (run_first hn (fun s hs => by have := hg s (hs ▸ ⟨hv.begin, hh⟩); rw [this.2.2]; decide) hk).2
      · obtain ⟨g1, g2, g3⟩ := hg s k1
        rw [g3] at k2
        subst k2 k3
        refine ⟨_, rfl, id, done + 1, false, 0, _, a + n, ?_, hs, .inr (.inl ⟨rfl, rfl, fun _ _ => rfl, hbud, g1, _, .inr (.inl ⟨hid, by omega, rfl, .inl g2⟩), ht.step c5 (fun _ => by omega) (by omega)⟩)⟩
        rfl
    · have hm : done = partsN l.length e ∧ 1 ≤ id ∧ ((m = 1 ∧ Has l e (partsN l.length e) id st) ∨ (m = partsN l.length e + 3 ∧ Gone l id st)) := by
        rcases hph with h | ⟨k1, k2, k3, k4⟩ | ⟨k1, k2, k3, k4⟩
        · exact absurd h.1 hz
        · have : done = partsN l.length e := by omega
          subst this
          refine ⟨rfl, k1, .inl ⟨by omega, ?_⟩⟩
          rcases k4 with k4 | k4
          · exact k4
          · omega
        · exact ⟨k2, k1, .inr ⟨k3, k4⟩⟩
      obtain ⟨rfl, hid, hh⟩ := hm
      obtain ⟨lost, x, n, st2, hk⟩ : ∃ lost x n st2, againR (fun s => s.run (St.complete1 id (partsN l.length e : Nat))) 2 st = (lost, x, n, st2) := ⟨_, _, _, _, rfl⟩
      obtain ⟨l2, y, n2, st3, i3, j3, hq⟩ : ∃ l2 y n2 st3 i3 j3, againR (headStep nO) 2 (st2, 0, 0) = (l2, y, n2, st3, i3, j3) := ⟨_, _, _, _, _, _, rfl⟩
      obtain ⟨c1, c2, c3, c4, c5⟩ := run_bud (complete1_counts id (partsN l.length e : Nat)) (complete1_ids id _) (complete1_script id _) hk
      obtain ⟨d1, d2, d3, d4, d5⟩ := head_bud hq
      have hbud : Bud (i + 1) st2 (a + n) := hb.more (by omega) (by omega) (by omega) (by omega)
      have hbud3 : Bud (i + 1) st3 (a + (n + n2)) := hb.more (by omega) (by omega) (by omega) (by omega)
      have hI : Has l e (partsN l.length e) id st ∨ Gone l id st := hh.imp (fun h => h.2) fun h => h.2
      have hg : ∀ s : St, (PInv l s ∧ (Has l e (partsN l.length e) id s ∨ Gone l id s)) → PInv l (s.complete1 id (partsN l.length e : Nat)).2 ∧ Gone l id (s.complete1 id (partsN l.length e : Nat)).2 ∧ (Has l e (partsN l.length e) id s → (s.complete1 id (partsN l.length e : Nat)).1 = 0) ∧ (Gone l id s → (s.complete1 id (partsN l.length e : Nat)).1 = 107) := fun s ⟨k1, k2⟩ => k1.complete h1 (by omega) k2
      have hg1 : ∀ s : St, (PInv l s ∧ (Has l e (partsN l.length e) id s ∨ Gone l id s)) → (s.complete1 id (partsN l.length e : Nat)).1 ≠ 111 := fun s k => by
        have := hg s k
        rcases k.2 with k | k
        · rw [this.2.2.1 k]; decide
        · rw [this.2.2.2 k]; decide
      have hx := again_keep (good := St.complete1 id (partsN l.length e : Nat)) (fun s => PInv l s ∧ (Has l e (partsN l.length e) id s ∨ Gone l id s)) (fun _ => True) (fun s k => ⟨k.1.begin, k.2⟩) (fun s k => ⟨⟨(hg s k).1, .inr (hg s k).2.1⟩, hg1 s k⟩) ⟨hv, hI⟩ hk
      have hfirst : st.script = [] → lost = false ∧ x ≠ 111 := fun hn => run_first hn (fun s hs => hg1 s (hs ▸ ⟨hv.begin, hI⟩)) hk
      refine (step_complete (t := 2) (id := id) hE hv.small ⟨by omega, by omega⟩ (by decide) hs (by omega) (by omega) hF hz hk hq rfl rfl rfl).mono ?_
      rintro _ w' ⟨v, rfl, rfl, hs⟩
      rcases hx with ⟨rfl, k1, k2⟩ | ⟨s, k1, k2, k3, k4⟩
      · have hc : ¬ (lost = true ∧ (111 : Nat) = 107) := fun h => absurd h.2 (by decide)
        simp only [if_neg hc] at hs ⊢
        rcases k2 with k2 | k2
        · exact ⟨_, rfl, id, partsN l.length e, false, 111, st2, a + n, rfl, hs, .inl ⟨rfl, rfl, rfl, rfl, hbud, k1, _, .inr (.inl ⟨hid, Nat.le_refl _, rfl, .inl k2⟩), ht.step c5 (fun hn => absurd rfl (hfirst hn).2) (by omega)⟩⟩
        · exact ⟨_, rfl, id, partsN l.length e, false, 111, st2, a + n, rfl, hs, .inl ⟨rfl, rfl, rfl, rfl, hbud, k1, _, .inr (.inr ⟨hid, rfl, rfl, k2⟩), ht.step c5 (fun hn => absurd rfl (hfirst hn).2) (by omega)⟩⟩
      · obtain ⟨g1, g2, g3, g4⟩ := hg s k1
        rcases k1.2 with hs1 | hs1
        · rw [g3 hs1] at k2
          subst k2 k3
          have hc : ¬ (lost = true ∧ (0 : Nat) = 107) := fun h => absurd h.2 (by decide)
          simp only [if_neg hc] at hs ⊢
          exact ⟨_, rfl, id, partsN l.length e, true, 0, _, a + n, rfl, hs, .inr (.inr ⟨rfl, rfl, rfl, rfl, rfl, hbud, g1, g2⟩)⟩
        · rw [g4 hs1] at k2
          subst k2
          subst k3
          cases lost with
          | true =>
            obtain ⟨e1, e2, e3⟩ := head_res g1 g2 hq
            simp only [and_self, if_true] at hs ⊢
            rcases e3 with rfl | ⟨rfl, rfl, rfl⟩
            · simp only [if_true] at hs ⊢
              exact ⟨_, rfl, id, partsN l.length e, false, 111, st3, a + (n + n2), rfl, hs, .inl ⟨rfl, rfl, rfl, rfl, hbud3, e1, _, .inr (.inr ⟨hid, rfl, rfl, e2⟩), ht.step (by omega) (fun hn => absurd (hfirst hn).1 (by decide)) (by omega)⟩⟩
            · exact ⟨_, rfl, id, partsN l.length e, true, 0, st3, a + (n + n2), by simp, hs, .inr (.inr ⟨rfl, rfl, rfl, rfl, rfl, hbud3, e1, e2⟩)⟩
          | false =>
            have hc : ¬ (false = true ∧ (107 : Nat) = 107) := fun h => absurd h.1 (by decide)
            simp only [if_neg hc] at hs ⊢
            have hsb : s = st.begin := by rcases k4 with h | h; cases h; exact h
            have hgs : Gone l id st := by rw [hsb] at hs1; exact hs1
            have hm : m = partsN l.length e + 3 := by rcases hh with ⟨_, h⟩ | ⟨h, _⟩; exact (has_gone h hgs).elim; exact h
            subst hm
            exact ⟨_, rfl, 0, 0, false, 0, _, a + n, rfl, hs, .inr (.inl ⟨rfl, rfl, fun h hz' => absurd h.symm hz', hbud, g1, _, .inl ⟨rfl, rfl, rfl⟩, ht.step c5 (fun _ => by omega) (by omega)⟩)⟩
end Go.Proofs.YtjiigajekminaaaDoor
