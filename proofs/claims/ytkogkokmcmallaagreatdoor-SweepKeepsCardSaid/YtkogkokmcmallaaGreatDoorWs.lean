/- Asking again: what a sweep's steps come to. -/
import Derived.Test.YtkogkokmcmallaaGreatDoorUq
import Derived.Test.YtkogkokmcmallaaGreatDoorSy
namespace Go.Proofs.YtkogkokmcmallaaGreatDoor
set_option linter.all false
variable {st : St} {V : Vw} {own_ : Int}

/-- What a store has. -/
def St.core (st : St) : List (ByteArray × List UInt8) × List (Int × Up) × Nat := (st.objs, st.ups, st.ids)
theorem St.core_begin (st : St) : st.begin.core = st.core := rfl
theorem St.core_objs {a b : St} (h : a.core = b.core) : a.objs = b.objs := congrArg Prod.fst h
theorem St.core_ups {a b : St} (h : a.core = b.core) : a.ups = b.ups := congrArg (fun x => x.2.1) h
theorem St.core_ids {a b : St} (h : a.core = b.core) : a.ids = b.ids := congrArg (fun x => x.2.2) h
/-- What else turns: the script is eaten, the counters rise by as many as there were calls. -/
structure Eats (n : Nat) (a b : St) : Prop where
  sc : b.script.length ≤ a.script.length
  calls : b.calls ≤ a.calls + n
  failed : b.failed ≤ a.failed + n
theorem Eats.refl (a : St) : Eats 0 a a := ⟨Nat.le_refl _, Nat.le_refl _, Nat.le_refl _⟩
theorem Eats.trans {n m : Nat} {a b c : St} (h : Eats n a b) (k : Eats m b c) : Eats (n + m) a c := ⟨Nat.le_trans k.sc h.sc, by have := h.calls; have := k.calls; omega, by have := h.failed; have := k.failed; omega⟩
theorem Eats.more {n m : Nat} {a b : St} (h : Eats n a b) (hm : n ≤ m) : Eats m a b := ⟨h.sc, by have := h.calls; omega, by have := h.failed; omega⟩
theorem eats_begin (st : St) : Eats 1 st st.begin := ⟨by simp [St.begin], by simp [St.begin], by simp only [St.begin]; split <;> omega⟩
theorem eats_bad (h : st.next = 1 ∨ st.next = 2) : st.begin.script.length < st.script.length := by
  unfold St.begin St.next at *
  cases hs : st.script with
  | nil => rw [hs] at h; simp at h
  | cons x l => simp
/-- An error alone, while it does not answer. -/
structure Asked (t : Nat) (a b : St) (x : Nat) : Prop where
  eats : Eats t a b
  bad : x = 111 → 0 < t → b.script.length < a.script.length
theorem again_list (pre : ByteArray) : ∀ (t : Nat) (st : St) (o : List ByteArray), (againR (listStep pre) t (st, o)).2.2.2.1.core = st.core ∧ ((againR (listStep pre) t (st, o)).2.1 = 0 ∧ (againR (listStep pre) t (st, o)).2.2.2.2 = st.list1 pre ∨ (againR (listStep pre) t (st, o)).2.1 = 111) ∧ Asked t st (againR (listStep pre) t (st, o)).2.2.2.1 (againR (listStep pre) t (st, o)).2.1
  | 0, st, o => ⟨rfl, .inr rfl, Eats.refl st, fun _ h => absurd h (by decide)⟩
  | t + 1, st, o => by
    have e2 : (listStep pre (st, o)).2.1 = st.begin := listR_st pre st
    have hb := eats_begin st
    simp only [againR]
    by_cases h : st.next = 1 ∨ st.next = 2
    · have e1 : (listStep pre (st, o)).1 = 111 := by simp [listStep, St.listR, h]
      have ⟨i1, i2, i3⟩ := again_list pre t (listStep pre (st, o)).2.1 (listStep pre (st, o)).2.2
      have e3 : ((listStep pre (st, o)).2.1, (listStep pre (st, o)).2.2) = (listStep pre (st, o)).2 := rfl
      rw [e3] at i1 i2 i3
      rw [if_pos e1]
      rw [e2] at i1 i2 i3
      have hl := eats_bad h
      refine ⟨i1, i2, (hb.trans i3.eats).more (by omega), fun _ _ => ?_⟩
      have := i3.eats.sc
      exact Nat.lt_of_le_of_lt this hl
    · have e1 : (listStep pre (st, o)).1 = 0 := by simp [listStep, St.listR, h]
      rw [if_neg (by rw [e1]; decide), e2]
      exact ⟨rfl, .inl ⟨e1, by simp [listStep, St.listR, h]⟩, hb.more (by omega), fun hx => by rw [e1] at hx; cases hx⟩
theorem again_ups : ∀ (t : Nat) (st : St) (o : List Int), (againR upsStep t (st, o)).2.2.2.1.core = st.core ∧ ((againR upsStep t (st, o)).2.1 = 0 ∧ (againR upsStep t (st, o)).2.2.2.2 = sortI (keysOf st.ups) ∨ (againR upsStep t (st, o)).2.1 = 111) ∧ Asked t st (againR upsStep t (st, o)).2.2.2.1 (againR upsStep t (st, o)).2.1
  | 0, st, o => ⟨rfl, .inr rfl, Eats.refl st, fun _ h => absurd h (by decide)⟩
  | t + 1, st, o => by
    have e2 : (upsStep (st, o)).2.1 = st.begin := upsR_st st
    have hb := eats_begin st
    simp only [againR]
    by_cases h : st.next = 1 ∨ st.next = 2
    · have e1 : (upsStep (st, o)).1 = 111 := by simp [upsStep, St.upsR, h]
      have ⟨i1, i2, i3⟩ := again_ups t (upsStep (st, o)).2.1 (upsStep (st, o)).2.2
      have e3 : ((upsStep (st, o)).2.1, (upsStep (st, o)).2.2) = (upsStep (st, o)).2 := rfl
      rw [e3] at i1 i2 i3
      rw [if_pos e1]
      rw [e2] at i1 i2 i3
      have hl := eats_bad h
      refine ⟨i1, i2, (hb.trans i3.eats).more (by omega), fun _ _ => ?_⟩
      have := i3.eats.sc
      exact Nat.lt_of_le_of_lt this hl
    · have e1 : (upsStep (st, o)).1 = 0 := by simp [upsStep, St.upsR, h]
      rw [if_neg (by rw [e1]; decide), e2]
      exact ⟨rfl, .inl ⟨e1, by simp [upsStep, St.upsR, h]⟩, hb.more (by omega), fun hx => by rw [e1] at hx; cases hx⟩
/-- What lets one thing go. -/
structure Lets (good : St → Nat × St) (A : St → Prop) (f : St → St) (N : St → Prop) : Prop where
  begN : ∀ st, N st → N st.begin
  beg : ∀ st, A st.begin ↔ A st
  yes : ∀ st, A st → good st = (0, f st)
  no : ∀ st, ¬ A st → good st = (107, st)
  gone : ∀ st, N st → A st → ¬ A (f st)
  sc : ∀ st, (f st).script = st.script ∧ (f st).calls = st.calls ∧ (f st).failed = st.failed
  core : ∀ st, (f st.begin).core = (f st).core
variable {good : St → Nat × St} {A : St → Prop} {f : St → St} {N : St → Prop}
theorem Lets.gone0 (h : Lets good A f N) : ∀ (t : Nat) (st : St), ¬ A st → (againR (fun s => s.run good) t st).2.2.2.core = st.core ∧ ((againR (fun s => s.run good) t st).2.1 = 107 ∨ (againR (fun s => s.run good) t st).2.1 = 111) ∧ Asked t st (againR (fun s => s.run good) t st).2.2.2 (againR (fun s => s.run good) t st).2.1
  | 0, st, _ => ⟨rfl, .inr rfl, Eats.refl st, fun _ h => absurd h (by decide)⟩
  | t + 1, st, hA => by
    have hb := eats_begin st
    have hA' : ¬ A st.begin := fun h2 => hA ((h.beg st).1 h2)
    have e2 : (st.run good).2 = st.begin := by unfold St.run; split; rfl; rw [h.no _ hA']
    simp only [againR]
    by_cases hn : st.next = 1 ∨ st.next = 2
    · have e1 : (st.run good).1 = 111 := by unfold St.run; rcases hn with h2 | h2 <;> simp [h2]
      have ⟨i1, i2, i3⟩ := Lets.gone0 h t st.begin hA'
      rw [if_pos e1, e2]
      have hl := eats_bad hn
      exact ⟨i1, i2, (hb.trans i3.eats).more (by omega), fun _ _ => Nat.lt_of_le_of_lt i3.eats.sc hl⟩
    · have e1 : (st.run good).1 = 107 := by unfold St.run; rw [if_neg (fun e => hn (.inl e))]; simp only [if_neg (fun e => hn (.inr e))]; rw [h.no _ hA']
      rw [if_neg (by rw [e1]; decide), e2]
      exact ⟨rfl, .inl e1, hb.more (by omega), fun hx => by rw [e1] at hx; cases hx⟩
/-- What is there: it goes; or there is no answer. -/
theorem Lets.there (h : Lets good A f N) : ∀ (t : Nat) (st : St), N st → A st → ∀ c, c = (if (againR (fun s => s.run good) t st).1 = true ∧ (againR (fun s => s.run good) t st).2.1 = 107 then 0 else (againR (fun s => s.run good) t st).2.1) → (c = 0 ∧ (againR (fun s => s.run good) t st).2.2.2.core = (f st).core ∨ c = 111 ∧ ((againR (fun s => s.run good) t st).2.2.2.core = st.core ∨ (againR (fun s => s.run good) t st).2.2.2.core = (f st).core)) ∧ Asked t st (againR (fun s => s.run good) t st).2.2.2 c
  | 0, st, _, _, c, hc => by
    have hc : c = 111 := by rw [hc]; simp [againR]
    exact ⟨.inr ⟨hc, .inl rfl⟩, Eats.refl st, fun _ h => absurd h (by decide)⟩
  | t + 1, st, hN, hA, c, hc => by
    have hN' := h.begN _ hN
    have hb := eats_begin st
    have hA' : A st.begin := (h.beg st).2 hA
    simp only [againR] at hc ⊢
    by_cases h1 : st.next = 1
    · have e1 : st.run good = (111, st.begin) := by unfold St.run; rw [if_pos h1]
      rw [e1] at hc ⊢
      simp only [if_true] at hc ⊢
      have hl := eats_bad (.inl h1)
      have hI := Lets.there h t st.begin hN' hA' c
      by_cases hx : (againR (fun s => s.run good) t st.begin).2.1 = 107
      · cases hl1 : (againR (fun s => s.run good) t st.begin).1 with
        | true =>
          obtain ⟨i2, i3⟩ := hI (by rw [hc, hl1]; simp)
          rw [St.core_begin, h.core] at i2
          exact ⟨i2, (hb.trans i3.eats).more (by omega), fun _ _ => Nat.lt_of_le_of_lt i3.eats.sc hl⟩
        | false =>
          obtain ⟨i2, i3⟩ := Lets.there h t st.begin hN' hA' _ rfl
          rw [hl1, hx] at i2
          simp at i2
      · obtain ⟨i2, i3⟩ := hI (by rw [hc]; simp [hx])
        rw [St.core_begin, h.core] at i2
        exact ⟨i2, (hb.trans i3.eats).more (by omega), fun _ _ => Nat.lt_of_le_of_lt i3.eats.sc hl⟩
    · have hf := h.sc st.begin
      have hbf : Eats 1 st (f st.begin) := ⟨by rw [hf.1]; exact hb.sc, by rw [hf.2.1]; exact hb.calls, by rw [hf.2.2]; exact hb.failed⟩
      by_cases h2 : st.next = 2
      · have e1 : st.run good = (111, f st.begin) := by unfold St.run; rw [if_neg h1, if_pos h2, h.yes _ hA']
        rw [e1] at hc ⊢
        simp only [if_true] at hc ⊢
        have hl := eats_bad (.inr h2)
        obtain ⟨i1, i2, i3⟩ := Lets.gone0 h t (f st.begin) (h.gone _ hN' hA')
        rw [h.core] at i1
        have hlt : (againR (fun s => s.run good) t (f st.begin)).2.2.2.script.length < st.script.length := Nat.lt_of_le_of_lt i3.eats.sc (by rw [hf.1]; exact hl)
        rcases i2 with i2 | i2
        · rw [if_pos ⟨trivial, i2⟩] at hc
          exact ⟨.inl ⟨hc, i1⟩, (hbf.trans i3.eats).more (by omega), fun _ _ => hlt⟩
        · rw [if_neg (by rw [i2]; simp), i2] at hc
          exact ⟨.inr ⟨hc, .inr i1⟩, (hbf.trans i3.eats).more (by omega), fun _ _ => hlt⟩
      · have e1 : st.run good = (0, f st.begin) := by unfold St.run; rw [if_neg h1, if_neg h2, h.yes _ hA']
        rw [e1] at hc ⊢
        simp only [show ¬ ((0 : Nat) = 111) by decide, if_false] at hc ⊢
        have hc : c = 0 := by rw [hc]; simp
        exact ⟨.inl ⟨hc, h.core st⟩, hbf.more (by omega), fun hx => by rw [hc] at hx; cases hx⟩
theorem lets_del (n : ByteArray) : Lets (St.del1 n) (fun st => (aget st.objs n).isSome = true) (fun st => { st with objs := adel st.objs n }) (fun st => (keysOf st.objs).Nodup) where
  begN st h := h
  beg st := Iff.rfl
  yes st h := by simp only [St.del1]; rw [if_pos h]
  no st h := by simp only [St.del1]; rw [if_neg h]
  gone st h _ := by simp only [aget_del_same h]; simp
  sc st := ⟨rfl, rfl, rfl⟩
  core st := rfl
theorem lets_abort (i : Int) : Lets (St.abort1 i) (fun st => (aget st.ups i).isSome = true) (fun st => { st with ups := adel st.ups i }) (fun st => (keysOf st.ups).Nodup) where
  begN st h := h
  beg st := Iff.rfl
  yes st h := by simp only [St.abort1]; rw [if_pos h]
  no st h := by simp only [St.abort1]; rw [if_neg h]
  gone st h _ := by simp only [aget_del_same h]; simp
  sc st := ⟨rfl, rfl, rfl⟩
  core st := rfl
/-! ### a step -/
def bPre : ByteArray := ⟨#[115, 101, 103, 45]⟩
/-- One thing went. -/
inductive Went (V : Vw) (own_ : Int) (a b : St) : Prop
  | obj (n : ByteArray) (h : n ∈ keysOf a.objs) (hr : V.refers n = false) (hp : preB bPre n = true) (e : b.objs = adel a.objs n) (e2 : b.ups = a.ups)
  | up (i : Int) (h : i ∈ keysOf a.ups) (hi : i ≠ own_) (e : b.ups = adel a.ups i) (e2 : b.objs = a.objs)
def Idle (a b : St) : Prop := b.objs = a.objs ∧ b.ups = a.ups
/-- What a step does. -/
structure Swept (V : Vw) (own_ : Int) (t : Nat) (a b : St) (is : Bool) (c : Nat) : Prop where
  eats : Eats (3 * t) a b
  how : (is = true ∧ c = 0 ∧ Went V own_ a b) ∨ (is = false ∧ c = 111 ∧ (Idle a b ∨ Went V own_ a b) ∧ b.script.length < a.script.length) ∨ (is = false ∧ c = 0 ∧ Idle a b ∧ (∀ n ∈ keysOf a.objs, preB bPre n = true → V.refers n = true) ∧ ∀ i ∈ keysOf a.ups, i = own_)
end Go.Proofs.YtkogkokmcmallaaGreatDoor
