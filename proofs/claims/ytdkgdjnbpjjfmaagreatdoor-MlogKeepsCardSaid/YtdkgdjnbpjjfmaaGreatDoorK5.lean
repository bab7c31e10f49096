/- Entries as bytes; the remote log in plain words. A view, in whatever order its segments stand. An entry read back. The disk, over chunks: Create, Append, Cut, Sync, Rename, Remove, Used; what is told. The disk, over chunks: Append, Cut, Sync, Rename, Remove; Len, Synced, Read; Arm, Down, Calls. What is kept aside, in plain words. DERIVED: THE SHELF's CONTRACTS AT THIS DUMP, IN PLAIN WORDS (tools/lay-plain.mjs out of 'YtdkgdjnbpjjfmaaGreatDoorSh1S.lean', which tools/lay-shelf.mjs wrote): THE SAME DECLARATIONS UNDER THE SAME NAMES: 'import', 'namespace', 'open', 'def', 'theorem' AND NOTHING ELSE: no command of the shelf's: FOR A HAND-IN. Each laying: the table of numbers ('.._ren') and one theorem, a field a fact of the dump's own or the kernel's comparison; each contract: ONE APPLICATION. maps.Clone, slices.SortFunc, slices.Contains over files: over chunks. The disk, over chunks: SyncDir, Crash. The disk, over chunks: Crash. Chapter 4: the examples; what a test of an error tells. The law DiskKeeps: what was synced, under a name that was synced, is there behind any crash. The law DiskCuts: what is cut is cut, synced at once. The law DiskDown: while the power is gone nothing is changed or told. The law DiskRooms: all files together have at most the room. What a Write of what is kept aside leaves, in plain words; whatever the power does. Names with what is kept under each, in plain words: Writes, crashes. Names with what stands under each, byte by byte: Writes, bytes laid behind, cuts, crashes. -/
import Derived.Test.YtdkgdjnbpjjfmaaGreatDoorK4
import Derived.Test.YtdkgdjnbpjjfmaaGreatDoorK3
import Derived.Test.YtdkgdjnbpjjfmaaGreatDoorK2
import Derived.Shelf.SlMaps.Clone
import Derived.Shelf.SlSortCmp.Whole1
import Derived.Shelf.SlSortCmp.NoneTotal
import Derived.Shelf.SortM.Plain
import Derived.LaidEql
import Derived.Test.YtdkgdjnbpjjfmaaGreatDoorK1
namespace Go.Proofs.YtdkgdjnbpjjfmaaGreatDoor
set_option linter.all false
open Go.RowKit

/-! ### views that are alike -/
def EqV (V U : Vw) : Prop := ∀ k, zB0 V k = zB0 U k
theorem EqV.rfl' (V : Vw) : EqV V V := fun _ => rfl
theorem EqV.keys {V U : Vw} (h : EqV V U) (k : Int) : k ∈ zAh V ↔ k ∈ zAh U := by
  have h1 := h k
  have h2 := zBb V k
  have h3 := zBb U k
  rw [h1] at h2
  exact Decidable.not_iff_not.1 (h2.symm.trans h3)
theorem EqV.perm {V U : Vw} (h : EqV V U) (hV : V.ok) (hU : U.ok) : (zAh V).Perm (zAh U) := (List.perm_ext_iff_of_nodup hV.nd hU.nd).2 h.keys
theorem EqV.len {V U : Vw} (h : EqV V U) (hV : V.ok) (hU : U.ok) : V.length = U.length := by
  have := (h.perm hV hU).length_eq
  simpa [zAh] using this
theorem EqV.sorted {V U : Vw} (h : EqV V U) (hV : V.ok) (hU : U.ok) : zEf (zAh V) = zEf (zAh U) := by
  have hp : (zEf (zAh V)).Perm (zEf (zAh U)) := (List.mergeSort_perm _ _).trans ((h.perm hV hU).trans (List.mergeSort_perm _ _).symm)
  have hs : ∀ l : List Int, (zEf l).Pairwise (fun x y => x ≤ y) := fun l => (List.pairwise_mergeSort (fun a b c h1 h2 => by simp only [decide_eq_true_eq] at *; omega) (fun a b => by simp only [Bool.or_eq_true, decide_eq_true_eq]; omega) l).imp fun h => by simpa using h
  exact hp.eq_of_pairwise (fun a b _ _ h1 h2 => Int.le_antisymm h1 h2) (hs _) (hs _)
theorem EqV.bytes {V U : Vw} (h : EqV V U) (hV : V.ok) (hU : U.ok) : vwB V = vwB U := by
  have h1 : itAt V = itAt U := by funext k; simp only [itAt, h k]
  rw [vwB, vwB, vwBody, vwBody, h.sorted hV hU, h.len hV hU, h1]
theorem EqV.sums {V U : Vw} (h : EqV V U) (hV : V.ok) (hu : U.sums) : V.sums := fun x hx => hu (x.1, x.2) (zDd ((h x.1).symm.trans (mem_aget hV.nd hx)))
theorem EqV.apply {V U : Vw} (h : EqV V U) (hV : V.ok) (hU : U.ok) (k : Int) (x : Mf) : (V.apply k x).1 = (U.apply k x).1 ∧ EqV (V.apply k x).2 (U.apply k x).2 := by
  have h1 : V.state x.id = U.state x.id := by simp only [Vw.state, h x.id]
  have h2 := h.len hV hU
  have hp : ∀ i, EqV (zCc V x.id i) (zCc U x.id i) := fun i j => by
    by_cases e : j = x.id
    · subst e; rw [zB5, zB5]
    · rw [zB1 _ _ e, zB1 _ _ e]; exact h j
  unfold Vw.apply
  rw [h1, h2, h x.id]
  split
  · exact ⟨rfl, h⟩
  · split
    · exact ⟨rfl, h⟩
    · split
      · exact ⟨rfl, h⟩
      · split
        · split
          · exact ⟨rfl, h⟩
          · exact ⟨rfl, hp _⟩
        · split
          · exact ⟨rfl, hp _⟩
          · exact ⟨rfl, h⟩
theorem EqV.same {V U W : Vw} (h : EqV V W) (h2 : EqV U W) (hV : V.ok) (hU : U.ok) : SameP V U := ⟨(EqV.len (fun k => (h k).trans (h2 k).symm) hV hU), fun k i hi => by rw [h2 k, ← h k]; exact hi⟩
theorem SameP.eqv {V U : Vw} (h : SameP V U) (hV : V.ok) (hU : U.ok) : EqV V U := by
  intro k
  cases hk : zB0 V k with
  | some i => exact (h.2 k i hk).symm
  | none =>
    have hkV : k ∉ zAh V := (zBb _ _).1 hk
    cases hu : zB0 U k with
    | none => rfl
    | some i =>
      have hsub : ∀ j ∈ k :: zAh V, j ∈ zAh U := fun j hj => by
        rcases List.mem_cons.1 hj with rfl | hj
        · exact al_key hu
        · obtain ⟨i, hi⟩ := zFs hj
          exact al_key (h.2 j i hi)
      have h1 : (k :: zAh V).length ≤ (zAh U).length := (List.nodup_cons.2 ⟨hkV, hV.nd⟩).length_le_of_subset hsub
      have h2 := h.1
      simp [zAh] at h1
      omega
theorem itsOf_eqv {V : Vw} (ho : V.ok) (hu : V.sums) : EqV (vwOf (itsOf V)) V := SameP.eqv (itsOf_same ho) (vwOf_ok (by rw [itsOf_len]; exact ho.few) (itsOf_fine ho hu) (itsOf_rise ho)) ho
theorem Vw.ok_sub {V U : Vw} (hV : V.ok) (hn : (zAh U).Nodup) (hs : ∀ k i, zB0 U k = some i → zB0 V k = some i) : U.ok := by
  refine ⟨hn, fun x hx => ?_, ?_⟩
  · exact hV.fine (x.1, x.2) (zDd (hs x.1 x.2 (mem_aget hn hx)))
  · have h1 : (zAh U).length ≤ (zAh V).length := hn.length_le_of_subset fun k hk => by
      obtain ⟨i, hi⟩ := zFs hk
      exact al_key (hs k i hi)
    have := hV.few
    simp [zAh] at h1
    omega

/-! ### entries -/
def frames : Nat → List En → List UInt8
  | _, [] => []
  | q, e :: es => frame (q + 1) e ++ frames (q + 1) es
theorem frames_snoc (e : En) : ∀ (es : List En) (q : Nat), frames q (es ++ [e]) = frames q es ++ frame (q + es.length + 1) e
  | [], q => by simp [frames]
  | a :: es, q => by
    simp only [List.cons_append, frames, frames_snoc e es (q + 1), List.length_cons, List.append_assoc]
    rw [show q + 1 + es.length + 1 = q + (es.length + 1) + 1 by omega]
theorem zDn : ∀ (es : List En) (q : Nat), (∀ e ∈ es, EnOk e) → (frames q es).length ≤ 6021 * es.length
  | [], _, _ => by simp [frames]
  | e :: es, q, h => by
    have h1 := zDn es (q + 1) fun x hx => h x (List.mem_cons_of_mem _ hx)
    have h2 := frame_le (q := q + 1) (h e (List.mem_cons_self ..))
    simp only [frames, List.length_append, List.length_cons]; omega
/-- The entries, one behind the other. -/
def runs : Vw → List En → Option Vw
  | V, [] => some V
  | V, e :: es => if (V.apply e.1 e.2).1 = (0, none) then runs (V.apply e.1 e.2).2 es else none
theorem runs_snoc {e : En} : ∀ {es : List En} {V U : Vw}, runs V es = some U → (U.apply e.1 e.2).1 = (0, none) → runs V (es ++ [e]) = some (U.apply e.1 e.2).2
  | [], V, U, h, h2 => by cases h; simp [runs, h2]
  | a :: es, V, U, h, h2 => by
    simp only [runs] at h
    simp only [List.cons_append, runs]
    split at h
    · rename_i h3; rw [if_pos h3]; exact runs_snoc h h2
    · cases h
theorem Vw.apply_ne {V : Vw} {k : Int} {x : Mf} (h : (V.apply k x).1.1 ≠ 0) : (V.apply k x).2 = V := by
  by_cases h0 : (mfF x).1 = 0
  · by_cases h2 : k < 1 ∨ 4 < k
    · rw [Vw.apply_kind h0 h2]
    · cases h3 : nextB (V.state x.id) k with
      | false => rw [Vw.apply_state h0 h2 h3]
      | true =>
        cases hV : zB0 V x.id with
        | none =>
          rw [Vw.apply_new h0 h2 h3 hV] at h ⊢
          split
          · rfl
          · rename_i h4; rw [if_neg h4] at h; exact absurd rfl h
        | some i =>
          rw [Vw.apply_old h0 h2 h3 hV] at h ⊢
          split
          · rename_i h4; rw [if_pos h4] at h; exact absurd rfl h
          · rfl
  · rw [Vw.apply_bad h0]
theorem Vw.apply_two (V : Vw) (k : Int) (x : Mf) : (V.apply k x).1 = (0, none) ∨ (V.apply k x).1.1 ≠ 0 := (V.apply_flt k x).1.imp id fun h e => by rw [e] at h; simp at h
theorem Vw.apply_en {V : Vw} {k : Int} {x : Mf} (h : (V.apply k x).1 = (0, none)) : mfF x = (0, none) ∧ 1 ≤ k ∧ k ≤ 4 := by
  unfold Vw.apply at h
  split at h
  · rename_i h1; exact absurd (by rw [show mfF x = (0, none) from h]) h1
  · rename_i h1
    split at h
    · cases h
    · rename_i h2
      exact ⟨flt0 (mfF_ok x) (by simpa using h1), by omega, by omega⟩
theorem Vw.apply_len (V : Vw) (k : Int) (x : Mf) : (V.apply k x).2.length ≤ V.length + 1 := by
  have h1 : ∀ i, (zCc V x.id i).length ≤ V.length + 1 := fun i => by
    have : ∀ (l : Vw), (zCc l x.id i).length ≤ l.length + 1 := fun l => by
      induction l with
      | nil => simp [zCc]
      | cons a l ih =>
        obtain ⟨b, c⟩ := a
        simp only [zCc]
        split
        · simp
        · simp only [List.length_cons]; omega
    exact this V
  unfold Vw.apply
  split
  · exact Nat.le_succ _
  · split
    · exact Nat.le_succ _
    · split
      · exact Nat.le_succ _
      · split
        · split
          · exact Nat.le_succ _
          · exact h1 _
        · split
          · exact h1 _
          · exact Nat.le_succ _
theorem Vw.apply_sums {V : Vw} (h : V.sums) {k : Int} {x : Mf} (hx : ∀ o ∈ x.obs, o.2.2 < 4294967296) : (V.apply k x).2.sums := by
  have h1 : Vw.sums (zCc V x.id ⟨k, x⟩) := fun y hy => by
    have : ∀ (l : Vw), (∀ z ∈ l, ∀ q ∈ z.2.m.obs, q.2.2 < 4294967296) → ∀ y ∈ zCc l x.id (⟨k, x⟩ : Itm), ∀ q ∈ y.2.m.obs, q.2.2 < 4294967296 := fun l => by
      induction l with
      | nil => intro _ y hy; simp [zCc] at hy; subst hy; exact hx
      | cons a l ih =>
        obtain ⟨b, c⟩ := a
        intro hl y hy
        simp only [zCc] at hy
        split at hy
        · rcases List.mem_cons.1 hy with rfl | hy
          · exact hx
          · exact hl y (List.mem_cons_of_mem _ hy)
        · rcases List.mem_cons.1 hy with rfl | hy
          · exact hl _ (List.mem_cons_self ..)
          · exact ih (fun z hz => hl z (List.mem_cons_of_mem _ hz)) y hy
    exact this V h y hy
  unfold Vw.apply
  split
  · exact h
  · split
    · exact h
    · split
      · exact h
      · split
        · split
          · exact h
          · exact h1
        · split
          · exact h1
          · exact h
end Go.Proofs.YtdkgdjnbpjjfmaaGreatDoor
namespace Go.Proofs.YtdkgdjnbpjjfmaaGreatDoor
set_option linter.all false
open Go.RowKit
attribute [local irreducible] zAq
variable {g w : World} {L M : List HP} {ad : Nat → Addr} {p q : Nat} {V U : Vw}

def zCd (p : Nat) (V : Vw) : HP := ex fun U : Vw => also (zFe p U) (EqV U V ∧ V.ok)
theorem Mem.openQ (hs : Mem g w (zCd p V :: L)) : V.ok ∧ ∃ U : Vw, U.ok ∧ EqV U V ∧ Mem g w (zFe p U :: L) := by
  obtain ⟨U, h⟩ := hs.unex
  obtain ⟨h1, h2⟩ := h.unalso
  exact ⟨h1.2, U, h2.openV.1, h1.1, h2⟩
theorem Mem.closeQ (ho : V.ok) (h : EqV U V) (hs : Mem g w (zFe p U :: L)) : Mem g w (zCd p V :: L) :=
  Mem.ex (f := fun U : Vw => Go.Proofs.YtdkgdjnbpjjfmaaGreatDoor.also (zFe p U) (EqV U V ∧ V.ok)) U (Mem.also ⟨h, ho⟩ hs)
theorem newq_sl (hs : Mem g w L) : Calls Tryz.prog 11 #[] w (Ret fun v w' => ∃ p, v = .pointer (some ⟨p, 0, none⟩) ∧ Mem g w' (zCd p [] :: L)) :=
  (newv_sl hs).mono fun _ _ ⟨v, h1, p, h2, h3⟩ => ⟨v, h1, p, h2, Mem.closeQ Vw.ok_nil (EqV.rfl' []) h3⟩
theorem zDs (hE : ErrV ad g) (hs : Mem g w (zCd p V :: L)) (k : Int) {x : Mf} {e o : SA} (hm : MfR g L x e o) (hob : x.obs.length ≤ 1000000) : Calls Tryz.prog 14 #[.pointer (some ⟨p, 0, none⟩), .agg (.int .i64 k :: mfL x e o).toArray] w (Ret fun v w' => ∃ eb, v = flV ad (V.apply k x).1 eb ∧ Mem g w' (flC ad (V.apply k x).1 eb :: zCd p (V.apply k x).2 :: L)) := by
  obtain ⟨ho, U, hu, he, hs⟩ := hs.openQ
  refine (apply_sl hE hs k hm hob).mono ?_
  rintro r w' ⟨v, rfl, eb, rfl, h⟩
  have h1 := he.apply hu ho k x
  rw [h1.1] at h ⊢
  exact ⟨_, rfl, eb, rfl, (Mem.closeQ (Vw.apply_ok ho k x) h1.2 (h.arr [1, 0] 2 (by decide))).arr [1, 0] 2 (by decide)⟩
theorem bytesq_sl (hE : ErrV ad g) (hs : Mem g w (zCd p V :: L)) (hV : V.length ≤ 100) (hu : V.sums) : Calls Tryz.prog 53 #[.pointer (some ⟨p, 0, none⟩)] w (Ret fun v w' => ∃ a c, v = .slice a (vwB V).length c ∧ Mem g w' (own (.slice a (vwB V).length c) (zAm (vwB V)) :: zCd p V :: L)) := by
  obtain ⟨ho, U, hu2, he, hs⟩ := hs.openQ
  refine (viewB_sl hE hs (by rw [he.len hu2 ho]; exact hV) (he.sums hu2 hu)).mono ?_
  rintro r w' ⟨v, rfl, a, c, rfl, h⟩
  rw [he.bytes hu2 ho] at h ⊢
  exact ⟨_, rfl, a, c, rfl, (Mem.closeQ ho he (h.arr [1, 0] 2 (by decide))).arr [1, 0] 2 (by decide)⟩
theorem readq_sl (hP : ErrP ad g) (hW : ErrW ad g) (hE : ErrV ad g) (hs : Mem g w L) {a : Option Addr} {n c : Nat} (ho : V.ok) (hu : V.sums) (hV : V.length ≤ 100) (hr : Rd g L (.slice a n c) (zAm (vwB V))) (hn : n = (vwB V).length) (hc : n ≤ c) : Calls Tryz.prog 71 #[.slice a n c] w (Ret fun v w' => ∃ p, v = .tuple #[.pointer (some ⟨p, 0, none⟩), .nilIface] ∧ Mem g w' (zCd p V :: L)) :=
  (readV_sl hP hW hE hs (itsOf_bytes V) hr hn hc (by rw [itsOf_len]; exact hV) (itsOf_fine ho hu) (itsOf_rise ho)).mono fun _ _ ⟨v, h1, p, h2, h3⟩ => ⟨v, h1, p, h2, Mem.closeQ ho (itsOf_eqv ho hu) h3⟩
theorem zDj (hs : Mem g w (zCd p V :: zCd q U :: L)) : Calls Tryz.prog 22 #[.pointer (some ⟨p, 0, none⟩), .pointer (some ⟨q, 0, none⟩)] w (Ret fun v w' => (∃ b, v = .bool b ∧ (b = true ↔ EqV V U)) ∧ Mem g w' (zCd p V :: zCd q U :: L)) := by
  obtain ⟨ho, V', hv, he, hs⟩ := hs.openQ
  obtain ⟨ho2, U', hu, he2, hs⟩ := (hs.arr [1, 0] 2 (by decide)).openQ
  refine (same_sl (hs.arr [1, 0] 2 (by decide))).mono ?_
  rintro r w' ⟨v, rfl, ⟨b, rfl, hb⟩, h⟩
  have h9 : SameP V' U' ↔ EqV V U := ⟨fun h k => by rw [← he k, ← he2 k]; exact h.eqv hv hu k, fun h => EqV.same (W := U) (fun k => (he k).trans (h k)) he2 hv hu⟩
  exact ⟨_, rfl, ⟨b, rfl, hb.trans h9⟩, (Mem.closeQ ho2 he2 ((Mem.closeQ ho he h).arr [1, 0] 2 (by decide))).arr [1, 0] 2 (by decide)⟩
/-! ### a copy -/
structure ClvI (V U : Vw) (es left : List (Int × Value)) : Prop where
  nd : (zAh left).Nodup
  sub : ∀ k v, zB0 left k = some v → zB0 es k = some v
  ndU : (zAh U).Nodup
  done : ∀ k, zB0 left k = none → zB0 U k = zB0 V k
  rest : ∀ k, zB0 left k ≠ none → zB0 U k = none
theorem ClvI.start {es : List (Int × Value)} (ho : V.ok) (hk : zAh es = zAh V) : ClvI V [] es es :=
  ⟨hk ▸ ho.nd, fun _ _ h => h, List.nodup_nil, fun k h => by rw [zBb, hk, ← zBb] at h; exact h.symm, fun _ _ => rfl⟩
theorem ClvI.step {es left : List (Int × Value)} (h : ClvI V U es left) {k : Int} {i : Itm} {v : Value} (hl : zB0 left k = some v) (hV : zB0 V k = some i) : ClvI V (zCc U k i) es (zDq left k) := by
  refine ⟨nodup_del h.nd k, same_sub h.nd h.sub, aput_nodup h.ndU, fun j hj => ?_, fun j hj => ?_⟩
  · by_cases e : j = k
    · subst e; rw [zB5, hV]
    · rw [zB1 _ _ e]; rw [zCg _ e] at hj; exact h.done j hj
  · by_cases e : j = k
    · subst e; exact absurd (zEm h.nd j) hj
    · rw [zB1 _ _ e]; rw [zCg _ e] at hj; exact h.rest j hj
theorem ClvI.ok {es left : List (Int × Value)} (h : ClvI V U es left) (ho : V.ok) : U.ok := Vw.ok_sub ho h.ndU fun k i hi => by
  by_cases e : zB0 left k = none
  · rw [← h.done k e]; exact hi
  · rw [h.rest k e] at hi; cases hi
theorem ClvI.fin {es : List (Int × Value)} (h : ClvI V U es []) : EqV U V := fun k => h.done k rfl
set_option maxHeartbeats 1000000 in
theorem zFk (hs : Mem g w (zCd p V :: L)) : Calls Tryz.prog 16 #[.pointer (some ⟨p, 0, none⟩)] w (Ret fun v w' => ∃ q, v = .pointer (some ⟨q, 0, none⟩) ∧ Mem g w' (zCd q V :: zCd p V :: L)) := by
  obtain ⟨ho0, U, ho, he, hs⟩ := hs.openQ
  obtain ⟨_, m, es, hs⟩ := hs.openV
  simp only [viewP, List.cons_append, List.nil_append] at hs
  have hke := hs.famKeys 2 rfl
  refine zAl Tryz.func16 rfl rfl ?_
  skip
  refine zA5 (zA1 ?_)
  refine zA rfl (zA2 (v := .pointer none) rfl) ?_
  refine zA4 (zA5 (zA1 ?_))
  refine zA9 rfl en11 (newv_sl hs) ?_
  clear hs
  rintro _ w ⟨pn, rfl, hs⟩
  refine zA rfl (zA2 (v := .pointer (some _)) rfl) ?_
  refine zA4 ?_
  refine zA5 ?_
  refine zA5 (zA1 ?_)
  refine zA rfl (zA0 (v := .pointer (some _)) rfl) ?_
  refine zA rfl (zA8 rfl) ?_
  refine zA rfl (zA3 (o' := 0) uz79 rfl sz77 rfl rfl rfl) ?_
  refine zA rfl (zA7 uz77 rfl rfl (hs.cellAt 1 rfl rfl)) ?_
  refine lw_rangeM hs rfl 2 rfl uz77 rfl ?_
  clear hs
  intro r11 w hs
  try simp only [List.set_cons_succ, List.set_cons_zero] at hs
  refine zA4 ?_
  refine zAt ?_
  refine zBs (X := List (Int × Value) × Option (Int × Value) × Vw) [4, 5, 12, 13, 14, 15, 16, 17, 18, 19, 20, 21, 22, 23, 24, 25, 26, 27] (fun x => []) (fun x w => ClvI U x.2.2 es x.1 ∧ Mem g w (rngC (Value.int .i64) r11 m es x.1 x.2.1 :: cells p [.map (some m)] 79 :: famC itmC es U :: zFe pn x.2.2 :: L)) (fun x => x.1.length) ((es, none, [])) ?_ ?_ ?_
  · exact trivial
  · exact ⟨ClvI.start ho hke, hs.arr [2, 1, 3, 0] 4 (by decide)⟩
  clear hs
  rintro x ξ w hI
  obtain ⟨left, cur, W⟩ := x
  obtain ⟨hJ, hs⟩ := hI
  simp only at hJ hs
  refine zA5 (zA1 ?_)
  refine lw_nextM hs rfl 0 rfl zEs.inj rfl ?_ ?_
  ·
   intro hl12
   subst hl12
   refine zA rfl (zAa (v := .bool _) rfl rfl) ?_
   refine zA4 ?_
   refine zA5 ?_
   refine zAv rfl rfl ?_
   refine zBk rfl ?_
   refine zA5 (zA1 ?_)
   refine zA rfl (zA0 (v := .pointer (some _)) rfl) ?_
   refine zA rfl (zA2 (v := .pointer (some _)) rfl) ?_
   refine zA4 ?_
   refine zAf ?_
   refine zBj (v := .pointer (some _)) rfl rfl ?_
   have h1 := Mem.closeV (p := p) ho ((hs.rngd 0 rfl).arr [1, 0, 2, 3] 4 (by decide))
   have h2 := Mem.closeQ ho0 he h1
   exact ⟨_, rfl, pn, rfl, Mem.closeQ ho0 (fun k => (hJ.fin k).trans (he k)) (h2.arr [1, 0] 2 (by decide))⟩
  ·
   clear hs
   intro k12 v12 w hk12 hs
   try simp only [List.set_cons_succ, List.set_cons_zero] at hs
   have hes := hJ.sub _ _ hk12
   obtain ⟨i, hi⟩ := zFs (hke ▸ al_key hes : k12 ∈ zAh U)
   obtain ⟨e, o, hee, _⟩ := hs.itmAt 2 rfl hi
   obtain rfl := Option.some.inj (hes.symm.trans hee)
   have hit := ho.item hi
   have hdl := al_del hk12
   refine zA rfl (zAa (v := .bool _) rfl rfl) ?_
   refine zA4 ?_
   refine zA5 ?_
   refine zBa rfl rfl ?_
   refine zAd ?_
   refine zAt ?_
   refine zA5 (zA1 ?_)
   refine zA rfl (run_entryM hs 0 rfl rfl) ?_
   refine zA rfl (zAa (v := .int .i64 _) rfl rfl) ?_
   refine zA rfl (zAa (v := .agg _) rfl rfl) ?_
   refine zBd hs rfl ze85 ?_
   clear hs
   intro b5 w hs
   try simp only [List.set_cons_succ, List.set_cons_zero] at hs
   refine zA rfl (zA2 (v := .int .i64 _) rfl) ?_
   refine zAp hs 0 rfl rfl rfl sz85 rfl rfl ?_
   clear hs
   intro w hs
   try simp only [List.set_cons_succ, List.set_cons_zero] at hs
   refine zA4 ?_
   obtain ⟨hoW, m2, es2, hs⟩ := (hs.arr [4, 0, 1, 2, 3] 5 (by decide)).openV
   simp only [viewP, List.cons_append, List.nil_append] at hs
   obtain ⟨e', o', hee', hm⟩ := hs.itmAt 6 rfl hi
   obtain ⟨rfl, rfl⟩ := itm_inj (Option.some.inj (hee.symm.trans hee'))
   refine zAz zBx (hs.drop 1) ?_
   intro w tr hK
   replace hs := tr _ hs
   clear tr
   refine zA6 0 rfl rfl (fun w hs => zA0 (v := .pointer (some _)) rfl) hK ?_
   refine zA6 1 rfl rfl (fun w hs => zA8 rfl) hK ?_
   refine zA6 2 rfl rfl (fun w hs => zA3 (o' := 0) uz79 rfl sz77 rfl rfl rfl) hK ?_
   refine zA6 3 rfl rfl (fun w hs => zA7 uz77 rfl rfl (hs.cellAt 0 rfl rfl)) hK ?_
   refine zA6 4 rfl rfl (fun w hs => zA0 (v := .int .i64 _) rfl) hK ?_
   refine zA6 5 rfl rfl (fun w hs => zA3 (o' := 0) uz85 rfl sz3 rfl rfl rfl) hK ?_
   refine zA6 6 rfl rfl (fun w hs => zA7 uz3 rfl rfl (hs.cellAt 2 rfl rfl)) hK ?_
   refine zA6 7 rfl rfl (fun w hs => zA3 (o' := 1) uz85 rfl zE0 rfl rfl rfl) hK ?_
   refine zA6 8 rfl rfl (fun w hs => zCq hs 2 (mfL i.m e o) rfl zC3 zE0 rfl rfl) hK ?_
   refine zAb [9] ?_
   refine ⟨⟨_, rfl, ?_⟩, trivial⟩
   refine zA9 rfl en43 (cloneM_sl hs hm (by omega) (by omega)) ?_
   clear hs
   rintro _ w ⟨s1, s2, rfl, hs⟩
   clear hK
   have hK := hs.tail.tail.drop 1
   refine zA4 ⟨hK, ?_⟩
   refine @aw_take _ _ _ _ _ _ _ _ _ _ _ _ _ _ 10 _ rfl (by kernel_rfl) (by kernel_rfl) (by kernel_rfl) rfl (fun w hs => zG (k := i.st) (m := i.m) (e := s1) (o := s2) uz85 ze85 pl85 rfl rfl) hK ?_
   refine zAb [11] ?_
   refine ⟨⟨_, rfl, ?_⟩, trivial⟩
   refine zDp (v := .agg _) hs 3 rfl zEs uz77 uz3 rfl rfl rfl ?_
   clear hs
   intro w hs
   try simp only [List.set_cons_succ, List.set_cons_zero] at hs
   clear hK
   have hK := hs.tail.tail.drop 1
   refine zA4 ⟨hK, ?_⟩
   refine zAu (by kernel_rfl) ?_
   clear hK
   have h1 := Mem.closeItm (i := i) (e := s1) (o := s2) hs
   have h2 := Mem.famPut (R := itmC) (k := k12) h1 2 rfl (fun _ h => False.elim h)
   have hst := hJ.step hk12 hi
   exact ⟨(zDq left k12, some (k12, itmV i e o), zCc W k12 i), by simp only; omega, ⟨hst, (Mem.closeV (p := pn) (hst.ok ho) h2).arr [2, 3, 4, 0] 5 (by decide)⟩, trivial, by repeat (first | exact Out.mix _ _ _ | refine Out.updo rfl ?_ | refine Out.upd rfl ?_ | refine Out.mixIn rfl ?_)⟩
end Go.Proofs.YtdkgdjnbpjjfmaaGreatDoor
namespace Go.Proofs.YtdkgdjnbpjjfmaaGreatDoor
set_option linter.all false
open Go.RowKit
attribute [local irreducible] zAq eV
variable {g w : World} {L M : List HP} {ad : Nat → Addr} {b rest : List UInt8} {a : Option Addr} {n c : Nat}

/-- What entry.Read answers of bytes: none, or an entry, its number and how many bytes it has. -/
def ErdR (g : World) (ad : Nat → Addr) (L : List HP) : Option (Nat × En × Nat) → Value → World → Prop
  | none => fun v w' => ∃ f eb, (f.2 = none ∨ f.1 ≠ 0) ∧ f.1 ≠ 0 ∧ v = .tuple #[.int .i64 0, .agg (.int .i64 0 :: mfL Mf.z (none, 0) (none, 0)).toArray, .int .i64 0, flV ad f eb] ∧ Mem g w' (flC ad f eb :: L)
  | some (q, e, z) => fun v w' => ∃ s1 s2 : SA, v = .tuple #[.int .i64 q, .agg (.int .i64 e.1 :: mfL e.2 s1 s2).toArray, .int .i64 z, .nilIface] ∧ Mem g w' (mfP e.2 s1 s2 ++ L)
/-- entry.Read answers that of these bytes. -/
structure ErdC (b : List UInt8) (r : Option (Nat × En × Nat)) : Prop where
  len : b.length ≤ 1000000
  fine : ∀ q e z, r = some (q, e, z) → EnOk e ∧ 1 ≤ z ∧ z ≤ b.length ∧ q < 9223372036854775808
  calls : ∀ {g w : World} {L : List HP} {ad : Nat → Addr} {a : Option Addr} {n c : Nat}, ErrP ad g → ErrW ad g → ErrV ad g → Mem g w L → Rd g L (.slice a n c) (zAm b) → n = b.length → n ≤ c → Calls Tryz.prog 77 #[.slice a n c] w (Ret (ErdR g ad L r))
theorem badE_sl (hs : Mem g w L) (f : Flt) (eb : Nat) : Calls Tryz.prog 116 #[flV ad f eb] w (Ret fun r w' => r = .tuple #[.int .i64 0, .agg (.int .i64 0 :: mfL Mf.z (none, 0) (none, 0)).toArray, .int .i64 0, flV ad f eb] ∧ Mem g w' L) := by
  refine zAl Tryz.func116 rfl rfl ?_
  skip
  refine zA5 (zA1 ?_)
  refine zA rfl (zA2 (v := .int .i64 _) rfl) ?_
  refine zBd hs rfl ze41 ?_
  clear hs
  intro b3 w hs
  try simp only [List.set_cons_succ, List.set_cons_zero] at hs
  refine zA rfl (zA2 (v := .int .i64 _) rfl) ?_
  refine zA rfl (zA2 (v := .nilIface) rfl) ?_
  refine zA4 (zA5 (zA1 ?_))
  refine zA rfl (zCo (cs := [.int .i64 0, .int .i64 0, .int .i64 0, .int .i64 0, .int .i64 0, .slice none 0 0, .slice none 0 0]) zF1 ze41 pl41 rfl) ?_
  refine zA rfl (zA0 (v := flV ad _ _) rfl) ?_
  refine zA rfl (zA2 (v := .int .i64 _) rfl) ?_
  refine zAp hs 0 rfl rfl rfl sz41 rfl rfl ?_
  clear hs
  intro w hs
  try simp only [List.set_cons_succ, List.set_cons_zero] at hs
  refine zA rfl (zA2 (v := .int .i64 _) rfl) ?_
  refine zA rfl (zA2 (v := flV ad _ _) rfl) ?_
  refine zA4 ?_
  refine zAf ?_
  refine resG [(.tmp 2, .int .i64 _), (.cell 3 41, .agg _), (.tmp 4, .int .i64 _), (.tmp 5, flV ad _ _)] rfl ⟨rfl, ⟨_, rfl, zC hs 0 rfl zF1 sz41⟩, rfl, rfl, trivial⟩ ?_
  exact ⟨_, rfl, rfl, hs.tail⟩
set_option maxHeartbeats 1000000 in
theorem enRead_sl (hP : ErrP ad g) (hW : ErrW ad g) (hE : ErrV ad g) (hs : Mem g w L) {k : Int} {x : Mf} (hk : EnOk (k, x)) {q : Nat} (hq : q < 9223372036854775808) (hb : b = frame q (k, x) ++ rest) (hlen : b.length ≤ 1000000) (hr : Rd g L (.slice a n c) (zAm b)) (hn : n = b.length) (hc : n ≤ c) :
    Calls Tryz.prog 77 #[.slice a n c] w (Ret (ErdR g ad L (some (q, (k, x), (frame q (k, x)).length)))) := by
  subst hn
  obtain ⟨h0, hk1, hk2, hsu⟩ := hk
  simp only at h0 hk1 hk2 hsu
  have hml : (mfB x).length = (mfBody x).length + 4 := zBw _
  have hmb := zEr (mf_fine (x := x) (by rw [h0]))
  have h8 := zCp 8 q
  have hst : (UInt8.ofNat k.toNat).toNat = k.toNat := by rw [UInt8.toNat_ofNat']; omega
  obtain ⟨F, hF⟩ : ∃ F, F = zBp (zFg q (k, x)) := ⟨_, rfl⟩
  have hFl : F.length = (mfB x).length + 13 := by rw [hF, zBw, zG0]
  have hil : (zFg q (k, x)).length = (mfB x).length + 9 := zG0 _ _
  have hfl : (frame q (k, x)).length = 4 + F.length := by rw [frame_len, hFl]; simp only; omega
  have hb2 : b = leR 4 F.length ++ (F ++ rest) := by rw [hb, frame, ← hF, List.append_assoc]
  have hbl : b.length = 4 + F.length + rest.length := by rw [hb2]; simp [zCp]; omega
  have ht4 : (b.take 4).drop 0 = leR 4 F.length := by rw [hb2, List.drop_zero, List.take_left' (zCp 4 _)]
  have htF : (b.take (4 + F.length)).drop 4 = F := by
    rw [List.drop_take, hb2, List.drop_left' (zCp 4 _), show 4 + F.length - 4 = F.length by omega, List.take_left]
  have hv4 : valL (leR 4 F.length) = F.length := valL_le 4 (by omega)
  have hv8 : valL (leR 8 q) = q := valL_le 8 (by omega)
  have hop : openL F = (0, zFg q (k, x)) := by rw [hF]; exact open_seal _
  have hx8 : (zFg q (k, x))[8]? = some (UInt8.ofNat k.toNat) := by rw [zFg, List.getElem?_append_right (by omega), h8]; rfl
  have ht9 : ((zFg q (k, x)).take (zFg q (k, x)).length).drop 9 = mfB x := by rw [List.take_length, zFg, ← List.singleton_append, ← List.append_assoc, List.drop_left' (by simp [h8])]
  refine zAl Tryz.func77 rfl rfl ?_
  skip
  refine zA5 (zA1 ?_)
  refine zA rfl (zA2 (v := .int .i64 _) rfl) ?_
  refine zBd hs rfl ze41 ?_
  clear hs
  intro b3 w hs
  try simp only [List.set_cons_succ, List.set_cons_zero] at hs
  refine zA rfl (zA2 (v := .int .i64 _) rfl) ?_
  refine zA rfl (zA2 (v := .nilIface) rfl) ?_
  refine zA4 (zA5 (zA1 ?_))
  refine zA rfl (zA2 (v := .func _ _ _) rfl) ?_
  refine zA4 ?_
  refine zA5 ?_
  refine zA5 (zA1 ?_)
  refine zA rfl (zA0 (v := .slice _ _ _) rfl) ?_
  refine zA rfl (zAw zBz rfl) ?_
  refine zA rfl (zB4 rfl rfl) ?_
  refine zA4 ?_
  refine zAv rfl (decide_eq_false (by omega)) ?_
  refine zAd ?_
  refine zA5 (zA1 ?_)
  refine zA rfl (zA0 (v := .slice _ _ _) rfl) ?_
  refine zA rfl (zDl zBz sz5 rfl rfl (hi := 4) rfl (by omega)) ?_
  refine zA9 rfl en68 (newr_sl ad hs (b := (b.take 4).drop 0) (hr.cons.subB (by omega) (by omega)) (by simp; omega) (by simp; omega)) ?_
  clear hs
  rintro _ w ⟨rb, rfl, hs⟩
  rw [ht4] at hs
  refine zA9 rfl en111 (fixN_sl hW hs (l := leR 4 F.length) (rest := []) (n := 4) (by rw [zCp]; decide) (by simp) (zCp 4 _).symm (by decide)) ?_
  clear hs
  rintro _ w ⟨rfl, hs⟩
  rw [hv4]
  refine zA rfl (zA2 (v := .int .u64 _) rfl) ?_
  refine zA4 ?_
  refine zA5 ?_
  refine zA5 (zA1 ?_)
  refine zA rfl (zA0 (v := .int .u64 _) rfl) ?_
  refine zA rfl (zBq rfl rfl) ?_
  refine zA4 ?_
  refine zAv rfl (decide_eq_false (by omega)) ?_
  refine zAd ?_
  refine zA5 ?_
  refine zA5 (zA1 ?_)
  refine zA rfl (zA0 (v := .slice _ _ _) rfl) ?_
  refine zA rfl (zAw zBz rfl) ?_
  refine zA rfl (zCj rfl rfl (c := ((b.length - 4 : Nat) : Int)) (by omega) (inI (by omega) (by omega))) ?_
  refine zA rfl (zAo uz3 zC0 rfl (c := ((b.length - 4 : Nat) : Int)) (by rw [zB6]; omega)) ?_
  refine zA rfl (zA0 (v := .int .u64 _) rfl) ?_
  refine zA rfl (zB4 rfl rfl) ?_
  refine zA4 ?_
  refine zAv rfl (decide_eq_false (by omega)) ?_
  refine zAd ?_
  refine zA5 (zA1 ?_)
  refine zA rfl (zA0 (v := .slice _ _ _) rfl) ?_
  refine zA rfl (zA0 (v := .int .u64 _) rfl) ?_
  refine zA rfl (zAo zC0 uz3 rfl (c := ((F.length : Nat) : Int)) (zE6.wrap ⟨by omega, by omega⟩)) ?_
  refine zA rfl (zAn rfl rfl (c := ((4 + F.length : Nat) : Int)) (by omega) (inI (by omega) (by omega))) ?_
  refine zA rfl (run_slice zBz sz5 rfl rfl rfl (lo := 4) (hi := 4 + F.length) rfl rfl (by omega) (by omega)) ?_
  refine zA9 rfl en108 (copen_sl (k := 0) (b := zFg q (k, x)) hP hs (l := (b.take (4 + F.length)).drop 4) (hr.cons.cons.subB (by omega) (by omega)) (by rw [htF]; omega) (by omega) (by rw [htF]; omega) (by rw [htF]; exact hop)) ?_
  clear hs
  rintro _ w ⟨a54, c54, rfl, hs⟩
  rw [zB2]
  refine zA rfl (zA0 (v := .tuple _) rfl) ?_
  refine zA rfl (zAa (v := .slice _ _ _) rfl rfl) ?_
  refine zA rfl (zAa (v := .nilIface) rfl rfl) ?_
  refine zA rfl (zA2 (v := .slice _ _ _) rfl) ?_
  refine zA rfl (zA2 (v := .nilIface) rfl) ?_
  refine zA4 ?_
  refine zA5 ?_
  refine zA5 (zA1 ?_)
  refine zA rfl (zA0 (v := .nilIface) rfl) ?_
  refine zA rfl (zBi rfl) ?_
  refine zA4 ?_
  refine zAv rfl (rfl) ?_
  refine zAd ?_
  refine zA5 ?_
  refine zA5 (zA1 ?_)
  refine zA rfl (zA0 (v := .slice _ _ _) rfl) ?_
  refine zA rfl (zAw zBz rfl) ?_
  refine zA rfl (zB4 rfl rfl) ?_
  refine zA4 ?_
  refine zAv rfl (decide_eq_false (by omega)) ?_
  refine zAd ?_
  refine zA5 (zA1 ?_)
  refine zA rfl (zA0 (v := .slice _ _ _) rfl) ?_
  refine zA9 rfl en68 (newr_sl ad hs (b := zFg q (k, x)) (hs.rdOwn 0 rfl) rfl (by omega)) ?_
  clear hs
  rintro _ w ⟨rb2, rfl, hs⟩
  refine zA9 rfl en111 (fixN_sl hW hs (l := leR 8 q) (rest := UInt8.ofNat k.toNat :: mfB x) (n := 8) (by omega) (by rfl) (zCp 8 _).symm (by decide)) ?_
  clear hs
  rintro _ w ⟨rfl, hs⟩
  rw [hv8]
  refine zA rfl (zAo zC0 uz2 rfl (c := ((q : Nat) : Int)) (zE6.wrap ⟨by omega, by omega⟩)) ?_
  refine zA rfl (zA2 (v := .int .i64 _) rfl) ?_
  refine zA4 ?_
  refine zA5 ?_
  obtain ⟨br, or_, rfl, _⟩ := hs.ownCells 1 rfl (by rw [zAr]; omega)
  refine zA1 ?_
  refine zA rfl (zA0 (v := .slice _ _ _) rfl) ?_
  refine zA rfl (zBl zBz sz5 rfl rfl (i := 8) rfl (by omega) rfl) ?_
  refine zA rfl (zA7 uz5 rfl rfl (hs.ownAt 1 rfl (zEw hx8))) ?_
  refine zA rfl (zAo uz5 uz3 rfl (c := k) (by rw [hst, zE6.wrap ⟨by omega, by omega⟩]; omega)) ?_
  refine zA rfl (zCo (cs := [.int .i64 k, .int .i64 0, .int .i64 0, .int .i64 0, .int .i64 0, .slice none 0 0, .slice none 0 0]) zF1 ze41 pl41 rfl) ?_
  refine zBd hs rfl ze41 ?_
  clear hs
  intro b11 w hs
  try simp only [List.set_cons_succ, List.set_cons_zero] at hs
  refine zAp hs 0 rfl rfl rfl sz41 rfl rfl ?_
  clear hs
  intro w hs
  try simp only [List.set_cons_succ, List.set_cons_zero] at hs
  refine zA4 ?_
  refine zA5 ?_
  refine zA5 (zA1 ?_)
  refine zA rfl (zA0 (v := .int .i64 _) rfl) ?_
  refine zA rfl (zB4 rfl rfl) ?_
  refine zA4 ?_
  refine zAv rfl (decide_eq_false (by omega)) ?_
  refine zAd ?_
  refine zA5 ?_
  refine zA5 (zA1 ?_)
  refine zA rfl (zA3 (o' := 0) zF1 rfl sz3 rfl rfl rfl) ?_
  refine zA rfl (zA7 uz3 rfl rfl (hs.cellAt 0 rfl rfl)) ?_
  refine zA9 rfl en79 (known_sl hs k) ?_
  clear hs
  rintro _ w ⟨rfl, hs⟩
  refine zA rfl (zBm rfl) ?_
  refine zA4 ?_
  refine zAv rfl (zBg ((by rw [decide_eq_true hk1, decide_eq_true hk2]; rfl))) ?_
  refine zAd ?_
  refine zA5 ?_
  refine zA5 (zA1 ?_)
  refine zA rfl (zA0 (v := .slice _ _ _) rfl) ?_
  refine zA rfl (zCv zBz sz5 rfl rfl (lo := 9) rfl (by omega)) ?_
  refine zA9 rfl en113 (maniR_sl hP hW hE hs (m := x) (by rw [← ht9]; exact (hs.rdOwn 2 rfl).subB (by omega) (Nat.le_refl _)) (by omega) (by have := (hs.ownForm 2 rfl).2.1; omega) h0 hsu) ?_
  clear hs
  rintro _ w ⟨s1, s2, rfl, hs⟩
  simp only [mfP, List.cons_append, List.nil_append] at hs
  refine zA rfl (zA0 (v := .tuple _) rfl) ?_
  refine zA rfl (zAa (v := .agg _) rfl rfl) ?_
  refine zA rfl (zAa (v := .nilIface) rfl rfl) ?_
  refine zA rfl (zA3 (o' := 1) zF1 rfl zE0 rfl rfl rfl) ?_
  refine lw_storeMid hs 2 ((.int .i64 k :: mfL x s1 s2)) rfl rfl rfl zE0 rfl rfl rfl ?_
  clear hs
  intro w hs
  try simp only [List.set_cons_succ, List.set_cons_zero] at hs
  refine zA rfl (zA2 (v := .nilIface) rfl) ?_
  refine zA4 (zA5 (zA1 ?_))
  refine zA rfl (zA0 (v := .nilIface) rfl) ?_
  refine zA rfl (zBi rfl) ?_
  refine zA4 ?_
  refine zAv rfl (rfl) ?_
  refine zAd ?_
  refine zA5 ?_
  refine zAz zBx (hs.arr [0, 1, 2, 3, 4, 5] 7 (by decide)) ?_
  intro w tr hK
  replace hs := tr _ hs
  clear tr
  refine zA6 0 rfl rfl (fun w hs => zA0 (v := .int .i64 _) rfl) hK ?_
  refine zA6 1 rfl rfl (fun w hs => zB3 hs 2 rfl zF1 sz41 rfl) hK ?_
  refine zA6 2 rfl rfl (fun w hs => zA0 (v := .int .u64 _) rfl) hK ?_
  refine zA6 3 rfl rfl (fun w hs => zAo zC0 uz3 rfl (c := ((F.length : Nat) : Int)) (zE6.wrap ⟨by omega, by omega⟩)) hK ?_
  refine zA6 4 rfl rfl (fun w hs => zAn rfl rfl (c := ((4 + F.length : Nat) : Int)) (by omega) (inI (by omega) (by omega))) hK ?_
  refine zA6 5 rfl rfl (fun w hs => zA2 (v := .int .i64 _) rfl) hK ?_
  refine zAb [6] ?_
  refine ⟨⟨_, rfl, ?_⟩, trivial⟩
  refine zAp hs 6 rfl rfl rfl sz41 rfl rfl ?_
  clear hs
  intro w hs
  try simp only [List.set_cons_succ, List.set_cons_zero] at hs
  clear hK
  have hK := hs.arr [0, 1, 2, 3, 4, 5] 7 (by decide)
  refine zA4 ⟨hK, ?_⟩
  refine zA6 7 rfl rfl (fun w hs => zA2 (v := .int .i64 _) rfl) hK ?_
  refine zA6 8 rfl rfl (fun w hs => zA2 (v := .nilIface) rfl) hK ?_
  refine zAu (by kernel_rfl) ?_
  clear hK
  refine zAf ?_
  refine resG [(.tmp 2, .int .i64 _), (.cell 3 41, .agg _), (.tmp 4, .int .i64 _), (.tmp 5, .nilIface)] rfl ⟨rfl, ⟨_, rfl, zC hs 6 rfl zF1 sz41⟩, rfl, rfl, trivial⟩ ?_
  rw [hfl]
  exact ⟨_, rfl, s1, s2, rfl, hs.arr [0, 1] 7 (by decide)⟩
/-- Bytes that break off are no entry. -/
theorem enShort_sl (hP : ErrP ad g) (hs : Mem g w L) (h4 : b.length < 4) (hr : Rd g L (.slice a n c) (zAm b)) (hn : n = b.length) : Calls Tryz.prog 77 #[.slice a n c] w (Ret (ErdR g ad L none)) := by
  subst hn
  refine zAl Tryz.func77 rfl rfl ?_
  skip
  refine zA5 (zA1 ?_)
  refine zA rfl (zA2 (v := .int .i64 _) rfl) ?_
  refine zBd hs rfl ze41 ?_
  clear hs
  intro b3 w hs
  try simp only [List.set_cons_succ, List.set_cons_zero] at hs
  refine zA rfl (zA2 (v := .int .i64 _) rfl) ?_
  refine zA rfl (zA2 (v := .nilIface) rfl) ?_
  refine zA4 (zA5 (zA1 ?_))
  refine zA rfl (zA2 (v := .func _ _ _) rfl) ?_
  refine zA4 ?_
  refine zA5 ?_
  refine zA5 (zA1 ?_)
  refine zA rfl (zA0 (v := .slice _ _ _) rfl) ?_
  refine zA rfl (zAw zBz rfl) ?_
  refine zA rfl (zB4 rfl rfl) ?_
  refine zA4 ?_
  refine zBa rfl (decide_eq_true (by omega)) ?_
  refine zA5 (zA1 ?_)
  refine zA rfl (zA0 (v := .func _ _ _) rfl) ?_
  refine zA rfl (zA7 zD1 rfl rfl (hP.cellW hs 101 (by decide) rfl)) ?_
  refine zFd rfl (cap := #[]) en116 rfl (badE_sl (ad := ad) hs (101, none) 0) ?_
  clear hs
  rintro _ w ⟨rfl, hs⟩
  refine zA rfl (zAa (v := .int .i64 _) rfl rfl) ?_
  refine zA rfl (zAa (v := .agg _) rfl rfl) ?_
  refine zA rfl (zAa (v := .int .i64 _) rfl rfl) ?_
  refine zA rfl (zAa (v := zAq ad _) rfl rfl) ?_
  refine zA rfl (zA2 (v := .int .i64 _) rfl) ?_
  refine zAp hs 0 rfl rfl rfl sz41 rfl rfl ?_
  clear hs
  intro w hs
  try simp only [List.set_cons_succ, List.set_cons_zero] at hs
  refine zA rfl (zA2 (v := .int .i64 _) rfl) ?_
  refine zA rfl (zA2 (v := zAq ad _) rfl) ?_
  refine zA4 ?_
  refine zAf ?_
  refine resG [(.tmp 2, .int .i64 _), (.cell 3 41, .agg _), (.tmp 4, .int .i64 _), (.tmp 5, zAq ad _)] rfl ⟨rfl, ⟨_, rfl, zC hs 0 rfl zF1 sz41⟩, rfl, rfl, trivial⟩ ?_
  exact ⟨_, rfl, (101, none), 0, .inl rfl, by decide, rfl, hs.tail.addE (emp_okF _)⟩
theorem enCut_sl (hP : ErrP ad g) (hW : ErrW ad g) (hs : Mem g w L) {m : Nat} {t : List UInt8} (hb : b = leR 4 m ++ t) (hm : m ≤ 65536) (ht : t.length < m) (hr : Rd g L (.slice a n c) (zAm b)) (hn : n = b.length) (hc : n ≤ c) : Calls Tryz.prog 77 #[.slice a n c] w (Ret (ErdR g ad L none)) := by
  subst hn
  have hbl : b.length = 4 + t.length := by rw [hb]; simp [zCp]
  have ht4 : (b.take 4).drop 0 = leR 4 m := by rw [hb, List.drop_zero, List.take_left' (zCp 4 _)]
  have hv4 : valL (leR 4 m) = m := valL_le 4 (by omega)
  refine zAl Tryz.func77 rfl rfl ?_
  skip
  refine zA5 (zA1 ?_)
  refine zA rfl (zA2 (v := .int .i64 _) rfl) ?_
  refine zBd hs rfl ze41 ?_
  clear hs
  intro b3 w hs
  try simp only [List.set_cons_succ, List.set_cons_zero] at hs
  refine zA rfl (zA2 (v := .int .i64 _) rfl) ?_
  refine zA rfl (zA2 (v := .nilIface) rfl) ?_
  refine zA4 (zA5 (zA1 ?_))
  refine zA rfl (zA2 (v := .func _ _ _) rfl) ?_
  refine zA4 ?_
  refine zA5 ?_
  refine zA5 (zA1 ?_)
  refine zA rfl (zA0 (v := .slice _ _ _) rfl) ?_
  refine zA rfl (zAw zBz rfl) ?_
  refine zA rfl (zB4 rfl rfl) ?_
  refine zA4 ?_
  refine zAv rfl (decide_eq_false (by omega)) ?_
  refine zAd ?_
  refine zA5 (zA1 ?_)
  refine zA rfl (zA0 (v := .slice _ _ _) rfl) ?_
  refine zA rfl (zDl zBz sz5 rfl rfl (hi := 4) rfl (by omega)) ?_
  refine zA9 rfl en68 (newr_sl ad hs (b := (b.take 4).drop 0) (hr.cons.subB (by omega) (by omega)) (by simp; omega) (by simp; omega)) ?_
  clear hs
  rintro _ w ⟨rb, rfl, hs⟩
  rw [ht4] at hs
  refine zA9 rfl en111 (fixN_sl hW hs (l := leR 4 m) (rest := []) (n := 4) (by rw [zCp]; decide) (by simp) (zCp 4 _).symm (by decide)) ?_
  clear hs
  rintro _ w ⟨rfl, hs⟩
  rw [hv4]
  refine zA rfl (zA2 (v := .int .u64 _) rfl) ?_
  refine zA4 ?_
  refine zA5 ?_
  refine zA5 (zA1 ?_)
  refine zA rfl (zA0 (v := .int .u64 _) rfl) ?_
  refine zA rfl (zBq rfl rfl) ?_
  refine zA4 ?_
  refine zAv rfl (decide_eq_false (by omega)) ?_
  refine zAd ?_
  refine zA5 ?_
  refine zA5 (zA1 ?_)
  refine zA rfl (zA0 (v := .slice _ _ _) rfl) ?_
  refine zA rfl (zAw zBz rfl) ?_
  refine zA rfl (zCj rfl rfl (c := ((b.length - 4 : Nat) : Int)) (by omega) (inI (by omega) (by omega))) ?_
  refine zA rfl (zAo uz3 zC0 rfl (c := ((b.length - 4 : Nat) : Int)) (by rw [zB6]; omega)) ?_
  refine zA rfl (zA0 (v := .int .u64 _) rfl) ?_
  refine zA rfl (zB4 rfl rfl) ?_
  refine zA4 ?_
  refine zBa rfl (decide_eq_true (by omega)) ?_
  refine zA5 (zA1 ?_)
  refine zA rfl (zA0 (v := .func _ _ _) rfl) ?_
  refine zA rfl (zA7 zD1 rfl rfl (hP.cellW hs 101 (by decide) rfl)) ?_
  refine zFd rfl (cap := #[]) en116 rfl (badE_sl (ad := ad) hs (101, none) 0) ?_
  clear hs
  rintro _ w ⟨rfl, hs⟩
  refine zA rfl (zAa (v := .int .i64 _) rfl rfl) ?_
  refine zA rfl (zAa (v := .agg _) rfl rfl) ?_
  refine zA rfl (zAa (v := .int .i64 _) rfl rfl) ?_
  refine zA rfl (zAa (v := zAq ad _) rfl rfl) ?_
  refine zA rfl (zA2 (v := .int .i64 _) rfl) ?_
  refine zAp hs 1 rfl rfl rfl sz41 rfl rfl ?_
  clear hs
  intro w hs
  try simp only [List.set_cons_succ, List.set_cons_zero] at hs
  refine zA rfl (zA2 (v := .int .i64 _) rfl) ?_
  refine zA rfl (zA2 (v := zAq ad _) rfl) ?_
  refine zA4 ?_
  refine zAf ?_
  refine resG [(.tmp 2, .int .i64 _), (.cell 3 41, .agg _), (.tmp 4, .int .i64 _), (.tmp 5, zAq ad _)] rfl ⟨rfl, ⟨_, rfl, zC hs 1 rfl zF1 sz41⟩, rfl, rfl, trivial⟩ ?_
  exact ⟨_, rfl, (101, none), 0, .inl rfl, by decide, rfl, (hs.tail.tail).addE (emp_okF _)⟩
theorem erd_frame {q : Nat} {e : En} (hk : EnOk e) (hq : q < 9223372036854775808) (hlen : (frame q e ++ rest).length ≤ 1000000) : ErdC (frame q e ++ rest) (some (q, e, (frame q e).length)) := by
  refine ⟨hlen, fun q' e' z h => ?_, fun hP hW hE hs hr hn hc => enRead_sl hP hW hE hs hk hq rfl hlen hr hn hc⟩
  cases h
  exact ⟨hk, by rw [frame_len]; omega, by simp, hq⟩
/-- Of a frame that breaks off nothing is read. -/
theorem erd_cut {q : Nat} {e : En} (hk : EnOk e) {j : Nat} (hj : j < (frame q e).length) : ErdC ((frame q e).take j) none := by
  have hfl := frame_le (q := q) hk
  refine ⟨by rw [List.length_take]; omega, fun q' e' z h => (by cases h), fun hP hW hE hs hr hn hc => ?_⟩
  by_cases h4 : j < 4
  · exact enShort_sl hP hs (by rw [List.length_take]; omega) hr hn
  · have hF : (zBp (zFg q e)).length = (frame q e).length - 4 := by rw [frame, List.length_append, zCp]; omega
    refine enCut_sl hP hW hs (m := (zBp (zFg q e)).length) (t := (zBp (zFg q e)).take (j - 4)) ?_ (by omega) (by rw [List.length_take]; omega) hr hn hc
    rw [frame, List.take_append, zCp, List.take_of_length_le (by rw [zCp]; omega)]
/-! ### what reading goes on to -/
inductive Ent : Vw → Nat → List UInt8 → Vw → Nat → Nat → Nat → Prop
  | none {V : Vw} {q : Nat} {b : List UInt8} (h : b = [] ∨ ErdC b .none) : Ent V q b V q 0 0
  | bad {V : Vw} {q s z : Nat} {e : En} {b : List UInt8} (h : ErdC b (some (s, e, z))) (hb : s ≠ q + 1 ∨ (V.apply e.1 e.2).1.1 ≠ 0) : Ent V q b V q 0 0
  | step {V U : Vw} {q r z c n : Nat} {e : En} {b : List UInt8} (h : ErdC b (some (q + 1, e, z))) (ha : (V.apply e.1 e.2).1 = (0, .none)) (hn : Ent (V.apply e.1 e.2).2 (q + 1) (b.drop z) U r c n) : Ent V q b U r (c + 1) (n + z)
theorem Ent.le {V U : Vw} {q r c n : Nat} {b : List UInt8} (h : Ent V q b U r c n) : n ≤ b.length ∧ r = q + c := by
  induction h with
  | none _ => exact ⟨Nat.zero_le _, rfl⟩
  | bad _ _ => exact ⟨Nat.zero_le _, rfl⟩
  | step h _ _ ih =>
    have h1 := (h.fine _ _ _ rfl).2.2.1
    rw [List.length_drop] at ih
    exact ⟨by omega, by omega⟩
/-- Entries that were laid are read, and what follows is read behind them. -/
theorem Ent.frames {tail : List UInt8} {W : Vw} {r c n : Nat} : ∀ {es : List En} {V U : Vw} {q : Nat}, runs V es = some U → (∀ e ∈ es, EnOk e) → (frames q es ++ tail).length ≤ 1000000 → q + es.length < 9223372036854775807 → Ent U (q + es.length) tail W r c n → Ent V q (frames q es ++ tail) W r (c + es.length) (n + (frames q es).length)
  | [], V, U, q, h, _, _, _, ht => by cases h; exact ht
  | e :: es, V, U, q, h, hE, hl, hq, ht => by
    simp only [runs] at h
    split at h
    · rename_i h1
      simp only [Go.Proofs.YtdkgdjnbpjjfmaaGreatDoor.frames, List.append_assoc, List.length_append, List.length_cons] at hl hq ht ⊢
      have hd : (frame (q + 1) e ++ (Go.Proofs.YtdkgdjnbpjjfmaaGreatDoor.frames (q + 1) es ++ tail)).drop (frame (q + 1) e).length = Go.Proofs.YtdkgdjnbpjjfmaaGreatDoor.frames (q + 1) es ++ tail := List.drop_left
      have ih := Ent.frames (tail := tail) (q := q + 1) h (fun x hx => hE x (List.mem_cons_of_mem _ hx)) (by simp only [List.length_append]; omega) (by omega) (by rw [show q + 1 + es.length = q + (es.length + 1) by omega]; exact ht)
      have h2 := Ent.step (erd_frame (q := q + 1) (rest := Go.Proofs.YtdkgdjnbpjjfmaaGreatDoor.frames (q + 1) es ++ tail) (hE e (List.mem_cons_self ..)) (by omega) (by simp only [List.length_append]; omega)) h1 (by rw [hd]; exact ih)
      rw [show c + (es.length + 1) = c + es.length + 1 by omega, show n + ((frame (q + 1) e).length + (Go.Proofs.YtdkgdjnbpjjfmaaGreatDoor.frames (q + 1) es).length) = n + (Go.Proofs.YtdkgdjnbpjjfmaaGreatDoor.frames (q + 1) es).length + (frame (q + 1) e).length by omega]
      exact h2
    · cases h
end Go.Proofs.YtdkgdjnbpjjfmaaGreatDoor
namespace Go.Proofs.YtdkgdjnbpjjfmaaGreatDoor
set_option linter.all false
open Go.RowKit
attribute [local irreducible] zAq
variable {g w : World} {L M : List HP} {ad : Nat → Addr} {p mn mk sc : Nat} {sa : Option Addr} {d : Dk} {ptr : List (Nat × Nat)}

/-- A new file is laid among the others. -/
theorem Mem.addFile {b : Nat} (ho : d.ok) (hs : Mem g w (cells b [.int .i64 ((d.files + 1 : Nat) : Int), .slice none 0 0, .int .i64 0] 94 :: (zC4 p { d with files := d.files + 1 } mn mk sa sc ptr ++ L))) : Mem g w (zC4 p d.addF mn mk sa sc (zCc ptr (d.files + 1) b) ++ L) := by
  have h1 : Mem g w (fiC b ⟨d.files + 1, [], 0⟩ :: (zC4 p { d with files := d.files + 1 } mn mk sa sc ptr ++ L)) :=
    Mem.closeF (f := ⟨d.files + 1, [], 0⟩) (a := none) (c := 0) ((hs.addE (zE3 _)).arr [1, 0] 2 (by decide))
  have h2 := Mem.famPut (R := fiC) (k := d.files + 1) h1 4 rfl (fun _ h => h.elim)
  rw [aput_end (v := (⟨d.files + 1, [], 0⟩ : Fl)) ho.fresh] at h2
  have hf : ∀ l : List (ByteArray × Nat), (∀ x ∈ l, x.2 ∈ zAh d.fs) → nmV (zCc ptr (d.files + 1) b) l = nmV ptr l := fun l hl => nmV_more fun x hx e => ho.fresh (e ▸ hl x hx)
  have e1 := hf d.names ho.nin
  have e2 := hf d.kept ho.kin
  have e3 : d.changes.map (chgV (zCc ptr (d.files + 1) b)) = d.changes.map (chgV ptr) := chgV_more fun c hc i hi e => ho.fresh (e ▸ ho.cin c hc i hi)
  show Mem g w ([cells p (diskL mn mk { d with files := d.files + 1 } sa sc) 72, mapS mn (nmV (zCc ptr (d.files + 1) b) d.names), mapS mk (nmV (zCc ptr (d.files + 1) b) d.kept), zEk 3 (.slice sa d.changes.length sc) (d.changes.map (chgV (zCc ptr (d.files + 1) b))), famC fiC (zCc ptr (d.files + 1) b) (d.fs ++ [(d.files + 1, ⟨d.files + 1, [], 0⟩)])] ++ L)
  rw [e1, e2, e3]
  exact h2
theorem create_sl (hE : ErrK ad g) (hs : Mem g w (zBn p d :: L)) (hc : d.calls < 1000000) (n : ByteArray) {k : Nat} {d2 : Dk} (hk : d.create n = (k, d2)) : Calls Tryz.prog 34 #[.pointer (some ⟨p, 0, none⟩), .string n] w (Ret fun v w' => v = zAq ad k ∧ Mem g w' (zBn p d2 :: L)) := by
  obtain ⟨ho, mn, mk, sa, sc, ptr, hs⟩ := hs.openD
  have hb := d.begin_same
  have hbc := d.begin_code
  have ho1 := ho.begin
  have hf1 := ho1.fcl
  have hk1 := ho1.kl
  cases hn : zB0 d.begin.2.names n with
  | none =>
    refine zAl Tryz.func34 rfl rfl ?_
    skip
    refine zA5 (zA1 ?_)
    refine zA rfl (zA2 (v := .nilIface) rfl) ?_
    refine zA4 ?_
    refine zA5 ?_
    refine zA5 (zA1 ?_)
    refine zA rfl (zA0 (v := .pointer (some _)) rfl) ?_
    refine zA9 rfl en73 (begin_sl hE ho hs) ?_
    clear hs
    rintro _ w ⟨rfl, hs⟩
    refine zA rfl (zA2 (v := zAq ad _) rfl) ?_
    refine zA4 (zA5 (zA1 ?_))
    refine zA rfl (zA0 (v := zAq ad _) rfl) ?_
    refine zA rfl (zAy (ad := ad) rfl) ?_
    refine zA4 ?_
    refine zB7 rfl ?_ ?_
    ·
     intro h9
     have g9 := ne_t h9
     refine zA5 (zA1 ?_)
     refine zA rfl (zA0 (v := zAq ad _) rfl) ?_
     refine zA rfl (zA2 (v := zAq ad _) rfl) ?_
     refine zA4 ?_
     refine zAf ?_
     refine zBj (v := zAq ad _) rfl rfl ?_
     have hb1 : d.begin.1 ≠ 0 := by simpa using h9
     have e : d.create n = (110, d.begin.2) := by simp [Dk.create, hb1]
     rw [e] at hk
     cases hk
     rw [show d.begin.1 = 110 by omega]
     exact ⟨_, rfl, rfl, Mem.closeD ho1 hs⟩
    ·
     intro h9
     have g9 := ne_f h9
     refine zAd ?_
     refine zA5 ?_
     refine zAt ?_
     refine zA5 (zA1 ?_)
     refine zA rfl (zA0 (v := .string _) rfl) ?_
     refine zA9 rfl en74 (valid_sl hs n) ?_
     clear hs
     rintro _ w ⟨rfl, hs⟩
     refine zA rfl (zBm rfl) ?_
     refine zA rfl (zA2 (v := .bool _) rfl) ?_
     refine zA4 ?_
     refine zB7 rfl ?_ ?_
     ·
      intro h13
      replace h13 := zF h13
      refine zA5 (zA1 ?_)
      refine zA rfl (zA7 zD1 rfl rfl (hE.cellW hs 106 (by decide) rfl)) ?_
      refine zA rfl (zA2 (v := zAq ad _) rfl) ?_
      refine zA4 ?_
      refine zAf ?_
      refine zBj (v := zAq ad _) rfl rfl ?_
      have hb1 : d.begin.1 = 0 := by simpa using h9
      have e : d.create n = (106, d.begin.2) := by simp [Dk.create, hb1, h13]
      rw [e] at hk
      cases hk
      exact ⟨_, rfl, rfl, Mem.closeD ho1 hs⟩
     ·
      intro h13
      replace h13 := zE4 h13
      refine zA5 (zA1 ?_)
      refine zA rfl (zA0 (v := .pointer (some _)) rfl) ?_
      refine zA rfl (zA8 rfl) ?_
      refine zA rfl (zA3 (o' := 1) zEn rfl sz69 rfl rfl rfl) ?_
      refine zA rfl (zA7 uz69 rfl rfl (hs.cellAt 0 rfl rfl)) ?_
      refine zA rfl (zA0 (v := .string _) rfl) ?_
      refine zA rfl (zFn (hs.mapAt 1 rfl) zFi uz69 uz9 ze90 rfl rfl (o := none) (by rw [nmV_get, hn]; rfl)) ?_
      refine zA rfl (zDt uz90 rfl rfl) ?_
      refine zA rfl (zA2 (v := .bool _) rfl) ?_
      refine zA4 ?_
      refine zAv rfl (rfl) ?_
      refine zAd ?_
      refine zA5 (zA1 ?_)
      refine zA rfl (zA0 (v := .pointer (some _)) rfl) ?_
      refine zA rfl (zA8 rfl) ?_
      refine zA rfl (zA3 (o' := 4) zEn rfl sz3 rfl rfl rfl) ?_
      refine zA rfl (zA7 uz3 rfl rfl (hs.cellAt 0 rfl rfl)) ?_
      refine zA rfl (zAn rfl rfl rfl (inI (by omega) (by omega))) ?_
      refine zA rfl (zA8 rfl) ?_
      refine zA rfl (zA3 (o' := 4) zEn rfl sz3 rfl rfl rfl) ?_
      refine zAs (v := .int .i64 _) hs 0 rfl sz3 rfl rfl rfl rfl ?_
      clear hs
      intro w hs
      try simp only [List.set_cons_succ, List.set_cons_zero] at hs
      refine zA4 (zA5 (zA1 ?_))
      refine zA rfl (zA0 (v := .pointer (some _)) rfl) ?_
      refine zA rfl (zA0 (v := .string _) rfl) ?_
      refine zA rfl (zA0 (v := .pointer (some _)) rfl) ?_
      refine zA rfl (zA8 rfl) ?_
      refine zA rfl (zA3 (o' := 4) zEn rfl sz3 rfl rfl rfl) ?_
      refine zA rfl (zA7 uz3 rfl rfl (hs.cellAt 0 rfl rfl)) ?_
      refine zA rfl (zCo (cs := [.int .i64 ((d.begin.2.files + 1 : Nat) : Int), .slice none 0 0, .int .i64 0]) uz94 ze94 pl94 rfl) ?_
      refine zCk (v := .agg _) hs rfl rfl ?_
      clear hs
      intro b39 w hs
      replace hs := Mem.addFile (d := d.begin.2) ho1 hs
      refine zA rfl (zCo (cs := [.string n, .string ByteArray.empty, .pointer (some ⟨b39, 0, none⟩)]) zF4 ze120 pl120 rfl) ?_
      refine zA9 rfl en75 (change_sl (d := d.begin.2.addF) (by show d.begin.2.calls < _; omega) (by show d.begin.2.changes.length < _; omega) hs ⟨n, ByteArray.empty, some (d.begin.2.files + 1)⟩ (fun i hi => by cases hi; exact ⟨b39, zB5 _ _ _⟩) (row := [.string n, .string ByteArray.empty, .pointer (some ⟨b39, 0, none⟩)]) (by simp [chgV, fptr, zB5])) ?_
      clear hs
      rintro _ w ⟨rfl, sa2, sc2, hs⟩
      refine zA4 (zA5 (zA1 ?_))
      refine zA rfl (zA2 (v := .nilIface) rfl) ?_
      refine zA4 ?_
      refine zAf ?_
      refine zBj (v := .nilIface) rfl rfl ?_
      have hb1 : d.begin.1 = 0 := by simpa using h9
      have e : d.create n = (0, d.begin.2.addF.change ⟨n, ByteArray.empty, some (d.begin.2.files + 1)⟩) := by simp [Dk.create, hb1, h13, hn, Dk.addF]
      rw [e] at hk
      cases hk
      exact ⟨_, rfl, (zB2 ad).symm, Mem.closeD (ho1.create fun i hi => by cases hi; rfl) hs⟩
  | some i =>
    obtain ⟨b, hbp, hp, hf⟩ := ho.ptrOf hs 4 rfl (ho.named (n := n) (by rw [← hb.2.1]; exact hn))
    refine zAl Tryz.func34 rfl rfl ?_
    skip
    refine zA5 (zA1 ?_)
    refine zA rfl (zA2 (v := .nilIface) rfl) ?_
    refine zA4 ?_
    refine zA5 ?_
    refine zA5 (zA1 ?_)
    refine zA rfl (zA0 (v := .pointer (some _)) rfl) ?_
    refine zA9 rfl en73 (begin_sl hE ho hs) ?_
    clear hs
    rintro _ w ⟨rfl, hs⟩
    refine zA rfl (zA2 (v := zAq ad _) rfl) ?_
    refine zA4 (zA5 (zA1 ?_))
    refine zA rfl (zA0 (v := zAq ad _) rfl) ?_
    refine zA rfl (zAy (ad := ad) rfl) ?_
    refine zA4 ?_
    refine zB7 rfl ?_ ?_
    ·
     intro h9
     have g9 := ne_t h9
     refine zA5 (zA1 ?_)
     refine zA rfl (zA0 (v := zAq ad _) rfl) ?_
     refine zA rfl (zA2 (v := zAq ad _) rfl) ?_
     refine zA4 ?_
     refine zAf ?_
     refine zBj (v := zAq ad _) rfl rfl ?_
     have hb1 : d.begin.1 ≠ 0 := by simpa using h9
     have e : d.create n = (110, d.begin.2) := by simp [Dk.create, hb1]
     rw [e] at hk
     cases hk
     rw [show d.begin.1 = 110 by omega]
     exact ⟨_, rfl, rfl, Mem.closeD ho1 hs⟩
    ·
     intro h9
     have g9 := ne_f h9
     refine zAd ?_
     refine zA5 ?_
     refine zAt ?_
     refine zA5 (zA1 ?_)
     refine zA rfl (zA0 (v := .string _) rfl) ?_
     refine zA9 rfl en74 (valid_sl hs n) ?_
     clear hs
     rintro _ w ⟨rfl, hs⟩
     refine zA rfl (zBm rfl) ?_
     refine zA rfl (zA2 (v := .bool _) rfl) ?_
     refine zA4 ?_
     refine zB7 rfl ?_ ?_
     ·
      intro h13
      replace h13 := zF h13
      refine zA5 (zA1 ?_)
      refine zA rfl (zA7 zD1 rfl rfl (hE.cellW hs 106 (by decide) rfl)) ?_
      refine zA rfl (zA2 (v := zAq ad _) rfl) ?_
      refine zA4 ?_
      refine zAf ?_
      refine zBj (v := zAq ad _) rfl rfl ?_
      have hb1 : d.begin.1 = 0 := by simpa using h9
      have e : d.create n = (106, d.begin.2) := by simp [Dk.create, hb1, h13]
      rw [e] at hk
      cases hk
      exact ⟨_, rfl, rfl, Mem.closeD ho1 hs⟩
     ·
      intro h13
      replace h13 := zE4 h13
      refine zA5 (zA1 ?_)
      refine zA rfl (zA0 (v := .pointer (some _)) rfl) ?_
      refine zA rfl (zA8 rfl) ?_
      refine zA rfl (zA3 (o' := 1) zEn rfl sz69 rfl rfl rfl) ?_
      refine zA rfl (zA7 uz69 rfl rfl (hs.cellAt 0 rfl rfl)) ?_
      refine zA rfl (zA0 (v := .string _) rfl) ?_
      refine zA rfl (zFn (hs.mapAt 1 rfl) zFi uz69 uz9 ze90 rfl rfl (o := some (.pointer (some ⟨b, 0, none⟩))) (by rw [nmV_get, hn, Option.map_some, hp])) ?_
      refine zA rfl (zDt uz90 rfl rfl) ?_
      refine zA rfl (zA2 (v := .bool _) rfl) ?_
      refine zA4 ?_
      refine zBa rfl rfl ?_
      refine zA5 (zA1 ?_)
      refine zA rfl (zA7 zD1 rfl rfl (hE.cellW hs 108 (by decide) rfl)) ?_
      refine zA rfl (zA2 (v := zAq ad _) rfl) ?_
      refine zA4 ?_
      refine zAf ?_
      refine zBj (v := zAq ad _) rfl rfl ?_
      have hb1 : d.begin.1 = 0 := by simpa using h9
      have e : d.create n = (108, d.begin.2) := by simp [Dk.create, hb1, h13, hn]
      rw [e] at hk
      cases hk
      exact ⟨_, rfl, rfl, Mem.closeD ho1 hs⟩

/-! ### Used -/
theorem sum_del (f : Nat → Nat) : ∀ {l : List (ByteArray × Nat)} {k : ByteArray} {i : Nat}, zB0 l k = some i → ((zDq l k).map fun x => f x.2).sum + f i = (l.map fun x => f x.2).sum
  | (a, b) :: l, k, i, h => by
    simp only [zB0] at h
    simp only [zDq]
    split at h
    · rename_i e
      rw [if_pos e]
      cases h
      simp [Nat.add_comm]
    · rename_i e
      rw [if_neg e]
      have := sum_del f h
      simp only [List.map_cons, List.sum_cons]
      omega
theorem usedP_sl (hs : Mem g w (zC4 p d mn mk sa sc ptr ++ L)) (ho : d.ok) (hc : d.calls < 1000000) : Calls Tryz.prog 47 #[.pointer (some ⟨p, 0, none⟩)] w (Ret fun v w' => v = .int .i64 d.used ∧ Mem g w' (zC4 p d mn mk sa sc ptr ++ L)) := by
  have hu := Dk.used_le ho
  refine zAl Tryz.func47 rfl rfl ?_
  skip
  refine zA5 (zA1 ?_)
  refine zA rfl (zA2 (v := .int .i64 _) rfl) ?_
  refine zA4 (zA5 (zA1 ?_))
  refine zA rfl (zA2 (v := .int .i64 _) rfl) ?_
  refine zA4 ?_
  refine zA5 ?_
  refine zA5 (zA1 ?_)
  refine zA rfl (zA0 (v := .pointer (some _)) rfl) ?_
  refine zA rfl (zA8 rfl) ?_
  refine zA rfl (zA3 (o' := 1) zEn rfl sz69 rfl rfl rfl) ?_
  refine zA rfl (zA7 uz69 rfl rfl (hs.cellAt 0 rfl rfl)) ?_
  refine lw_rangeM hs rfl 1 rfl uz69 rfl ?_
  clear hs
  intro r10 w hs
  try simp only [List.set_cons_succ, List.set_cons_zero] at hs
  refine zA4 ?_
  refine zAt ?_
  refine zBs (X := Nat × List (ByteArray × Nat) × Option (ByteArray × Value)) [3, 5, 11, 12, 13, 14, 15, 16, 17, 18, 19, 20, 21] (fun x => [(3, .int .i64 (x.1 : Nat))]) (fun x w => x.1 + (x.2.1.map fun y => d.len y.2).sum = d.used ∧ (∀ y ∈ x.2.1, y ∈ d.names) ∧ Mem g w (cells p (diskL mn mk d sa sc) 72 :: rngC Value.string r10 mn (nmV ptr d.names) (nmV ptr x.2.1) x.2.2 :: mapS mk (nmV ptr d.kept) :: zEk 3 (.slice sa d.changes.length sc) (d.changes.map (chgV ptr)) :: famC fiC ptr d.fs :: L)) (fun x => x.2.1.length) ((0, d.names, none)) ?_ ?_ ?_
  · exact ⟨rfl, trivial⟩
  · exact ⟨by simp [Dk.used], fun _ h => h, hs⟩
  clear hs
  rintro x ξ w hI
  obtain ⟨n, lo, cur⟩ := x
  obtain ⟨hsum, hin, hs⟩ := hI
  simp only at hsum hin hs
  show cw _ _ _ _ _ _ (updL (mix _ ξ _) [(3, .int .i64 (n : Nat))]) w
  refine zA5 (zA1 ?_)
  refine lw_nextM hs rfl 1 rfl zFi.inj rfl ?_ ?_
  ·
   intro hl11
   refine zA rfl (zAa (v := .bool _) rfl rfl) ?_
   refine zA4 ?_
   refine zA5 ?_
   refine zAv rfl rfl ?_
   refine zBk rfl ?_
   refine zA5 (zA1 ?_)
   refine zA rfl (zA0 (v := .int .i64 _) rfl) ?_
   refine zA rfl (zA2 (v := .int .i64 _) rfl) ?_
   refine zA4 ?_
   refine zAf ?_
   refine zBj (v := .int .i64 _) rfl rfl ?_
   have e : lo = [] := by cases lo with | nil => rfl | cons x l => simp [nmV] at hl11
   subst e
   simp only [List.map_nil, List.sum_nil, Nat.add_zero] at hsum
   subst hsum
   exact ⟨_, rfl, rfl, hs.rngd 1 rfl⟩
  ·
   clear hs
   intro k11 v11 w hk11 hs
   try simp only [List.set_cons_succ, List.set_cons_zero] at hs
   have hk2 := hk11
   rw [nmV_get] at hk2
   obtain ⟨i, hi, rfl⟩ := Option.map_eq_some_iff.1 hk2
   have hik : i ∈ zAh d.fs := ho.nin _ (hin _ (zDd hi))
   obtain ⟨b, hb, hp, hf⟩ := ho.ptrOf hs 4 rfl hik
   rw [hp] at hs ⊢
   have hle := sum_del d.len hi
   have hlen := ho.tookB.len_eq hik
   have h3 := (ho.fid _ _ hf).2.2
   obtain ⟨fa, fc, _, hcell, _⟩ := hs.flCells 4 rfl hb hf
   refine zA rfl (zAa (v := .bool _) rfl rfl) ?_
   refine zA4 ?_
   refine zA5 ?_
   refine zBa rfl rfl ?_
   refine zAd ?_
   refine zAt ?_
   refine zA5 (zA1 ?_)
   refine zA rfl (run_entryM hs 1 rfl rfl) ?_
   refine zA rfl (zAa (v := .pointer (some _)) rfl rfl) ?_
   refine zA rfl (zA2 (v := .pointer (some _)) rfl) ?_
   refine zA4 ?_
   refine zA1 ?_
   refine zA rfl (zA0 (v := .int .i64 _) rfl) ?_
   refine zA rfl (zA0 (v := .pointer (some _)) rfl) ?_
   refine zA rfl (zA8 rfl) ?_
   refine zA rfl (zA3 (o' := 1) uz94 rfl sz23 rfl rfl rfl) ?_
   refine zA rfl (zA7 zBz rfl rfl hcell) ?_
   refine zA rfl (zAw zBz rfl) ?_
   refine zA rfl (zAn rfl rfl (c := ((n + d.len i : Nat) : Int)) (by rw [hlen]; simp) (inI (by omega) (by omega))) ?_
   refine zA rfl (zA2 (v := .int .i64 _) rfl) ?_
   refine zA4 ?_
   refine ⟨(n + d.len i, zDq lo k11, some (k11, .pointer (some ⟨b, 0, none⟩))), ?_, ⟨by show n + d.len i + ((zDq lo k11).map fun y => d.len y.2).sum = d.used; omega, fun y hy => hin y (adel_in hy), ?_⟩, ⟨rfl, trivial⟩, by repeat (first | exact Out.mix _ _ _ | refine Out.updo rfl ?_ | refine Out.upd rfl ?_ | refine Out.mixIn rfl ?_)⟩
   · exact zFy hi
   · rw [← nmV_del] at hs; exact hs
end Go.Proofs.YtdkgdjnbpjjfmaaGreatDoor
namespace Go.Proofs.YtdkgdjnbpjjfmaaGreatDoor
set_option linter.all false
open Go.RowKit
attribute [local irreducible] zAq
variable {g w : World} {L M : List HP} {ad : Nat → Addr} {p mn mk sc : Nat} {sa : Option Addr} {d : Dk} {ptr : List (Nat × Nat)}

theorem Mem.closeF2 {b : Nat} {f : Fl} {i s : Int} {a : Option Addr} {n c : Nat} {l : List Value} (hi : i = f.id) (hn : n = f.b.length) (hs' : s = f.syn) (hl : l = zAm f.b) (hs : Mem g w (cells b [.int .i64 i, .slice a n c, .int .i64 s] 94 :: own (.slice a n c) l :: L)) : Mem g w (fiC b f :: L) := by
  subst hi hn hs' hl
  exact hs.closeF
/-- One file is opened. -/
theorem Mem.openFile {i b : Nat} {f : Fl} (hs : Mem g w (zC4 p d mn mk sa sc ptr ++ L)) (hb : zB0 ptr i = some b) (hf : zB0 d.fs i = some f) : ∃ a c, f.b.length ≤ c ∧ Mem g w (cells b [.int .i64 f.id, .slice a f.b.length c, .int .i64 f.syn] 94 :: own (.slice a f.b.length c) (zAm f.b) :: cells p (diskL mn mk d sa sc) 72 :: mapS mn (nmV ptr d.names) :: mapS mk (nmV ptr d.kept) :: zEk 3 (.slice sa d.changes.length sc) (d.changes.map (chgV ptr)) :: famX fiC (· = i) ptr d.fs :: L) := by
  have h1 := hs.famTake (R := fiC) 4 rfl hb hf
  obtain ⟨a, c, h2⟩ := h1.openF
  exact ⟨a, c, (h2.ownForm 1 rfl).2.1, h2⟩
theorem Mem.shutFile {i b : Nat} {f : Fl} {A B C D : HP} {fs : List (Nat × Fl)} (hb : zB0 ptr i = some b) (hs : Mem g w (fiC b f :: A :: B :: C :: D :: famX fiC (· = i) ptr fs :: L)) : Mem g w (A :: B :: C :: D :: famC fiC ptr (zCc fs i f) :: L) := by
  have h1 := Mem.famPut (R := fiC) (k := i) hs 4 rfl (fun _ h => h)
  rw [zDa hb] at h1
  exact h1

def Dk.lenR (n : ByteArray) (d : Dk) : Nat × Nat := match d.file n with
  | (_, some i) => (0, (d.fl i).b.length)
  | (c, none) => (c, 0)
def Dk.synR (n : ByteArray) (d : Dk) : Nat × Nat := match d.file n with
  | (_, some i) => (0, (d.fl i).syn)
  | (c, none) => (c, 0)
theorem len_sl (hE : ErrK ad g) (hs : Mem g w (zBn p d :: L)) (n : ByteArray) {k m : Nat} (hk : d.lenR n = (k, m)) : Calls Tryz.prog 15 #[.pointer (some ⟨p, 0, none⟩), .string n] w (Ret fun v w' => v = .tuple #[.int .i64 m, zAq ad k] ∧ Mem g w' (zBn p d :: L)) := by
  obtain ⟨ho, mn, mk, sa, sc, ptr, hs⟩ := hs.openD
  refine zAl Tryz.func15 rfl rfl ?_
  skip
  refine zA5 (zA1 ?_)
  refine zA rfl (zA2 (v := .int .i64 _) rfl) ?_
  refine zA rfl (zA2 (v := .nilIface) rfl) ?_
  refine zA4 (zA5 (zA1 ?_))
  refine zA rfl (zA0 (v := .pointer (some _)) rfl) ?_
  refine zA rfl (zA0 (v := .string _) rfl) ?_
  refine zA9 rfl en44 (file_sl hE ho n hs) ?_
  clear hs
  rintro _ w ((⟨c, hc, h0, hr, rfl, hs⟩) | (⟨i, b, hr, hki, hb, hf, rfl, hs⟩))
  ·
   refine zA rfl (zA0 (v := .tuple _) rfl) ?_
   refine zA rfl (zAa (v := .pointer none) rfl rfl) ?_
   refine zA rfl (zAa (v := zAq ad _) rfl rfl) ?_
   refine zA rfl (zA2 (v := .pointer none) rfl) ?_
   refine zA rfl (zA2 (v := zAq ad _) rfl) ?_
   refine zA4 ?_
   refine zA5 ?_
   refine zA5 (zA1 ?_)
   refine zA rfl (zA0 (v := zAq ad _) rfl) ?_
   refine zA rfl (zAy (ad := ad) rfl) ?_
   refine zA4 ?_
   refine zBa rfl (by simp [h0]) ?_
   refine zA5 (zA1 ?_)
   refine zA rfl (zA0 (v := zAq ad _) rfl) ?_
   refine zA rfl (zA2 (v := .int .i64 _) rfl) ?_
   refine zA rfl (zA2 (v := zAq ad _) rfl) ?_
   refine zA4 ?_
   refine zAf ?_
   refine res2 (v := .int .i64 _) (v2 := zAq ad _) rfl rfl rfl ?_
   simp only [Dk.lenR, hr] at hk
   cases hk
   exact ⟨_, rfl, rfl, Mem.closeD ho hs⟩
  ·
   refine zA rfl (zA0 (v := .tuple _) rfl) ?_
   refine zA rfl (zAa (v := .pointer (some _)) rfl rfl) ?_
   refine zA rfl (zAa (v := .nilIface) rfl rfl) ?_
   refine zA rfl (zA2 (v := .pointer (some _)) rfl) ?_
   refine zA rfl (zA2 (v := .nilIface) rfl) ?_
   refine zA4 ?_
   refine zA5 ?_
   refine zA5 (zA1 ?_)
   refine zA rfl (zA0 (v := .nilIface) rfl) ?_
   refine zA rfl (zBi rfl) ?_
   refine zA4 ?_
   refine zAv rfl (rfl) ?_
   refine zAd ?_
   refine zA5 ?_
   obtain ⟨fa, fc, _, hcell, _⟩ := hs.flCells 4 rfl hb hf
   refine zA1 ?_
   refine zA rfl (zA0 (v := .pointer (some _)) rfl) ?_
   refine zA rfl (zA8 rfl) ?_
   refine zA rfl (zA3 (o' := 1) uz94 rfl sz23 rfl rfl rfl) ?_
   refine zA rfl (zA7 zBz rfl rfl hcell) ?_
   refine zA rfl (zAw zBz rfl) ?_
   refine zA rfl (zA2 (v := .int .i64 _) rfl) ?_
   refine zA rfl (zA2 (v := .nilIface) rfl) ?_
   refine zA4 ?_
   refine zAf ?_
   refine res2 (v := .int .i64 _) (v2 := .nilIface) rfl rfl rfl ?_
   simp only [Dk.lenR, hr] at hk
   cases hk
   exact ⟨_, rfl, by rw [zB2], Mem.closeD ho hs⟩
theorem down_sl (hs : Mem g w (zBn p d :: L)) : Calls Tryz.prog 31 #[.pointer (some ⟨p, 0, none⟩)] w (Ret fun v w' => v = .bool d.down ∧ Mem g w' (zBn p d :: L)) := by
  obtain ⟨ho, mn, mk, sa, sc, ptr, hs⟩ := hs.openD
  refine zAl Tryz.func31 rfl rfl ?_
  skip
  refine zA5 (zA1 ?_)
  refine zA rfl (zA2 (v := .bool _) rfl) ?_
  refine zA4 (zA5 (zA1 ?_))
  refine zA rfl (zA0 (v := .pointer (some _)) rfl) ?_
  refine zA rfl (zA8 rfl) ?_
  refine zA rfl (zA3 (o' := 6) zEn rfl sz4 rfl rfl rfl) ?_
  refine zA rfl (zA7 uz4 rfl rfl (hs.cellAt 0 rfl rfl)) ?_
  refine zA rfl (zA2 (v := .bool _) rfl) ?_
  refine zA4 ?_
  refine zAf ?_
  refine zBj (v := .bool _) rfl rfl ?_
  exact ⟨_, rfl, rfl, Mem.closeD ho hs⟩
theorem arm_sl (hs : Mem g w (zBn p d :: L)) (n : Nat) (hn : n ≤ 9223372036854775807) : Calls Tryz.prog 30 #[.pointer (some ⟨p, 0, none⟩), .int .i64 n] w (Ret fun v w' => v = .tuple #[] ∧ Mem g w' (zBn p { d with armed := n } :: L)) := by
  obtain ⟨ho, mn, mk, sa, sc, ptr, hs⟩ := hs.openD
  have ho2 : ({ d with armed := n } : Dk).ok := ⟨ho.tookB.same rfl rfl rfl rfl rfl rfl, ho.fcl, ho.nl, ho.kl, hn⟩
  refine zAl Tryz.func30 rfl rfl ?_
  skip
  refine zA1 ?_
  refine zA rfl (zA0 (v := .pointer (some _)) rfl) ?_
  refine zA rfl (zA0 (v := .int .i64 _) rfl) ?_
  refine zA rfl (run_max rfl rfl) ?_
  rw [show max (n : Int) 0 = (n : Int) by omega]
  refine zA rfl (zA8 rfl) ?_
  refine zA rfl (zA3 (o' := 5) zEn rfl sz3 rfl rfl rfl) ?_
  refine zAs (v := .int .i64 _) hs 0 rfl sz3 rfl rfl rfl rfl ?_
  clear hs
  intro w hs
  try simp only [List.set_cons_succ, List.set_cons_zero] at hs
  refine zA4 ?_
  refine res0  rfl ?_
  exact ⟨_, rfl, rfl, Mem.closeD ho2 hs⟩
theorem read_sl (hE : ErrK ad g) (hs : Mem g w (zBn p d :: L)) (n : ByteArray) {off m : Int} (h1 : zE6 off) (h2 : zE6 m) {k : Nat} {l : List UInt8} (hk : d.readR n off m = (k, l)) : Calls Tryz.prog 76 #[.pointer (some ⟨p, 0, none⟩), .string n, .int .i64 off, .int .i64 m] w (Ret fun v w' => ∃ a c, v = .tuple #[.slice a l.length c, zAq ad k] ∧ Mem g w' (own (.slice a l.length c) (zAm l) :: zBn p d :: L)) := by
  obtain ⟨ho, mn, mk, sa, sc, ptr, hs⟩ := hs.openD
  have h1a := h1.1
  have h1b := h1.2
  have h2a := h2.1
  have h2b := h2.2
  refine zAl Tryz.func76 rfl rfl ?_
  skip
  refine zA5 (zA1 ?_)
  refine zA rfl (zA2 (v := .slice _ _ _) rfl) ?_
  refine zA rfl (zA2 (v := .nilIface) rfl) ?_
  refine zA4 (zA5 (zA1 ?_))
  refine zA rfl (zA0 (v := .pointer (some _)) rfl) ?_
  refine zA rfl (zA0 (v := .string _) rfl) ?_
  refine zA9 rfl en44 (file_sl hE ho n hs) ?_
  clear hs
  rintro _ w ((⟨c, hc, h0, hr, rfl, hs⟩) | (⟨i, b, hr, hki, hb, hf, rfl, hs⟩))
  ·
   refine zA rfl (zA0 (v := .tuple _) rfl) ?_
   refine zA rfl (zAa (v := .pointer none) rfl rfl) ?_
   refine zA rfl (zAa (v := zAq ad _) rfl rfl) ?_
   refine zA rfl (zA2 (v := .pointer none) rfl) ?_
   refine zA rfl (zA2 (v := zAq ad _) rfl) ?_
   refine zA4 ?_
   refine zA5 ?_
   refine zA5 (zA1 ?_)
   refine zA rfl (zA0 (v := zAq ad _) rfl) ?_
   refine zA rfl (zAy (ad := ad) rfl) ?_
   refine zA4 ?_
   refine zBa rfl (by simp [h0]) ?_
   refine zA5 (zA1 ?_)
   refine zA rfl (zA0 (v := zAq ad _) rfl) ?_
   refine zA rfl (zA2 (v := .slice _ _ _) rfl) ?_
   refine zA rfl (zA2 (v := zAq ad _) rfl) ?_
   refine zA4 ?_
   refine zAf ?_
   refine res2 (v := .slice _ _ _) (v2 := zAq ad _) rfl rfl rfl ?_
   simp only [Dk.readR, hr] at hk
   cases hk
   exact ⟨_, rfl, none, 0, rfl, (Mem.closeD ho hs).addE (zE3 _)⟩
  ·
   refine zA rfl (zA0 (v := .tuple _) rfl) ?_
   refine zA rfl (zAa (v := .pointer (some _)) rfl rfl) ?_
   refine zA rfl (zAa (v := .nilIface) rfl rfl) ?_
   refine zA rfl (zA2 (v := .pointer (some _)) rfl) ?_
   refine zA rfl (zA2 (v := .nilIface) rfl) ?_
   refine zA4 ?_
   refine zA5 ?_
   refine zA5 (zA1 ?_)
   refine zA rfl (zA0 (v := .nilIface) rfl) ?_
   refine zA rfl (zBi rfl) ?_
   refine zA4 ?_
   refine zAv rfl (rfl) ?_
   refine zAd ?_
   refine zA5 ?_
   refine zA5 ?_
   obtain ⟨fa, fc, hfc, hs⟩ := hs.openFile hb hf
   have hlen := (ho.fid _ _ hf).2.2
   refine zA1 ?_
   refine zA rfl (zA0 (v := .int .i64 _) rfl) ?_
   refine zA rfl (zB4 rfl rfl) ?_
   refine zA rfl (zA0 (v := .bool _) rfl) ?_
   refine zB8 (t := _) (d := 23) rfl ?_ ?_
   ·
    intro h22
    have g22 := of_decide_eq_true h22
    refine zAc rfl rfl rfl h22 ?_
    refine zAc rfl rfl rfl h22 ?_
    refine zA rfl (zAj (v := .bool _) rfl h22 rfl) ?_
    refine zA rfl (zA0 (v := .bool _) rfl) ?_
    refine zAc rfl rfl rfl rfl ?_
    refine zAc rfl rfl rfl rfl ?_
    refine zAc rfl rfl rfl rfl ?_
    refine zAc rfl rfl rfl rfl ?_
    refine zAc rfl rfl rfl rfl ?_
    refine zAc rfl rfl rfl rfl ?_
    refine zAc rfl rfl rfl rfl ?_
    refine zA rfl (zAj (v := .bool _) rfl rfl rfl) ?_
    refine zA rfl (zA0 (v := .bool _) rfl) ?_
    refine zAc rfl rfl rfl rfl ?_
    refine zAc rfl rfl rfl rfl ?_
    refine zAc rfl rfl rfl rfl ?_
    refine zAc rfl rfl rfl rfl ?_
    refine zAc rfl rfl rfl rfl ?_
    refine zAc rfl rfl rfl rfl ?_
    refine zAc rfl rfl rfl rfl ?_
    refine zAc rfl rfl rfl rfl ?_
    refine zAc rfl rfl rfl rfl ?_
    refine zA rfl (zAj (v := .bool _) rfl rfl rfl) ?_
    refine zA4 ?_
    refine zBa rfl rfl ?_
    refine zA5 ?_
    have hs2 := Mem.shutFile hb (Mem.closeF2 rfl rfl rfl rfl hs)
    rw [zDa hf] at hs2
    clear hs
    have hs := hs2
    clear hs2
    refine zAz zBx hs ?_
    intro w tr hK
    replace hs := tr _ hs
    clear tr
    refine zA6 0 rfl rfl (fun w hs => zA7 zD1 rfl rfl (hE.cellW hs 105 (by decide) rfl)) hK ?_
    refine zA6 1 rfl rfl (fun w hs => zA2 (v := .slice _ _ _) rfl) hK ?_
    refine zA6 2 rfl rfl (fun w hs => zA2 (v := zAq ad _) rfl) hK ?_
    refine zAu (by kernel_rfl) ?_
    clear hK
    refine zAf ?_
    refine res2 (v := .slice _ _ _) (v2 := zAq ad _) rfl rfl rfl ?_
    have e : d.readR n off m = (105, []) := by simp only [Dk.readR, hr]; rw [if_pos (by omega)]
    rw [e] at hk
    cases hk
    exact ⟨_, rfl, none, 0, rfl, (Mem.closeD ho hs).addE (zE3 _)⟩
   ·
    intro h22
    have g22 := of_decide_eq_false h22
    refine zAi rfl rfl h22 ?_
    refine zA rfl (zA0 (v := .int .i64 _) rfl) ?_
    refine zAi rfl rfl h22 ?_
    refine zA rfl (zB4 rfl rfl) ?_
    refine zA rfl (zAk (v := .bool _) rfl h22 rfl) ?_
    refine zA rfl (zA0 (v := .bool _) rfl) ?_
    refine zB8 (t := _) (d := 27) rfl ?_ ?_
    ·
     intro h25
     have g25 := of_decide_eq_true h25
     refine zAc rfl rfl rfl h25 ?_
     refine zAc rfl rfl rfl h25 ?_
     refine zAc rfl rfl rfl h25 ?_
     refine zAc rfl rfl rfl h25 ?_
     refine zAc rfl rfl rfl h25 ?_
     refine zAc rfl rfl rfl h25 ?_
     refine zAc rfl rfl rfl h25 ?_
     refine zA rfl (zAj (v := .bool _) rfl h25 rfl) ?_
     refine zA rfl (zA0 (v := .bool _) rfl) ?_
     refine zAc rfl rfl rfl rfl ?_
     refine zAc rfl rfl rfl rfl ?_
     refine zAc rfl rfl rfl rfl ?_
     refine zAc rfl rfl rfl rfl ?_
     refine zAc rfl rfl rfl rfl ?_
     refine zAc rfl rfl rfl rfl ?_
     refine zAc rfl rfl rfl rfl ?_
     refine zAc rfl rfl rfl rfl ?_
     refine zAc rfl rfl rfl rfl ?_
     refine zA rfl (zAj (v := .bool _) rfl rfl rfl) ?_
     refine zA4 ?_
     refine zBa rfl rfl ?_
     refine zA5 ?_
     have hs2 := Mem.shutFile hb (Mem.closeF2 rfl rfl rfl rfl hs)
     rw [zDa hf] at hs2
     clear hs
     have hs := hs2
     clear hs2
     refine zAz zBx hs ?_
     intro w tr hK
     replace hs := tr _ hs
     clear tr
     refine zA6 0 rfl rfl (fun w hs => zA7 zD1 rfl rfl (hE.cellW hs 105 (by decide) rfl)) hK ?_
     refine zA6 1 rfl rfl (fun w hs => zA2 (v := .slice _ _ _) rfl) hK ?_
     refine zA6 2 rfl rfl (fun w hs => zA2 (v := zAq ad _) rfl) hK ?_
     refine zAu (by kernel_rfl) ?_
     clear hK
     refine zAf ?_
     refine res2 (v := .slice _ _ _) (v2 := zAq ad _) rfl rfl rfl ?_
     have e : d.readR n off m = (105, []) := by simp only [Dk.readR, hr]; rw [if_pos (by omega)]
     rw [e] at hk
     cases hk
     exact ⟨_, rfl, none, 0, rfl, (Mem.closeD ho hs).addE (zE3 _)⟩
    ·
     intro h25
     have g25 := of_decide_eq_false h25
     refine zAi rfl rfl h25 ?_
     refine zA rfl (zA0 (v := .int .i64 _) rfl) ?_
     refine zAi rfl rfl h25 ?_
     refine zA rfl (zA0 (v := .pointer (some _)) rfl) ?_
     refine zAi rfl rfl h25 ?_
     refine zA rfl (zA8 rfl) ?_
     refine zAi rfl rfl h25 ?_
     refine zA rfl (zA3 (o' := 1) uz94 rfl sz23 rfl rfl rfl) ?_
     refine zAi rfl rfl h25 ?_
     refine zA rfl (zA7 zBz rfl rfl (hs.cellAt 0 rfl rfl)) ?_
     refine zAi rfl rfl h25 ?_
     refine zA rfl (zAw zBz rfl) ?_
     refine zAi rfl rfl h25 ?_
     refine zA rfl (zBq rfl rfl) ?_
     refine zA rfl (zAk (v := .bool _) rfl h25 rfl) ?_
     refine zA rfl (zA0 (v := .bool _) rfl) ?_
     refine zB8 (t := _) (d := 36) rfl ?_ ?_
     ·
      intro h34
      have g34 := of_decide_eq_true h34
      refine zAc rfl rfl rfl h34 ?_
      refine zAc rfl rfl rfl h34 ?_
      refine zAc rfl rfl rfl h34 ?_
      refine zAc rfl rfl rfl h34 ?_
      refine zAc rfl rfl rfl h34 ?_
      refine zAc rfl rfl rfl h34 ?_
      refine zAc rfl rfl rfl h34 ?_
      refine zAc rfl rfl rfl h34 ?_
      refine zAc rfl rfl rfl h34 ?_
      refine zA rfl (zAj (v := .bool _) rfl h34 rfl) ?_
      refine zA4 ?_
      refine zBa rfl rfl ?_
      refine zA5 ?_
      have hs2 := Mem.shutFile hb (Mem.closeF2 rfl rfl rfl rfl hs)
      rw [zDa hf] at hs2
      clear hs
      have hs := hs2
      clear hs2
      refine zAz zBx hs ?_
      intro w tr hK
      replace hs := tr _ hs
      clear tr
      refine zA6 0 rfl rfl (fun w hs => zA7 zD1 rfl rfl (hE.cellW hs 105 (by decide) rfl)) hK ?_
      refine zA6 1 rfl rfl (fun w hs => zA2 (v := .slice _ _ _) rfl) hK ?_
      refine zA6 2 rfl rfl (fun w hs => zA2 (v := zAq ad _) rfl) hK ?_
      refine zAu (by kernel_rfl) ?_
      clear hK
      refine zAf ?_
      refine res2 (v := .slice _ _ _) (v2 := zAq ad _) rfl rfl rfl ?_
      have e : d.readR n off m = (105, []) := by simp only [Dk.readR, hr]; rw [if_pos (by omega)]
      rw [e] at hk
      cases hk
      exact ⟨_, rfl, none, 0, rfl, (Mem.closeD ho hs).addE (zE3 _)⟩
     ·
      intro h34
      have g34 := of_decide_eq_false h34
      refine zAi rfl rfl h34 ?_
      refine zA rfl (zA0 (v := .int .i64 _) rfl) ?_
      refine zAi rfl rfl h34 ?_
      refine zA rfl (zA0 (v := .pointer (some _)) rfl) ?_
      refine zAi rfl rfl h34 ?_
      refine zA rfl (zA8 rfl) ?_
      refine zAi rfl rfl h34 ?_
      refine zA rfl (zA3 (o' := 1) uz94 rfl sz23 rfl rfl rfl) ?_
      refine zAi rfl rfl h34 ?_
      refine zA rfl (zA7 zBz rfl rfl (hs.cellAt 0 rfl rfl)) ?_
      refine zAi rfl rfl h34 ?_
      refine zA rfl (zAw zBz rfl) ?_
      refine zAi rfl rfl h34 ?_
      refine zA rfl (zA0 (v := .int .i64 _) rfl) ?_
      refine zAi rfl rfl h34 ?_
      refine zA rfl (zCj rfl rfl rfl (inI (by omega) (by omega))) ?_
      refine zAi rfl rfl h34 ?_
      refine zA rfl (zBq rfl rfl) ?_
      refine zA rfl (zAk (v := .bool _) rfl h34 rfl) ?_
      refine zA4 ?_
      refine zB7 rfl ?_ ?_
      ·
       intro h45
       have g45 := of_decide_eq_true h45
       refine zA5 ?_
       have hs2 := Mem.shutFile hb (Mem.closeF2 rfl rfl rfl rfl hs)
       rw [zDa hf] at hs2
       clear hs
       have hs := hs2
       clear hs2
       refine zAz zBx hs ?_
       intro w tr hK
       replace hs := tr _ hs
       clear tr
       refine zA6 0 rfl rfl (fun w hs => zA7 zD1 rfl rfl (hE.cellW hs 105 (by decide) rfl)) hK ?_
       refine zA6 1 rfl rfl (fun w hs => zA2 (v := .slice _ _ _) rfl) hK ?_
       refine zA6 2 rfl rfl (fun w hs => zA2 (v := zAq ad _) rfl) hK ?_
       refine zAu (by kernel_rfl) ?_
       clear hK
       refine zAf ?_
       refine res2 (v := .slice _ _ _) (v2 := zAq ad _) rfl rfl rfl ?_
       have e : d.readR n off m = (105, []) := by simp only [Dk.readR, hr]; rw [if_pos (by omega)]
       rw [e] at hk
       cases hk
       exact ⟨_, rfl, none, 0, rfl, (Mem.closeD ho hs).addE (zE3 _)⟩
      ·
       intro h45
       have g45 := of_decide_eq_false h45
       refine zAd ?_
       refine zA5 (zA1 ?_)
       refine zA rfl (zA0 (v := .pointer (some _)) rfl) ?_
       refine zA rfl (zA8 rfl) ?_
       refine zA rfl (zA3 (o' := 1) uz94 rfl sz23 rfl rfl rfl) ?_
       refine zA rfl (zA7 zBz rfl rfl (hs.cellAt 0 rfl rfl)) ?_
       refine zA rfl (zA0 (v := .int .i64 _) rfl) ?_
       refine zA rfl (zA0 (v := .int .i64 _) rfl) ?_
       refine zA rfl (zA0 (v := .int .i64 _) rfl) ?_
       refine zA rfl (zAn rfl rfl rfl (inI (by omega) (by omega))) ?_
       refine zA rfl (run_slice zBz sz5 rfl rfl rfl (lo := off.toNat) (hi := off.toNat + m.toNat) (by omega) (by omega) (by omega) (by omega)) ?_
       refine zA9 rfl en46 (zE9 hs (l := ((d.fl i).b.take (off.toNat + m.toNat)).drop off.toNat) ((hs.rdOwn 1 rfl).subB (by omega) (by omega)) (by simp; omega)) ?_
       clear hs
       rintro _ w ⟨a57, c57, rfl, hs⟩
       refine zA rfl (zA2 (v := .slice _ _ _) rfl) ?_
       refine zA rfl (zA2 (v := .nilIface) rfl) ?_
       refine zA4 ?_
       refine zAf ?_
       refine res2 (v := .slice _ _ _) (v2 := .nilIface) rfl rfl rfl ?_
       have e : d.readR n off m = (0, ((d.fl i).b.take (off.toNat + m.toNat)).drop off.toNat) := by simp only [Dk.readR, hr]; rw [if_neg (by omega)]
       rw [e] at hk
       cases hk
       rw [zAr] at hs ⊢
       refine ⟨_, rfl, a57, c57, by rw [zB2], ?_⟩
       have hs2 := Mem.shutFile hb (Mem.closeF2 (L := _ :: _ :: _ :: _ :: _ :: own (.slice a57 _ c57) _ :: L) rfl rfl rfl rfl (hs.arr [1, 2, 3, 4, 5, 6, 7, 0] 8 (by decide)))
       rw [zDa hf] at hs2
       exact (Mem.closeD (L := own (.slice a57 _ c57) _ :: L) ho hs2).arr [1, 0] 2 (by decide)

/-! ### what changes -/
theorem sync_sl (hE : ErrK ad g) (hs : Mem g w (zBn p d :: L)) (hcl : d.calls < 1000000) (n : ByteArray) {k : Nat} {d2 : Dk} (hk : d.sync n = (k, d2)) : Calls Tryz.prog 39 #[.pointer (some ⟨p, 0, none⟩), .string n] w (Ret fun v w' => v = zAq ad k ∧ Mem g w' (zBn p d2 :: L)) := by
  obtain ⟨ho, mn, mk, sa, sc, ptr, hs⟩ := hs.openD
  obtain ⟨c0, o, d1, hfd⟩ : ∃ c0 o d1, d.find n = (c0, o, d1) := ⟨_, _, _, rfl⟩
  have hb := d.begin_same
  rw [← Dk.find_dk hfd] at hb
  have ho1 := ho.find hfd
  refine zAl Tryz.func39 rfl rfl ?_
  skip
  refine zA5 (zA1 ?_)
  refine zA rfl (zA2 (v := .nilIface) rfl) ?_
  refine zA4 (zA5 (zA1 ?_))
  refine zA rfl (zA0 (v := .pointer (some _)) rfl) ?_
  refine zA rfl (zA0 (v := .string _) rfl) ?_
  refine zA9 rfl en45 (find_sl hE ho n hs hfd) ?_
  clear hs
  rintro _ w ((⟨c, hc, h0, hr, rfl, hs⟩) | (⟨i, b, hr, hki, hb2, hf, rfl, hs⟩))
  ·
   refine zA rfl (zA0 (v := .tuple _) rfl) ?_
   refine zA rfl (zAa (v := .pointer none) rfl rfl) ?_
   refine zA rfl (zAa (v := zAq ad _) rfl rfl) ?_
   refine zA rfl (zA2 (v := .pointer none) rfl) ?_
   refine zA rfl (zA2 (v := zAq ad _) rfl) ?_
   refine zA4 ?_
   refine zA5 ?_
   refine zA5 (zA1 ?_)
   refine zA rfl (zA0 (v := zAq ad _) rfl) ?_
   refine zA rfl (zAy (ad := ad) rfl) ?_
   refine zA4 ?_
   refine zBa rfl (by simp [h0]) ?_
   refine zA5 (zA1 ?_)
   refine zA rfl (zA0 (v := zAq ad _) rfl) ?_
   refine zA rfl (zA2 (v := zAq ad _) rfl) ?_
   refine zA4 ?_
   refine zAf ?_
   refine zBj (v := zAq ad _) rfl rfl ?_
   cases hr
   simp only [Dk.sync, hfd] at hk
   cases hk
   exact ⟨_, rfl, rfl, Mem.closeD ho1 hs⟩
  ·
   refine zA rfl (zA0 (v := .tuple _) rfl) ?_
   refine zA rfl (zAa (v := .pointer (some _)) rfl rfl) ?_
   refine zA rfl (zAa (v := .nilIface) rfl rfl) ?_
   refine zA rfl (zA2 (v := .pointer (some _)) rfl) ?_
   refine zA rfl (zA2 (v := .nilIface) rfl) ?_
   refine zA4 ?_
   refine zA5 ?_
   refine zA5 (zA1 ?_)
   refine zA rfl (zA0 (v := .nilIface) rfl) ?_
   refine zA rfl (zBi rfl) ?_
   refine zA4 ?_
   refine zAv rfl (rfl) ?_
   refine zAd ?_
   refine zA5 ?_
   cases hr
   simp only [Dk.sync, hfd] at hk
   cases hk
   obtain ⟨fa, fc, hfc, hs⟩ := hs.openFile hb2 hf
   have hfl := ho1.fid _ _ hf
   refine zA1 ?_
   refine zA rfl (zA0 (v := .pointer (some _)) rfl) ?_
   refine zA rfl (zA0 (v := .pointer (some _)) rfl) ?_
   refine zA rfl (zA8 rfl) ?_
   refine zA rfl (zA3 (o' := 1) uz94 rfl sz23 rfl rfl rfl) ?_
   refine zA rfl (zA7 zBz rfl rfl (hs.cellAt 0 rfl rfl)) ?_
   refine zA rfl (zAw zBz rfl) ?_
   refine zA rfl (zA8 rfl) ?_
   refine zA rfl (zA3 (o' := 2) uz94 rfl sz3 rfl rfl rfl) ?_
   refine zAs (v := .int .i64 _) hs 0 rfl sz3 rfl rfl rfl rfl ?_
   clear hs
   intro w hs
   try simp only [List.set_cons_succ, List.set_cons_zero] at hs
   refine zA4 (zA5 (zA1 ?_))
   refine zA rfl (zA0 (v := .pointer (some _)) rfl) ?_
   refine zA rfl (zA8 rfl) ?_
   refine zA rfl (zA3 (o' := 7) zEn rfl sz3 rfl rfl rfl) ?_
   refine zA rfl (zA7 uz3 rfl rfl (hs.cellAt 2 rfl rfl)) ?_
   refine zA rfl (zAn rfl rfl rfl (inI (by omega) (by omega))) ?_
   refine zA rfl (zA8 rfl) ?_
   refine zA rfl (zA3 (o' := 7) zEn rfl sz3 rfl rfl rfl) ?_
   refine zAs (v := .int .i64 _) hs 2 rfl sz3 rfl rfl rfl rfl ?_
   clear hs
   intro w hs
   try simp only [List.set_cons_succ, List.set_cons_zero] at hs
   refine zA4 (zA5 (zA1 ?_))
   refine zA rfl (zA2 (v := .nilIface) rfl) ?_
   refine zA4 ?_
   refine zAf ?_
   refine zBj (v := .nilIface) rfl rfl ?_
   exact ⟨_, rfl, (zB2 ad).symm, Mem.closeD (ho1.setF hki ⟨hfl.1, Nat.le_refl _, hfl.2.2⟩) (Mem.shutFile (L := L) hb2 (Mem.closeF2 (f := { d1.fl i with syn := (d1.fl i).b.length }) rfl rfl rfl rfl hs))⟩
theorem cut_sl (hE : ErrK ad g) (hs : Mem g w (zBn p d :: L)) (hcl : d.calls < 1000000) (n : ByteArray) {m : Int} (hm : zE6 m) {k : Nat} {d2 : Dk} (hk : d.cut n m = (k, d2)) : Calls Tryz.prog 18 #[.pointer (some ⟨p, 0, none⟩), .string n, .int .i64 m] w (Ret fun v w' => v = zAq ad k ∧ Mem g w' (zBn p d2 :: L)) := by
  obtain ⟨ho, mn, mk, sa, sc, ptr, hs⟩ := hs.openD
  obtain ⟨c0, o, d1, hfd⟩ : ∃ c0 o d1, d.find n = (c0, o, d1) := ⟨_, _, _, rfl⟩
  have hb := d.begin_same
  rw [← Dk.find_dk hfd] at hb
  have ho1 := ho.find hfd
  refine zAl Tryz.func18 rfl rfl ?_
  skip
  refine zA5 (zA1 ?_)
  refine zA rfl (zA2 (v := .nilIface) rfl) ?_
  refine zA4 (zA5 (zA1 ?_))
  refine zA rfl (zA0 (v := .pointer (some _)) rfl) ?_
  refine zA rfl (zA0 (v := .string _) rfl) ?_
  refine zA9 rfl en45 (find_sl hE ho n hs hfd) ?_
  clear hs
  rintro _ w ((⟨c, hc, h0, hr, rfl, hs⟩) | (⟨i, b, hr, hki, hb2, hf, rfl, hs⟩))
  ·
   refine zA rfl (zA0 (v := .tuple _) rfl) ?_
   refine zA rfl (zAa (v := .pointer none) rfl rfl) ?_
   refine zA rfl (zAa (v := zAq ad _) rfl rfl) ?_
   refine zA rfl (zA2 (v := .pointer none) rfl) ?_
   refine zA rfl (zA2 (v := zAq ad _) rfl) ?_
   refine zA4 ?_
   refine zA5 ?_
   refine zA5 (zA1 ?_)
   refine zA rfl (zA0 (v := zAq ad _) rfl) ?_
   refine zA rfl (zAy (ad := ad) rfl) ?_
   refine zA4 ?_
   refine zBa rfl (by simp [h0]) ?_
   refine zA5 (zA1 ?_)
   refine zA rfl (zA0 (v := zAq ad _) rfl) ?_
   refine zA rfl (zA2 (v := zAq ad _) rfl) ?_
   refine zA4 ?_
   refine zAf ?_
   refine zBj (v := zAq ad _) rfl rfl ?_
   cases hr
   simp only [Dk.cut, hfd] at hk
   cases hk
   exact ⟨_, rfl, rfl, Mem.closeD ho1 hs⟩
  ·
   refine zA rfl (zA0 (v := .tuple _) rfl) ?_
   refine zA rfl (zAa (v := .pointer (some _)) rfl rfl) ?_
   refine zA rfl (zAa (v := .nilIface) rfl rfl) ?_
   refine zA rfl (zA2 (v := .pointer (some _)) rfl) ?_
   refine zA rfl (zA2 (v := .nilIface) rfl) ?_
   refine zA4 ?_
   refine zA5 ?_
   refine zA5 (zA1 ?_)
   refine zA rfl (zA0 (v := .nilIface) rfl) ?_
   refine zA rfl (zBi rfl) ?_
   refine zA4 ?_
   refine zAv rfl (rfl) ?_
   refine zAd ?_
   refine zA5 ?_
   refine zA5 ?_
   cases hr
   simp only [Dk.cut, hfd] at hk
   obtain ⟨fa, fc, hfc, hs⟩ := hs.openFile hb2 hf
   have hfl := ho1.fid _ _ hf
   refine zA1 ?_
   refine zA rfl (zA0 (v := .int .i64 _) rfl) ?_
   refine zA rfl (zB4 rfl rfl) ?_
   refine zA rfl (zA0 (v := .bool _) rfl) ?_
   refine zB8 (t := _) (d := 20) rfl ?_ ?_
   ·
    intro h19
    have g19 := of_decide_eq_true h19
    refine zAc rfl rfl rfl h19 ?_
    refine zAc rfl rfl rfl h19 ?_
    refine zAc rfl rfl rfl h19 ?_
    refine zAc rfl rfl rfl h19 ?_
    refine zAc rfl rfl rfl h19 ?_
    refine zAc rfl rfl rfl h19 ?_
    refine zAc rfl rfl rfl h19 ?_
    refine zA rfl (zAj (v := .bool _) rfl h19 rfl) ?_
    refine zA4 ?_
    refine zBa rfl rfl ?_
    refine zA5 ?_
    have hs2 := Mem.shutFile hb2 (Mem.closeF2 rfl rfl rfl rfl hs)
    rw [zDa hf] at hs2
    clear hs
    have hs := hs2
    clear hs2
    refine zA1 ?_
    refine zA rfl (zA7 zD1 rfl rfl (hE.cellW hs 105 (by decide) rfl)) ?_
    refine zA rfl (zA2 (v := zAq ad _) rfl) ?_
    refine zA4 ?_
    refine zAf ?_
    refine zBj (v := zAq ad _) rfl rfl ?_
    rw [if_pos (by omega)] at hk
    cases hk
    exact ⟨_, rfl, rfl, Mem.closeD ho1 hs⟩
   ·
    intro h19
    have g19 := of_decide_eq_false h19
    refine zAi rfl rfl h19 ?_
    refine zA rfl (zA0 (v := .int .i64 _) rfl) ?_
    refine zAi rfl rfl h19 ?_
    refine zA rfl (zA0 (v := .pointer (some _)) rfl) ?_
    refine zAi rfl rfl h19 ?_
    refine zA rfl (zA8 rfl) ?_
    refine zAi rfl rfl h19 ?_
    refine zA rfl (zA3 (o' := 1) uz94 rfl sz23 rfl rfl rfl) ?_
    refine zAi rfl rfl h19 ?_
    refine zA rfl (zA7 zBz rfl rfl (hs.cellAt 0 rfl rfl)) ?_
    refine zAi rfl rfl h19 ?_
    refine zA rfl (zAw zBz rfl) ?_
    refine zAi rfl rfl h19 ?_
    refine zA rfl (zBq rfl rfl) ?_
    refine zA rfl (zAk (v := .bool _) rfl h19 rfl) ?_
    refine zA4 ?_
    refine zB7 rfl ?_ ?_
    ·
     intro h27
     have g27 := of_decide_eq_true h27
     refine zA5 ?_
     have hs2 := Mem.shutFile hb2 (Mem.closeF2 rfl rfl rfl rfl hs)
     rw [zDa hf] at hs2
     clear hs
     have hs := hs2
     clear hs2
     refine zA1 ?_
     refine zA rfl (zA7 zD1 rfl rfl (hE.cellW hs 105 (by decide) rfl)) ?_
     refine zA rfl (zA2 (v := zAq ad _) rfl) ?_
     refine zA4 ?_
     refine zAf ?_
     refine zBj (v := zAq ad _) rfl rfl ?_
     rw [if_pos (by omega)] at hk
     cases hk
     exact ⟨_, rfl, rfl, Mem.closeD ho1 hs⟩
    ·
     intro h27
     have g27 := of_decide_eq_false h27
     refine zAd ?_
     refine zA5 ?_
     rw [if_neg (by omega)] at hk
     cases hk
     obtain ⟨q, rfl⟩ : ∃ q : Nat, m = (q : Int) := ⟨m.toNat, by omega⟩
     simp only [Int.toNat_natCast]
     refine zA1 ?_
     refine zA rfl (zA0 (v := .pointer (some _)) rfl) ?_
     refine zA rfl (zA0 (v := .pointer (some _)) rfl) ?_
     refine zA rfl (zA8 rfl) ?_
     refine zA rfl (zA3 (o' := 1) uz94 rfl sz23 rfl rfl rfl) ?_
     refine zA rfl (zA7 zBz rfl rfl (hs.cellAt 0 rfl rfl)) ?_
     refine zA rfl (zA0 (v := .int .i64 _) rfl) ?_
     refine zA rfl (zDl zBz sz5 rfl rfl (hi := q) rfl (by omega)) ?_
     refine zA9 rfl en46 (zE9 hs (l := (d1.fl i).b.take q) ((hs.rdOwn 1 rfl).subB (lo := 0) (hi := q) (by omega) (by omega)) (by simp; omega)) ?_
     clear hs
     rintro _ w ⟨a37, c37, rfl, hs⟩
     refine zA rfl (zA8 rfl) ?_
     refine zA rfl (zA3 (o' := 1) uz94 rfl sz23 rfl rfl rfl) ?_
     refine zAs (v := .slice _ _ _) hs 1 rfl sz23 rfl rfl rfl rfl ?_
     clear hs
     intro w hs
     try simp only [List.set_cons_succ, List.set_cons_zero] at hs
     refine zA4 (zA5 (zA1 ?_))
     refine zA rfl (zA0 (v := .pointer (some _)) rfl) ?_
     refine zA rfl (zA0 (v := .int .i64 _) rfl) ?_
     refine zA rfl (zA8 rfl) ?_
     refine zA rfl (zA3 (o' := 2) uz94 rfl sz3 rfl rfl rfl) ?_
     refine zAs (v := .int .i64 _) hs 1 rfl sz3 rfl rfl rfl rfl ?_
     clear hs
     intro w hs
     try simp only [List.set_cons_succ, List.set_cons_zero] at hs
     refine zA4 (zA5 (zA1 ?_))
     refine zA rfl (zA0 (v := .pointer (some _)) rfl) ?_
     refine zA rfl (zA8 rfl) ?_
     refine zA rfl (zA3 (o' := 7) zEn rfl sz3 rfl rfl rfl) ?_
     refine zA rfl (zA7 uz3 rfl rfl (hs.cellAt 3 rfl rfl)) ?_
     refine zA rfl (zAn rfl rfl rfl (inI (by omega) (by omega))) ?_
     refine zA rfl (zA8 rfl) ?_
     refine zA rfl (zA3 (o' := 7) zEn rfl sz3 rfl rfl rfl) ?_
     refine zAs (v := .int .i64 _) hs 3 rfl sz3 rfl rfl rfl rfl ?_
     clear hs
     intro w hs
     try simp only [List.set_cons_succ, List.set_cons_zero] at hs
     refine zA4 (zA5 (zA1 ?_))
     refine zA rfl (zA2 (v := .nilIface) rfl) ?_
     refine zA4 ?_
     refine zAf ?_
     refine zBj (v := .nilIface) rfl rfl ?_
     rw [zAr] at hs
     exact ⟨_, rfl, (zB2 ad).symm, Mem.closeD (ho1.setF hki ⟨hfl.1, by simp; omega, by simp; omega⟩) (Mem.shutFile (L := L) hb2 (Mem.closeF2 (f := { d1.fl i with b := (d1.fl i).b.take q, syn := q }) rfl rfl rfl rfl (hs.arr [1, 0, 3, 4, 5, 6, 7] 8 (by decide))))⟩
theorem clip_sl (hs : Mem g w L) (i : Nat) {a : Option Addr} {m c : Nat} {l : List Value} (hi : L[i]? = some (own (.slice a m c) l)) (hm : m < 1000000000000) : Calls Tryz.prog 48 #[.slice a m c] w (Ret fun v w' => v = .slice a m m ∧ Mem g w' (L.set i (own (.slice a m m) l))) := by
  obtain ⟨h1, h2, h3⟩ := hs.ownForm i hi
  refine zAl Tryz.func48 rfl rfl ?_
  skip
  refine zA5 (zA1 ?_)
  refine zA rfl (zA2 (v := .slice _ _ _) rfl) ?_
  refine zA4 (zA5 (zA1 ?_))
  refine zA rfl (zA0 (v := .slice _ _ _) rfl) ?_
  refine zA rfl (zA0 (v := .slice _ _ _) rfl) ?_
  refine zA rfl (zAw zBz rfl) ?_
  refine zA rfl (zA0 (v := .slice _ _ _) rfl) ?_
  refine zA rfl (zAw zBz rfl) ?_
  refine zA rfl (run_clip zBz sz5 rfl rfl rfl rfl rfl h2 h3) ?_
  refine zA rfl (zA2 (v := .slice _ _ _) rfl) ?_
  refine zA4 ?_
  refine zAf ?_
  refine zBj (v := .slice _ _ _) rfl rfl ?_
  exact ⟨_, rfl, rfl, hs.clip i hi⟩
theorem append_sl (hE : ErrK ad g) (hs : Mem g w (zBn p d :: L)) (hcl : d.calls < 1000000) (n : ByteArray) {x : List UInt8} {a : Option Addr} {m c : Nat} (hr0 : Rd g L (.slice a m c) (zAm x)) (hm : m = x.length) (hx : x.length ≤ 1073741824) {k : Nat} {d2 : Dk} (hk : d.append n x = (k, d2)) : Calls Tryz.prog 19 #[.pointer (some ⟨p, 0, none⟩), .string n, .slice a m c] w (Ret fun v w' => v = zAq ad k ∧ Mem g w' (zBn p d2 :: L)) := by
  subst hm
  obtain ⟨ho, mn, mk, sa, sc, ptr, hs⟩ := hs.openD
  obtain ⟨c0, o, d1, hfd⟩ : ∃ c0 o d1, d.find n = (c0, o, d1) := ⟨_, _, _, rfl⟩
  have hb := d.begin_same
  rw [← Dk.find_dk hfd] at hb
  have ho1 := ho.find hfd
  have hu1 := Dk.used_le ho1
  have hrm := ho1.room
  refine zAl Tryz.func19 rfl rfl ?_
  skip
  refine zA5 (zA1 ?_)
  refine zA rfl (zA2 (v := .nilIface) rfl) ?_
  refine zA4 (zA5 (zA1 ?_))
  refine zA rfl (zA0 (v := .pointer (some _)) rfl) ?_
  refine zA rfl (zA0 (v := .string _) rfl) ?_
  refine zA9 rfl en45 (find_sl hE ho n hs hfd) ?_
  clear hs
  rintro _ w ((⟨c, hc, h0, hr, rfl, hs⟩) | (⟨i, b, hr, hki, hb2, hf, rfl, hs⟩))
  ·
   refine zA rfl (zA0 (v := .tuple _) rfl) ?_
   refine zA rfl (zAa (v := .pointer none) rfl rfl) ?_
   refine zA rfl (zAa (v := zAq ad _) rfl rfl) ?_
   refine zA rfl (zA2 (v := .pointer none) rfl) ?_
   refine zA rfl (zA2 (v := zAq ad _) rfl) ?_
   refine zA4 ?_
   refine zA5 ?_
   refine zA5 (zA1 ?_)
   refine zA rfl (zA0 (v := zAq ad _) rfl) ?_
   refine zA rfl (zAy (ad := ad) rfl) ?_
   refine zA4 ?_
   refine zBa rfl (by simp [h0]) ?_
   refine zA5 (zA1 ?_)
   refine zA rfl (zA0 (v := zAq ad _) rfl) ?_
   refine zA rfl (zA2 (v := zAq ad _) rfl) ?_
   refine zA4 ?_
   refine zAf ?_
   refine zBj (v := zAq ad _) rfl rfl ?_
   cases hr
   simp only [Dk.append, hfd] at hk
   cases hk
   exact ⟨_, rfl, rfl, Mem.closeD ho1 hs⟩
  ·
   refine zA rfl (zA0 (v := .tuple _) rfl) ?_
   refine zA rfl (zAa (v := .pointer (some _)) rfl rfl) ?_
   refine zA rfl (zAa (v := .nilIface) rfl rfl) ?_
   refine zA rfl (zA2 (v := .pointer (some _)) rfl) ?_
   refine zA rfl (zA2 (v := .nilIface) rfl) ?_
   refine zA4 ?_
   refine zA5 ?_
   refine zA5 (zA1 ?_)
   refine zA rfl (zA0 (v := .nilIface) rfl) ?_
   refine zA rfl (zBi rfl) ?_
   refine zA4 ?_
   refine zAv rfl (rfl) ?_
   refine zAd ?_
   refine zA5 ?_
   refine zA5 ?_
   cases hr
   simp only [Dk.append, hfd] at hk
   have hfl := ho1.fid _ _ hf
   have hle := ho1.tookB.len_eq hki
   refine zAz zBx hs ?_
   intro w tr hK
   replace hs := tr _ hs
   clear tr
   refine zA6 0 rfl rfl (fun w hs => zA0 (v := .slice _ _ _) rfl) hK ?_
   refine zA6 1 rfl rfl (fun w hs => zAw zBz rfl) hK ?_
   refine zA6 2 rfl rfl (fun w hs => zA0 (v := .pointer (some _)) rfl) hK ?_
   refine zA6 3 rfl rfl (fun w hs => zA8 rfl) hK ?_
   refine zA6 4 rfl rfl (fun w hs => zA3 (o' := 0) zEn rfl sz3 rfl rfl rfl) hK ?_
   refine zA6 5 rfl rfl (fun w hs => zA7 uz3 rfl rfl (hs.cellAt 0 rfl rfl)) hK ?_
   refine zA6 6 rfl rfl (fun w hs => zA0 (v := .pointer (some _)) rfl) hK ?_
   refine zAb [7] ?_
   refine ⟨⟨_, rfl, ?_⟩, trivial⟩
   refine zA9 rfl en47 (usedP_sl hs ho1 (by omega)) ?_
   clear hs
   rintro _ w ⟨rfl, hs⟩
   clear hK
   have hK := hs
   refine zA4 ⟨hK, ?_⟩
   refine zA6 8 rfl rfl (fun w hs => zCj rfl rfl rfl (inI (by omega) (by omega))) hK ?_
   refine zA6 9 rfl rfl (fun w hs => zBq rfl rfl) hK ?_
   refine zAu (by kernel_rfl) ?_
   clear hK
   refine zB7 rfl ?_ ?_
   ·
    intro h27
    have g27 := of_decide_eq_true h27
    refine zA5 (zA1 ?_)
    refine zA rfl (zA7 zD1 rfl rfl (hE.cellW hs 109 (by decide) rfl)) ?_
    refine zA rfl (zA2 (v := zAq ad _) rfl) ?_
    refine zA4 ?_
    refine zAf ?_
    refine zBj (v := zAq ad _) rfl rfl ?_
    rw [if_pos (by omega)] at hk
    cases hk
    exact ⟨_, rfl, rfl, Mem.closeD ho1 hs⟩
   ·
    intro h27
    have g27 := of_decide_eq_false h27
    refine zAd ?_
    refine zA5 ?_
    rw [if_neg (by omega)] at hk
    cases hk
    obtain ⟨fa, fc, hfc, hs⟩ := hs.openFile hb2 hf
    have hfn := Dk.find_some hfd
    have hlu := Dk.len_used hfn.2.2.2
    refine zA1 ?_
    refine zA rfl (zA0 (v := .pointer (some _)) rfl) ?_
    refine zA rfl (zA0 (v := .pointer (some _)) rfl) ?_
    refine zA rfl (zA8 rfl) ?_
    refine zA rfl (zA3 (o' := 1) uz94 rfl sz23 rfl rfl rfl) ?_
    refine zA rfl (zA7 zBz rfl rfl (hs.cellAt 0 rfl rfl)) ?_
    refine zA9 rfl en48 (clip_sl hs 1 rfl (by omega)) ?_
    clear hs
    rintro _ w ⟨rfl, hs⟩
    refine zA rfl (zA0 (v := .slice _ _ _) rfl) ?_
    refine zCi hs rfl 1 rfl zBz in5 rfl rfl rfl (zC2 (P := Tryz.prog) zBz (hr0.seq (hs.suffix 7 rfl)) (zBt x)) (by simp only [zAr]; omega) (by simp only [zAr]; omega) ?_
    clear hs
    intro a36 c36 w hs
    simp only [List.set_cons_succ, List.set_cons_zero] at hs
    refine zA rfl (zA8 rfl) ?_
    refine zA rfl (zA3 (o' := 1) uz94 rfl sz23 rfl rfl rfl) ?_
    refine zAs (v := .slice _ _ _) hs 0 rfl sz23 rfl rfl rfl rfl ?_
    clear hs
    intro w hs
    try simp only [List.set_cons_succ, List.set_cons_zero] at hs
    refine zA4 (zA5 (zA1 ?_))
    refine zA rfl (zA0 (v := .pointer (some _)) rfl) ?_
    refine zA rfl (zA8 rfl) ?_
    refine zA rfl (zA3 (o' := 7) zEn rfl sz3 rfl rfl rfl) ?_
    refine zA rfl (zA7 uz3 rfl rfl (hs.cellAt 2 rfl rfl)) ?_
    refine zA rfl (zAn rfl rfl rfl (inI (by omega) (by omega))) ?_
    refine zA rfl (zA8 rfl) ?_
    refine zA rfl (zA3 (o' := 7) zEn rfl sz3 rfl rfl rfl) ?_
    refine zAs (v := .int .i64 _) hs 2 rfl sz3 rfl rfl rfl rfl ?_
    clear hs
    intro w hs
    try simp only [List.set_cons_succ, List.set_cons_zero] at hs
    refine zA4 (zA5 (zA1 ?_))
    refine zA rfl (zA2 (v := .nilIface) rfl) ?_
    refine zA4 ?_
    refine zAf ?_
    refine zBj (v := .nilIface) rfl rfl ?_
    exact ⟨_, rfl, (zB2 ad).symm, Mem.closeD (ho1.setF hki ⟨hfl.1, by simp; omega, by simp; omega⟩) (Mem.shutFile (L := L) hb2 (Mem.closeF2 (f := { d1.fl i with b := (d1.fl i).b ++ x }) rfl (by simp [zAr]) rfl (zCe _ _).symm hs))⟩
theorem remove_sl (hE : ErrK ad g) (hs : Mem g w (zBn p d :: L)) (hcl : d.calls < 1000000) (n : ByteArray) {k : Nat} {d2 : Dk} (hk : d.remove n = (k, d2)) : Calls Tryz.prog 91 #[.pointer (some ⟨p, 0, none⟩), .string n] w (Ret fun v w' => v = zAq ad k ∧ Mem g w' (zBn p d2 :: L)) := by
  obtain ⟨ho, mn, mk, sa, sc, ptr, hs⟩ := hs.openD
  obtain ⟨c0, o, d1, hfd⟩ : ∃ c0 o d1, d.find n = (c0, o, d1) := ⟨_, _, _, rfl⟩
  have hb := d.begin_same
  rw [← Dk.find_dk hfd] at hb
  have ho1 := ho.find hfd
  have hkl := ho1.kl
  refine zAl Tryz.func91 rfl rfl ?_
  skip
  refine zA5 (zA1 ?_)
  refine zA rfl (zA2 (v := .nilIface) rfl) ?_
  refine zA4 ?_
  refine zA5 ?_
  refine zA5 (zA1 ?_)
  refine zA rfl (zA0 (v := .pointer (some _)) rfl) ?_
  refine zA rfl (zA0 (v := .string _) rfl) ?_
  refine zA9 rfl en45 (find_sl hE ho n hs hfd) ?_
  clear hs
  rintro _ w ((⟨c, hc, h0, hr, rfl, hs⟩) | (⟨i, b, hr, hki, hb2, hf, rfl, hs⟩))
  ·
   refine zA rfl (zA0 (v := .tuple _) rfl) ?_
   refine zA rfl (zAa (v := .pointer none) rfl rfl) ?_
   refine zA rfl (zAa (v := zAq ad _) rfl rfl) ?_
   refine zA rfl (zA2 (v := .pointer none) rfl) ?_
   refine zA rfl (zA2 (v := zAq ad _) rfl) ?_
   refine zA4 (zA5 (zA1 ?_))
   refine zA rfl (zA0 (v := zAq ad _) rfl) ?_
   refine zA rfl (zAy (ad := ad) rfl) ?_
   refine zA4 ?_
   refine zBa rfl (by simp [h0]) ?_
   refine zA5 (zA1 ?_)
   refine zA rfl (zA0 (v := zAq ad _) rfl) ?_
   refine zA rfl (zA2 (v := zAq ad _) rfl) ?_
   refine zA4 ?_
   refine zAf ?_
   refine zBj (v := zAq ad _) rfl rfl ?_
   cases hr
   simp only [Dk.remove, hfd] at hk
   cases hk
   exact ⟨_, rfl, rfl, Mem.closeD ho1 hs⟩
  ·
   refine zA rfl (zA0 (v := .tuple _) rfl) ?_
   refine zA rfl (zAa (v := .pointer (some _)) rfl rfl) ?_
   refine zA rfl (zAa (v := .nilIface) rfl rfl) ?_
   refine zA rfl (zA2 (v := .pointer (some _)) rfl) ?_
   refine zA rfl (zA2 (v := .nilIface) rfl) ?_
   refine zA4 (zA5 (zA1 ?_))
   refine zA rfl (zA0 (v := .nilIface) rfl) ?_
   refine zA rfl (zBi rfl) ?_
   refine zA4 ?_
   refine zAv rfl (rfl) ?_
   refine zAd ?_
   refine zA5 ?_
   cases hr
   simp only [Dk.remove, hfd] at hk
   cases hk
   refine zA1 ?_
   refine zA rfl (zA0 (v := .pointer (some _)) rfl) ?_
   refine zA rfl (zA0 (v := .string _) rfl) ?_
   refine zA rfl (zCo (cs := [.string ByteArray.empty, .string n, .pointer none]) zF4 ze120 pl120 rfl) ?_
   refine zA9 rfl en75 (change_sl (by omega) (by omega) hs ⟨ByteArray.empty, n, none⟩ (fun i hi => by cases hi) (row := [.string ByteArray.empty, .string n, .pointer none]) rfl) ?_
   clear hs
   rintro _ w ⟨rfl, sa2, sc2, hs⟩
   refine zA4 (zA5 (zA1 ?_))
   refine zA rfl (zA2 (v := .nilIface) rfl) ?_
   refine zA4 ?_
   refine zAf ?_
   refine zBj (v := .nilIface) rfl rfl ?_
   exact ⟨_, rfl, (zB2 ad).symm, Mem.closeD (ho1.change fun i hi => by cases hi) hs⟩
theorem rename_sl (hE : ErrK ad g) (hs : Mem g w (zBn p d :: L)) (hcl : d.calls < 1000000) (n m : ByteArray) {k : Nat} {d2 : Dk} (hk : d.rename n m = (k, d2)) : Calls Tryz.prog 96 #[.pointer (some ⟨p, 0, none⟩), .string n, .string m] w (Ret fun v w' => v = zAq ad k ∧ Mem g w' (zBn p d2 :: L)) := by
  obtain ⟨ho, mn, mk, sa, sc, ptr, hs⟩ := hs.openD
  obtain ⟨c0, o, d1, hfd⟩ : ∃ c0 o d1, d.find n = (c0, o, d1) := ⟨_, _, _, rfl⟩
  have hb := d.begin_same
  rw [← Dk.find_dk hfd] at hb
  have ho1 := ho.find hfd
  have hkl := ho1.kl
  refine zAl Tryz.func96 rfl rfl ?_
  skip
  refine zA5 (zA1 ?_)
  refine zA rfl (zA2 (v := .nilIface) rfl) ?_
  refine zA4 (zA5 (zA1 ?_))
  refine zA rfl (zA0 (v := .pointer (some _)) rfl) ?_
  refine zA rfl (zA0 (v := .string _) rfl) ?_
  refine zA9 rfl en45 (find_sl hE ho n hs hfd) ?_
  clear hs
  rintro _ w ((⟨c, hc, h0, hr, rfl, hs⟩) | (⟨i, b, hr, hki, hb2, hf, rfl, hs⟩))
  ·
   refine zA rfl (zA0 (v := .tuple _) rfl) ?_
   refine zA rfl (zAa (v := .pointer none) rfl rfl) ?_
   refine zA rfl (zAa (v := zAq ad _) rfl rfl) ?_
   refine zA rfl (zA2 (v := .pointer none) rfl) ?_
   refine zA rfl (zA2 (v := zAq ad _) rfl) ?_
   refine zA4 ?_
   refine zA5 ?_
   refine zA5 (zA1 ?_)
   refine zA rfl (zA0 (v := zAq ad _) rfl) ?_
   refine zA rfl (zAy (ad := ad) rfl) ?_
   refine zA4 ?_
   refine zBa rfl (by simp [h0]) ?_
   refine zA5 (zA1 ?_)
   refine zA rfl (zA0 (v := zAq ad _) rfl) ?_
   refine zA rfl (zA2 (v := zAq ad _) rfl) ?_
   refine zA4 ?_
   refine zAf ?_
   refine zBj (v := zAq ad _) rfl rfl ?_
   cases hr
   simp only [Dk.rename, hfd] at hk
   cases hk
   exact ⟨_, rfl, rfl, Mem.closeD ho1 hs⟩
  ·
   refine zA rfl (zA0 (v := .tuple _) rfl) ?_
   refine zA rfl (zAa (v := .pointer (some _)) rfl rfl) ?_
   refine zA rfl (zAa (v := .nilIface) rfl rfl) ?_
   refine zA rfl (zA2 (v := .pointer (some _)) rfl) ?_
   refine zA rfl (zA2 (v := .nilIface) rfl) ?_
   refine zA4 ?_
   refine zA5 ?_
   refine zA5 (zA1 ?_)
   refine zA rfl (zA0 (v := .nilIface) rfl) ?_
   refine zA rfl (zBi rfl) ?_
   refine zA4 ?_
   refine zAv rfl (rfl) ?_
   refine zAd ?_
   refine zA5 ?_
   refine zA5 ?_
   cases hr
   simp only [Dk.rename, hfd] at hk
   refine zA1 ?_
   refine zA rfl (zA0 (v := .string _) rfl) ?_
   refine zA9 rfl en74 (valid_sl hs m) ?_
   clear hs
   rintro _ w ⟨rfl, hs⟩
   refine zA rfl (zBm rfl) ?_
   refine zA4 ?_
   refine zB7 rfl ?_ ?_
   ·
    intro h20
    replace h20 := zF h20
    refine zA5 (zA1 ?_)
    refine zA rfl (zA7 zD1 rfl rfl (hE.cellW hs 106 (by decide) rfl)) ?_
    refine zA rfl (zA2 (v := zAq ad _) rfl) ?_
    refine zA4 ?_
    refine zAf ?_
    refine zBj (v := zAq ad _) rfl rfl ?_
    rw [if_pos h20] at hk
    cases hk
    exact ⟨_, rfl, rfl, Mem.closeD ho1 hs⟩
   ·
    intro h20
    replace h20 := zE4 h20
    refine zAd ?_
    refine zA5 ?_
    rw [if_neg (by simp [h20])] at hk
    cases hk
    refine zA1 ?_
    refine zA rfl (zA0 (v := .string _) rfl) ?_
    refine zA rfl (zA0 (v := .string _) rfl) ?_
    refine zA rfl (zA0 (v := .pointer (some _)) rfl) ?_
    refine zA rfl (zCo (cs := [.string m, .string n, .pointer (some ⟨b, 0, none⟩)]) zF4 ze120 pl120 rfl) ?_
    refine zBd hs rfl ze120 ?_
    clear hs
    intro b9 w hs
    try simp only [List.set_cons_succ, List.set_cons_zero] at hs
    refine zAp hs 0 rfl rfl rfl sz120 rfl rfl ?_
    clear hs
    intro w hs
    try simp only [List.set_cons_succ, List.set_cons_zero] at hs
    refine zA4 ?_
    refine zA5 ?_
    refine zA5 (zA1 ?_)
    refine zA rfl (zA0 (v := .string _) rfl) ?_
    refine zA rfl (zA0 (v := .string _) rfl) ?_
    refine zA rfl (run_eqs rfl rfl) ?_
    refine zA4 ?_
    refine zB7 rfl ?_ ?_
    ·
     intro h29
     have g29 := of_decide_eq_true h29
     refine zA1 ?_
     refine zA rfl (zA3 (o' := 1) zF4 rfl sz9 rfl rfl rfl) ?_
     refine zAs (v := .string _) hs 0 rfl sz9 rfl rfl rfl rfl ?_
     clear hs
     intro w hs
     try simp only [List.set_cons_succ, List.set_cons_zero] at hs
     refine zA4 (zA5 (zA1 ?_))
     refine zA rfl (zA0 (v := .pointer (some _)) rfl) ?_
     refine zA rfl (zB3 hs 0 rfl zF4 sz120 rfl) ?_
     refine zA9 rfl en75 (change_sl (d := d1) (L := cells b9 _ _ :: L) (by omega) (by omega) (hs.arr [1, 2, 3, 4, 5, 0] 6 (by decide)) ⟨m, ByteArray.empty, some i⟩ (fun j hj => by cases hj; exact ⟨b, hb2⟩) (row := [.string m, .string ByteArray.empty, .pointer (some ⟨b, 0, none⟩)]) (by simp [chgV, zEh hb2])) ?_
     clear hs
     rintro _ w ⟨rfl, sa2, sc2, hs⟩
     refine zA4 (zA5 (zA1 ?_))
     refine zA rfl (zA2 (v := .nilIface) rfl) ?_
     refine zA4 ?_
     refine zAf ?_
     refine zBj (v := .nilIface) rfl rfl ?_
     rw [if_pos g29]
     exact ⟨_, rfl, (zB2 ad).symm, Mem.closeD (ho1.change fun j hj => by cases hj; exact hki) (hs.drop 5)⟩
    ·
     intro h29
     have g29 := of_decide_eq_false h29
     refine zAd ?_
     refine zA5 (zA1 ?_)
     refine zA rfl (zA0 (v := .pointer (some _)) rfl) ?_
     refine zA rfl (zB3 hs 0 rfl zF4 sz120 rfl) ?_
     refine zA9 rfl en75 (change_sl (d := d1) (L := cells b9 _ _ :: L) (by omega) (by omega) (hs.arr [1, 2, 3, 4, 5, 0] 6 (by decide)) ⟨m, n, some i⟩ (fun j hj => by cases hj; exact ⟨b, hb2⟩) (row := [.string m, .string n, .pointer (some ⟨b, 0, none⟩)]) (by simp [chgV, zEh hb2])) ?_
     clear hs
     rintro _ w ⟨rfl, sa2, sc2, hs⟩
     refine zA4 (zA5 (zA1 ?_))
     refine zA rfl (zA2 (v := .nilIface) rfl) ?_
     refine zA4 ?_
     refine zAf ?_
     refine zBj (v := .nilIface) rfl rfl ?_
     rw [if_neg g29]
     exact ⟨_, rfl, (zB2 ad).symm, Mem.closeD (ho1.change fun j hj => by cases hj; exact hki) (hs.drop 5)⟩
end Go.Proofs.YtdkgdjnbpjjfmaaGreatDoor
namespace Go.Proofs.YtdkgdjnbpjjfmaaGreatDoor
set_option linter.all false
open Go.RowKit
variable {d : Dk} {n s : ByteArray} {b : List UInt8}

/-- The name beside a name. -/
def zCa (s : ByteArray) : ByteArray := s ++ (⟨#[46, 110, 101, 119]⟩ : ByteArray)
def Dk.wstep (s : ByteArray) (b : List UInt8) (k : Nat) (d : Dk) : Nat × Dk := match k with
  | 0 => if (d.lenR (zCa s)).1 = 107 then (0, d) else d.remove (zCa s)
  | 1 => d.create (zCa s)
  | 2 => d.append (zCa s) (zBp b)
  | 3 => d.sync (zCa s)
  | 4 => d.rename (zCa s) s
  | 5 => d.syncDir
  | _ => (0, d)
def Dk.wrun (s : ByteArray) (b : List UInt8) : Nat → Nat → Dk → Nat × Dk
  | 0, _, d => (0, d)
  | f + 1, k, d => if (d.wstep s b k).1 = 0 then Dk.wrun s b f (k + 1) (d.wstep s b k).2 else d.wstep s b k
def Dk.write (s : ByteArray) (b : List UInt8) (d : Dk) : Nat × Dk := if zC6 s.data.toList = true ∧ zC6 (zCa s).data.toList = true then Dk.wrun s b 6 0 d else (106, d)
def Dk.pread (s : ByteArray) (d : Dk) : Nat × List UInt8 := if (d.lenR s).1 ≠ 0 then ((d.lenR s).1, []) else if (d.readR s 0 ((d.lenR s).2 : Int)).1 ≠ 0 then ((d.readR s 0 ((d.lenR s).2 : Int)).1, []) else openL (d.readR s 0 ((d.lenR s).2 : Int)).2
theorem Dk.lenR_code (n : ByteArray) (d : Dk) : (d.lenR n).1 = 0 ∨ (d.lenR n).1 = 107 ∨ (d.lenR n).1 = 110 := by
  unfold Dk.lenR Dk.file
  cases d.down with
  | true => exact .inr (.inr rfl)
  | false =>
    cases zB0 d.names n with
    | none => exact .inr (.inl rfl)
    | some i => exact .inl rfl
theorem Dk.ok.lenR_le (h : d.ok) (n : ByteArray) : (d.lenR n).2 ≤ 4194304 := by
  unfold Dk.lenR Dk.file
  cases d.down with
  | true => exact Nat.zero_le _
  | false =>
    cases hn : zB0 d.names n with
    | none => exact Nat.zero_le _
    | some i =>
      have hi := h.named hn
      exact (h.fid i _ (h.fl_some hi)).2.2
theorem Dk.calls_find (n : ByteArray) (d : Dk) : (d.find n).2.2.calls = d.calls := by
  obtain ⟨_, _, _, _, _, _, h, _⟩ := d.begin_same
  unfold Dk.find
  split <;> exact h
theorem Dk.wstep_calls (s : ByteArray) (b : List UInt8) (k : Nat) (d : Dk) : (d.wstep s b k).2.calls ≤ d.calls + 1 := by
  obtain ⟨_, _, _, _, _, _, hb, _⟩ := d.begin_same
  have hf := fun n => d.calls_find n
  match k with
  | 0 =>
    simp only [Dk.wstep]
    split
    · exact Nat.le_succ _
    · unfold Dk.remove
      have h := hf (zCa s)
      revert h
      rcases d.find (zCa s) with ⟨c, _ | i, d1⟩ <;> intro h
      · simp only at h ⊢; omega
      · simp only [Dk.change] at h ⊢; omega
  | 1 =>
    simp only [Dk.wstep, Dk.create]
    split
    · simp only; omega
    · split
      · simp only; omega
      · split
        · simp only; omega
        · simp only [Dk.change]; omega
  | 2 =>
    simp only [Dk.wstep, Dk.append]
    have h := hf (zCa s)
    revert h
    rcases d.find (zCa s) with ⟨c, _ | i, d1⟩ <;> intro h
    · simp only at h ⊢; omega
    · simp only at h ⊢
      split
      · simp only; omega
      · simp only; omega
  | 3 =>
    simp only [Dk.wstep, Dk.sync]
    have h := hf (zCa s)
    revert h
    rcases d.find (zCa s) with ⟨c, _ | i, d1⟩ <;> intro h
    · simp only at h ⊢; omega
    · simp only at h ⊢; omega
  | 4 =>
    simp only [Dk.wstep, Dk.rename]
    have h := hf (zCa s)
    revert h
    rcases d.find (zCa s) with ⟨c, _ | i, d1⟩ <;> intro h
    · simp only at h ⊢; omega
    · simp only at h ⊢
      split
      · simp only; omega
      · simp only [Dk.change]; omega
  | 5 =>
    simp only [Dk.wstep, Dk.syncDir]
    split
    · simp only; omega
    · simp only; omega
  | k + 6 => exact Nat.le_succ _
end Go.Proofs.YtdkgdjnbpjjfmaaGreatDoor
namespace Go.Proofs
open Go.Shelf
def Tryz.mclone66_ren : Go.Shelf.Ren := ⟨fun | 5 => 66 | 7 => 107 | n => n, fun | 23 => 69 | 25 => 9 | 3 => 90 | 4 => 4 | 20 => 20 | n => n, fun | n => n⟩
theorem Tryz.mclone66 : Go.Proofs.SlLaysW.n5 Tryz.prog Tryz.mclone66_ren := {
  mixed := by kernel_rfl
  f5 := ⟨Tryz.f66.name, by decide, Tryz.func66.trans (congrArg some (by kernel_rfl))⟩
  f7 := Tryz.func107.trans (congrArg some (by kernel_rfl))
  t4 := Tryz.underlying4
  a4 := Tryz.isAgg4
  z4 := Tryz.sizeOf4
  v4 := Tryz.zeroValue4
  t20 := Tryz.underlying20
  a20 := Tryz.isAgg20
  z20 := Tryz.sizeOf20
  v20 := Tryz.zeroValue20
  t23 := Tryz.underlying69
  a23 := Tryz.isAgg69
  z23 := Tryz.sizeOf69
  v23 := Tryz.zeroValue69 }
def Tryz.sortf64_ren : Go.Shelf.Ren := ⟨fun | 6 => 64 | 15 => 106 | 14 => 105 | 28 => 141 | 29 => 142 | 20 => 133 | 21 => 134 | 22 => 135 | 23 => 136 | 24 => 137 | 25 => 138 | 26 => 139 | 27 => 140 | 46 => 166 | 47 => 167 | 48 => 168 | 49 => 169 | 50 => 170 | 57 => 187 | n => n, fun | 22 => 122 | 24 => 90 | 25 => 125 | 3 => 3 | 39 => 156 | 0 => 0 | 53 => 111 | 55 => 100 | 4 => 4 | 46 => 199 | 45 => 198 | 50 => 203 | 5 => 5 | 9 => 9 | 66 => 222 | 70 => 226 | 76 => 239 | 77 => 240 | n => n, fun | n => n⟩
theorem Tryz.sortf64 : Go.Proofs.SlLaysF.n6 Tryz.prog Tryz.sortf64_ren := {
  mixed := by kernel_rfl
  f6 := ⟨Tryz.f64.name, by decide, Tryz.func64.trans (congrArg some (by kernel_rfl))⟩
  f14 := ⟨Tryz.f105.name, by decide, Tryz.func105.trans (congrArg some (by kernel_rfl))⟩
  f15 := Tryz.func106.trans (congrArg some (by kernel_rfl))
  f20 := ⟨Tryz.f133.name, by decide, Tryz.func133.trans (congrArg some (by kernel_rfl))⟩
  f21 := ⟨Tryz.f134.name, by decide, Tryz.func134.trans (congrArg some (by kernel_rfl))⟩
  f22 := ⟨Tryz.f135.name, by decide, Tryz.func135.trans (congrArg some (by kernel_rfl))⟩
  f23 := ⟨Tryz.f136.name, by decide, Tryz.func136.trans (congrArg some (by kernel_rfl))⟩
  f24 := ⟨Tryz.f137.name, by decide, Tryz.func137.trans (congrArg some (by kernel_rfl))⟩
  f25 := ⟨Tryz.f138.name, by decide, Tryz.func138.trans (congrArg some (by kernel_rfl))⟩
  f26 := ⟨Tryz.f139.name, by decide, Tryz.func139.trans (congrArg some (by kernel_rfl))⟩
  f27 := ⟨Tryz.f140.name, by decide, Tryz.func140.trans (congrArg some (by kernel_rfl))⟩
  f28 := Tryz.func141.trans (congrArg some (by kernel_rfl))
  f29 := Tryz.func142.trans (congrArg some (by kernel_rfl))
  f46 := ⟨Tryz.f166.name, by decide, Tryz.func166.trans (congrArg some (by kernel_rfl))⟩
  f47 := Tryz.func167.trans (congrArg some (by kernel_rfl))
  f48 := Tryz.func168.trans (congrArg some (by kernel_rfl))
  f49 := ⟨Tryz.f169.name, by decide, Tryz.func169.trans (congrArg some (by kernel_rfl))⟩
  f50 := ⟨Tryz.f170.name, by decide, Tryz.func170.trans (congrArg some (by kernel_rfl))⟩
  f57 := ⟨Tryz.f187.name, by decide, Tryz.func187.trans (congrArg some (by kernel_rfl))⟩
  t0 := Tryz.underlying0
  a0 := Tryz.isAgg0
  z0 := Tryz.sizeOf0
  v0 := Tryz.zeroValue0
  t3 := Tryz.underlying3
  a3 := Tryz.isAgg3
  z3 := Tryz.sizeOf3
  v3 := Tryz.zeroValue3
  t4 := Tryz.underlying4
  a4 := Tryz.isAgg4
  z4 := Tryz.sizeOf4
  v4 := Tryz.zeroValue4
  t5 := Tryz.underlying5
  a5 := Tryz.isAgg5
  z5 := Tryz.sizeOf5
  v5 := Tryz.zeroValue5
  t9 := Tryz.underlying9
  a9 := Tryz.isAgg9
  z9 := Tryz.sizeOf9
  v9 := Tryz.zeroValue9
  t22 := Tryz.underlying122
  a22 := Tryz.isAgg122
  z22 := Tryz.sizeOf122
  v22 := Tryz.zeroValue122
  a24 := Tryz.isAgg90
  z24 := Tryz.sizeOf90
  t25 := Tryz.underlying125
  a25 := Tryz.isAgg125
  z25 := Tryz.sizeOf125
  v25 := Tryz.zeroValue125
  t39 := Tryz.underlying156
  a39 := Tryz.isAgg156
  z39 := Tryz.sizeOf156
  v39 := Tryz.zeroValue156
  t45 := Tryz.underlying198
  a45 := Tryz.isAgg198
  z45 := Tryz.sizeOf198
  v45 := Tryz.zeroValue198
  t46 := Tryz.underlying199
  a46 := Tryz.isAgg199
  z46 := Tryz.sizeOf199
  v46 := Tryz.zeroValue199
  t50 := Tryz.underlying203
  a50 := Tryz.isAgg203
  z50 := Tryz.sizeOf203
  v50 := Tryz.zeroValue203
  t53 := Tryz.underlying111
  a53 := Tryz.isAgg111
  z53 := Tryz.sizeOf111
  v53 := Tryz.zeroValue111
  t55 := Tryz.underlying100
  a55 := Tryz.isAgg100
  z55 := Tryz.sizeOf100
  v55 := Tryz.zeroValue100
  t66 := Tryz.underlying222
  a66 := Tryz.isAgg222
  z66 := Tryz.sizeOf222
  v66 := Tryz.zeroValue222
  t70 := Tryz.underlying226
  a70 := Tryz.isAgg226
  z70 := Tryz.sizeOf226
  v70 := Tryz.zeroValue226
  t76 := Tryz.underlying239
  a76 := Tryz.isAgg239
  z76 := Tryz.sizeOf239
  v76 := Tryz.zeroValue239
  t77 := Tryz.underlying240
  a77 := Tryz.isAgg240
  z77 := Tryz.sizeOf240
  v77 := Tryz.zeroValue240 }
end Go.Proofs
namespace Go.Proofs.YtdkgdjnbpjjfmaaGreatDoor
set_option linter.all false
open Go.RowKit Go.Sort Go.Shelf
variable {g w : World} {L M : List HP} {ad : Nat → Addr} {d : Dk} {ptr : List (Nat × Nat)}

theorem mclone_sl (hs : Mem g w L) (i : Nat) {m : Nat} {es : List (ByteArray × Value)} (hi : L[i]? = some (mapS m es)) : Calls Tryz.prog 66 #[.map (some m)] w (Ret fun v w' => ∃ m', v = .map (some m') ∧ Mem g w' (mapS m' es :: L)) := by
  obtain ⟨F, ⟨⟨arr, clock, hb, he, hst⟩, _⟩⟩ := hs.read hi
  refine (AnyW.maps_Clone Tryz.mclone66 m arr clock w hb).mono ?_
  rintro e w' ⟨rfl, rfl⟩
  exact ⟨_, rfl, w.heap.size, rfl, hs.add (F' := fun x => x = w.heap.size) ⟨⟨arr, clock, World.alloc_heap_new w _, he, hst⟩, fun _ => Iff.rfl⟩ (fun _ h => Nat.le_of_eq h.symm) ((Keeps.refl _ _).alloc _)⟩

/-! ### slices.SortFunc -/
theorem Mem.apart2 {A B : HP} (hs : Mem g w (A :: B :: L)) : ∃ F G, A.ok F w ∧ B.ok G w ∧ ∀ b, F b → ¬ G b := by
  obtain ⟨F, h1, _, G, k1, k2, _⟩ := hs.sat
  exact ⟨F, G, h1, k1, fun b hF hG => k2 b hG (.inr hF)⟩
theorem cmp_sl {w : World} {x y bx bY : Nat} (hx : w.cell? ⟨bx, 0, none⟩ = some (.int .i64 x)) (hy : w.cell? ⟨bY, 0, none⟩ = some (.int .i64 y)) (h1 : x ≤ 4611686018427387904) (h2 : y ≤ 4611686018427387904) :
    Calls Tryz.prog 65 #[.pointer (some ⟨bx, 0, none⟩), .pointer (some ⟨bY, 0, none⟩)] w fun e w' => e = .returned (.int .i64 ((x : Int) - y)) ∧ ∃ q, w' = w.drewN q := by
  refine zAl Tryz.func65 rfl rfl ?_
  skip
  refine zA5 (zA1 ?_)
  refine zA rfl (zA2 (v := .int .i64 _) rfl) ?_
  refine zA4 ?_
  refine zA5 ?_
  refine cw_draw (fun w' => ∃ q, w' = w.drewN q) zBx ?_
  have hK : (fun w' => ∃ q, w' = w.drewN q) w.drew := ⟨1, rfl⟩
  generalize World.drew w = w1 at hK ⊢
  refine zA6 0 rfl rfl (fun w hs => zA0 (v := .pointer (some _)) rfl) hK ?_
  refine zA6 1 rfl rfl (fun w hs => zA8 rfl) hK ?_
  refine zA6 2 rfl rfl (fun w hs => zA3 (o' := 0) uz94 rfl sz3 rfl rfl rfl) hK ?_
  refine zA6 3 rfl rfl (fun w hs => zA7 uz3 rfl rfl (by obtain ⟨q, rfl⟩ := hs; exact hx)) hK ?_
  refine zA6 4 rfl rfl (fun w hs => zA0 (v := .pointer (some _)) rfl) hK ?_
  refine zA6 5 rfl rfl (fun w hs => zA8 rfl) hK ?_
  refine zA6 6 rfl rfl (fun w hs => zA3 (o' := 0) uz94 rfl sz3 rfl rfl rfl) hK ?_
  refine zA6 7 rfl rfl (fun w hs => zA7 uz3 rfl rfl (by obtain ⟨q, rfl⟩ := hs; exact hy)) hK ?_
  refine zA6 8 rfl rfl (fun w hs => zCj rfl rfl rfl (inI (by omega) (by omega))) hK ?_
  refine zA6 9 rfl rfl (fun w hs => zA2 (v := .int .i64 _) rfl) hK ?_
  refine zAu (by kernel_rfl) ?_
  skip
  refine zAf ?_
  refine zBj (v := .int .i64 _) rfl rfl ?_
  exact ⟨rfl, hK⟩
theorem heap_sortWorld {α : Type} [Inhabited α] (enc : α → Value) (w : World) (blk off m : Nat) (d : Array α) (os : Array Obj) {cs : Array Value} {E : TypeId} (hb : w.heap[blk]? = some (.cells cs E (0, 0))) : (sortWorld enc w blk off m d os).heap[blk]? = some (.cells (putCells enc off d cs) E (0, 0)) := by
  have hlt := lt_of_block hb
  simp only [sortWorld, grow, putRow, mapBlock, heap_ahead]
  rw [Array.getElem?_append_left (by simpa using hlt), Array.getElem?_modify, if_pos rfl, hb]
  rfl
theorem keeps_sortWorld {α : Type} [Inhabited α] (enc : α → Value) (w : World) (blk off m : Nat) (d : Array α) (os : Array Obj) : Keeps (fun b => b = blk) w (sortWorld enc w blk off m d os) := by
  refine ⟨rfl, rfl, rfl, by simp [sortWorld, grow], fun k hk hne => ?_⟩
  simp only [sortWorld, grow, putRow, mapBlock, heap_ahead]
  rw [Array.getElem?_append_left (by simpa using hk), Array.getElem?_modify, if_neg (fun e => hne e.symm)]
theorem swo_ids {α : Type} (f : α → Nat) : SWO (ltOf fun x y : α => (f x : Int) - f y) := by
  refine ⟨fun x => ?_, fun x y z h1 h2 => ?_, fun x y z h1 h2 => ?_⟩
  · simp [ltOf]
  · simp only [ltOf, decide_eq_true_eq] at *; omega
  · simp only [ltOf, decide_eq_false_iff_not] at *; omega
theorem sortf_sl (ho : d.okB) {a : Option Addr} {n c : Nat} {ids : List Nat} (hs : Mem g w (own (.slice a n c) (ids.map (fptr ptr)) :: famC fiC ptr d.fs :: L)) (hid : ∀ x ∈ ids, x ∈ zAh d.fs) (hfn : d.files ≤ 4611686018427387904) (hil : ids.length < 4611686018427387904) :
    Calls Tryz.prog 64 #[.slice a n c, .func (.func 65) #[] #[]] w (Ret fun v w' => v = .tuple #[] ∧ ∃ ids' : List Nat, ids'.Perm ids ∧ ids'.Pairwise (· ≤ ·) ∧ Mem g w' (own (.slice a n c) (ids'.map (fptr ptr)) :: famC fiC ptr d.fs :: L)) := by
  obtain ⟨F, G, ⟨⟨a', n', c', hv, hn, hc, ha, h⟩, hF⟩, ⟨G2, f1, f2, f3, f4, f5⟩, hap⟩ := hs.apart2
  simp only [Value.slice.injEq] at hv
  obtain ⟨rfl, rfl, rfl⟩ := hv
  simp only [List.length_map] at hn
  by_cases h0 : ids = []
  · subst h0
    subst hn
    refine (AnyF.slices_SortFunc_none { Tryz.sortf64 with } a c _ w).mono ?_
    rintro e w' ⟨rfl, rfl⟩
    exact ⟨_, rfl, rfl, [], List.Perm.refl _, List.Pairwise.nil, hs⟩
  have hpos : 0 < ids.length := by cases ids with | nil => exact absurd rfl h0 | cons x l => simp
  rcases h with h | ⟨b, off, cs, E, rfl, hb, hz, hcs⟩
  · omega
  letI : Inhabited {x // x ∈ ids} := ⟨⟨ids.head h0, List.head_mem h0⟩⟩
  have hat : ∀ x ∈ ids, ∃ bx, zB0 ptr x = some bx ∧ fptr ptr x = .pointer (some ⟨bx, 0, none⟩) ∧ bx ≠ b ∧ w.cell? ⟨bx, 0, none⟩ = some (.int .i64 x) := by
    intro x hx
    obtain ⟨f, hf⟩ := zCf (hid x hx)
    obtain ⟨bx, hbx⟩ := zCf (f1 ▸ hid x hx : x ∈ zAh ptr)
    have hok := f2 x bx f id hbx hf
    obtain ⟨v, F1, F2, ⟨k1, k2⟩, k3⟩ := id hok
    refine ⟨bx, hbx, zEh hbx, fun e => ?_, ?_⟩
    · refine hap b ((hF b).2 rfl) ((f5 b).2 ⟨x, ?_⟩)
      obtain ⟨_, _, k6⟩ := k3
      exact (k6 b).2 (.inl ((k2 b).2 e.symm))
    · have := zD4 k1 (i := 0) (v := .int .i64 f.id) (by simp)
      rw [(ho.fid x f hf).1] at this
      exact this
  have hle : ∀ x ∈ ids, x ≤ 4611686018427387904 := fun x hx => by have := ho.key (hid x hx); omega
  have hsz : ids.attach.toArray.size = ids.length := by simp
  have hget : ∀ j (hj : j < ids.length), (ids.attach.toArray[j]!).1 = ids[j] := fun j hj => by rw [getElem!_pos _ _ (by simpa using hj)]; simp
  have key := Any.slices_SortFunc Tryz.sortf64 (fun x : {x // x ∈ ids} => fptr ptr x.1) (fun x => by obtain ⟨bx, _, h, _⟩ := hat x.1 x.2; show (fptr ptr x.1).oneCell' = true; rw [h]; rfl) (fun x y => (x.1 : Int) - y.1) (swo_ids _) 65 #[] b off c ids.attach.toArray w
    en65 (CmpReads.lays fun m os dk hdk x y => by
      obtain ⟨bx, _, hx1, hx2, hx3⟩ := hat x.1 x.2
      obtain ⟨bY, _, hy1, hy2, hy3⟩ := hat y.1 y.2
      simp only [hx1, hy1]
      have hc : ∀ q v, q ≠ b → w.cell? ⟨q, 0, none⟩ = some v → (sortWorld (fun x : {x // x ∈ ids} => fptr ptr x.1) w b off m dk os).cell? ⟨q, 0, none⟩ = some v := fun q v hq hv => by
        obtain ⟨c1, e1, fr, k1, k2⟩ := cells_of_cell? hv
        have := (keeps_sortWorld (fun x : {x // x ∈ ids} => fptr ptr x.1) w b off m dk os).block q (lt_of_block k1) hq
        simp only [World.cell?, this]
        simpa only [World.cell?] using hv
      exact cmp_sl (hc _ _ hx2 hx3) (hc _ _ hy2 hy3) (hle _ x.2) (hle _ y.2))
    (fun j hj => by
      rw [hsz] at hj
      refine ⟨?_, ?_⟩
      · show w.cell? ⟨b, off + j, none⟩ = some (fptr ptr (ids.attach.toArray[j]!).1)
        rw [hget j hj]
        exact zD4 hb (by rw [hcs j (by simpa using hj)]; simp [hj])
      · exact free_at hb)
    (lt_of_block hb) (by rw [hsz]; omega)
  rw [hsz] at key
  subst hn
  refine key.mono ?_
  rintro e w' ⟨rfl, d', m, os, ⟨p1, p2, p3⟩, hso, rfl⟩
  rw [hsz] at p1
  have hperm : (d'.toList.map (·.1)).Perm ids := by
    have h3 := p3.map (·.1)
    simpa [Array.extract_eq_self_of_le, p1] using h3
  refine ⟨_, rfl, rfl, d'.toList.map (·.1), hperm, ?_, ?_⟩
  · rw [List.pairwise_iff_getElem]
    intro i j hi hj hij
    simp only [List.length_map, Array.length_toList] at hi hj
    have := hso i j (Nat.zero_le _) hij (by omega)
    rw [getElem!_pos d' i hi, getElem!_pos d' j hj] at this
    simp only [ltOf, decide_eq_false_iff_not] at this
    simp only [List.getElem_map, Array.getElem_toList]
    omega
  · obtain ⟨F', ⟨g1, g2⟩, g3⟩ := hs.turn (i := 0) rfl
    refine g3 _ _ F' ⟨⟨_, _, c, rfl, by simp [p1], hc, ⟨fun h => (by cases h), fun q hq => ?_⟩, .inr ⟨b, off, putCells (fun x : {x // x ∈ ids} => fptr ptr x.1) off d' cs, E, rfl, heap_sortWorld _ _ _ _ _ _ _ hb, by simpa [putCells] using hz, fun j hj => ?_⟩⟩, g2⟩ (fun _ h => .inl h) ((keeps_sortWorld _ _ _ _ _ _ _).mono fun x _ e => (g2 x).2 (by rw [e]; rfl))
    · cases hq
      exact lt_of_block (heap_sortWorld _ _ _ _ _ _ _ hb)
    · simp only [List.length_map, Array.length_toList] at hj
      simp only [putCells, Array.getElem?_mapIdx]
      rw [hcs j (by simp; omega)]
      simp only [List.getElem?_map, List.getElem?_eq_getElem (show j < ids.length by omega), Option.map_some]
      rw [if_pos ⟨by omega, by omega⟩, show off + j - off = j by omega, getElem!_pos d' j hj]
      simp [hj]
end Go.Proofs.YtdkgdjnbpjjfmaaGreatDoor
namespace Go.Proofs.YtdkgdjnbpjjfmaaGreatDoor
set_option linter.all false
open Go.RowKit
attribute [local irreducible] zAq
variable {g w : World} {L M : List HP} {ad : Nat → Addr} {p mn mk sc : Nat} {sa : Option Addr} {d : Dk} {ptr : List (Nat × Nat)}

/-! ### small words -/
section
variable {P : Program} {ρ : Env} {dst : Option Tmp} {ty : TypeId} {pos : String} {aft : Array Edge}
/-- Two pointers that are there. -/
theorem run_eqpp {x y : Operand} {t e u : TypeId} {a b q : Nat} (ht : P.underlying t = some (.pointer e)) (hsz : (P.info? e).map (·.size) = some q) (hq : q ≠ 0) (hx : ev ρ x = .pointer (some ⟨a, 0, none⟩)) (hy : ev ρ y = .pointer (some ⟨b, 0, none⟩))
    {ca cb : Array Value} {ta tb : TypeId} (ha : w.heap[a]? = some (.cells ca ta (0, 0))) (hb : w.heap[b]? = some (.cells cb tb (0, 0))) :
    (execOp (ev ρ) ⟨dst, .binOp .eql t x y u, ty, pos, aft, none⟩).run P w = .ok (.value (.bool (decide (a = b)))) w := by
  obtain ⟨inf, hinf, hz⟩ := Option.map_eq_some_iff.1 hsz
  have hs : (sizeOf e).run P w = .ok q w := by simp [sizeOf, typeInfo, hinf, hz]
  have he : (Op.equal t (.pointer (some ⟨a, 0, none⟩)) (.pointer (some ⟨b, 0, none⟩))).run P w = .ok (decide (a = b)) w := by
    show (Op.equalIn 10000 _ _ _).run P w = _
    rw [Op.equalIn]
    by_cases h : a = b
    · subst h
      simp [run_underlying ht, hs, hq, run_sameAddr_same]
    · have hne : (⟨a, 0, none⟩ : Addr) ≠ ⟨b, 0, none⟩ := fun e => h (by cases e; rfl)
      have hq2 := run_sameAddr_other (P := P) w hne ha hb
      simp [run_underlying ht, hs, hq, h, hq2]
  simp only [execOp, hx, hy, binOp_eqp]
  simp [guard_ptr, he]
end
theorem Mem.rowForm (hs : Mem g w L) (i : Nat) {k m c : Nat} {a : Option Addr} {rows : List (List Value)} (hi : L[i]? = some (zEk k (.slice a m c) rows)) : m = rows.length ∧ m ≤ c ∧ (c = 0 ∨ ∃ b off, a = some ⟨b, off, none⟩) := by
  obtain ⟨F, ⟨⟨a', n, c', hv, hn, hc, ha, hr, h⟩, _⟩⟩ := hs.read hi
  simp only [Value.slice.injEq] at hv
  obtain ⟨rfl, rfl, rfl⟩ := hv
  refine ⟨hn, hc, ?_⟩
  rcases h with h | ⟨b, off, cs, E, rfl, hb, r⟩
  · exact .inl h
  · exact .inr ⟨b, off, rfl⟩
/-- One cell of a block. -/
def hold (b o : Nat) (v : Value) : HP where
  ok F w := w.cell? ⟨b, o, none⟩ = some v ∧ b < w.heap.size ∧ ∀ x, F x ↔ x = b
  loc := fun {F w w'} ⟨h1, h2, h3⟩ k => by
    have hk := k b ((h3 b).2 rfl)
    refine ⟨?_, lt_keep h2 hk, h3⟩
    simp only [World.cell?] at h1 ⊢
    rw [hk]; exact h1
  lt := fun ⟨_, h2, h3⟩ hb => by rw [(h3 _).1 hb]; exact h2
theorem Mem.hold2 {b : Nat} {x y z : Value} {T : TypeId} (hs : Mem g w (cells b [x, y, z] T :: L)) : Mem g w (hold b 2 z :: L) := by
  have h1 := hs.cellAt 0 rfl (o := 2) rfl
  obtain ⟨F, ⟨g1, g2⟩, g3⟩ := hs.turn (i := 0) rfl
  exact g3 w _ F ⟨h1, lt_of_block g1, g2⟩ (fun _ h => .inl h) (Keeps.refl _ _)
theorem Mem.holdAt (hs : Mem g w L) (i : Nat) {b o : Nat} {v : Value} (hi : L[i]? = some (hold b o v)) : w.cell? ⟨b, o, none⟩ = some v := by
  obtain ⟨F, h, _⟩ := hs.read hi
  exact h
theorem Mem.flBlock (hs : Mem g w L) (k : Nat) {fs : List (Nat × Fl)} (hk : L[k]? = some (famC fiC ptr fs)) {i b : Nat} {f : Fl} (hb : zB0 ptr i = some b) (hf : zB0 fs i = some f) : ∃ cs T, w.heap[b]? = some (.cells cs T (0, 0)) := by
  have h1 := hs.famTake (R := fiC) k hk hb hf
  obtain ⟨a, c, h2⟩ := h1.openF
  obtain ⟨F, h3, _⟩ := h2.read (i := 0) rfl
  exact ⟨_, _, h3⟩
theorem Mem.fl_inj (hs : Mem g w L) (k : Nat) {fs : List (Nat × Fl)} (hk : L[k]? = some (famC fiC ptr fs)) {i j b : Nat} (hi : zB0 ptr i = some b) (hj : zB0 ptr j = some b) : i = j := fam_inj (d := { Dk.empty 0 with fs := fs }) hs k hk hi hj

theorem picked_sl (hs : Mem g w L) {a : Option Addr} {m c : Nat} {picks : List Int} (hr : Rd g L (.slice a m c) (intsL picks)) (hm : m = picks.length) (k n : Nat) (hn : n ≤ 1000000000000) : Calls Tryz.prog 61 #[.slice a m c, .int .i64 k, .int .i64 n] w (Ret fun v w' => v = .int .i64 (zDf picks k n) ∧ Mem g w' L) := by
  subst hm
  by_cases h : picks.length ≤ k
  · have e : zDf picks k n = 0 := by simp [zDf, List.getElem?_eq_none h]
    refine zAl Tryz.func61 rfl rfl ?_
    skip
    refine zA5 (zA1 ?_)
    refine zA rfl (zA2 (v := .int .i64 _) rfl) ?_
    refine zA4 ?_
    refine zA5 ?_
    refine zA5 (zA1 ?_)
    refine zA rfl (zA0 (v := .int .i64 _) rfl) ?_
    refine zA rfl (zA0 (v := .slice _ _ _) rfl) ?_
    refine zA rfl (zAw uz22 rfl) ?_
    refine zA rfl (zCz rfl rfl) ?_
    refine zA4 ?_
    refine zBa rfl (decide_eq_true (by omega)) ?_
    refine zA5 (zA1 ?_)
    refine zA rfl (zA2 (v := .int .i64 _) rfl) ?_
    refine zA4 ?_
    refine zAf ?_
    refine zBj (v := .int .i64 _) rfl rfl ?_
    exact ⟨_, rfl, by rw [e]; rfl, hs⟩
  · obtain ⟨x, hx⟩ : ∃ x, picks[k]? = some x := ⟨_, List.getElem?_eq_getElem (by omega)⟩
    have h1 := Int.tmod_lt_of_pos x (b := (n : Int) + 1) (by omega)
    have h2 : -((n : Int) + 1) < x.tmod (n + 1) := by have h3 := Int.natAbs_tmod x ((n : Int) + 1); have h4 := Nat.mod_lt x.natAbs (y := ((n : Int) + 1).natAbs) (by omega); omega
    have h5 : (x.tmod (n + 1) + n + 1).tmod (n + 1) = x % ((n : Int) + 1) := by
      rw [Int.tmod_eq_emod_of_nonneg (by omega), show x.tmod (n + 1) + n + 1 = x.tmod (n + 1) + (n + 1) * 1 by omega, Int.add_mul_emod_self_left]
      conv => rhs; rw [← Int.tmod_add_mul_tdiv x ((n : Int) + 1)]
      rw [Int.add_mul_emod_self_left]
    have h6 := Int.emod_nonneg x (b := (n : Int) + 1) (by omega)
    have e : ((zDf picks k n : Nat) : Int) = x % ((n : Int) + 1) := by simp only [zDf, hx]; omega
    obtain ⟨b, off, rfl, _⟩ := hr.cells' hs (by rw [intsL_len]; omega)
    refine zAl Tryz.func61 rfl rfl ?_
    skip
    refine zA5 (zA1 ?_)
    refine zA rfl (zA2 (v := .int .i64 _) rfl) ?_
    refine zA4 ?_
    refine zA5 ?_
    refine zA5 (zA1 ?_)
    refine zA rfl (zA0 (v := .int .i64 _) rfl) ?_
    refine zA rfl (zA0 (v := .slice _ _ _) rfl) ?_
    refine zA rfl (zAw uz22 rfl) ?_
    refine zA rfl (zCz rfl rfl) ?_
    refine zA4 ?_
    refine zAv rfl (decide_eq_false (by omega)) ?_
    refine zAd ?_
    refine zA5 (zA1 ?_)
    refine zA rfl (zA0 (v := .slice _ _ _) rfl) ?_
    refine zA rfl (zA0 (v := .int .i64 _) rfl) ?_
    refine zA rfl (zBl uz22 sz3 rfl rfl rfl (by omega) rfl) ?_
    refine zA rfl (zA7 uz3 rfl rfl (hr.cellAt hs (intsL_at hx))) ?_
    refine zA rfl (zA0 (v := .int .i64 _) rfl) ?_
    refine zA rfl (zAn rfl rfl rfl (inI (by omega) (by omega))) ?_
    refine zA rfl (run_rem rfl rfl (by omega)) ?_
    refine zA rfl (zA0 (v := .int .i64 _) rfl) ?_
    refine zA rfl (zAn rfl rfl rfl (inI (by omega) (by omega))) ?_
    refine zA rfl (zAn rfl rfl rfl (inI (by omega) (by omega))) ?_
    refine zA rfl (zA0 (v := .int .i64 _) rfl) ?_
    refine zA rfl (zAn rfl rfl rfl (inI (by omega) (by omega))) ?_
    refine zA rfl (run_rem rfl rfl (by omega)) ?_
    refine zA rfl (zA2 (v := .int .i64 _) rfl) ?_
    refine zA4 ?_
    refine zAf ?_
    refine zBj (v := .int .i64 _) rfl rfl ?_
    exact ⟨_, rfl, by rw [e, ← h5], hs⟩
theorem index_sl (ho : d.okB) {fs : List (Nat × Fl)} (hs : Mem g w L) (k : Nat) (hk : L[k]? = some (famC fiC ptr fs)) {a : Option Addr} {n c : Nat} {ids : List Nat} (hr : Rd g L (.slice a n c) (ids.map (fptr ptr))) (hn : n = ids.length) (hil : ids.length ≤ 1000000000) (hid : ∀ x ∈ ids, x ∈ zAh fs) {i b : Nat} (hi : i ∈ zAh fs) (hb : zB0 ptr i = some b) :
    Calls Tryz.prog 104 #[.slice a n c, .pointer (some ⟨b, 0, none⟩)] w (Ret fun v w' => ∃ z : Int, v = .int .i64 z ∧ (0 ≤ z ↔ i ∈ ids) ∧ Mem g w' L) := by
  subst hn
  have hptr : ∀ j ∈ zAh fs, ∃ bj fj, zB0 ptr j = some bj ∧ zB0 fs j = some fj := fun j hj => by
    obtain ⟨fj, hfj⟩ := zCf hj
    obtain ⟨bj, hbj⟩ := zCf ((hs.famKeys k hk) ▸ hj : j ∈ zAh ptr)
    exact ⟨bj, fj, hbj, hfj⟩
  refine zAl Tryz.func104 rfl rfl ?_
  skip
  refine zA5 (zA1 ?_)
  refine zA rfl (zA2 (v := .int .i64 _) rfl) ?_
  refine zA4 ?_
  refine zA5 ?_
  refine zA5 (zA1 ?_)
  refine zA rfl (zA0 (v := .slice _ _ _) rfl) ?_
  refine zA rfl (zAw uz122 rfl) ?_
  refine zA rfl (zA0 (v := .int .i64 _) rfl) ?_
  refine zA4 ?_
  refine zAt ?_
  refine zBs (X := Nat) [4, 5, 8, 9, 10, 11, 12, 13, 14, 15, 16, 17, 18] (fun q => [(8, .int .i64 (q : Nat))]) (fun q w => q ≤ ids.length ∧ i ∉ ids.take q ∧ Mem g w L) (fun q => ids.length - q) (0) ?_ ?_ ?_
  · exact ⟨rfl, trivial⟩
  · exact ⟨Nat.zero_le _, by simp, hs⟩
  clear hs
  rintro x ξ w hI
  obtain ⟨hq, hni, hs⟩ := hI
  refine zA5 (zA1 ?_)
  refine zA rfl (zB4 rfl rfl) ?_
  refine zA4 ?_
  refine zA5 ?_
  refine zB7 rfl ?_ ?_
  ·
   intro h9
   have g9 := of_decide_eq_true h9
   obtain ⟨xi, hxi⟩ : ∃ xi, ids[x]? = some xi := ⟨_, List.getElem?_eq_getElem (by omega)⟩
   obtain ⟨bj, fj, hbj, hfj⟩ := hptr xi (hid xi (List.mem_of_getElem? hxi))
   obtain ⟨_, fi, _, hfi⟩ := hptr i hi
   obtain ⟨b1, o1, rfl, _⟩ := hr.cells' hs (by rw [List.length_map]; omega)
   obtain ⟨c1, T1, hc1⟩ := hs.flBlock k hk hb hfi
   obtain ⟨c2, T2, hc2⟩ := hs.flBlock k hk hbj hfj
   refine zAd ?_
   refine zA5 ?_
   refine zAt ?_
   refine zA5 (zA1 ?_)
   refine zA rfl (zA0 (v := .int .i64 _) rfl) ?_
   refine zA rfl (zA2 (v := .int .i64 _) rfl) ?_
   refine zA4 (zA5 (zA1 ?_))
   refine zA rfl (zA0 (v := .pointer (some _)) rfl) ?_
   refine zA rfl (zA0 (v := .slice _ _ _) rfl) ?_
   refine zA rfl (zA0 (v := .int .i64 _) rfl) ?_
   refine zA rfl (zBl uz122 sz90 rfl rfl rfl (by omega) rfl) ?_
   refine zA rfl (zA7 (v := .pointer (some ⟨bj, 0, none⟩)) uz90 rfl rfl (hr.cellAt hs (by rw [List.getElem?_map, hxi, Option.map_some, zEh hbj]))) ?_
   refine zA rfl (run_eqpp uz90 sz94 (by decide) rfl rfl hc1 hc2) ?_
   refine zA4 ?_
   refine zB7 rfl ?_ ?_
   ·
    intro h16
    refine zA5 (zA1 ?_)
    refine zA rfl (zA0 (v := .int .i64 _) rfl) ?_
    refine zA rfl (zA2 (v := .int .i64 _) rfl) ?_
    refine zA4 ?_
    refine zAf ?_
    refine zBj (v := .int .i64 _) rfl rfl ?_
    have e := of_decide_eq_true h16
    subst e
    have e2 := hs.fl_inj k hk hb hbj
    subst e2
    exact ⟨_, rfl, _, rfl, ⟨fun _ => List.mem_of_getElem? hxi, fun _ => by omega⟩, hs⟩
   ·
    intro h16
    refine zAd ?_
    refine zA1 ?_
    refine zA rfl (zAn rfl rfl rfl (inI (by omega) (by omega))) ?_
    refine zA rfl (zA0 (v := .int .i64 _) rfl) ?_
    refine zA4 ?_
    refine ⟨x + 1, by omega, ⟨by omega, ?_, hs⟩, ⟨rfl, trivial⟩, by repeat (first | exact Out.mix _ _ _ | refine Out.updo rfl ?_ | refine Out.upd rfl ?_ | refine Out.mixIn rfl ?_)⟩
    rw [List.take_add_one, hxi]
    simp only [Option.toList_some, List.mem_append, List.mem_cons, List.not_mem_nil, or_false, not_or]
    exact ⟨hni, fun e => (of_decide_eq_false h16) (by subst e; rw [hb] at hbj; cases hbj; rfl)⟩
  ·
   intro h9
   have g9 := of_decide_eq_false h9
   refine zBk rfl ?_
   refine zA5 (zA1 ?_)
   refine zA rfl (zA2 (v := .int .i64 _) rfl) ?_
   refine zA4 ?_
   refine zAf ?_
   refine zBj (v := .int .i64 _) rfl rfl ?_
   have e : x = ids.length := by omega
   subst e
   rw [List.take_of_length_le (Nat.le_refl _)] at hni
   exact ⟨_, rfl, _, rfl, ⟨fun h => absurd h (by omega), fun h => absurd h hni⟩, hs⟩
theorem contains_sl (ho : d.okB) {fs : List (Nat × Fl)} (hs : Mem g w L) (k : Nat) (hk : L[k]? = some (famC fiC ptr fs)) {a : Option Addr} {n c : Nat} {ids : List Nat} (hr : Rd g L (.slice a n c) (ids.map (fptr ptr))) (hn : n = ids.length) (hil : ids.length ≤ 1000000000) (hid : ∀ x ∈ ids, x ∈ zAh fs) {i b : Nat} (hi : i ∈ zAh fs) (hb : zB0 ptr i = some b) :
    Calls Tryz.prog 63 #[.slice a n c, .pointer (some ⟨b, 0, none⟩)] w (Ret fun v w' => v = .bool (decide (i ∈ ids)) ∧ Mem g w' L) := by
  refine zAl Tryz.func63 rfl rfl ?_
  skip
  refine zA5 (zA1 ?_)
  refine zA rfl (zA2 (v := .bool _) rfl) ?_
  refine zA4 (zA5 (zA1 ?_))
  refine zA rfl (zA0 (v := .slice _ _ _) rfl) ?_
  refine zA rfl (zA0 (v := .pointer (some _)) rfl) ?_
  refine zA9 rfl en104 (index_sl ho hs k hk hr hn hil hid hi hb) ?_
  clear hs
  rintro _ w ⟨z, rfl, hz, hs⟩
  refine zA rfl (zCz rfl rfl) ?_
  refine zA rfl (zA2 (v := .bool _) rfl) ?_
  refine zA4 ?_
  refine zAf ?_
  refine zBj (v := .bool _) rfl rfl ?_
  refine ⟨_, rfl, zCs ?_, hs⟩
  by_cases hm : i ∈ ids
  · rw [decide_eq_true hm]; exact decide_eq_true (hz.2 hm)
  · rw [decide_eq_false hm]; exact decide_eq_false (fun h => hm (hz.1 h))
theorem syncDir_sl (hE : ErrK ad g) (hs : Mem g w (zBn p d :: L)) (hcl : d.calls < 1000000) {k : Nat} {d2 : Dk} (hk : d.syncDir = (k, d2)) : Calls Tryz.prog 35 #[.pointer (some ⟨p, 0, none⟩)] w (Ret fun v w' => v = zAq ad k ∧ Mem g w' (zBn p d2 :: L)) := by
  obtain ⟨ho, mn, mk, sa, sc, ptr, hs⟩ := hs.openD
  have hb := d.begin_same
  have hbc := d.begin_code
  have ho1 := ho.begin
  refine zAl Tryz.func35 rfl rfl ?_
  skip
  refine zA5 (zA1 ?_)
  refine zA rfl (zA2 (v := .nilIface) rfl) ?_
  refine zA4 ?_
  refine zA5 ?_
  refine zA5 (zA1 ?_)
  refine zA rfl (zA0 (v := .pointer (some _)) rfl) ?_
  refine zA9 rfl en73 (begin_sl hE ho hs) ?_
  clear hs
  rintro _ w ⟨rfl, hs⟩
  refine zA rfl (zA2 (v := zAq ad _) rfl) ?_
  refine zA4 (zA5 (zA1 ?_))
  refine zA rfl (zA0 (v := zAq ad _) rfl) ?_
  refine zA rfl (zAy (ad := ad) rfl) ?_
  refine zA4 ?_
  refine zB7 rfl ?_ ?_
  ·
   intro h7
   have g7 := ne_t h7
   refine zA5 (zA1 ?_)
   refine zA rfl (zA0 (v := zAq ad _) rfl) ?_
   refine zA rfl (zA2 (v := zAq ad _) rfl) ?_
   refine zA4 ?_
   refine zAf ?_
   refine zBj (v := zAq ad _) rfl rfl ?_
   have hb1 : d.begin.1 ≠ 0 := by simpa using h7
   have e : d.syncDir = (110, d.begin.2) := by simp [Dk.syncDir, hb1]
   rw [e] at hk
   cases hk
   rw [show d.begin.1 = 110 by omega]
   exact ⟨_, rfl, rfl, Mem.closeD ho1 hs⟩
  ·
   intro h7
   have g7 := ne_f h7
   refine zAd ?_
   refine zA5 (zA1 ?_)
   refine zA rfl (zA0 (v := .pointer (some _)) rfl) ?_
   refine zA rfl (zA0 (v := .pointer (some _)) rfl) ?_
   refine zA rfl (zA0 (v := .pointer (some _)) rfl) ?_
   refine zA rfl (zA8 rfl) ?_
   refine zA rfl (zA3 (o' := 1) zEn rfl sz69 rfl rfl rfl) ?_
   refine zA rfl (zA7 uz69 rfl rfl (hs.cellAt 0 rfl rfl)) ?_
   refine zA9 rfl en66 (mclone_sl hs 1 rfl) ?_
   clear hs
   rintro _ w ⟨m15, rfl, hs⟩
   refine zA rfl (zA8 rfl) ?_
   refine zA rfl (zA3 (o' := 2) zEn rfl sz69 rfl rfl rfl) ?_
   refine zAs (v := .map _) hs 1 rfl sz69 rfl rfl rfl rfl ?_
   clear hs
   intro w hs
   try simp only [List.set_cons_succ, List.set_cons_zero] at hs
   refine zA rfl (zA8 rfl) ?_
   refine zA rfl (zA3 (o' := 3) zEn rfl sz70 rfl rfl rfl) ?_
   refine zAs (v := .slice _ _ _) hs 1 rfl sz70 rfl rfl rfl rfl ?_
   clear hs
   intro w hs
   try simp only [List.set_cons_succ, List.set_cons_zero] at hs
   refine zA4 (zA5 (zA1 ?_))
   refine zA rfl (zA0 (v := .pointer (some _)) rfl) ?_
   refine zA rfl (zA8 rfl) ?_
   refine zA rfl (zA3 (o' := 7) zEn rfl sz3 rfl rfl rfl) ?_
   refine zA rfl (zA7 uz3 rfl rfl (hs.cellAt 1 rfl rfl)) ?_
   refine zA rfl (zAn rfl rfl rfl (inI (by omega) (by omega))) ?_
   refine zA rfl (zA8 rfl) ?_
   refine zA rfl (zA3 (o' := 7) zEn rfl sz3 rfl rfl rfl) ?_
   refine zAs (v := .int .i64 _) hs 1 rfl sz3 rfl rfl rfl rfl ?_
   clear hs
   intro w hs
   try simp only [List.set_cons_succ, List.set_cons_zero] at hs
   refine zA4 (zA5 (zA1 ?_))
   refine zA rfl (zA2 (v := .nilIface) rfl) ?_
   refine zA4 ?_
   refine zAf ?_
   refine zBj (v := .nilIface) rfl rfl ?_
   have hb1 : d.begin.1 = 0 := by simpa using h7
   have e : d.syncDir = (0, { d.begin.2 with kept := d.begin.2.names, changes := [], calls := d.begin.2.calls + 1 }) := by simp [Dk.syncDir, hb1]
   rw [e] at hk
   cases hk
   exact ⟨_, rfl, (zB2 ad).symm, Mem.closeD (mn := mn) (mk := m15) (sa := none) (sc := 0) (ptr := ptr) ho1.syncDir ((hs.addE (rows_nil _)).arr [2, 3, 1, 0, 6] 7 (by decide))⟩
end Go.Proofs.YtdkgdjnbpjjfmaaGreatDoor
namespace Go.Proofs.YtdkgdjnbpjjfmaaGreatDoor
set_option linter.all false
open Go.RowKit
attribute [local irreducible] zAq
variable {g w : World} {L M : List HP} {ad : Nat → Addr} {p mn mk sc : Nat} {sa : Option Addr} {d : Dk} {ptr : List (Nat × Nat)}

theorem nmV_nil {l : List (ByteArray × Nat)} (h : nmV ptr l = []) : l = [] := by
  cases l with
  | nil => rfl
  | cons x l => simp [nmV] at h
theorem adel_has {κ α : Type} [DecidableEq κ] : ∀ {l : List (κ × α)} {k : κ} {v : α} {y : κ × α}, zB0 l k = some v → y ∈ l → y ∈ zDq l k ∨ y.2 = v
  | (a, b) :: l, k, v, y, h, hy => by
    simp only [zB0] at h
    simp only [zDq]
    split at h
    · rename_i e
      rw [if_pos e]
      cases h
      rcases List.mem_cons.1 hy with rfl | hy
      · exact .inr rfl
      · exact .inl hy
    · rename_i e
      rw [if_neg e]
      rcases List.mem_cons.1 hy with rfl | hy
      · exact .inl (List.mem_cons_self ..)
      · rcases adel_has h hy with h | h
        · exact .inl (List.mem_cons_of_mem _ h)
        · exact .inr h
theorem Dk.ok.ids_len (ho : d.ok) {ids : List Nat} (hn : ids.Nodup) (hid : ∀ x ∈ ids, x ∈ zAh d.fs) : ids.length ≤ d.calls := by
  have h1 : ids.length ≤ ((List.range d.files).map (· + 1)).length := hn.length_le_of_subset fun x hx => by
    have := ho.key (hid x hx)
    exact List.mem_map.2 ⟨x - 1, List.mem_range.2 (by omega), by omega⟩
  have h2 := ho.fcl
  simp at h1
  omega
theorem crash_sl (hs : Mem g w (zBn p d :: L)) (hcl : d.calls < 1000000) {a : Option Addr} {m c : Nat} {picks : List Int} (hr : Rd g L (.slice a m c) (intsL picks)) (hm : m = picks.length) (hpl : picks.length ≤ 1000000000) : Calls Tryz.prog 32 #[.pointer (some ⟨p, 0, none⟩), .slice a m c] w (Ret fun v w' => v = .tuple #[] ∧ Mem g w' (zBn p (d.crash picks) :: L)) := by
  obtain ⟨ho, mn, mk, sa, sc, ptr, hs⟩ := hs.openD
  have hkl := ho.kl
  have hfc := ho.fcl
  obtain ⟨q, hq⟩ : ∃ q, q = zDf picks 0 d.changes.length := ⟨_, rfl⟩
  have hqle : q ≤ d.changes.length := hq ▸ pickN_le _ _ _
  obtain ⟨kept, hkept⟩ : ∃ kept, kept = zC1 d.kept (d.changes.take q) := ⟨_, rfl⟩
  have hprops := applyAll_props (cs := d.changes.take q) (l := d.kept) (S := fun i => i ∈ zAh d.fs) ho.knd ho.kin fun c hc i hi => ho.cin c (List.mem_of_mem_take hc) i hi
  rw [← hkept] at hprops
  have hptr : ∀ j ∈ zAh d.fs, ∃ bj, zB0 ptr j = some bj ∧ fptr ptr j = .pointer (some ⟨bj, 0, none⟩) ∧ zB0 d.fs j = some (d.fl j) := fun j hj => ho.ptrOf hs 4 rfl hj
  have hfid := ho.fid
  obtain ⟨hrn, hrc, hra⟩ := hs.rowForm 3 rfl
  refine zAl Tryz.func32 rfl rfl ?_
  skip
  refine zA5 ?_
  refine zA5 ?_
  refine zAz zBx hs ?_
  intro w tr hK
  replace hs := tr _ hs
  clear tr
  refine zA6 0 rfl rfl (fun w hs => zA0 (v := .pointer (some _)) rfl) hK ?_
  refine zA6 1 rfl rfl (fun w hs => zA8 rfl) hK ?_
  refine zA6 2 rfl rfl (fun w hs => zA3 (o' := 3) zEn rfl sz70 rfl rfl rfl) hK ?_
  refine zA6 3 rfl rfl (fun w hs => zA7 uz70 rfl rfl (hs.cellAt 0 rfl rfl)) hK ?_
  refine zA6 4 rfl rfl (fun w hs => zA0 (v := .slice _ _ _) rfl) hK ?_
  refine zA6 5 rfl rfl (fun w hs => zA0 (v := .pointer (some _)) rfl) hK ?_
  refine zA6 6 rfl rfl (fun w hs => zA8 rfl) hK ?_
  refine zA6 7 rfl rfl (fun w hs => zA3 (o' := 3) zEn rfl sz70 rfl rfl rfl) hK ?_
  refine zA6 8 rfl rfl (fun w hs => zA7 uz70 rfl rfl (hs.cellAt 0 rfl rfl)) hK ?_
  refine zA6 9 rfl rfl (fun w hs => zAw uz70 rfl) hK ?_
  refine zA6 13 rfl rfl (fun w hs => zA0 (v := .int .i64 _) rfl) hK ?_
  refine zAb [10] ?_
  refine ⟨⟨_, rfl, ?_⟩, trivial⟩
  refine zA9 rfl en61 (picked_sl hs (((((hr.cons).cons).cons).cons).cons) hm 0 d.changes.length (by omega)) ?_
  clear hs
  rintro _ w ⟨rfl, hs⟩
  rw [← hq]
  clear hK
  have hK := hs
  refine zA4 ⟨hK, ?_⟩
  refine zA6 11 rfl rfl (fun w hs => run_sliceToK uz70 sz120 rfl rfl (hi := q) rfl (by omega) hra) hK ?_
  refine zA6 12 rfl rfl (fun w hs => zAw uz70 rfl) hK ?_
  refine zAu (by kernel_rfl) ?_
  clear hK
  refine zAt ?_
  refine zBs (X := Nat) [5, 24, 25, 26, 27, 28, 29, 30, 31, 32, 33, 34] (fun k => [(24, .int .i64 (k : Nat))]) (fun k w => k ≤ q ∧ Mem g w (cells p (diskL mn mk d sa sc) 72 :: mapS mn (nmV ptr d.names) :: mapS mk (nmV ptr (zC1 d.kept (d.changes.take k))) :: zEk 3 (.slice sa d.changes.length sc) (d.changes.map (chgV ptr)) :: famC fiC ptr d.fs :: L)) (fun k => q - k) (0) ?_ ?_ ?_
  · exact ⟨rfl, trivial⟩
  · exact ⟨Nat.zero_le _, hs⟩
  clear hs
  rintro x ξ w hI
  obtain ⟨hk, hs⟩ := hI
  refine zA5 (zA1 ?_)
  refine zA rfl (zB4 rfl rfl) ?_
  refine zA4 ?_
  refine zA5 ?_
  refine zB7 rfl ?_ ?_
  ·
   intro h25
   have g25 := of_decide_eq_true h25
   obtain ⟨ch, hch⟩ : ∃ ch, d.changes[x]? = some ch := ⟨_, List.getElem?_eq_getElem (by omega)⟩
   have hpc : ∀ i, ch.f = some i → ∃ b, zB0 ptr i = some b := fun i hi => by obtain ⟨b, hb, _⟩ := hptr i (ho.cin ch (List.mem_of_getElem? hch) i hi); exact ⟨b, hb⟩
   obtain ⟨PP, hrow, hPP⟩ := row_form hpc
   obtain ⟨rb, ro, rfl⟩ : ∃ rb ro, sa = some ⟨rb, ro, none⟩ := hra.elim (fun h => by omega) (fun ⟨b, o, h⟩ => ⟨b, o, h⟩)
   refine zAd ?_
   refine zA5 ?_
   refine zAt ?_
   refine zA5 (zA1 ?_)
   refine zA rfl (zAx uz70 sz120 rfl rfl rfl (by omega) rfl) ?_
   refine zA rfl (zCw (cs := [.string ch.name, .string ch.gone, PP]) zF4 sz120 rfl (hs.rowAt 3 rfl (q := x) (by rw [List.getElem?_map, hch, Option.map_some, hrow]))) ?_
   refine zBd hs rfl ze120 ?_
   clear hs
   intro b5 w hs
   try simp only [List.set_cons_succ, List.set_cons_zero] at hs
   refine zAp (vs := [.string ch.name, .string ch.gone, PP]) hs 0 rfl rfl rfl sz120 rfl (by simp only [List.all_cons, List.all_nil, hPP]; rfl) ?_
   clear hs
   intro w hs
   simp only [List.set_cons_succ, List.set_cons_zero] at hs
   refine zA4 ?_
   refine zAz zBx (hs.drop 3) ?_
   intro w tr hK
   replace hs := tr _ hs
   clear tr
   refine zA6 0 rfl rfl (fun w hs => zA0 (v := .pointer (some _)) rfl) hK ?_
   refine zA6 1 rfl rfl (fun w hs => zA8 rfl) hK ?_
   refine zA6 2 rfl rfl (fun w hs => zA3 (o' := 2) zEn rfl sz69 rfl rfl rfl) hK ?_
   refine zA6 3 rfl rfl (fun w hs => zA7 uz69 rfl rfl (hs.cellAt 1 rfl rfl)) hK ?_
   refine zA6 4 rfl rfl (fun w hs => zB3 hs 0 rfl zF4 sz120 rfl) hK ?_
   refine zAb [5] ?_
   refine ⟨⟨_, rfl, ?_⟩, trivial⟩
   refine zA9 rfl en62 (dapply_sl (l := zC1 d.kept (d.changes.take x)) (hs.arr [3, 0, 1, 2, 4, 5] 6 (by decide)) ch hpc hrow) ?_
   clear hs
   rintro _ w ⟨rfl, hs⟩
   clear hK
   have hK := hs.tail
   refine zA4 ⟨hK, ?_⟩
   refine zAu (by kernel_rfl) ?_
   clear hK
   refine zA1 ?_
   refine zA rfl (zAn rfl rfl rfl (inI (by omega) (by omega))) ?_
   refine zA rfl (zA0 (v := .int .i64 _) rfl) ?_
   refine zA4 ?_
   exact ⟨x + 1, by omega, ⟨by omega, by rw [applyAll_take hch]; exact hs.arr [2, 3, 0, 4, 5] 6 (by decide)⟩, ⟨rfl, trivial⟩, by repeat (first | exact Out.mix _ _ _ | refine Out.updo rfl ?_ | refine Out.upd rfl ?_ | refine Out.mixIn rfl ?_)⟩
  ·
   intro h25
   have g25 := of_decide_eq_false h25
   obtain rfl : x = q := by omega
   rw [← hkept] at hs
   refine zBk rfl ?_
   refine zA5 (zA1 ?_)
   refine zA rfl (zA2 (v := .slice _ _ _) rfl) ?_
   refine zA4 ?_
   refine zA5 ?_
   refine zA5 (zA1 ?_)
   refine zA rfl (zA0 (v := .pointer (some _)) rfl) ?_
   refine zA rfl (zA8 rfl) ?_
   refine zA rfl (zA3 (o' := 2) zEn rfl sz69 rfl rfl rfl) ?_
   refine zA rfl (zA7 uz69 rfl rfl (hs.cellAt 0 rfl rfl)) ?_
   refine lw_rangeM hs rfl 2 rfl uz69 rfl ?_
   clear hs
   intro r39 w hs
   try simp only [List.set_cons_succ, List.set_cons_zero] at hs
   refine zA4 ?_
   refine zAt ?_
   refine zBs (X := List Nat × List (ByteArray × Nat) × Option (ByteArray × Value) × Option Addr × Nat) [6, 8, 40, 41, 42, 43, 44, 45, 46, 47, 48, 49, 50, 51] (fun x => [(6, .slice x.2.2.2.1 x.1.length x.2.2.2.2)]) (fun x w => x.1.Nodup ∧ (∀ y ∈ kept, y ∈ x.2.1 ∨ y.2 ∈ x.1) ∧ (∀ i ∈ x.1, ∃ y ∈ kept, y.2 = i) ∧ (∀ y ∈ x.2.1, y ∈ kept) ∧ Mem g w (own (.slice x.2.2.2.1 x.1.length x.2.2.2.2) (x.1.map (fptr ptr)) :: cells p (diskL mn mk d sa sc) 72 :: mapS mn (nmV ptr d.names) :: rngC Value.string r39 mk (nmV ptr kept) (nmV ptr x.2.1) x.2.2.1 :: zEk 3 (.slice sa d.changes.length sc) (d.changes.map (chgV ptr)) :: famC fiC ptr d.fs :: L)) (fun x => x.2.1.length) (([], kept, none, none, 0)) ?_ ?_ ?_
   · exact ⟨rfl, trivial⟩
   · exact ⟨List.nodup_nil, fun y hy => .inl hy, fun i hi => by simp at hi, fun y hy => hy, hs.addE (zE3 _)⟩
   clear hs
   rintro x ξ w hI
   obtain ⟨ids, lo, cur, la, lc⟩ := x
   obtain ⟨hnd, hall, hfrom, hlo, hs⟩ := hI
   simp only at hnd hall hfrom hlo hs
   have hik : ∀ i ∈ ids, i ∈ zAh d.fs := fun i hi => by obtain ⟨y, hy, rfl⟩ := hfrom i hi; exact hprops.2.1 y hy
   have hil := ho.ids_len hnd hik
   show cw _ _ _ _ _ _ (updL (mix _ ξ _) [(6, .slice la ids.length lc)]) w
   refine zA5 (zA1 ?_)
   refine lw_nextM hs rfl 3 rfl zFi.inj rfl ?_ ?_
   ·
    intro hl40
    obtain rfl := nmV_nil hl40
    replace hs := hs.rngd 3 rfl
    have hmem : ∀ i, i ∈ ids ↔ i ∈ kept.map (·.2) := fun i => ⟨fun h => by obtain ⟨y, hy, rfl⟩ := hfrom i h; exact List.mem_map_of_mem hy, fun h => by obtain ⟨y, hy, rfl⟩ := List.mem_map.1 h; exact (hall y hy).elim (fun h => by simp at h) id⟩
    refine zA rfl (zAa (v := .bool _) rfl rfl) ?_
    refine zA4 ?_
    refine zA5 ?_
    refine zAv rfl rfl ?_
    refine zBk rfl ?_
    refine zA5 (zA1 ?_)
    refine zA rfl (zA0 (v := .slice _ _ _) rfl) ?_
    refine zA9 rfl en64 (sortf_sl ho.tookB (hs.arr [0, 5, 1, 2, 3, 4] 6 (by decide)) hik (by omega) (by omega)) ?_
    clear hs
    rintro _ w ⟨rfl, ids', hperm, hrise, hs⟩
    have hids := ids_eq ho.tookB hprops.2.1 hperm hrise hnd hmem
    have hnd' : ids'.Nodup := hperm.symm.nodup hnd
    have hik' : ∀ i ∈ ids', i ∈ zAh d.fs := fun i hi => hik i (hperm.mem_iff.1 hi)
    have hlen' := hperm.length_eq
    refine zA4 ?_
    refine zA5 ?_
    refine zA5 (zA1 ?_)
    refine zA rfl (zA0 (v := .slice _ _ _) rfl) ?_
    refine zA rfl (zAw uz122 rfl) ?_
    refine zA rfl (zA0 (v := .int .i64 _) rfl) ?_
    refine zA4 ?_
    refine zAt ?_
    refine zBs (X := Nat) [9, 10, 56, 57, 58, 59, 60, 61, 62, 63, 64, 65, 66, 67, 68, 69, 70, 71, 72, 73, 74, 75, 76, 77, 78, 79, 80, 81, 82, 83, 84, 85, 86, 87, 88, 89, 90, 91, 92, 93, 94, 95, 96, 97] (fun k => [(56, .int .i64 (k : Nat))]) (fun k w => k ≤ ids'.length ∧ Mem g w (own (.slice la ids.length lc) (ids'.map (fptr ptr)) :: famC fiC ptr (zC5 picks 0 (ids'.take k) d.fs) :: cells p (diskL mn mk d sa sc) 72 :: mapS mn (nmV ptr d.names) :: mapS mk (nmV ptr kept) :: zEk 3 (.slice sa d.changes.length sc) (d.changes.map (chgV ptr)) :: L)) (fun k => ids'.length - k) (0) ?_ ?_ ?_
    · exact ⟨rfl, trivial⟩
    · exact ⟨Nat.zero_le _, hs⟩
    clear hs
    rintro x ξ w hI
    obtain ⟨hk3, hs⟩ := hI
    refine zA5 (zA1 ?_)
    refine zA rfl (zB4 rfl rfl) ?_
    refine zA4 ?_
    refine zA5 ?_
    refine zB7 rfl ?_ ?_
    ·
     intro h57
     have g57 := of_decide_eq_true h57
     obtain ⟨i, hi⟩ : ∃ i, ids'[x]? = some i := ⟨_, List.getElem?_eq_getElem (by omega)⟩
     obtain ⟨b, hb, hp, hf⟩ := hptr i (hik' i (List.mem_of_getElem? hi))
     have hfl := hfid i _ hf
     obtain ⟨lb, lo2, rfl, _⟩ := hs.ownCells 0 rfl (by rw [List.length_map]; omega)
     have hni : i ∉ ids'.take x := fun hm => by obtain ⟨j, hj, e⟩ := List.mem_iff_getElem.1 hm; simp only [List.length_take] at hj; rw [List.getElem_take] at e; have h1 := List.getElem?_eq_some_iff.1 hi; exact absurd ((List.getElem_inj hnd').1 (e.trans h1.2.symm)) (by omega)
     have hf2 : zB0 (zC5 picks 0 (ids'.take x) d.fs) i = some (d.fl i) := by rw [zG2 _ _ _ hni]; exact hf
     refine zAd ?_
     refine zA5 ?_
     refine zAt ?_
     refine zA5 (zA1 ?_)
     refine zA rfl (zA0 (v := .int .i64 _) rfl) ?_
     refine zA rfl (zBl uz122 sz90 rfl rfl rfl (by omega) rfl) ?_
     refine zA rfl (zA7 (v := .pointer (some ⟨b, 0, none⟩)) uz90 rfl rfl (hs.ownAt 0 rfl (by rw [List.getElem?_map, hi, Option.map_some, hp]))) ?_
     refine zA rfl (zA2 (v := .int .i64 _) rfl) ?_
     refine zA rfl (zA2 (v := .pointer (some _)) rfl) ?_
     refine zA4 ?_
     refine zA5 ?_
     replace hs := hs.famTake (R := fiC) 1 rfl hb hf2
     obtain ⟨fa, fc, hs⟩ := hs.openF
     have hfc2 := (hs.ownForm 1 rfl).2.1
     have hpk := pickN_le picks (x + 1) ((d.fl i).b.length - (d.fl i).syn)
     refine zAz zBx hs.hold2 ?_
     intro w tr hK
     replace hs := tr _ hs
     clear tr
     refine zA6 0 rfl rfl (fun w hs => zA0 (v := .pointer (some _)) rfl) hK ?_
     refine zA6 1 rfl rfl (fun w hs => zA0 (v := .pointer (some _)) rfl) hK ?_
     refine zA6 2 rfl rfl (fun w hs => zA8 rfl) hK ?_
     refine zA6 3 rfl rfl (fun w hs => zA3 (o' := 1) uz94 rfl sz23 rfl rfl rfl) hK ?_
     refine zA6 5 rfl rfl (fun w hs => zA0 (v := .pointer (some _)) rfl) hK ?_
     refine zA6 6 rfl rfl (fun w hs => zA8 rfl) hK ?_
     refine zA6 7 rfl rfl (fun w hs => zA3 (o' := 2) uz94 rfl sz3 rfl rfl rfl) hK ?_
     refine zA6 8 rfl rfl (fun w hs => zA7 uz3 rfl rfl (hs.holdAt 0 rfl)) hK ?_
     refine zA6 9 rfl rfl (fun w hs => zA0 (v := .slice _ _ _) rfl) hK ?_
     refine zA6 10 rfl rfl (fun w hs => zA0 (v := .int .i64 _) rfl) hK ?_
     refine zA6 11 rfl rfl (fun w hs => zAn rfl rfl rfl (inI (by omega) (by omega))) hK ?_
     refine zA6 12 rfl rfl (fun w hs => zA0 (v := .pointer (some _)) rfl) hK ?_
     refine zA6 13 rfl rfl (fun w hs => zA8 rfl) hK ?_
     refine zA6 14 rfl rfl (fun w hs => zA3 (o' := 1) uz94 rfl sz23 rfl rfl rfl) hK ?_
     refine zA6 17 rfl rfl (fun w hs => zA0 (v := .pointer (some _)) rfl) hK ?_
     refine zA6 18 rfl rfl (fun w hs => zA8 rfl) hK ?_
     refine zA6 19 rfl rfl (fun w hs => zA3 (o' := 2) uz94 rfl sz3 rfl rfl rfl) hK ?_
     refine zA6 20 rfl rfl (fun w hs => zA7 uz3 rfl rfl (hs.holdAt 0 rfl)) hK ?_
     refine zAb [4, 15] ?_
     refine ⟨⟨_, rfl, ?_⟩, ⟨_, rfl, ?_⟩, trivial⟩
     ·
      refine zA rfl (zA7 zBz rfl rfl (hs.cellAt 0 rfl rfl)) ?_
      clear hK
      have hK := hs.hold2
      refine zA4 ⟨hK, ?_⟩
      refine zAb [15] ?_
      refine ⟨⟨_, rfl, ?_⟩, trivial⟩
      refine zA rfl (zA7 zBz rfl rfl (hs.cellAt 0 rfl rfl)) ?_
      clear hK
      have hK := hs.hold2
      refine zA4 ⟨hK, ?_⟩
      refine zA6 16 rfl rfl (fun w hs => zAw zBz rfl) hK ?_
      refine zA6 21 rfl rfl (fun w hs => zCj rfl rfl (c := (((d.fl i).b.length - (d.fl i).syn : Nat) : Int)) (by omega) (inI (by omega) (by omega))) hK ?_
      refine zAb [22] ?_
      refine ⟨⟨_, rfl, ?_⟩, trivial⟩
      refine zA9 rfl en61 (picked_sl hs ((((((((hr.cons).cons).cons).cons).cons).cons).cons).cons) hm (x + 1) ((d.fl i).b.length - (d.fl i).syn) (by omega)) ?_
      clear hs
      rintro _ w ⟨rfl, hs⟩
      clear hK
      have hK := hs.hold2
      refine zA4 ⟨hK, ?_⟩
      refine zA6 23 rfl rfl (fun w hs => zAn rfl rfl (c := (((d.fl i).syn + zDf picks (x + 1) ((d.fl i).b.length - (d.fl i).syn) : Nat) : Int)) (by omega) (inI (by omega) (by omega))) hK ?_
      refine zA6 24 rfl rfl (fun w hs => zDl zBz sz5 rfl rfl (hi := (d.fl i).syn + zDf picks (x + 1) ((d.fl i).b.length - (d.fl i).syn)) rfl (by omega)) hK ?_
      refine zAb [25] ?_
      refine ⟨⟨_, rfl, ?_⟩, trivial⟩
      refine zA9 rfl en46 (zE9 hs (l := ((d.fl i).b.take ((d.fl i).syn + zDf picks (x + 1) ((d.fl i).b.length - (d.fl i).syn))).drop 0) ((hs.rdOwn 1 rfl).subB (by omega) (by omega)) (by simp; omega)) ?_
      clear hs
      rintro _ w ⟨a86, c86, rfl, hs⟩
      clear hK
      have hK := hs.tail.hold2
      refine zA4 ⟨hK, ?_⟩
      refine zA6 26 rfl rfl (fun w hs => zA8 rfl) hK ?_
      refine zA6 27 rfl rfl (fun w hs => zA3 (o' := 1) uz94 rfl sz23 rfl rfl rfl) hK ?_
      refine zAb [28] ?_
      refine ⟨⟨_, rfl, ?_⟩, trivial⟩
      refine zAs (v := .slice _ _ _) hs 1 rfl sz23 rfl rfl rfl rfl ?_
      clear hs
      intro w hs
      try simp only [List.set_cons_succ, List.set_cons_zero] at hs
      clear hK
      have hK := hs.tail.hold2
      refine zA4 ⟨hK, ?_⟩
      refine zAu (by kernel_rfl) ?_
      clear hK
      refine zA1 ?_
      refine zA rfl (zA0 (v := .pointer (some _)) rfl) ?_
      refine zA rfl (zA0 (v := .pointer (some _)) rfl) ?_
      refine zA rfl (zA8 rfl) ?_
      refine zA rfl (zA3 (o' := 1) uz94 rfl sz23 rfl rfl rfl) ?_
      refine zA rfl (zA7 zBz rfl rfl (hs.cellAt 1 rfl rfl)) ?_
      refine zA rfl (zAw zBz rfl) ?_
      refine zA rfl (zA8 rfl) ?_
      refine zA rfl (zA3 (o' := 2) uz94 rfl sz3 rfl rfl rfl) ?_
      refine zAs (v := .int .i64 _) hs 1 rfl sz3 rfl rfl rfl rfl ?_
      clear hs
      intro w hs
      try simp only [List.set_cons_succ, List.set_cons_zero] at hs
      refine zA4 ?_
      refine zA1 ?_
      refine zA rfl (zAn rfl rfl rfl (inI (by omega) (by omega))) ?_
      refine zA rfl (zA0 (v := .int .i64 _) rfl) ?_
      refine zA4 ?_
      rw [zAr] at hs
      have h1 := Mem.closeF2 (f := (d.fl i).crashed picks x) (L := own (.slice (some ⟨lb, lo2, none⟩) ids.length lc) (ids'.map (fptr ptr)) :: famX fiC (· = i) ptr (zC5 picks 0 (ids'.take x) d.fs) :: cells p (diskL mn mk d sa sc) 72 :: mapS mn (nmV ptr d.names) :: mapS mk (nmV ptr kept) :: zEk 3 (.slice sa d.changes.length sc) (d.changes.map (chgV ptr)) :: L) rfl rfl rfl rfl (hs.arr [1, 0, 3, 4, 5, 6, 7, 8] 9 (by decide))
      have h2 := Mem.famPut (R := fiC) (k := i) h1 1 rfl (fun _ h => h)
      rw [zDa hb] at h2
      refine ⟨x + 1, by omega, ⟨by omega, ?_⟩, ⟨rfl, trivial⟩, by repeat (first | exact Out.mix _ _ _ | refine Out.updo rfl ?_ | refine Out.upd rfl ?_ | refine Out.mixIn rfl ?_)⟩
      have e3 : zC5 picks 0 (ids'.take (x + 1)) d.fs = zCc (zC5 picks 0 (ids'.take x) d.fs) i ((d.fl i).crashed picks x) := by rw [List.take_add_one, hi, Option.toList_some, zF5]; simp only [crashStep, hf2, Nat.zero_add, List.length_take]; rw [Nat.min_eq_left (by omega)]
      rw [e3]
      exact h2
     ·
      refine zA rfl (zA7 zBz rfl rfl (hs.cellAt 0 rfl rfl)) ?_
      clear hK
      have hK := hs.hold2
      refine zA4 ⟨hK, ?_⟩
      refine zA6 16 rfl rfl (fun w hs => zAw zBz rfl) hK ?_
      refine zA6 21 rfl rfl (fun w hs => zCj rfl rfl (c := (((d.fl i).b.length - (d.fl i).syn : Nat) : Int)) (by omega) (inI (by omega) (by omega))) hK ?_
      refine zAb [4, 22] ?_
      refine ⟨⟨_, rfl, ?_⟩, ⟨_, rfl, ?_⟩, trivial⟩
      ·
       refine zA rfl (zA7 zBz rfl rfl (hs.cellAt 0 rfl rfl)) ?_
       clear hK
       have hK := hs.hold2
       refine zA4 ⟨hK, ?_⟩
       refine zAb [22] ?_
       refine ⟨⟨_, rfl, ?_⟩, trivial⟩
       refine zA9 rfl en61 (picked_sl hs ((((((((hr.cons).cons).cons).cons).cons).cons).cons).cons) hm (x + 1) ((d.fl i).b.length - (d.fl i).syn) (by omega)) ?_
       clear hs
       rintro _ w ⟨rfl, hs⟩
       clear hK
       have hK := hs.hold2
       refine zA4 ⟨hK, ?_⟩
       refine zA6 23 rfl rfl (fun w hs => zAn rfl rfl (c := (((d.fl i).syn + zDf picks (x + 1) ((d.fl i).b.length - (d.fl i).syn) : Nat) : Int)) (by omega) (inI (by omega) (by omega))) hK ?_
       refine zA6 24 rfl rfl (fun w hs => zDl zBz sz5 rfl rfl (hi := (d.fl i).syn + zDf picks (x + 1) ((d.fl i).b.length - (d.fl i).syn)) rfl (by omega)) hK ?_
       refine zAb [25] ?_
       refine ⟨⟨_, rfl, ?_⟩, trivial⟩
       refine zA9 rfl en46 (zE9 hs (l := ((d.fl i).b.take ((d.fl i).syn + zDf picks (x + 1) ((d.fl i).b.length - (d.fl i).syn))).drop 0) ((hs.rdOwn 1 rfl).subB (by omega) (by omega)) (by simp; omega)) ?_
       clear hs
       rintro _ w ⟨a86, c86, rfl, hs⟩
       clear hK
       have hK := hs.tail.hold2
       refine zA4 ⟨hK, ?_⟩
       refine zA6 26 rfl rfl (fun w hs => zA8 rfl) hK ?_
       refine zA6 27 rfl rfl (fun w hs => zA3 (o' := 1) uz94 rfl sz23 rfl rfl rfl) hK ?_
       refine zAb [28] ?_
       refine ⟨⟨_, rfl, ?_⟩, trivial⟩
       refine zAs (v := .slice _ _ _) hs 1 rfl sz23 rfl rfl rfl rfl ?_
       clear hs
       intro w hs
       try simp only [List.set_cons_succ, List.set_cons_zero] at hs
       clear hK
       have hK := hs.tail.hold2
       refine zA4 ⟨hK, ?_⟩
       refine zAu (by kernel_rfl) ?_
       clear hK
       refine zA1 ?_
       refine zA rfl (zA0 (v := .pointer (some _)) rfl) ?_
       refine zA rfl (zA0 (v := .pointer (some _)) rfl) ?_
       refine zA rfl (zA8 rfl) ?_
       refine zA rfl (zA3 (o' := 1) uz94 rfl sz23 rfl rfl rfl) ?_
       refine zA rfl (zA7 zBz rfl rfl (hs.cellAt 1 rfl rfl)) ?_
       refine zA rfl (zAw zBz rfl) ?_
       refine zA rfl (zA8 rfl) ?_
       refine zA rfl (zA3 (o' := 2) uz94 rfl sz3 rfl rfl rfl) ?_
       refine zAs (v := .int .i64 _) hs 1 rfl sz3 rfl rfl rfl rfl ?_
       clear hs
       intro w hs
       try simp only [List.set_cons_succ, List.set_cons_zero] at hs
       refine zA4 ?_
       refine zA1 ?_
       refine zA rfl (zAn rfl rfl rfl (inI (by omega) (by omega))) ?_
       refine zA rfl (zA0 (v := .int .i64 _) rfl) ?_
       refine zA4 ?_
       rw [zAr] at hs
       have h1 := Mem.closeF2 (f := (d.fl i).crashed picks x) (L := own (.slice (some ⟨lb, lo2, none⟩) ids.length lc) (ids'.map (fptr ptr)) :: famX fiC (· = i) ptr (zC5 picks 0 (ids'.take x) d.fs) :: cells p (diskL mn mk d sa sc) 72 :: mapS mn (nmV ptr d.names) :: mapS mk (nmV ptr kept) :: zEk 3 (.slice sa d.changes.length sc) (d.changes.map (chgV ptr)) :: L) rfl rfl rfl rfl (hs.arr [1, 0, 3, 4, 5, 6, 7, 8] 9 (by decide))
       have h2 := Mem.famPut (R := fiC) (k := i) h1 1 rfl (fun _ h => h)
       rw [zDa hb] at h2
       refine ⟨x + 1, by omega, ⟨by omega, ?_⟩, ⟨rfl, trivial⟩, by repeat (first | exact Out.mix _ _ _ | refine Out.updo rfl ?_ | refine Out.upd rfl ?_ | refine Out.mixIn rfl ?_)⟩
       have e3 : zC5 picks 0 (ids'.take (x + 1)) d.fs = zCc (zC5 picks 0 (ids'.take x) d.fs) i ((d.fl i).crashed picks x) := by rw [List.take_add_one, hi, Option.toList_some, zF5]; simp only [crashStep, hf2, Nat.zero_add, List.length_take]; rw [Nat.min_eq_left (by omega)]
       rw [e3]
       exact h2
      ·
       refine zA9 rfl en61 (picked_sl hs ((((((((hr.cons).cons).cons).cons).cons).cons).cons).cons) hm (x + 1) ((d.fl i).b.length - (d.fl i).syn) (by omega)) ?_
       clear hs
       rintro _ w ⟨rfl, hs⟩
       clear hK
       have hK := hs.hold2
       refine zA4 ⟨hK, ?_⟩
       refine zA6 23 rfl rfl (fun w hs => zAn rfl rfl (c := (((d.fl i).syn + zDf picks (x + 1) ((d.fl i).b.length - (d.fl i).syn) : Nat) : Int)) (by omega) (inI (by omega) (by omega))) hK ?_
       refine zAb [4] ?_
       refine ⟨⟨_, rfl, ?_⟩, trivial⟩
       refine zA rfl (zA7 zBz rfl rfl (hs.cellAt 0 rfl rfl)) ?_
       clear hK
       have hK := hs.hold2
       refine zA4 ⟨hK, ?_⟩
       refine zA6 24 rfl rfl (fun w hs => zDl zBz sz5 rfl rfl (hi := (d.fl i).syn + zDf picks (x + 1) ((d.fl i).b.length - (d.fl i).syn)) rfl (by omega)) hK ?_
       refine zAb [25] ?_
       refine ⟨⟨_, rfl, ?_⟩, trivial⟩
       refine zA9 rfl en46 (zE9 hs (l := ((d.fl i).b.take ((d.fl i).syn + zDf picks (x + 1) ((d.fl i).b.length - (d.fl i).syn))).drop 0) ((hs.rdOwn 1 rfl).subB (by omega) (by omega)) (by simp; omega)) ?_
       clear hs
       rintro _ w ⟨a86, c86, rfl, hs⟩
       clear hK
       have hK := hs.tail.hold2
       refine zA4 ⟨hK, ?_⟩
       refine zA6 26 rfl rfl (fun w hs => zA8 rfl) hK ?_
       refine zA6 27 rfl rfl (fun w hs => zA3 (o' := 1) uz94 rfl sz23 rfl rfl rfl) hK ?_
       refine zAb [28] ?_
       refine ⟨⟨_, rfl, ?_⟩, trivial⟩
       refine zAs (v := .slice _ _ _) hs 1 rfl sz23 rfl rfl rfl rfl ?_
       clear hs
       intro w hs
       try simp only [List.set_cons_succ, List.set_cons_zero] at hs
       clear hK
       have hK := hs.tail.hold2
       refine zA4 ⟨hK, ?_⟩
       refine zAu (by kernel_rfl) ?_
       clear hK
       refine zA1 ?_
       refine zA rfl (zA0 (v := .pointer (some _)) rfl) ?_
       refine zA rfl (zA0 (v := .pointer (some _)) rfl) ?_
       refine zA rfl (zA8 rfl) ?_
       refine zA rfl (zA3 (o' := 1) uz94 rfl sz23 rfl rfl rfl) ?_
       refine zA rfl (zA7 zBz rfl rfl (hs.cellAt 1 rfl rfl)) ?_
       refine zA rfl (zAw zBz rfl) ?_
       refine zA rfl (zA8 rfl) ?_
       refine zA rfl (zA3 (o' := 2) uz94 rfl sz3 rfl rfl rfl) ?_
       refine zAs (v := .int .i64 _) hs 1 rfl sz3 rfl rfl rfl rfl ?_
       clear hs
       intro w hs
       try simp only [List.set_cons_succ, List.set_cons_zero] at hs
       refine zA4 ?_
       refine zA1 ?_
       refine zA rfl (zAn rfl rfl rfl (inI (by omega) (by omega))) ?_
       refine zA rfl (zA0 (v := .int .i64 _) rfl) ?_
       refine zA4 ?_
       rw [zAr] at hs
       have h1 := Mem.closeF2 (f := (d.fl i).crashed picks x) (L := own (.slice (some ⟨lb, lo2, none⟩) ids.length lc) (ids'.map (fptr ptr)) :: famX fiC (· = i) ptr (zC5 picks 0 (ids'.take x) d.fs) :: cells p (diskL mn mk d sa sc) 72 :: mapS mn (nmV ptr d.names) :: mapS mk (nmV ptr kept) :: zEk 3 (.slice sa d.changes.length sc) (d.changes.map (chgV ptr)) :: L) rfl rfl rfl rfl (hs.arr [1, 0, 3, 4, 5, 6, 7, 8] 9 (by decide))
       have h2 := Mem.famPut (R := fiC) (k := i) h1 1 rfl (fun _ h => h)
       rw [zDa hb] at h2
       refine ⟨x + 1, by omega, ⟨by omega, ?_⟩, ⟨rfl, trivial⟩, by repeat (first | exact Out.mix _ _ _ | refine Out.updo rfl ?_ | refine Out.upd rfl ?_ | refine Out.mixIn rfl ?_)⟩
       have e3 : zC5 picks 0 (ids'.take (x + 1)) d.fs = zCc (zC5 picks 0 (ids'.take x) d.fs) i ((d.fl i).crashed picks x) := by rw [List.take_add_one, hi, Option.toList_some, zF5]; simp only [crashStep, hf2, Nat.zero_add, List.length_take]; rw [Nat.min_eq_left (by omega)]
       rw [e3]
       exact h2
    ·
     intro h57
     have g57 := of_decide_eq_false h57
     obtain rfl : x = ids'.length := by omega
     rw [List.take_of_length_le (Nat.le_refl _), hids] at hs
     refine zBk rfl ?_
     refine zA5 (zA1 ?_)
     refine zA rfl (zA0 (v := .pointer (some _)) rfl) ?_
     refine zA rfl (zA0 (v := .pointer (some _)) rfl) ?_
     refine zA rfl (zA0 (v := .pointer (some _)) rfl) ?_
     refine zA rfl (zA8 rfl) ?_
     refine zA rfl (zA3 (o' := 2) zEn rfl sz69 rfl rfl rfl) ?_
     refine zA rfl (zA7 uz69 rfl rfl (hs.cellAt 2 rfl rfl)) ?_
     refine zA9 rfl en66 (mclone_sl hs 4 rfl) ?_
     clear hs
     rintro _ w ⟨m104, rfl, hs⟩
     refine zA rfl (zA8 rfl) ?_
     refine zA rfl (zA3 (o' := 1) zEn rfl sz69 rfl rfl rfl) ?_
     refine zAs (v := .map _) hs 3 rfl sz69 rfl rfl rfl rfl ?_
     clear hs
     intro w hs
     try simp only [List.set_cons_succ, List.set_cons_zero] at hs
     refine zA rfl (zA8 rfl) ?_
     refine zA rfl (zA3 (o' := 3) zEn rfl sz70 rfl rfl rfl) ?_
     refine zAs (v := .slice _ _ _) hs 3 rfl sz70 rfl rfl rfl rfl ?_
     clear hs
     intro w hs
     try simp only [List.set_cons_succ, List.set_cons_zero] at hs
     refine zA4 ?_
     refine zA1 ?_
     refine zA rfl (zA0 (v := .pointer (some _)) rfl) ?_
     refine zA rfl (zA0 (v := .pointer (some _)) rfl) ?_
     refine zA rfl (zA8 rfl) ?_
     refine zA rfl (zA3 (o' := 5) zEn rfl sz3 rfl rfl rfl) ?_
     refine zAs (v := .int .i64 _) hs 3 rfl sz3 rfl rfl rfl rfl ?_
     clear hs
     intro w hs
     try simp only [List.set_cons_succ, List.set_cons_zero] at hs
     refine zA rfl (zA8 rfl) ?_
     refine zA rfl (zA3 (o' := 6) zEn rfl sz4 rfl rfl rfl) ?_
     refine zAs (v := .bool _) hs 3 rfl sz4 rfl rfl rfl rfl ?_
     clear hs
     intro w hs
     try simp only [List.set_cons_succ, List.set_cons_zero] at hs
     refine zA4 ?_
     refine res0  rfl ?_
     have e : d.crash picks = { d with kept := kept, names := kept, changes := [], armed := 0, down := false, fs := zC5 picks 0 (zEj d.fs kept) d.fs } := by simp only [Dk.crash, ← hq, ← hkept]
     have hok := ho.crash picks
     rw [e] at hok ⊢
     exact ⟨_, rfl, rfl, Mem.closeD (mn := m104) (mk := mk) (sa := none) (sc := 0) (ptr := ptr) hok ((hs.addE (rows_nil _)).arr [4, 1, 6, 0, 3] 8 (by decide))⟩
   ·
    clear hs
    intro k40 v40 w hk40 hs
    try simp only [List.set_cons_succ, List.set_cons_zero] at hs
    have hk2 := hk40
    rw [nmV_get] at hk2
    obtain ⟨i, hi, rfl⟩ := Option.map_eq_some_iff.1 hk2
    have hiy := hlo _ (zDd hi)
    have hiks : i ∈ zAh d.fs := hprops.2.1 _ hiy
    obtain ⟨b, hb, hp, hf⟩ := hptr i hiks
    rw [hp] at hs ⊢
    rw [← nmV_del] at hs
    refine zA rfl (zAa (v := .bool _) rfl rfl) ?_
    refine zA4 ?_
    refine zA5 ?_
    refine zBa rfl rfl ?_
    refine zAd ?_
    refine zAt ?_
    refine zA5 (zA1 ?_)
    refine zA rfl (run_entryM hs 3 rfl rfl) ?_
    refine zA rfl (zAa (v := .pointer (some _)) rfl rfl) ?_
    refine zA rfl (zA2 (v := .pointer (some _)) rfl) ?_
    refine zA4 (zA5 (zA1 ?_))
    refine zA rfl (zA0 (v := .slice _ _ _) rfl) ?_
    refine zA rfl (zA0 (v := .pointer (some _)) rfl) ?_
    refine zA9 rfl en63 (contains_sl ho.tookB hs 5 rfl (hs.rdOwn 0 rfl) rfl (by omega) hik hiks hb) ?_
    clear hs
    rintro _ w ⟨rfl, hs⟩
    refine zA rfl (zBm rfl) ?_
    refine zA4 ?_
    refine zB7 rfl ?_ ?_
    ·
     intro h46
     replace h46 := zF h46
     refine zA1 ?_
     refine zA rfl (zA0 (v := .slice _ _ _) rfl) ?_
     refine zA rfl (zA0 (v := .pointer (some _)) rfl) ?_
     refine zC8 hs rfl ([.pointer (some ⟨b, 0, none⟩)]) uz122 zs90 rfl (by simp [Value.cells]) rfl rfl rfl ?_
     clear hs
     intro b50 w hs
     try simp only [List.set_cons_succ, List.set_cons_zero] at hs
     refine zCi hs rfl 1 rfl uz122 in90 rfl rfl rfl (zC2 (P := Tryz.prog) uz122 ((Rd.cells (n := 1) (cs := [.pointer (some ⟨b, 0, none⟩)]) 0 rfl rfl).seq hs) (fun u hu => by simp at hu; subst hu; rfl)) (by simp only [List.length_map, List.length_cons, List.length_nil]; omega) (by simp only [List.length_map, List.length_cons, List.length_nil]; omega) ?_
     clear hs
     intro a51 c51 w hs
     simp only [List.set_cons_succ, List.set_cons_zero] at hs
     refine zA rfl (zA2 (v := .slice _ _ _) rfl) ?_
     refine zA4 ?_
     have hm := of_decide_eq_false h46
     have e1 : ids.map (fptr ptr) ++ [.pointer (some ⟨b, 0, none⟩)] = (ids ++ [i]).map (fptr ptr) := by simp [hp]
     have e2 : (ids.map (fptr ptr)).length + [Value.pointer (some ⟨b, 0, none⟩)].length = (ids ++ [i]).length := by simp
     rw [e1, e2] at hs
     refine ⟨(ids ++ [i], zDq lo k40, some (k40, .pointer (some ⟨b, 0, none⟩)), a51, c51), zFy hi, ⟨?_, fun y hy => ?_, fun j hj => ?_, fun y hy => hlo y (adel_in hy), hs.tail⟩, ⟨by rw [← e2]; rfl, trivial⟩, by repeat (first | exact Out.mix _ _ _ | refine Out.updo rfl ?_ | refine Out.upd rfl ?_ | refine Out.mixIn rfl ?_)⟩
     · rw [List.nodup_append]; exact ⟨hnd, by simp, fun x hx y hy e => by simp at hy; subst hy; subst e; exact hm hx⟩
     · exact (hall y hy).elim (fun h => (adel_has hi h).imp id fun e => (by rw [e]; simp)) (fun h => .inr (List.mem_append_left _ h))
     · exact (List.mem_append.1 hj).elim (hfrom j) (fun h => by simp at h; subst h; exact ⟨_, hiy, rfl⟩)
    ·
     intro h46
     replace h46 := zE4 h46
     refine zAd ?_
     have hm := of_decide_eq_true h46
     exact ⟨(ids, zDq lo k40, some (k40, .pointer (some ⟨b, 0, none⟩)), la, lc), zFy hi, ⟨hnd, fun y hy => (hall y hy).elim (fun h => (adel_has hi h).imp id fun e => (by rw [e]; exact hm)) .inr, hfrom, fun y hy => hlo y (adel_in hy), hs⟩, ⟨rfl, trivial⟩, by repeat (first | exact Out.mix _ _ _ | refine Out.updo rfl ?_ | refine Out.upd rfl ?_ | refine Out.mixIn rfl ?_)⟩
end Go.Proofs.YtdkgdjnbpjjfmaaGreatDoor
namespace Go.Proofs.YtdkgdjnbpjjfmaaGreatDoor
set_option linter.all false
open Go.RowKit
attribute [local irreducible] zAq
variable {g w : World} {L M : List HP} {ad : Nat → Addr} {p : Nat} {d : Dk}

abbrev nm1 (c : UInt8) : ByteArray := ⟨#[c]⟩
/-- The disk of the examples. -/
abbrev fD (kept : List (ByteArray × Nat)) (ch : List Chg) (calls : Nat) (b : List UInt8) (s : Nat) : Dk := ⟨100, [(nm1 97, 1)], kept, ch, 1, 0, false, calls, [(1, ⟨1, b, s⟩)]⟩
end Go.Proofs.YtdkgdjnbpjjfmaaGreatDoor
namespace Go.Proofs.YtdkgdjnbpjjfmaaGreatDoor
set_option linter.all false
open Go.RowKit
attribute [local irreducible] zAq
variable {g w : World} {L M : List HP} {ad : Nat → Addr} {p : Nat} {d : Dk}

theorem Dk.readR_at {n : ByteArray} {i o m : Nat} {F : Fl} (h1 : d.down = false) (hn : zB0 d.names n = some i) (hf : zB0 d.fs i = some F) (hl : o + m ≤ F.b.length) : d.readR n o m = (0, (F.b.take (o + m)).drop o) := by
  have e : d.fl i = F := by simp [Dk.fl, hf]
  simp only [Dk.readR, Dk.file, h1, hn, Bool.false_eq_true, if_false, e]
  rw [if_neg (by omega)]
  simp
abbrev kD (names kept : List (ByteArray × Nat)) (ch : List Chg) (files calls : Nat) (fs : List (Nat × Fl)) : Dk := ⟨2000, names, kept, ch, files, 0, false, calls, fs⟩
abbrev chG : Chg := ⟨nm1 103, ByteArray.empty, some 2⟩
end Go.Proofs.YtdkgdjnbpjjfmaaGreatDoor
namespace Go.Proofs.YtdkgdjnbpjjfmaaGreatDoor
set_option linter.all false
open Go.RowKit
attribute [local irreducible] zAq
variable {g w : World} {L M : List HP} {ad : Nat → Addr} {p : Nat} {d : Dk}

/-- A disk of one file. -/
abbrev oneD (room : Nat) (n : ByteArray) (kept : List (ByteArray × Nat)) (ch : List Chg) (calls : Nat) (b : List UInt8) (s : Nat) : Dk := ⟨room, [(n, 1)], kept, ch, 1, 0, false, calls, [(1, ⟨1, b, s⟩)]⟩
end Go.Proofs.YtdkgdjnbpjjfmaaGreatDoor
namespace Go.Proofs.YtdkgdjnbpjjfmaaGreatDoor
set_option linter.all false
open Go.RowKit
attribute [local irreducible] zAq
variable {g w : World} {L M : List HP} {ad : Nat → Addr} {p : Nat} {d : Dk}

theorem Dk.begin_down (h : d.down = true) : d.begin = (110, d) := by simp [Dk.begin, h]
theorem Dk.find_down (h : d.down = true) (n : ByteArray) : d.find n = (110, none, d) := by simp [Dk.find, Dk.begin_down h]
theorem Dk.cut_down (h : d.down = true) (n : ByteArray) (z : Int) : d.cut n z = (110, d) := by simp only [Dk.cut, Dk.find_down h]
/-- The disk while the power is gone. -/
abbrev dnD (lb : List UInt8) : Dk := ⟨500, [(nm1 97, 1)], [(nm1 97, 1)], [], 1, 0, true, 4, [(1, ⟨1, lb, lb.length⟩)]⟩
end Go.Proofs.YtdkgdjnbpjjfmaaGreatDoor
namespace Go.Proofs.YtdkgdjnbpjjfmaaGreatDoor
set_option linter.all false
open Go.RowKit
attribute [local irreducible] zAq
variable {g w : World} {L M : List HP} {ad : Nat → Addr} {p : Nat} {d : Dk}

def nmI (i : Nat) : ByteArray := nm1 (UInt8.ofNat (97 + i))
theorem nmI_valid : ∀ i < 20, zC6 (nmI i).data.toList = true := by decide +kernel
theorem nmI_inj {i j : Nat} (hi : i < 20) (hj : j < 20) (h : nmI i = nmI j) : i = j := by
  simp only [nmI, nm1, ByteArray.mk.injEq, Array.mk.injEq, List.cons.injEq, and_true] at h
  have := congrArg UInt8.toNat h
  rw [UInt8.toNat_ofNat', UInt8.toNat_ofNat'] at this
  omega
theorem zBv {κ α : Type} [DecidableEq κ] {l : List (κ × α)} {k : κ} {v : α} (h : k ∉ zAh l) : zB0 (l ++ [(k, v)]) k = some v := by rw [← aput_end h, zB5]
theorem zDc {κ α : Type} [DecidableEq κ] {l : List (κ × α)} {k j : κ} {v : α} (h : k ∉ zAh l) (hj : j ≠ k) : zB0 (l ++ [(k, v)]) j = zB0 l j := by rw [← aput_end h, zB1 _ _ hj]
theorem adel_app_new {κ α : Type} [DecidableEq κ] : ∀ {l : List (κ × α)} {k : κ} {v : α}, k ∉ zAh l → zDq (l ++ [(k, v)]) k = l
  | [], k, v, _ => by simp [zDq]
  | (a, b) :: l, k, v, h => by
    simp only [zAh, List.map_cons, List.mem_cons, not_or] at h
    simp only [List.cons_append, zDq]
    rw [if_neg (fun e => h.1 e.symm), adel_app_new h.2]
theorem aput_app_new {κ α : Type} [DecidableEq κ] {l : List (κ × α)} {k : κ} {v v' : α} (h : k ∉ zAh l) : zCc (l ++ [(k, v)]) k v' = l ++ [(k, v')] := by
  induction l with
  | nil => simp [zCc]
  | cons x l ih =>
    obtain ⟨a, b⟩ := x
    simp only [zAh, List.map_cons, List.mem_cons, not_or] at h
    simp only [List.cons_append, zCc]
    rw [if_neg (fun e => h.1 e.symm), ih h.2]
def useL (fs : List (Nat × Fl)) (l : List (ByteArray × Nat)) : Nat := (l.map fun x => ((zB0 fs x.2).map (·.b.length)).getD 0).sum
theorem useL_snoc {fs : List (Nat × Fl)} {l : List (ByteArray × Nat)} {k : Nat} {F : Fl} (n : ByteArray) (hk : k ∉ zAh fs) (hl : ∀ x ∈ l, x.2 ∈ zAh fs) : useL (fs ++ [(k, F)]) (l ++ [(n, k)]) = useL fs l + F.b.length := by
  simp only [useL, List.map_append, List.sum_append, List.map_cons, List.map_nil, zBv hk]
  congr 1
  · congr 1
    exact List.map_congr_left fun x hx => by rw [zDc hk (fun e => hk (e ▸ hl x hx))]
/-- What holds at the i-th file. -/
structure RoomI (room i u : Nat) (d : Dk) : Prop where
  ok : d.ok
  up : d.down = false
  arm : d.armed = 0
  rm : d.room = room
  files : d.files = i
  calls : d.calls ≤ 3 * i
  names : ∀ x ∈ d.names, ∃ j, j < i ∧ x.1 = nmI j
  used : u = d.used
  fits : u ≤ room
theorem RoomI.fresh {room i u : Nat} (h : RoomI room i u d) (hi : i < 20) : nmI i ∉ zAh d.names := fun hm => by
  obtain ⟨x, hx, e⟩ := List.mem_map.1 hm
  obtain ⟨j, hj, e2⟩ := h.names x hx
  have := nmI_inj (by omega) hi (e2.symm.trans e)
  omega
/-- Behind the file that is made, with bytes or without. -/
def roomD (d : Dk) (i : Nat) (b : List UInt8) (c : Nat) : Dk := ⟨d.room, d.names ++ [(nmI i, i + 1)], d.kept, d.changes ++ [⟨nmI i, ByteArray.empty, some (i + 1)⟩], i + 1, 0, false, d.calls + c, d.fs ++ [(i + 1, ⟨i + 1, b, 0⟩)]⟩
theorem RoomI.key {room i u : Nat} (h : RoomI room i u d) : i + 1 ∉ zAh d.fs := by have := h.ok.fresh; rw [h.files] at this; exact this
theorem RoomI.create {room i u : Nat} (h : RoomI room i u d) (hi : i < 20) : d.create (nmI i) = (0, roomD d i [] 1) := by
  rw [Dk.create_up h.up h.arm (nmI_valid i hi) ((zBb _ _).2 (h.fresh hi))]
  simp only [Dk.change, Chg.app, roomD, h.files, h.up, h.arm, aput_end (h.fresh hi), if_true]
theorem RoomI.used_of {room i u : Nat} (h : RoomI room i u d) (b : List UInt8) (c : Nat) : (roomD d i b c).used = u + b.length := by
  show useL (d.fs ++ [(i + 1, ⟨i + 1, b, 0⟩)]) (d.names ++ [(nmI i, i + 1)]) = _
  rw [useL_snoc _ h.key h.ok.nin, h.used]
  rfl
theorem RoomI.named {room i u : Nat} (h : RoomI room i u d) (hi : i < 20) (b : List UInt8) (c : Nat) : zB0 (roomD d i b c).names (nmI i) = some (i + 1) := zBv (h.fresh hi)
theorem RoomI.append {room i u : Nat} (h : RoomI room i u d) (hi : i < 20) (b : List UInt8) (hf : u + b.length ≤ room) : (roomD d i [] 1).append (nmI i) b = (0, roomD d i b 2) := by
  have hu := h.used_of [] 1
  rw [Dk.append_up rfl rfl (h.named hi [] 1) (by rw [hu]; show _ ≤ d.room; rw [h.rm]; simpa using hf)]
  have hfl : (roomD d i [] 1).fl (i + 1) = ⟨i + 1, [], 0⟩ := by simp [Dk.fl, roomD, zBv h.key]
  rw [hfl]
  simp only [Dk.setF, roomD, aput_app_new h.key, List.nil_append]
theorem RoomI.lenR {room i u : Nat} (h : RoomI room i u d) (hi : i < 20) (b : List UInt8) (c : Nat) : (roomD d i b c).lenR (nmI i) = (0, b.length) := by
  have e : (roomD d i b c).file (nmI i) = (0, some (i + 1)) := by
    unfold Dk.file
    rw [h.named hi b c]
    rfl
  simp only [Dk.lenR, e]
  simp [Dk.fl, roomD, zBv h.key]
def roomR (d : Dk) (i : Nat) (b : List UInt8) (c : Nat) : Dk := ⟨d.room, d.names, d.kept, d.changes ++ [⟨nmI i, ByteArray.empty, some (i + 1)⟩] ++ [⟨ByteArray.empty, nmI i, none⟩], i + 1, 0, false, d.calls + c + 1, d.fs ++ [(i + 1, ⟨i + 1, b, 0⟩)]⟩
theorem RoomI.remove {room i u : Nat} (h : RoomI room i u d) (hi : i < 20) (b : List UInt8) (c : Nat) : (roomD d i b c).remove (nmI i) = (0, roomR d i b c) := by
  rw [Dk.remove_up rfl rfl (h.named hi b c)]
  have hne : nmI i ≠ ByteArray.empty := fun e => absurd (congrArg (fun b : ByteArray => b.data.size) e) (by show ¬ 1 = 0; decide)
  simp only [Dk.change, Chg.app, roomD, roomR, if_neg hne, adel_app_new (h.fresh hi)]
theorem RoomI.next {room i u : Nat} (h : RoomI room i u d) {b : List UInt8} {c : Nat} (hc : c ≤ 2) (ho : (roomD d i b c).ok) (hf : u + b.length ≤ room) : RoomI room (i + 1) (u + b.length) (roomD d i b c) :=
  ⟨ho, rfl, rfl, h.rm, rfl, by have := h.calls; show d.calls + c ≤ _; omega, fun x hx => by
    rcases List.mem_append.1 hx with hx | hx
    · obtain ⟨j, hj, e⟩ := h.names x hx; exact ⟨j, by omega, e⟩
    · simp only [List.mem_cons, List.not_mem_nil, or_false] at hx; subst hx; exact ⟨i, by omega, rfl⟩, (h.used_of b c).symm, hf⟩
end Go.Proofs.YtdkgdjnbpjjfmaaGreatDoor
namespace Go.Proofs.YtdkgdjnbpjjfmaaGreatDoor
set_option linter.all false
open Go.RowKit
variable {d : Dk} {s t : ByteArray} {b : List UInt8}

/-- The disk d with other names, changes, files. -/
abbrev pw (d : Dk) (l : List (ByteArray × Nat)) (ch : List Chg) (n : Nat) (fs : List (Nat × Fl)) (a : Nat) (dn : Bool) (c : Nat) : Dk := ⟨d.room, l, d.kept, ch, n, a, dn, c, fs⟩
theorem pw_begin {l : List (ByteArray × Nat)} {ch : List Chg} {n : Nat} {fs : List (Nat × Fl)} {a c : Nat} : (pw d l ch n fs a false c).begin = if a = 1 then (110, pw d l ch n fs 0 true c) else (0, pw d l ch n fs (a - 1) false c) := by
  unfold Dk.begin
  by_cases h0 : a = 0
  · subst h0; rfl
  · by_cases h1 : a = 1
    · subst h1; rfl
    · simp [h0, h1]
theorem pw_find {l : List (ByteArray × Nat)} {ch : List Chg} {n : Nat} {fs : List (Nat × Fl)} {a c i : Nat} {m : ByteArray} (hm : zB0 l m = some i) : (pw d l ch n fs a false c).find m = if a = 1 then (110, none, pw d l ch n fs 0 true c) else (0, some i, pw d l ch n fs (a - 1) false c) := by
  unfold Dk.find
  rw [pw_begin]
  by_cases h1 : a = 1
  · simp [h1]
  · simp [h1, Dk.file, hm]
theorem adel_none {κ α : Type} [DecidableEq κ] : ∀ {l : List (κ × α)} {k : κ}, zB0 l k = none → zDq l k = l
  | [], _, _ => rfl
  | (a, b) :: l, k, h => by
    simp only [zB0] at h
    split at h
    · cases h
    · rename_i e
      simp only [zDq]
      rw [if_neg e, adel_none h]
abbrev rmC (t : ByteArray) : Chg := ⟨ByteArray.empty, t, none⟩
abbrev crC (t : ByteArray) (j : Nat) : Chg := ⟨t, ByteArray.empty, some j⟩
abbrev rnC (s t : ByteArray) (j : Nat) : Chg := ⟨s, t, some j⟩
theorem newN_ne (s : ByteArray) : zCa s ≠ s := fun e => by
  have := congrArg (fun x : ByteArray => x.size) e
  simp only [zCa, ByteArray.size_append] at this
  have h4 : (⟨#[46, 110, 101, 119]⟩ : ByteArray).size = 4 := rfl
  omega
theorem newN_some (s : ByteArray) : zCa s ≠ ByteArray.empty := fun e => by
  have := congrArg (fun x : ByteArray => x.size) e
  simp only [zCa, ByteArray.size_append] at this
  have h4 : (⟨#[46, 110, 101, 119]⟩ : ByteArray).size = 4 := rfl
  have h0 : ByteArray.empty.size = 0 := rfl
  omega
/-- Names without the one beside. -/
def wl (s : ByteArray) (d : Dk) : List (ByteArray × Nat) := zDq d.names (zCa s)
def wc (s : ByteArray) (d : Dk) : List Chg := d.changes ++ (if (zB0 d.names (zCa s)).isSome then [rmC (zCa s)] else [])
structure UpD (d : Dk) : Prop where
  ok : d.ok
  up : d.down = false
structure Calm (d : Dk) : Prop extends UpD d where
  kept : d.names = d.kept
  still : d.changes = []
theorem UpD.fresh (h : UpD d) : zCa s ∉ zAh (wl s d) := by
  rw [wl, keys_del h.ok.nnd]
  simp
theorem UpD.key (h : UpD d) : d.files + 1 ∉ zAh d.fs := h.ok.fresh
theorem UpD.form (h : UpD d) : d = pw d d.names d.changes d.files d.fs d.armed false d.calls := by
  have h1 := h.up
  obtain ⟨room, names, kept, changes, files, armed, down, calls, fs⟩ := d
  simp only at h1
  subst h1
  rfl
section
variable (h : UpD d) {a c : Nat}
include h
theorem UpD.st0 : (pw d d.names d.changes d.files d.fs a false c).wstep s b 0 = if (zB0 d.names (zCa s)).isSome = true ∧ a = 1 then (110, pw d d.names d.changes d.files d.fs 0 true c) else (0, pw d (wl s d) (wc s d) d.files d.fs (if (zB0 d.names (zCa s)).isSome then a - 1 else a) false (if (zB0 d.names (zCa s)).isSome then c + 1 else c)) := by
  cases hn : zB0 d.names (zCa s) with
  | none =>
    have h1 : (pw d d.names d.changes d.files d.fs a false c).lenR (zCa s) = (107, 0) := by simp [Dk.lenR, Dk.file, hn]
    simp only [Dk.wstep, h1, wl, wc, hn, adel_none hn]
    simp
  | some i =>
    obtain ⟨m, h1⟩ : ∃ m, (pw d d.names d.changes d.files d.fs a false c).lenR (zCa s) = (0, m) := ⟨_, by simp only [Dk.lenR, Dk.file, hn]; rfl⟩
    simp only [Dk.wstep, h1, Dk.remove, pw_find hn]
    by_cases ha : a = 1
    · simp [ha]
    · simp [ha, wl, wc, hn, Dk.change, Chg.app, newN_some]
theorem UpD.st1 (hv : zC6 (zCa s).data.toList = true) : (pw d (wl s d) (wc s d) d.files d.fs a false c).wstep s b 1 = if a = 1 then (110, pw d (wl s d) (wc s d) d.files d.fs 0 true c) else (0, pw d (wl s d ++ [(zCa s, d.files + 1)]) (wc s d ++ [crC (zCa s) (d.files + 1)]) (d.files + 1) (d.fs ++ [(d.files + 1, ⟨d.files + 1, [], 0⟩)]) (a - 1) false (c + 1)) := by
  have hf := (zBb _ _).2 (h.fresh (s := s))
  simp only [Dk.wstep, Dk.create, pw_begin]
  by_cases ha : a = 1
  · simp [ha]
  · simp only [if_neg ha, hv, hf, Dk.change, Chg.app]
    simp
    exact aput_end h.fresh
theorem UpD.st2 (hr : useL d.fs (wl s d) + (b.length + 4) ≤ d.room) : (pw d (wl s d ++ [(zCa s, d.files + 1)]) (wc s d ++ [crC (zCa s) (d.files + 1)]) (d.files + 1) (d.fs ++ [(d.files + 1, ⟨d.files + 1, [], 0⟩)]) a false c).wstep s b 2 = if a = 1 then (110, pw d (wl s d ++ [(zCa s, d.files + 1)]) (wc s d ++ [crC (zCa s) (d.files + 1)]) (d.files + 1) (d.fs ++ [(d.files + 1, ⟨d.files + 1, [], 0⟩)]) 0 true c) else (0, pw d (wl s d ++ [(zCa s, d.files + 1)]) (wc s d ++ [crC (zCa s) (d.files + 1)]) (d.files + 1) (d.fs ++ [(d.files + 1, ⟨d.files + 1, zBp b, 0⟩)]) (a - 1) false (c + 1)) := by
  have hf : zB0 (wl s d ++ [(zCa s, d.files + 1)]) (zCa s) = some (d.files + 1) := zBv h.fresh
  have hin : ∀ x ∈ wl s d, x.2 ∈ zAh d.fs := fun x hx => h.ok.nin x (adel_in hx)
  simp only [Dk.wstep, Dk.append, pw_find hf]
  by_cases ha : a = 1
  · simp [ha]
  · simp only [if_neg ha]
    have hu : ∀ a c, (pw d (wl s d ++ [(zCa s, d.files + 1)]) (wc s d ++ [crC (zCa s) (d.files + 1)]) (d.files + 1) (d.fs ++ [(d.files + 1, ⟨d.files + 1, [], 0⟩)]) a false c).used = useL d.fs (wl s d) := fun a c => (useL_snoc _ h.key hin).trans (by simp)
    rw [if_neg (by rw [hu, zBw]; show ¬ (d.room < _); omega)]
    have hfl : ∀ a c, (pw d (wl s d ++ [(zCa s, d.files + 1)]) (wc s d ++ [crC (zCa s) (d.files + 1)]) (d.files + 1) (d.fs ++ [(d.files + 1, ⟨d.files + 1, [], 0⟩)]) a false c).fl (d.files + 1) = ⟨d.files + 1, [], 0⟩ := fun a c => by simp [Dk.fl, zBv h.key]
    rw [hfl]
    simp [Dk.setF, aput_app_new h.key]
theorem UpD.st3 : (pw d (wl s d ++ [(zCa s, d.files + 1)]) (wc s d ++ [crC (zCa s) (d.files + 1)]) (d.files + 1) (d.fs ++ [(d.files + 1, ⟨d.files + 1, zBp b, 0⟩)]) a false c).wstep s b 3 = if a = 1 then (110, pw d (wl s d ++ [(zCa s, d.files + 1)]) (wc s d ++ [crC (zCa s) (d.files + 1)]) (d.files + 1) (d.fs ++ [(d.files + 1, ⟨d.files + 1, zBp b, 0⟩)]) 0 true c) else (0, pw d (wl s d ++ [(zCa s, d.files + 1)]) (wc s d ++ [crC (zCa s) (d.files + 1)]) (d.files + 1) (d.fs ++ [(d.files + 1, ⟨d.files + 1, zBp b, (zBp b).length⟩)]) (a - 1) false (c + 1)) := by
  have hf : zB0 (wl s d ++ [(zCa s, d.files + 1)]) (zCa s) = some (d.files + 1) := zBv h.fresh
  simp only [Dk.wstep, Dk.sync, pw_find hf]
  by_cases ha : a = 1
  · simp [ha]
  · simp only [if_neg ha]
    have hfl : ∀ a c, (pw d (wl s d ++ [(zCa s, d.files + 1)]) (wc s d ++ [crC (zCa s) (d.files + 1)]) (d.files + 1) (d.fs ++ [(d.files + 1, ⟨d.files + 1, zBp b, 0⟩)]) a false c).fl (d.files + 1) = ⟨d.files + 1, zBp b, 0⟩ := fun a c => by simp [Dk.fl, zBv h.key]
    rw [hfl]
    simp [Dk.setF, aput_app_new h.key]
theorem UpD.st4 {fs : List (Nat × Fl)} (hv : zC6 s.data.toList = true) : (pw d (wl s d ++ [(zCa s, d.files + 1)]) (wc s d ++ [crC (zCa s) (d.files + 1)]) (d.files + 1) fs a false c).wstep s b 4 = if a = 1 then (110, pw d (wl s d ++ [(zCa s, d.files + 1)]) (wc s d ++ [crC (zCa s) (d.files + 1)]) (d.files + 1) fs 0 true c) else (0, pw d (zCc (wl s d) s (d.files + 1)) (wc s d ++ [crC (zCa s) (d.files + 1)] ++ [rnC s (zCa s) (d.files + 1)]) (d.files + 1) fs (a - 1) false (c + 1)) := by
  have hf : zB0 (wl s d ++ [(zCa s, d.files + 1)]) (zCa s) = some (d.files + 1) := zBv h.fresh
  simp only [Dk.wstep, Dk.rename, pw_find hf]
  by_cases ha : a = 1
  · simp [ha]
  · simp only [if_neg ha]
    rw [if_neg (by simp [hv]), if_neg (newN_ne s)]
    simp only [Dk.change, Chg.app, if_neg (newN_some s), adel_app_new h.fresh]
end
theorem pw_st5 {l : List (ByteArray × Nat)} {ch : List Chg} {n : Nat} {fs : List (Nat × Fl)} {a c : Nat} : (pw d l ch n fs a false c).wstep s b 5 = if a = 1 then (110, pw d l ch n fs 0 true c) else (0, ⟨d.room, l, l, [], n, a - 1, false, c + 1, fs⟩) := by
  simp only [Dk.wstep, Dk.syncDir, pw_begin]
  by_cases ha : a = 1
  · simp [ha]
  · simp [ha]

/-- What the power may have left of a Write: the names that were synced, changes that touch two names alone; the file that is to be is whole once it takes the name. -/
structure Mid (d : Dk) (s : ByteArray) (b : List UInt8) (e : Dk) : Prop where
  len : ∀ i F, zB0 e.fs i = some F → zB0 d.fs i = some F ∨ F.b.length ≤ b.length + 4
  room : e.room = d.room
  kept : e.kept = d.kept
  old : ∀ i F, zB0 d.fs i = some F → zB0 e.fs i = some F
  chs : ∀ c ∈ e.changes, c ∈ d.changes ∨ c = rmC (zCa s) ∨ c = crC (zCa s) (d.files + 1) ∨ c = rnC s (zCa s) (d.files + 1) ∧ zB0 e.fs (d.files + 1) = some ⟨d.files + 1, zBp b, (zBp b).length⟩
/-- What a Write that is done leaves. -/
structure Done (d : Dk) (s : ByteArray) (b : List UInt8) (e : Dk) : Prop where
  room : e.room = d.room
  up : e.down = false
  kept : e.names = e.kept
  still : e.changes = []
  names : e.names = zCc (wl s d) s (d.files + 1)
  old : ∀ i F, zB0 d.fs i = some F → zB0 e.fs i = some F
  new : zB0 e.fs (d.files + 1) = some ⟨d.files + 1, zBp b, (zBp b).length⟩
  arm : d.armed = 0 → e.armed = 0
  fs : e.fs = d.fs ++ [(d.files + 1, ⟨d.files + 1, zBp b, (zBp b).length⟩)]
theorem Dk.wrun_succ (f k : Nat) (d : Dk) : Dk.wrun s b (f + 1) k d = if (d.wstep s b k).1 = 0 then Dk.wrun s b f (k + 1) (d.wstep s b k).2 else d.wstep s b k := rfl
theorem zFr {f k : Nat} {e e1 e2 : Dk} {a : Nat} {p : Prop} [Decidable p] (hst : e.wstep s b k = if p then (110, e1) else (0, e2)) : Dk.wrun s b (f + 1) k e = if p then (110, e1) else Dk.wrun s b f (k + 1) e2 := by
  rw [Dk.wrun_succ, hst]
  by_cases hp : p
  · simp [hp]
  · simp [hp]
theorem UpD.write (h : UpD d) (hv : zC6 s.data.toList = true) (hv2 : zC6 (zCa s).data.toList = true) (hr : useL d.fs (wl s d) + (b.length + 4) ≤ d.room) :
    ∃ k e, d.write s b = (k, e) ∧ (k = 0 ∧ Done d s b e ∨ k = 110 ∧ e.down = true ∧ d.armed ≠ 0 ∧ Mid d s b e) := by
  have hw : d.write s b = Dk.wrun s b 6 0 (pw d d.names d.changes d.files d.fs d.armed false d.calls) := by
    unfold Dk.write
    rw [if_pos ⟨hv, hv2⟩, ← h.form]
  have hold : ∀ (F : Fl) i G, zB0 d.fs i = some G → zB0 (d.fs ++ [(d.files + 1, F)]) i = some G := fun F i G hG => by rw [zDc h.key (fun e => h.key (e ▸ zDg hG)), hG]
  have hwc : ∀ x ∈ wc s d, x ∈ d.changes ∨ x = rmC (zCa s) := fun x hx => by
    unfold wc at hx
    rcases List.mem_append.1 hx with hx | hx
    · exact .inl hx
    · split at hx
      · exact .inr (by simpa using hx)
      · simp at hx
  have m0 : ∀ a dn c, Mid d s b (pw d d.names d.changes d.files d.fs a dn c) := fun a dn c => ⟨fun i F hF => .inl hF, rfl, rfl, fun i F hF => hF, fun c hc => .inl hc⟩
  have m1 : ∀ a dn c, Mid d s b (pw d (wl s d) (wc s d) d.files d.fs a dn c) := fun a dn c => ⟨fun i F hF => .inl hF, rfl, rfl, fun i F hF => hF, fun c hc => (hwc c hc).imp id .inl⟩
  have hlen : ∀ (F : Fl), F.b.length ≤ b.length + 4 → ∀ i G, zB0 (d.fs ++ [(d.files + 1, F)]) i = some G → zB0 d.fs i = some G ∨ G.b.length ≤ b.length + 4 := fun F hF i G hG => by
    by_cases e : i = d.files + 1
    · subst e; rw [zBv h.key] at hG; cases hG; exact .inr hF
    · rw [zDc h.key e] at hG; exact .inl hG
  have m2 : ∀ F, F.b.length ≤ b.length + 4 → ∀ a dn c, Mid d s b (pw d (wl s d ++ [(zCa s, d.files + 1)]) (wc s d ++ [crC (zCa s) (d.files + 1)]) (d.files + 1) (d.fs ++ [(d.files + 1, F)]) a dn c) := fun F hF a dn c => ⟨hlen F hF, rfl, rfl, hold F, fun c hc => by
    rcases List.mem_append.1 hc with hc | hc
    · exact (hwc c hc).imp id .inl
    · simp only [List.mem_cons, List.not_mem_nil, or_false] at hc; exact .inr (.inr (.inl hc))⟩
  have m5 : ∀ a dn c, Mid d s b (pw d (zCc (wl s d) s (d.files + 1)) (wc s d ++ [crC (zCa s) (d.files + 1)] ++ [rnC s (zCa s) (d.files + 1)]) (d.files + 1) (d.fs ++ [(d.files + 1, ⟨d.files + 1, zBp b, (zBp b).length⟩)]) a dn c) := fun a dn c => ⟨hlen _ (by rw [zBw]; exact Nat.le_refl _), rfl, rfl, hold _, fun c hc => by
    rcases List.mem_append.1 hc with hc | hc
    · rcases List.mem_append.1 hc with hc | hc
      · exact (hwc c hc).imp id .inl
      · simp only [List.mem_cons, List.not_mem_nil, or_false] at hc; exact .inr (.inr (.inl hc))
    · simp only [List.mem_cons, List.not_mem_nil, or_false] at hc; exact .inr (.inr (.inr ⟨hc, zBv h.key⟩))⟩
  rw [hw, zFr (a := 0) h.st0]
  by_cases p0 : (zB0 d.names (zCa s)).isSome = true ∧ d.armed = 1
  · rw [if_pos p0]; exact ⟨_, _, rfl, .inr ⟨rfl, rfl, by omega, m0 _ _ _⟩⟩
  rw [if_neg p0]
  obtain ⟨a1, h1⟩ : ∃ a1, (if (zB0 d.names (zCa s)).isSome then d.armed - 1 else d.armed) = a1 := ⟨_, rfl⟩
  obtain ⟨c1, g1⟩ : ∃ c1, (if (zB0 d.names (zCa s)).isSome then d.calls + 1 else d.calls) = c1 := ⟨_, rfl⟩
  have ha1 : d.armed = 0 → a1 = 0 := fun e => by rw [← h1, e]; split <;> rfl
  rw [h1, g1, zFr (a := 0) (h.st1 hv2)]
  by_cases p1 : a1 = 1
  · rw [if_pos p1]; exact ⟨_, _, rfl, .inr ⟨rfl, rfl, fun e => by have := ha1 e; omega, m1 _ _ _⟩⟩
  rw [if_neg p1, zFr (a := 0) (h.st2 hr)]
  by_cases p2 : a1 - 1 = 1
  · rw [if_pos p2]; exact ⟨_, _, rfl, .inr ⟨rfl, rfl, fun e => by have := ha1 e; omega, m2 _ (by simp [zBw]) _ _ _⟩⟩
  rw [if_neg p2, zFr (a := 0) h.st3]
  by_cases p3 : a1 - 1 - 1 = 1
  · rw [if_pos p3]; exact ⟨_, _, rfl, .inr ⟨rfl, rfl, fun e => by have := ha1 e; omega, m2 _ (by simp [zBw]) _ _ _⟩⟩
  rw [if_neg p3, zFr (a := 0) (h.st4 hv)]
  by_cases p4 : a1 - 1 - 1 - 1 = 1
  · rw [if_pos p4]; exact ⟨_, _, rfl, .inr ⟨rfl, rfl, fun e => by have := ha1 e; omega, m2 _ (by simp [zBw]) _ _ _⟩⟩
  rw [if_neg p4, zFr (a := 0) pw_st5]
  by_cases p5 : a1 - 1 - 1 - 1 - 1 = 1
  · rw [if_pos p5]; exact ⟨_, _, rfl, .inr ⟨rfl, rfl, fun e => by have := ha1 e; omega, m5 _ _ _⟩⟩
  rw [if_neg p5]
  exact ⟨_, _, rfl, .inl ⟨rfl, rfl, rfl, rfl, rfl, rfl, hold _, zBv h.key, fun e => by have := ha1 e; show a1 - 1 - 1 - 1 - 1 - 1 = 0; omega, rfl⟩⟩
end Go.Proofs.YtdkgdjnbpjjfmaaGreatDoor
namespace Go.Proofs.YtdkgdjnbpjjfmaaGreatDoor
set_option linter.all false
open Go.RowKit
variable {d e : Dk} {s : ByteArray} {b : List UInt8}

theorem Fl.crashed_whole {F : Fl} (h : F.syn = F.b.length) (picks : List Int) (k : Nat) : F.crashed picks k = F := by
  obtain ⟨i, b, q⟩ := F
  simp only at h
  subst h
  have h0 : zDf picks (k + 1) 0 = 0 := by have := pickN_le picks (k + 1) 0; omega
  simp [Fl.crashed, h0]
theorem zCm {picks : List Int} {i : Nat} {F : Fl} (hF : F.syn = F.b.length) : ∀ (l : List Nat) (k : Nat) (fs : List (Nat × Fl)), zB0 fs i = some F → zB0 (zC5 picks k l fs) i = some F
  | [], _, _, h => h
  | j :: l, k, fs, h => by
    refine zCm hF l (k + 1) _ ?_
    cases hj : zB0 fs j with
    | none => exact h
    | some G =>
      by_cases e : i = j
      · subst e
        rw [h] at hj
        cases hj
        simp only [zB5, Fl.crashed_whole hF]
      · rw [← h]; exact zB1 _ _ e
theorem aget_adel {κ α : Type} [DecidableEq κ] {l : List (κ × α)} {k j : κ} (h : j ≠ k) : zB0 (zDq l k) j = zB0 l j := zCg l h
/-- What is under two names may have changed, no other. -/
structure Near (l0 : List (ByteArray × Nat)) (s t : ByteArray) (S : Prop) (j : Nat) (l : List (ByteArray × Nat)) : Prop where
  nd : (zAh l).Nodup
  other : ∀ n, n ≠ s → n ≠ t → zB0 l n = zB0 l0 n
  at_s : zB0 l s = zB0 l0 s ∨ zB0 l s = some j ∧ S
theorem Near.app {l0 l : List (ByteArray × Nat)} {t : ByteArray} {S : Prop} {j : Nat} {c : Chg} (h : Near l0 s t S j l) (hst : t ≠ s) (ht : t ≠ ByteArray.empty) (hc : c = rmC t ∨ c = crC t j ∨ c = rnC s t j ∧ S) : Near l0 s t S j (c.app l) := by
  rcases hc with rfl | rfl | ⟨rfl, hS⟩
  · refine ⟨Chg.app_nodup h.nd, fun n h1 h2 => ?_, ?_⟩
    · simp only [Chg.app, if_neg ht]; rw [aget_adel h2]; exact h.other n h1 h2
    · simp only [Chg.app, if_neg ht]; rw [aget_adel (Ne.symm hst)]; exact h.at_s
  · refine ⟨Chg.app_nodup h.nd, fun n h1 h2 => ?_, ?_⟩
    · simp only [Chg.app, if_true]; rw [zB1 _ _ h2]; exact h.other n h1 h2
    · simp only [Chg.app, if_true]; rw [zB1 _ _ (Ne.symm hst)]; exact h.at_s
  · refine ⟨Chg.app_nodup h.nd, fun n h1 h2 => ?_, .inr ⟨?_, hS⟩⟩
    · simp only [Chg.app, if_neg ht]; rw [zB1 _ _ h1, aget_adel h2]; exact h.other n h1 h2
    · simp only [Chg.app]; exact zB5 _ _ _
theorem Near.all {l0 : List (ByteArray × Nat)} {t : ByteArray} {S : Prop} {j : Nat} (hst : t ≠ s) (ht : t ≠ ByteArray.empty) : ∀ {cs : List Chg} {l : List (ByteArray × Nat)}, Near l0 s t S j l → (∀ c ∈ cs, c = rmC t ∨ c = crC t j ∨ c = rnC s t j ∧ S) → Near l0 s t S j (zC1 l cs)
  | [], _, h, _ => h
  | c :: cs, l, h, hc => show Near l0 s t S j (zC1 (c.app l) cs) from Near.all (cs := cs) (l := c.app l) hst ht (h.app hst ht (hc c (List.mem_cons_self ..))) fun c' h' => hc c' (List.mem_cons_of_mem _ h')

/-- Under a name stands, whole and synced, v; or there is none. -/
def Under (d : Dk) (n : ByteArray) : Option (List UInt8) → Prop
  | none => zB0 d.names n = none
  | some v => ∃ i q, zB0 d.names n = some i ∧ zB0 d.fs i = some ⟨q, zBp v, (zBp v).length⟩
def zE (f : ByteArray → Option (List UInt8)) (s : ByteArray) (v : List UInt8) : ByteArray → Option (List UInt8) := fun n => if n = s then some v else f n
/-- The disk keeps f under the names N. -/
structure PtI (N : List ByteArray) (B : Nat) (f : ByteArray → Option (List UInt8)) (d : Dk) : Prop where
  calm : Calm d
  under : ∀ n ∈ N, Under d n (f n)
  keys : ∀ n ∈ zAh d.names, n ∈ N ∨ n ∈ N.map zCa
  len : ∀ i F, zB0 d.fs i = some F → F.b.length ≤ B
theorem useL_le {fs : List (Nat × Fl)} {B : Nat} (h : ∀ i F, zB0 fs i = some F → F.b.length ≤ B) : ∀ l : List (ByteArray × Nat), useL fs l ≤ l.length * B
  | [] => by simp [useL]
  | x :: l => by
    have ih := useL_le h l
    have h1 : ((zB0 fs x.2).map (·.b.length)).getD 0 ≤ B := by
      cases hx : zB0 fs x.2 with
      | none => exact Nat.zero_le _
      | some F => exact h _ F hx
    simp only [useL, List.map_cons, List.sum_cons, List.length_cons, Nat.succ_mul] at ih ⊢
    omega
theorem PtI.names_le {N : List ByteArray} {B : Nat} {f : ByteArray → Option (List UInt8)} (h : PtI N B f d) : d.names.length ≤ 2 * N.length := by
  have h1 : (zAh d.names).length ≤ (N ++ N.map zCa).length := h.calm.ok.nnd.length_le_of_subset fun n hn => List.mem_append.2 (h.keys n hn)
  simp [zAh] at h1
  omega
theorem PtI.room {N : List ByteArray} {B : Nat} {f : ByteArray → Option (List UInt8)} (h : PtI N B f d) (s : ByteArray) : useL d.fs (wl s d) ≤ 2 * N.length * B := by
  have h1 := useL_le h.len (wl s d)
  have h2 : (wl s d).length ≤ 2 * N.length := Nat.le_trans (adel_len _ _) h.names_le
  exact Nat.le_trans h1 (Nat.mul_le_mul_right _ h2)
theorem Done.pt {N : List ByteArray} {B : Nat} {f : ByteArray → Option (List UInt8)} (h : PtI N B f d) (hs : s ∈ N) (hN : ∀ n ∈ N, zCa s ≠ n) (hb : b.length + 4 ≤ B) (he : e.ok) (m : Done d s b e) : PtI N B (zE f s b) e := by
  have hag : ∀ n, n ≠ s → n ≠ zCa s → zB0 e.names n = zB0 d.names n := fun n h1 h2 => by rw [m.names, zB1 _ _ h1, wl, aget_adel h2]
  refine ⟨⟨⟨he, m.up⟩, m.kept, m.still⟩, fun n hn => ?_, fun n hn => ?_, fun i F hF => ?_⟩
  · unfold zE
    by_cases e1 : n = s
    · subst e1
      rw [if_pos rfl]
      exact ⟨_, _, by rw [m.names, zB5], m.new⟩
    · rw [if_neg e1]
      have h1 := h.under n hn
      have h2 := hag n e1 (Ne.symm (hN n hn))
      cases hf : f n with
      | none => rw [hf] at h1; exact h2.trans h1
      | some v => rw [hf] at h1; obtain ⟨i, q, k1, k2⟩ := h1; exact ⟨i, q, h2.trans k1, m.old i _ k2⟩
  · by_cases e1 : n = s
    · subst e1; exact .inl hs
    · by_cases e2 : n = zCa s
      · subst e2; exact .inr (List.mem_map_of_mem hs)
      · refine h.keys n ?_
        obtain ⟨v, hv⟩ := zCf hn
        rw [hag n e1 e2] at hv
        exact zDg hv
  · rw [m.fs] at hF
    by_cases e1 : i = d.files + 1
    · subst e1; rw [zBv h.calm.key] at hF; cases hF; show (zBp b).length ≤ B; rw [zBw]; exact hb
    · rw [zDc h.calm.key e1] at hF; exact h.len i F hF
theorem Mid.pt {N : List ByteArray} {B : Nat} {f : ByteArray → Option (List UInt8)} (h : PtI N B f d) (hs : s ∈ N) (hN : ∀ n ∈ N, zCa s ≠ n) (hb : b.length + 4 ≤ B) (he : e.ok) (m : Mid d s b e) (picks : List Int) : PtI N B f (e.crash picks) ∨ PtI N B (zE f s b) (e.crash picks) := by
  have hn0 : Near d.names s (zCa s) (zB0 e.fs (d.files + 1) = some ⟨d.files + 1, zBp b, (zBp b).length⟩) (d.files + 1) e.kept := by
    rw [m.kept, ← h.calm.kept]; exact ⟨h.calm.ok.nnd, fun n _ _ => rfl, .inl rfl⟩
  have hn := hn0.all (newN_ne s) (newN_some s) (cs := e.changes.take (zDf picks 0 e.changes.length)) fun c hc => (m.chs c (List.mem_of_mem_take hc)).resolve_left (fun h1 => by rw [h.calm.still] at h1; simp at h1)
  have hok := he.crash picks
  have hcalm : Calm (e.crash picks) := ⟨⟨hok, rfl⟩, rfl, rfl⟩
  have hkeys : ∀ n ∈ zAh (e.crash picks).names, n ∈ N ∨ n ∈ N.map zCa := fun n hk => by
    by_cases e1 : n = s
    · subst e1; exact .inl hs
    · by_cases e2 : n = zCa s
      · subst e2; exact .inr (List.mem_map_of_mem hs)
      · refine h.keys n ?_
        obtain ⟨v, hv⟩ := zCf hk
        have hv : zB0 (zC1 e.kept (e.changes.take (zDf picks 0 e.changes.length))) n = some v := hv
        rw [hn.other n e1 e2] at hv
        exact zDg hv
  have hlen : ∀ i F, zB0 (e.crash picks).fs i = some F → F.b.length ≤ B := fun i F hF => by
    have := zEd (P := fun i f => f.syn ≤ f.b.length ∧ f.b.length ≤ B) (fun i f picks k hf => by
      have h1 := Fl.crashed_fine hf.1 picks k
      exact ⟨h1.2.1, Nat.le_trans h1.2.2 hf.2⟩) (picks := picks) (zEj e.fs (zC1 e.kept (e.changes.take (zDf picks 0 e.changes.length)))) 0 e.fs (fun i f hf => ⟨(he.fid i f hf).2.1, by
        rcases m.len i f hf with h1 | h1
        · exact h.len i f h1
        · omega⟩) i F hF
    exact this.2
  have hold : ∀ n ∈ N, n ≠ s → Under (e.crash picks) n (f n) := fun n hnN hne => by
    have h1 := h.under n hnN
    have h2 : zB0 (e.crash picks).names n = zB0 d.names n := hn.other n hne (Ne.symm (hN n hnN))
    cases hf : f n with
    | none => rw [hf] at h1; exact h2.trans h1
    | some v => rw [hf] at h1; obtain ⟨i, q, k1, k2⟩ := h1; exact ⟨i, q, h2.trans k1, zCm rfl _ _ _ (m.old i _ k2)⟩
  rcases hn.at_s with h1 | ⟨h1, h2⟩
  · refine .inl ⟨hcalm, fun n hnN => ?_, hkeys, hlen⟩
    by_cases e1 : n = s
    · subst e1
      have h3 := h.under n hnN
      have h1 : zB0 (e.crash picks).names n = zB0 d.names n := h1
      cases hf : f n with
      | none => rw [hf] at h3; exact h1.trans h3
      | some v => rw [hf] at h3; obtain ⟨i, q, k1, k2⟩ := h3; exact ⟨i, q, h1.trans k1, zCm rfl _ _ _ (m.old i _ k2)⟩
    · exact hold n hnN e1
  · refine .inr ⟨hcalm, fun n hnN => ?_, hkeys, hlen⟩
    unfold zE
    by_cases e1 : n = s
    · subst e1; rw [if_pos rfl]; exact ⟨_, _, h1, zCm rfl _ _ _ h2⟩
    · rw [if_neg e1]; exact hold n hnN e1
theorem PtI.crash {N : List ByteArray} {B : Nat} {f : ByteArray → Option (List UInt8)} (h : PtI N B f d) (picks : List Int) : PtI N B f (d.crash picks) := by
  have hnm : (d.crash picks).names = d.names := by
    show zC1 d.kept (d.changes.take _) = d.names
    rw [h.calm.still, List.take_nil, h.calm.kept]
    rfl
  refine ⟨⟨⟨h.calm.ok.crash picks, rfl⟩, rfl, rfl⟩, fun n hn => ?_, fun n hn => h.keys n (hnm ▸ hn), fun i F hF => ?_⟩
  · have h1 := h.under n hn
    cases hf : f n with
    | none => rw [hf] at h1; show zB0 _ n = none; rw [hnm]; exact h1
    | some v => rw [hf] at h1; obtain ⟨i, q, k1, k2⟩ := h1; exact ⟨i, q, by rw [hnm]; exact k1, zCm rfl _ _ _ k2⟩
  · have := zEd (P := fun i f => f.syn ≤ f.b.length ∧ f.b.length ≤ B) (fun i f picks k hf => by
      have h1 := Fl.crashed_fine hf.1 picks k
      exact ⟨h1.2.1, Nat.le_trans h1.2.2 hf.2⟩) (picks := picks) (zEj d.fs (zC1 d.kept (d.changes.take (zDf picks 0 d.changes.length)))) 0 d.fs (fun i f hf => ⟨(h.calm.ok.fid i f hf).2.1, h.len i f hf⟩) i F hF
    exact this.2
theorem PtI.arm {N : List ByteArray} {B : Nat} {f : ByteArray → Option (List UInt8)} (h : PtI N B f d) {n : Nat} (hok : ({ d with armed := n } : Dk).ok) : PtI N B f { d with armed := n } :=
  ⟨⟨⟨hok, h.calm.up⟩, h.calm.kept, h.calm.still⟩, fun m hm => by have := h.under m hm; cases hf : f m <;> (rw [hf] at this; exact this), h.keys, h.len⟩
/-- A Write, whatever the power does. -/
theorem PtI.write {N : List ByteArray} {B : Nat} {f : ByteArray → Option (List UInt8)} (h : PtI N B f d) (hs : s ∈ N) (hN : ∀ n ∈ N, zCa s ≠ n) (hv : zC6 s.data.toList = true) (hv2 : zC6 (zCa s).data.toList = true) (hb : b.length + 4 ≤ B) (hr : 2 * N.length * B + B ≤ d.room) :
    ∃ k e, d.write s b = (k, e) ∧ e.room = d.room ∧ (k = 0 ∧ e.down = false ∧ (d.armed = 0 → e.armed = 0) ∧ (e.ok → PtI N B (zE f s b) e) ∨ k = 110 ∧ e.down = true ∧ d.armed ≠ 0 ∧ (e.ok → ∀ picks, PtI N B f (e.crash picks) ∨ PtI N B (zE f s b) (e.crash picks))) := by
  have h1 := h.room s
  obtain ⟨k, e, hk, hd⟩ := h.calm.write (b := b) hv hv2 (by omega)
  rcases hd with ⟨h1, m⟩ | ⟨h1, h2, h3, m⟩
  · exact ⟨k, e, hk, m.room, .inl ⟨h1, m.up, m.arm, fun he => m.pt h hs hN hb he⟩⟩
  · exact ⟨k, e, hk, m.room, .inr ⟨h1, h2, h3, fun he picks => m.pt h hs hN hb he picks⟩⟩
def readO : Option (List UInt8) → Nat × List UInt8
  | none => (107, [])
  | some v => (0, v)
theorem Under.read {n : ByteArray} {o : Option (List UInt8)} (h : Under d n o) (hu : d.down = false) : d.pread n = readO o := by
  cases o with
  | none =>
    have h1 : zB0 d.names n = none := h
    simp [Dk.pread, Dk.lenR, Dk.file, hu, h1, readO]
  | some v =>
    obtain ⟨i, q, k1, k2⟩ := h
    have hl : d.lenR n = (0, (zBp v).length) := by simp [Dk.lenR, Dk.file, hu, k1, Dk.fl, k2]
    have hr : d.readR n 0 ((zBp v).length : Int) = (0, zBp v) := (Dk.readR_at (o := 0) (m := (zBp v).length) hu k1 k2 (by show 0 + (zBp v).length ≤ (zBp v).length; omega)).trans (by simp)
    simp only [Dk.pread, hl, hr, open_seal, readO]
    simp
theorem PtI.read {N : List ByteArray} {B : Nat} {f : ByteArray → Option (List UInt8)} (h : PtI N B f d) {n : ByteArray} (hn : n ∈ N) : d.pread n = readO (f n) := (h.under n hn).read h.calm.up
theorem Dk.wrun_calls (s : ByteArray) (b : List UInt8) : ∀ (f k : Nat) (d : Dk), (Dk.wrun s b f k d).2.calls ≤ d.calls + f
  | 0, _, _ => Nat.le_refl _
  | f + 1, k, d => by
    have h1 := d.wstep_calls s b k
    have h2 := Dk.wrun_calls s b f (k + 1) (d.wstep s b k).2
    rw [Dk.wrun_succ]
    split
    · omega
    · omega
theorem Dk.write_calls {k : Nat} (h : d.write s b = (k, e)) : e.calls ≤ d.calls + 6 := by
  unfold Dk.write at h
  split at h
  · have := Dk.wrun_calls s b 6 0 d; rw [h] at this; exact this
  · cases h; omega
theorem PtI.start {N : List ByteArray} {B r : Nat} (hr : r ≤ 4194304) : PtI N B (fun _ => none) (Dk.empty r) :=
  ⟨⟨⟨Dk.empty_ok hr, rfl⟩, rfl, rfl⟩, fun n _ => rfl, fun n hn => by simp [Dk.empty, zAh] at hn, fun i F hF => by cases hF⟩
end Go.Proofs.YtdkgdjnbpjjfmaaGreatDoor
namespace Go.Proofs.YtdkgdjnbpjjfmaaGreatDoor
set_option linter.all false
open Go.RowKit
variable {d e : Dk} {s n : ByteArray} {b v x : List UInt8} {N : List ByteArray} {B : Nat} {f : ByteArray → Option (List UInt8)}

/-- Under a name stands, synced, v; or there is none. -/
def Raw (d : Dk) (n : ByteArray) : Option (List UInt8) → Prop
  | none => zB0 d.names n = none
  | some v => ∃ i q, zB0 d.names n = some i ∧ zB0 d.fs i = some ⟨q, v, v.length⟩
/-- The names are kept, and what stands under them. -/
structure RawS (N : List ByteArray) (B : Nat) (f : ByteArray → Option (List UInt8)) (d : Dk) : Prop where
  kept : d.names = d.kept
  still : d.changes = []
  under : ∀ n ∈ N, Raw d n (f n)
  apart : ∀ n ∈ N, ∀ m ∈ N, ∀ i, zB0 d.names n = some i → zB0 d.names m = some i → n = m
  keys : ∀ n ∈ zAh d.names, n ∈ N ∨ n ∈ N.map zCa
  len : ∀ i F, zB0 d.fs i = some F → F.b.length ≤ B
structure RawI (N : List ByteArray) (B : Nat) (f : ByteArray → Option (List UInt8)) (d : Dk) : Prop where
  ok : d.ok
  up : d.down = false
  st : RawS N B f d
theorem Raw.same {o : Option (List UInt8)} (h : Raw d n o) (h1 : zB0 e.names n = zB0 d.names n) (h2 : ∀ i F, zB0 d.names n = some i → zB0 d.fs i = some F → F.syn = F.b.length → zB0 e.fs i = some F) : Raw e n o := by
  cases o with
  | none => exact h1.trans h
  | some v => obtain ⟨i, q, k1, k2⟩ := h; exact ⟨i, q, h1.trans k1, h2 i _ k1 k2 rfl⟩
theorem RawS.same (h : RawS N B f d) (h1 : e.names = d.names) (h2 : e.kept = d.kept) (h3 : e.changes = d.changes) (h4 : e.fs = d.fs) : RawS N B f e :=
  ⟨by rw [h1, h2]; exact h.kept, by rw [h3]; exact h.still, fun n hn => (h.under n hn).same (by rw [h1]) fun i F _ hF _ => by rw [h4]; exact hF, by rw [h1]; exact h.apart, by rw [h1]; exact h.keys, by rw [h4]; exact h.len⟩
theorem RawS.crash_names (h : RawS N B f d) (picks : List Int) : (d.crash picks).names = d.names := by
  show zC1 d.kept (d.changes.take _) = d.names
  rw [h.still, List.take_nil, h.kept]
  rfl
theorem crash_len (ho : d.ok) (h : ∀ i F, zB0 d.fs i = some F → F.b.length ≤ B) (picks : List Int) : ∀ i F, zB0 (d.crash picks).fs i = some F → F.b.length ≤ B := fun i F hF => by
  have := zEd (P := fun i f => f.syn ≤ f.b.length ∧ f.b.length ≤ B) (fun i f picks k hf => by
      have h1 := Fl.crashed_fine hf.1 picks k
      exact ⟨h1.2.1, Nat.le_trans h1.2.2 hf.2⟩) (picks := picks) (zEj d.fs (zC1 d.kept (d.changes.take (zDf picks 0 d.changes.length)))) 0 d.fs (fun i f hf => ⟨(ho.fid i f hf).2.1, h i f hf⟩) i F hF
  exact this.2
theorem RawS.crash (h : RawS N B f d) (ho : d.ok) (picks : List Int) : RawI N B f (d.crash picks) := by
  have hnm := h.crash_names picks
  exact ⟨ho.crash picks, rfl, rfl, rfl, fun n hn => (h.under n hn).same (by rw [hnm]) fun i F _ hF hw => zCm hw _ _ _ hF, by rw [hnm]; exact h.apart, by rw [hnm]; exact h.keys, crash_len ho h.len picks⟩
/-- Of what was not synced some bytes come back. -/
theorem RawS.part (h : RawS N B f d) (hs : s ∈ N) {i q : Nat} (hi : zB0 d.names s = some i) (ho : e.ok) (h1 : e.names = d.names) (h2 : e.kept = d.kept) (h3 : e.changes = d.changes) (h4 : ∀ j, j ≠ i → zB0 e.fs j = zB0 d.fs j) (hF : zB0 e.fs i = some ⟨q, v ++ x, v.length⟩) (hB : v.length + x.length ≤ B) (picks : List Int) : ∃ j, RawI N B (zE f s (v ++ x.take j)) (e.crash picks) := by
  have hnm : (e.crash picks).names = d.names := by
    show zC1 e.kept (e.changes.take _) = d.names
    rw [h3, h.still, List.take_nil, h2, h.kept]
    rfl
  have hnd : (zEj e.fs (zC1 e.kept (e.changes.take (zDf picks 0 e.changes.length)))).Nodup := (ho.keys_rise.filter _).imp fun h => Nat.ne_of_lt h
  have hin : i ∈ zEj e.fs (zC1 e.kept (e.changes.take (zDf picks 0 e.changes.length))) := keptIds_mem.2 ⟨zDg hF, by
    show i ∈ (e.crash picks).names.map (·.2)
    rw [hnm]
    exact List.mem_map.2 ⟨_, zDd hi, rfl⟩⟩
  obtain ⟨k, hk⟩ := List.mem_iff_getElem?.1 hin
  have hat : zB0 (e.crash picks).fs i = some ((⟨q, v ++ x, v.length⟩ : Fl).crashed picks (0 + k)) := crashFs_at _ 0 _ hnd hk hF
  obtain ⟨j, hj⟩ : ∃ j, zDf picks (0 + k + 1) ((v ++ x).length - v.length) = j := ⟨_, rfl⟩
  have ht : (v ++ x).take (v.length + j) = v ++ x.take j := by rw [List.take_append, List.take_of_length_le (by omega)]; simp
  have hat : zB0 (e.crash picks).fs i = some ⟨q, v ++ x.take j, (v ++ x.take j).length⟩ := by rw [hat]; simp only [Fl.crashed, hj, ht]
  refine ⟨j, ho.crash picks, rfl, rfl, rfl, fun n hn => ?_, by rw [hnm]; exact h.apart, by rw [hnm]; exact h.keys, crash_len ho (fun a F hF' => ?_) picks⟩
  · unfold zE
    by_cases e1 : n = s
    · subst e1; rw [if_pos rfl]; exact ⟨i, q, by rw [hnm]; exact hi, hat⟩
    · rw [if_neg e1]
      refine (h.under n hn).same (by rw [hnm]) fun a F ha hF' hw => zCm hw _ _ _ ?_
      rw [h4 a fun ea => e1 (h.apart n hn s hs a ha (ea ▸ hi))]; exact hF'
  · by_cases ea : a = i
    · subst ea; rw [hF] at hF'; cases hF'; simpa using hB
    · rw [h4 a ea] at hF'; exact h.len a F hF'
theorem RawI.names_le (h : RawI N B f d) : d.names.length ≤ 2 * N.length := by
  have h1 : (zAh d.names).length ≤ (N ++ N.map zCa).length := h.ok.nnd.length_le_of_subset fun n hn => List.mem_append.2 (h.st.keys n hn)
  simp [zAh] at h1
  omega
theorem RawI.used (h : RawI N B f d) : d.used ≤ 2 * N.length * B := by
  have h1 : useL d.fs d.names ≤ d.names.length * B := useL_le h.st.len d.names
  exact Nat.le_trans h1 (Nat.mul_le_mul_right _ h.names_le)
theorem RawI.calm (h : RawI N B f d) : Calm d := ⟨⟨h.ok, h.up⟩, h.st.kept, h.st.still⟩
theorem RawI.roomW (h : RawI N B f d) (s : ByteArray) : useL d.fs (wl s d) ≤ 2 * N.length * B := by
  have h1 := useL_le h.st.len (wl s d)
  have h2 : (wl s d).length ≤ 2 * N.length := Nat.le_trans (adel_len _ _) h.names_le
  exact Nat.le_trans h1 (Nat.mul_le_mul_right _ h2)
theorem RawI.old_id (h : RawI N B f d) {i : Nat} (hi : zB0 d.names n = some i) : i ≠ d.files + 1 := fun e => h.ok.fresh (e ▸ h.ok.named hi)
theorem Done.raw (h : RawI N B f d) (hs : s ∈ N) (hN : ∀ n ∈ N, zCa s ≠ n) (hb : b.length + 4 ≤ B) (he : e.ok) (m : Done d s b e) : RawI N B (zE f s (zBp b)) e := by
  have hag : ∀ n, n ≠ s → n ≠ zCa s → zB0 e.names n = zB0 d.names n := fun n h1 h2 => by rw [m.names, zB1 _ _ h1, wl, aget_adel h2]
  have has : zB0 e.names s = some (d.files + 1) := by rw [m.names, zB5]
  refine ⟨he, m.up, m.kept, m.still, fun n hn => ?_, fun n hn n' hn' i h1 h2 => ?_, fun n hn => ?_, fun i F hF => ?_⟩
  · unfold zE
    by_cases e1 : n = s
    · subst e1; rw [if_pos rfl]; exact ⟨_, _, has, m.new⟩
    · rw [if_neg e1]; exact (h.st.under n hn).same (hag n e1 (Ne.symm (hN n hn))) fun i F _ hF _ => m.old i F hF
  · by_cases e1 : n = s
    · by_cases e2 : n' = s
      · rw [e1, e2]
      · rw [e1, has] at h1
        rw [hag n' e2 (Ne.symm (hN n' hn'))] at h2
        cases h1
        exact absurd rfl (h.old_id h2)
    · by_cases e2 : n' = s
      · rw [e2, has] at h2
        rw [hag n e1 (Ne.symm (hN n hn))] at h1
        cases h2
        exact absurd rfl (h.old_id h1)
      · rw [hag n e1 (Ne.symm (hN n hn))] at h1
        rw [hag n' e2 (Ne.symm (hN n' hn'))] at h2
        exact h.st.apart n hn n' hn' i h1 h2
  · by_cases e1 : n = s
    · subst e1; exact .inl hs
    · by_cases e2 : n = zCa s
      · subst e2; exact .inr (List.mem_map_of_mem hs)
      · refine h.st.keys n ?_
        obtain ⟨v, hv⟩ := zCf hn
        rw [hag n e1 e2] at hv
        exact zDg hv
  · rw [m.fs] at hF
    by_cases e1 : i = d.files + 1
    · subst e1; rw [zBv h.ok.fresh] at hF; cases hF; show (zBp b).length ≤ B; rw [zBw]; exact hb
    · rw [zDc h.ok.fresh e1] at hF; exact h.st.len i F hF
theorem Mid.raw (h : RawI N B f d) (hs : s ∈ N) (hN : ∀ n ∈ N, zCa s ≠ n) (hb : b.length + 4 ≤ B) (he : e.ok) (m : Mid d s b e) (picks : List Int) : RawI N B f (e.crash picks) ∨ RawI N B (zE f s (zBp b)) (e.crash picks) := by
  have hn0 : Near d.names s (zCa s) (zB0 e.fs (d.files + 1) = some ⟨d.files + 1, zBp b, (zBp b).length⟩) (d.files + 1) e.kept := by
    rw [m.kept, ← h.st.kept]; exact ⟨h.ok.nnd, fun n _ _ => rfl, .inl rfl⟩
  have hn := hn0.all (newN_ne s) (newN_some s) (cs := e.changes.take (zDf picks 0 e.changes.length)) fun c hc => (m.chs c (List.mem_of_mem_take hc)).resolve_left (fun h1 => by rw [h.st.still] at h1; simp at h1)
  have hkeys : ∀ n ∈ zAh (e.crash picks).names, n ∈ N ∨ n ∈ N.map zCa := fun n hk => by
    by_cases e1 : n = s
    · subst e1; exact .inl hs
    · by_cases e2 : n = zCa s
      · subst e2; exact .inr (List.mem_map_of_mem hs)
      · refine h.st.keys n ?_
        obtain ⟨v, hv⟩ := zCf hk
        have hv : zB0 (zC1 e.kept (e.changes.take (zDf picks 0 e.changes.length))) n = some v := hv
        rw [hn.other n e1 e2] at hv
        exact zDg hv
  have hlen := crash_len he (B := B) (fun i F hF => by
    rcases m.len i F hF with h1 | h1
    · exact h.st.len i F h1
    · omega) picks
  have hoth : ∀ n ∈ N, n ≠ s → zB0 (e.crash picks).names n = zB0 d.names n := fun n hnN hne => hn.other n hne (Ne.symm (hN n hnN))
  have hold : ∀ n ∈ N, zB0 (e.crash picks).names n = zB0 d.names n → Raw (e.crash picks) n (f n) := fun n hnN h2 => (h.st.under n hnN).same h2 fun i F _ hF hw => zCm hw _ _ _ (m.old i F hF)
  rcases hn.at_s with h1 | ⟨h1, h2⟩
  · have hall : ∀ n ∈ N, zB0 (e.crash picks).names n = zB0 d.names n := fun n hnN => by
      by_cases e1 : n = s
      · subst e1; exact h1
      · exact hoth n hnN e1
    exact .inl ⟨he.crash picks, rfl, rfl, rfl, fun n hnN => hold n hnN (hall n hnN), fun n hnN n' hn' i g1 g2 => h.st.apart n hnN n' hn' i (hall n hnN ▸ g1) (hall n' hn' ▸ g2), hkeys, hlen⟩
  · have has : zB0 (e.crash picks).names s = some (d.files + 1) := h1
    refine .inr ⟨he.crash picks, rfl, rfl, rfl, fun n hnN => ?_, fun n hnN n' hn' i g1 g2 => ?_, hkeys, hlen⟩
    · unfold zE
      by_cases e1 : n = s
      · subst e1; rw [if_pos rfl]; exact ⟨_, _, has, zCm rfl _ _ _ h2⟩
      · rw [if_neg e1]; exact hold n hnN (hoth n hnN e1)
    · by_cases e1 : n = s
      · by_cases e2 : n' = s
        · rw [e1, e2]
        · rw [e1, has] at g1
          rw [hoth n' hn' e2] at g2
          cases g1
          exact absurd rfl (h.old_id g2)
      · by_cases e2 : n' = s
        · rw [e2, has] at g2
          rw [hoth n hnN e1] at g1
          cases g2
          exact absurd rfl (h.old_id g1)
        · rw [hoth n hnN e1] at g1
          rw [hoth n' hn' e2] at g2
          exact h.st.apart n hnN n' hn' i g1 g2
/-- A Write, whatever the power does. -/
theorem RawI.write (h : RawI N B f d) (hs : s ∈ N) (hN : ∀ n ∈ N, zCa s ≠ n) (hv : zC6 s.data.toList = true) (hv2 : zC6 (zCa s).data.toList = true) (hb : b.length + 4 ≤ B) (hr : 2 * N.length * B + B ≤ d.room) :
    ∃ k e, d.write s b = (k, e) ∧ e.room = d.room ∧ e.calls ≤ d.calls + 6 ∧ (k = 0 ∧ e.down = false ∧ (d.armed = 0 → e.armed = 0) ∧ (e.ok → RawI N B (zE f s (zBp b)) e) ∨ k = 110 ∧ e.down = true ∧ d.armed ≠ 0 ∧ (e.ok → ∀ picks, RawI N B f (e.crash picks) ∨ RawI N B (zE f s (zBp b)) (e.crash picks))) := by
  have h1 := h.roomW s
  obtain ⟨k, e, hk, hd⟩ := UpD.write ⟨h.ok, h.up⟩ (b := b) hv hv2 (by omega)
  rcases hd with ⟨h1, m⟩ | ⟨h1, h2, h3, m⟩
  · exact ⟨k, e, hk, m.room, Dk.write_calls hk, .inl ⟨h1, m.up, m.arm, fun he => m.raw h hs hN hb he⟩⟩
  · exact ⟨k, e, hk, m.room, Dk.write_calls hk, .inr ⟨h1, h2, h3, fun he picks => m.raw h hs hN hb he picks⟩⟩
theorem Dk.find_arm {i : Nat} (hu : d.down = false) (hn : zB0 d.names n = some i) : d.find n = if d.armed = 1 then (110, none, { d with armed := 0, down := true }) else (0, some i, { d with armed := d.armed - 1 }) := by
  obtain ⟨room, names, kept, changes, files, a, down, calls, fs⟩ := d
  simp only at hu hn
  subst hu
  by_cases h0 : a = 0
  · subst h0; simp [Dk.find, Dk.begin, Dk.file, hn]
  · by_cases h1 : a = 1
    · subst h1; simp [Dk.find, Dk.begin]
    · simp [Dk.find, Dk.begin, Dk.file, hn, h0, h1]
theorem RawS.set (h : RawS N B f d) (hs : s ∈ N) {i q : Nat} (hi : zB0 d.names s = some i) (h1 : e.names = d.names) (h2 : e.kept = d.kept) (h3 : e.changes = d.changes) (h4 : ∀ j, j ≠ i → zB0 e.fs j = zB0 d.fs j) (hF : zB0 e.fs i = some ⟨q, v, v.length⟩) (hB : v.length ≤ B) : RawS N B (zE f s v) e := by
  refine ⟨by rw [h1, h2]; exact h.kept, by rw [h3]; exact h.still, fun n hn => ?_, by rw [h1]; exact h.apart, by rw [h1]; exact h.keys, fun a F hF' => ?_⟩
  · unfold zE
    by_cases e1 : n = s
    · subst e1; rw [if_pos rfl]; exact ⟨i, q, by rw [h1]; exact hi, hF⟩
    · rw [if_neg e1]
      exact (h.under n hn).same (by rw [h1]) fun a F ha hF' hw => by rw [h4 a fun ea => e1 (h.apart n hn s hs a ha (ea ▸ hi))]; exact hF'
  · by_cases ea : a = i
    · subst ea; rw [hF] at hF'; cases hF'; exact hB
    · rw [h4 a ea] at hF'; exact h.len a F hF'
/-- Bytes laid behind, and synced; whatever the power does. -/
theorem RawI.grow (h : RawI N B f d) (hs : s ∈ N) (hf : f s = some v) (hb : v.length + x.length ≤ B) (hr : 2 * N.length * B + B ≤ d.room) :
    ∃ k e, d.append s x = (k, e) ∧ e.room = d.room ∧ e.calls ≤ d.calls + 1 ∧ (k = 110 ∧ e.down = true ∧ d.armed ≠ 0 ∧ (e.ok → ∀ picks, RawI N B f (e.crash picks)) ∨
      k = 0 ∧ e.down = false ∧ ∃ k2 e2, e.sync s = (k2, e2) ∧ e2.room = d.room ∧ e2.calls ≤ d.calls + 2 ∧ (k2 = 0 ∧ e2.down = false ∧ (d.armed = 0 → e2.armed = 0) ∧ (e2.ok → RawI N B (zE f s (v ++ x)) e2) ∨ k2 = 110 ∧ e2.down = true ∧ d.armed ≠ 0 ∧ (e2.ok → ∀ picks, ∃ j, RawI N B (zE f s (v ++ x.take j)) (e2.crash picks)))) := by
  have hu := h.st.under s hs
  rw [hf] at hu
  obtain ⟨i, q, hi, hF⟩ := hu
  have hus := h.used
  have hap : d.append s x = if d.armed = 1 then (110, { d with armed := 0, down := true }) else (0, { (({ d with armed := d.armed - 1 } : Dk).setF i ⟨q, v ++ x, v.length⟩) with calls := d.calls + 1 }) := by
    unfold Dk.append
    rw [Dk.find_arm h.up hi]
    by_cases h1 : d.armed = 1
    · simp [h1]
    · rw [if_neg h1, if_neg h1]
      have hfl : ({ d with armed := d.armed - 1 } : Dk).fl i = ⟨q, v, v.length⟩ := by simp [Dk.fl, hF]
      have h2 : ({ d with armed := d.armed - 1 } : Dk).used = d.used := rfl
      simp only [hfl, h2]
      rw [if_neg (by omega)]
  by_cases h1 : d.armed = 1
  · rw [if_pos h1] at hap
    exact ⟨_, _, hap, rfl, Nat.le_succ _, .inl ⟨rfl, rfl, by omega, fun ho picks => RawS.crash (d := { d with armed := 0, down := true }) (h.st.same rfl rfl rfl rfl) ho picks⟩⟩
  · rw [if_neg h1] at hap
    refine ⟨_, _, hap, rfl, Nat.le_refl _, .inr ⟨rfl, h.up, ?_⟩⟩
    obtain ⟨e, he⟩ : ∃ e, e = ({ (({ d with armed := d.armed - 1 } : Dk).setF i ⟨q, v ++ x, v.length⟩) with calls := d.calls + 1 } : Dk) := ⟨_, rfl⟩
    rw [← he]
    have n1 : e.names = d.names := by rw [he]; rfl
    have n2 : e.kept = d.kept := by rw [he]; rfl
    have n3 : e.changes = d.changes := by rw [he]; rfl
    have n4 : e.fs = zCc d.fs i ⟨q, v ++ x, v.length⟩ := by rw [he]; rfl
    have n5 : e.armed = d.armed - 1 := by rw [he]; rfl
    have n6 : e.down = false := by rw [he]; exact h.up
    have n7 : e.room = d.room := by rw [he]; rfl
    have n8 : e.calls = d.calls + 1 := by rw [he]
    have hsy : e.sync s = if e.armed = 1 then (110, { e with armed := 0, down := true }) else (0, { (({ e with armed := e.armed - 1 } : Dk).setF i ⟨q, v ++ x, (v ++ x).length⟩) with calls := e.calls + 1 }) := by
      unfold Dk.sync
      rw [Dk.find_arm n6 (by rw [n1]; exact hi)]
      by_cases h1 : e.armed = 1
      · simp [h1]
      · rw [if_neg h1, if_neg h1]
        have hfl : ({ e with armed := e.armed - 1 } : Dk).fl i = ⟨q, v ++ x, v.length⟩ := by simp [Dk.fl, n4, zB5]
        simp only [hfl]
    have ho1 : ∀ j, j ≠ i → zB0 e.fs j = zB0 d.fs j := fun j hj => by rw [n4]; exact zB1 _ _ hj
    by_cases h2 : e.armed = 1
    · rw [if_pos h2] at hsy
      exact ⟨_, _, hsy, n7, by show e.calls ≤ _; omega, .inr ⟨rfl, rfl, by omega, fun ho picks => h.st.part hs hi ho n1 n2 n3 ho1 (by show zB0 e.fs i = _; rw [n4, zB5]) hb picks⟩⟩
    · rw [if_neg h2] at hsy
      refine ⟨_, _, hsy, n7, by show e.calls + 1 ≤ _; omega, .inl ⟨rfl, n6, fun ha => by show e.armed - 1 = 0; omega, fun ho => ⟨ho, n6, h.st.set (q := q) hs hi n1 n2 n3 (fun j hj => ?_) ?_ (by simpa using hb)⟩⟩⟩
      · show zB0 (zCc e.fs i _) j = _
        rw [zB1 _ _ hj, ho1 j hj]
      · show zB0 (zCc e.fs i _) i = _
        rw [zB5]
/-- A cut, whatever the power does. -/
theorem RawI.cut (h : RawI N B f d) (hs : s ∈ N) (hf : f s = some v) {m : Nat} (hm : m ≤ v.length) :
    ∃ k e, d.cut s m = (k, e) ∧ e.room = d.room ∧ e.calls ≤ d.calls + 1 ∧ (k = 0 ∧ e.down = false ∧ (d.armed = 0 → e.armed = 0) ∧ (e.ok → RawI N B (zE f s (v.take m)) e) ∨ k = 110 ∧ e.down = true ∧ d.armed ≠ 0 ∧ (e.ok → ∀ picks, RawI N B f (e.crash picks))) := by
  have hu := h.st.under s hs
  rw [hf] at hu
  obtain ⟨i, q, hi, hF⟩ := hu
  have hB := h.st.len i _ hF
  have hap : d.cut s m = if d.armed = 1 then (110, { d with armed := 0, down := true }) else (0, { (({ d with armed := d.armed - 1 } : Dk).setF i ⟨q, v.take m, m⟩) with calls := d.calls + 1 }) := by
    unfold Dk.cut
    rw [Dk.find_arm h.up hi]
    by_cases h1 : d.armed = 1
    · simp [h1]
    · rw [if_neg h1, if_neg h1]
      have hfl : ({ d with armed := d.armed - 1 } : Dk).fl i = ⟨q, v, v.length⟩ := by simp [Dk.fl, hF]
      simp only [hfl]
      rw [if_neg (by omega)]
      simp
  by_cases h1 : d.armed = 1
  · rw [if_pos h1] at hap
    exact ⟨_, _, hap, rfl, Nat.le_succ _, .inr ⟨rfl, rfl, by omega, fun ho picks => RawS.crash (d := { d with armed := 0, down := true }) (h.st.same rfl rfl rfl rfl) ho picks⟩⟩
  · rw [if_neg h1] at hap
    have hl : (v.take m).length = m := by rw [List.length_take]; omega
    refine ⟨_, _, hap, rfl, Nat.le_refl _, .inl ⟨rfl, h.up, fun ha => by show d.armed - 1 = 0; omega, fun ho => ⟨ho, h.up, h.st.set (q := q) hs hi rfl rfl rfl (fun j hj => ?_) ?_ (by simp only at hB; omega)⟩⟩⟩
    · show zB0 (zCc d.fs i _) j = _
      exact zB1 _ _ hj
    · show zB0 (zCc d.fs i _) i = _
      rw [zB5, hl]
theorem RawI.sync (h : RawI N B f d) (ha : d.armed = 0) (hs : s ∈ N) (hf : f s = some v) : ∃ e, d.sync s = (0, e) ∧ e.room = d.room ∧ e.armed = 0 ∧ e.calls ≤ d.calls + 1 ∧ (e.ok → RawI N B f e) := by
  have hu := h.st.under s hs
  rw [hf] at hu
  obtain ⟨i, q, hi, hF⟩ := hu
  have hfl : d.fl i = ⟨q, v, v.length⟩ := by simp [Dk.fl, hF]
  have hsy := Dk.sync_up (n := s) h.up ha hi
  rw [hfl] at hsy
  have hB := h.st.len i _ hF
  refine ⟨_, hsy, rfl, ha, Nat.le_refl _, fun ho => ⟨ho, h.up, ?_⟩⟩
  have hff : zE f s v = f := by funext n; unfold zE; split; rename_i e1; rw [e1, hf]; rfl
  rw [← hff]
  refine h.st.set (q := q) hs hi rfl rfl rfl (fun j hj => ?_) ?_ hB
  · show zB0 (zCc d.fs i _) j = _
    exact zB1 _ _ hj
  · show zB0 (zCc d.fs i _) i = _
    rw [zB5]
/-- A new file, its name synced. -/
theorem RawI.make (h : RawI N B f d) (ha : d.armed = 0) (hs : s ∈ N) (hf : f s = none) (hv : zC6 s.data.toList = true) : ∃ e e2, d.create s = (0, e) ∧ e.syncDir = (0, e2) ∧ e2.room = d.room ∧ e2.armed = 0 ∧ e.calls ≤ d.calls + 1 ∧ e2.calls ≤ d.calls + 2 ∧ (e2.ok → RawI N B (zE f s []) e2) := by
  have hu : zB0 d.names s = none := by have := h.st.under s hs; rw [hf] at this; exact this
  have hcr := Dk.create_up (n := s) h.up ha hv hu
  have hnk : s ∉ zAh d.names := (zBb _ _).1 hu
  refine ⟨_, _, hcr, Dk.syncDir_up h.up ha, rfl, ha, Nat.le_refl _, Nat.le_refl _, fun ho => ⟨ho, h.up, rfl, rfl, fun n hn => ?_, fun n hn n' hn' i h1 h2 => ?_, fun n hn => ?_, fun i F hF => ?_⟩⟩
  · have hag : n ≠ s → zB0 (zCc d.names s (d.files + 1)) n = zB0 d.names n := fun e1 => zB1 _ _ e1
    unfold zE
    by_cases e1 : n = s
    · subst e1; rw [if_pos rfl]; exact ⟨d.files + 1, d.files + 1, zB5 _ _ _, zBv h.ok.fresh⟩
    · rw [if_neg e1]
      exact (h.st.under n hn).same (hag e1) fun i F hi hF _ => (zDc h.ok.fresh (h.old_id hi)).trans hF
  · have h1 : zB0 (zCc d.names s (d.files + 1)) n = some i := h1
    have h2 : zB0 (zCc d.names s (d.files + 1)) n' = some i := h2
    by_cases e1 : n = s
    · by_cases e2 : n' = s
      · rw [e1, e2]
      · rw [e1, zB5] at h1
        rw [zB1 _ _ e2] at h2
        cases h1
        exact absurd rfl (h.old_id h2)
    · by_cases e2 : n' = s
      · rw [e2, zB5] at h2
        rw [zB1 _ _ e1] at h1
        cases h2
        exact absurd rfl (h.old_id h1)
      · rw [zB1 _ _ e1] at h1
        rw [zB1 _ _ e2] at h2
        exact h.st.apart n hn n' hn' i h1 h2
  · have hn : n ∈ zAh (zCc d.names s (d.files + 1)) := hn
    by_cases e1 : n = s
    · subst e1; exact .inl hs
    · obtain ⟨v, hv⟩ := zCf hn
      rw [zB1 _ _ e1] at hv
      exact h.st.keys n (zDg hv)
  · have hF : zB0 (d.fs ++ [(d.files + 1, (⟨d.files + 1, [], 0⟩ : Fl))]) i = some F := hF
    by_cases e1 : i = d.files + 1
    · subst e1; rw [zBv h.ok.fresh] at hF; cases hF; exact Nat.zero_le _
    · rw [zDc h.ok.fresh e1] at hF; exact h.st.len i F hF
theorem RawI.lenR (h : RawI N B f d) (hs : s ∈ N) : d.lenR s = (f s).elim (107, 0) fun v => (0, v.length) := by
  have hu := h.st.under s hs
  cases hf : f s with
  | none =>
    rw [hf] at hu
    have h1 : zB0 d.names s = none := hu
    simp [Dk.lenR, Dk.file, h.up, h1]
  | some v =>
    rw [hf] at hu
    obtain ⟨i, q, k1, k2⟩ := hu
    simp [Dk.lenR, Dk.file, h.up, k1, Dk.fl, k2]
theorem RawI.readR (h : RawI N B f d) (hs : s ∈ N) (hf : f s = some v) : d.readR s 0 (v.length : Int) = (0, v) := by
  have hu := h.st.under s hs
  rw [hf] at hu
  obtain ⟨i, q, k1, k2⟩ := hu
  exact (Dk.readR_at (o := 0) (m := v.length) h.up k1 k2 (by show 0 + v.length ≤ v.length; omega)).trans (by simp)
theorem RawI.pread_none (h : RawI N B f d) (hs : s ∈ N) (hf : f s = none) : d.pread s = (107, []) := by
  have h1 := h.lenR hs
  rw [hf] at h1
  simp [Dk.pread, h1]
theorem RawI.pread_some (h : RawI N B f d) (hs : s ∈ N) (hf : f s = some (zBp v)) : d.pread s = (0, v) := by
  have h1 := h.lenR hs
  rw [hf] at h1
  have h1 : d.lenR s = (0, (zBp v).length) := h1
  have h2 := h.readR hs hf
  simp only [Dk.pread, h1, h2, open_seal]
  simp
theorem RawI.start {r : Nat} (hr : r ≤ 4194304) : RawI N B (fun _ => none) (Dk.empty r) :=
  ⟨Dk.empty_ok hr, rfl, rfl, rfl, fun n _ => rfl, fun n _ m _ i h => by simp [Dk.empty, zB0] at h, fun n hn => by simp [Dk.empty, zAh] at hn, fun i F hF => by cases hF⟩
theorem RawI.arm (h : RawI N B f d) {n : Nat} (hok : ({ d with armed := n } : Dk).ok) : RawI N B f { d with armed := n } := ⟨hok, h.up, h.st.same rfl rfl rfl rfl⟩
theorem zCy (f : ByteArray → Option (List UInt8)) (s : ByteArray) (v : List UInt8) : zE f s v s = some v := by simp [zE]
theorem zFl (f : ByteArray → Option (List UInt8)) {s n : ByteArray} (v : List UInt8) (h : n ≠ s) : zE f s v n = f n := by simp [zE, h]
end Go.Proofs.YtdkgdjnbpjjfmaaGreatDoor
