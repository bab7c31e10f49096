/- The store's Clone, over chunks. -/
import Derived.Test.YtjiigajekminaaaDoorRg
import Derived.Test.YtjiigajekminaaaDoorT3
import Derived.Test.YtjiigajekminaaaDoorClone
namespace Go.Proofs.YtjiigajekminaaaDoor
set_option linter.all false
open Go.RowKit
attribute [local irreducible] errV
variable {g w : World} {L M : List HP} {ad : Nat → Addr} {p q : Nat} {st : St}

theorem cloneI_sl (hs : Mem g w L) {v : Value} {l : List Int} (h : Rd g L v (intsL l)) (hl : l.length ≤ 1073741824) : Calls Tryd.prog 98 #[v] w (Ret fun v w' => ∃ a c, v = .slice a (intsL l).length c ∧ Mem g w' (own (.slice a (intsL l).length c) (intsL l) :: L)) :=
  newSeq_sl hs (clone_ints v _ w (h.seq hs) (intsL_one l) (by simpa [intsL] using hl))

section
variable {κ α : Type} [DecidableEq κ]
theorem adel_perm {l : List (κ × α)} {k : κ} {v : α} (h : aget l k = some v) : l.Perm ((k, v) :: adel l k) := by
  induction l with
  | nil => simp [aget] at h
  | cons x l ih =>
    obtain ⟨a, b⟩ := x
    simp only [aget] at h
    simp only [adel]
    split
    · rename_i e; rw [if_pos e] at h; cases h; rw [e]
    · rename_i e; rw [if_neg e] at h; exact ((ih h).cons _).trans (List.Perm.swap _ _ _)
theorem aput_fresh {l : List (κ × α)} {k : κ} {v : α} (h : aget l k = none) : aput l k v = l ++ [(k, v)] := by
  induction l with
  | nil => rfl
  | cons x l ih =>
    obtain ⟨a, b⟩ := x
    simp only [aget] at h
    simp only [List.cons_append, aput]
    split
    · rename_i e; rw [if_pos e] at h; cases h
    · rename_i e; rw [if_neg e] at h; rw [ih h]
theorem aget_adel {l : List (κ × α)} (hn : (keysOf l).Nodup) {k j : κ} {v : α} (h : aget (adel l k) j = some v) : aget l j = some v := by
  by_cases e : j = k
  · subst e; rw [aget_del_same hn] at h; cases h
  · rwa [aget_del_other _ e] at h
/-- How far a copy is: what is left (as values, as what they hold), what has been copied. -/
structure CJ (es : List (κ × Value)) (objs : List (κ × List UInt8)) (left : List (κ × Value)) (lo objs2 : List (κ × List UInt8)) : Prop where
  nd : (keysOf objs).Nodup
  ndl : (keysOf left).Nodup
  sub : ∀ k v, aget left k = some v → aget es k = some v
  keys : keysOf lo = keysOf left
  vals : ∀ k b, aget lo k = some b → aget objs k = some b
  perm : (objs2 ++ lo).Perm objs
theorem CJ.start {es : List (κ × Value)} {objs : List (κ × List UInt8)} (h : keysOf es = keysOf objs) (hn : (keysOf objs).Nodup) : CJ es objs es objs [] := ⟨hn, h ▸ hn, fun _ _ h => h, h.symm, fun _ _ h => h, List.Perm.refl _⟩
theorem CJ.some {es left : List (κ × Value)} {objs lo objs2 : List (κ × List UInt8)} (h : CJ es objs left lo objs2) {k : κ} {v : Value} (hk : aget left k = some v) : ∃ b, aget lo k = some b ∧ aget objs k = some b ∧ aget es k = some v := by
  cases hb : aget lo k with
  | some b => exact ⟨b, rfl, h.vals k b hb, h.sub k v hk⟩
  | none =>
    have := (aget_none_iff lo k).1 hb
    rw [h.keys] at this
    rw [(aget_none_iff left k).2 this] at hk
    cases hk
theorem CJ.step {es left : List (κ × Value)} {objs lo objs2 : List (κ × List UInt8)} (h : CJ es objs left lo objs2) {k : κ} {b : List UInt8} (hb : aget lo k = .some b) : CJ es objs (adel left k) (adel lo k) (aput objs2 k b) := by
  have hndo : (keysOf lo).Nodup := h.keys ▸ h.ndl
  have hp := adel_perm hb
  have hall : (keysOf (objs2 ++ lo)).Nodup := ((h.perm.map Prod.fst).nodup_iff).2 h.nd
  have hk2 : aget objs2 k = none := (aget_none_iff _ _).2 fun hm => by
    simp only [keysOf, List.map_append, List.nodup_append] at hall
    exact hall.2.2 k hm k (List.mem_map_of_mem (aget_mem hb)) rfl
  refine ⟨h.nd, ?_, fun j v hj => h.sub j v (aget_adel h.ndl hj), ?_, fun j c hj => h.vals j c (aget_adel hndo hj), ?_⟩
  · rw [keys_del h.ndl]; exact h.ndl.filter _
  · rw [keys_del h.ndl, keys_del hndo, h.keys]
  · rw [aput_fresh hk2, List.append_assoc]
    exact (List.Perm.append_left objs2 hp.symm).trans h.perm
theorem CJ.over {es : List (κ × Value)} {objs lo objs2 : List (κ × List UInt8)} (h : CJ es objs [] lo objs2) : objs2.Perm objs := by
  have : lo = [] := by
    have := h.keys
    cases lo with
    | nil => rfl
    | cons x l => simp [keysOf] at this
  have hp := h.perm
  rw [this, List.append_nil] at hp
  exact hp
end
theorem adel_len1 {κ α : Type} [DecidableEq κ] {l : List (κ × α)} {k : κ} {v : α} (h : aget l k = some v) : (adel l k).length + 1 = l.length := by have := (adel_perm h).length_eq; simp at this; omega
theorem Mem.rdOwn' {v : Value} {l : List Value} (hs : Mem g w L) (i : Nat) (hi : L[i]? = some (own v l)) : Rd g L v l := Rd.own i hi
/-- The copy's upload. -/
def upLike (v u : Up) : Prop := v.name = u.name ∧ v.parts.Perm u.parts
structure UJ (us : List (Int × Nat × Nat)) (ups : List (Int × Up)) (left : List (Int × Value)) (ups2 : List (Int × Up)) : Prop where
  nd : (keysOf ups).Nodup
  ndl : (keysOf left).Nodup
  sub : ∀ k v, aget left k = some v → aget (us.map upPtr) k = some v
  perm : (keysOf ups2 ++ keysOf left).Perm (keysOf ups)
  like : ∀ k v, aget ups2 k = some v → ∃ u, aget ups k = some u ∧ upLike v u
theorem UJ.step {us : List (Int × Nat × Nat)} {ups ups2 : List (Int × Up)} {left : List (Int × Value)} (h : UJ us ups left ups2) {k : Int} {v : Value} (hk : aget left k = some v) {u u2 : Up} (hu : aget ups k = some u) (hl : upLike u2 u) : UJ us ups (adel left k) (aput ups2 k u2) ∧ aget ups2 k = none := by
  have hp : (keysOf left).Perm (k :: keysOf (adel left k)) := (adel_perm hk).map Prod.fst
  have hall : (keysOf ups2 ++ keysOf left).Nodup := (h.perm.nodup_iff).2 h.nd
  have hk2 : aget ups2 k = none := (aget_none_iff _ _).2 fun hm => by
    rw [List.nodup_append] at hall
    exact hall.2.2 k hm k (List.mem_map_of_mem (aget_mem hk)) rfl
  refine ⟨⟨h.nd, ?_, fun j v hj => h.sub j v (aget_adel h.ndl hj), ?_, fun j v hj => ?_⟩, hk2⟩
  · rw [keys_del h.ndl]; exact h.ndl.filter _
  · have e : keysOf (aput ups2 k u2) = keysOf ups2 ++ [k] := by rw [keys_put, if_neg ((aget_none_iff _ _).1 hk2)]
    rw [e, List.append_assoc]
    exact (List.Perm.append_left _ hp.symm).trans h.perm
  · by_cases e : j = k
    · subst e
      rw [aget_put_same] at hj
      cases hj
      exact ⟨u, hu, hl⟩
    · rw [aget_put_other _ _ e] at hj
      exact h.like j v hj
/-- A copy of a store: all as there, but for the order. -/
structure St.like (st2 st : St) : Prop where
  objs : st2.objs.Perm st.objs
  keys : (keysOf st2.ups).Perm (keysOf st.ups)
  ups : ∀ k v, aget st2.ups k = some v → ∃ u, aget st.ups k = some u ∧ upLike v u
  ids : st2.ids = st.ids
  script : st2.script = st.script
  calls : st2.calls = st.calls
  failed : st2.failed = st.failed

set_option maxHeartbeats 4000000 in
set_option maxRecDepth 10000 in
theorem cloneS_sl (hsm : st.small) (hsc : st.script.length ≤ 1000000) (hs : Mem g w (StoreC p st :: M)) : Calls Tryd.prog 61 #[.pointer (some ⟨p, 0, none⟩)] w (Ret fun v w' => ∃ p2 st2, v = .pointer (some ⟨p2, 0, none⟩) ∧ St.like st2 st ∧ Mem g w' (StoreC p2 st2 :: StoreC p st :: M)) := by
  obtain ⟨mo, mu, sa, sn, sc, es, us, hn, hs⟩ := hs.openS
  simp only [storeParts, List.cons_append, List.nil_append] at hs
  have hko := hs.famKeys 2 rfl
  have hku := hs.famKeys 4 rfl
  have hno : (keysOf st.objs).Nodup := hko ▸ (hs.mapAt 1 rfl).nodup
  have hnu : (keysOf (us.map upPtr)).Nodup := (hs.mapAt 3 rfl).nodup
  have hnu2 : (keysOf st.ups).Nodup := by rw [← hku, ← up_keys]; exact hnu
  refine calls_cw Tryd.func61 rfl rfl ?_
  skip
  refine cw_seq ?_
  refine cw_region ?_
  first | refine lw_val rfl (run_assign (v := .pointer (some _)) rfl) ?_ | refine lw_val rfl (run_assign (v := .pointer none) rfl) ?_
  refine lw_nil ?_
  refine cw_seq ?_
  refine cw_region ?_
  first | refine lw_val rfl (run_move (v := .pointer (some _)) rfl) ?_ | refine lw_val rfl (run_move (v := .pointer none) rfl) ?_
  refine lw_val rfl (run_nilCheckP rfl) ?_
  first | refine lw_val rfl (run_loadRow hs 0 rfl Tryd.underlying94 sz94 rfl) ?_ | refine lw_val rfl (run_loadRow hs 1 rfl Tryd.underlying94 sz94 rfl) ?_ | refine lw_val rfl (run_loadRow hs 2 rfl Tryd.underlying94 sz94 rfl) ?_ | refine lw_val rfl (run_loadRow hs 3 rfl Tryd.underlying94 sz94 rfl) ?_ | refine lw_val rfl (run_loadRow hs 4 rfl Tryd.underlying94 sz94 rfl) ?_ | refine lw_val rfl (run_loadRow hs 5 rfl Tryd.underlying94 sz94 rfl) ?_ | refine lw_val rfl (run_loadRow hs 6 rfl Tryd.underlying94 sz94 rfl) ?_ | refine lw_val rfl (run_loadRow hs 7 rfl Tryd.underlying94 sz94 rfl) ?_ | refine lw_val rfl (run_loadRow hs 8 rfl Tryd.underlying94 sz94 rfl) ?_ | refine lw_val rfl (run_loadRow hs 9 rfl Tryd.underlying94 sz94 rfl) ?_ | refine lw_val rfl (run_loadRow hs 10 rfl Tryd.underlying94 sz94 rfl) ?_ | refine lw_val rfl (run_loadRow hs 11 rfl Tryd.underlying94 sz94 rfl) ?_ | refine lw_val rfl (run_loadRow hs 12 rfl Tryd.underlying94 sz94 rfl) ?_ | refine lw_val rfl (run_loadRow hs 13 rfl Tryd.underlying94 sz94 rfl) ?_
  refine lw_alloc hs rfl ze94 ?_
  clear hs
  intro b3 w hs
  try simp only [List.set_cons_succ, List.set_cons_zero] at hs
  first | refine lw_storeRow hs 0 rfl rfl rfl sz94 rfl rfl ?_ | refine lw_storeRow hs 1 rfl rfl rfl sz94 rfl rfl ?_ | refine lw_storeRow hs 2 rfl rfl rfl sz94 rfl rfl ?_ | refine lw_storeRow hs 3 rfl rfl rfl sz94 rfl rfl ?_ | refine lw_storeRow hs 4 rfl rfl rfl sz94 rfl rfl ?_ | refine lw_storeRow hs 5 rfl rfl rfl sz94 rfl rfl ?_ | refine lw_storeRow hs 6 rfl rfl rfl sz94 rfl rfl ?_ | refine lw_storeRow hs 7 rfl rfl rfl sz94 rfl rfl ?_ | refine lw_storeRow hs 8 rfl rfl rfl sz94 rfl rfl ?_ | refine lw_storeRow hs 9 rfl rfl rfl sz94 rfl rfl ?_ | refine lw_storeRow hs 10 rfl rfl rfl sz94 rfl rfl ?_ | refine lw_storeRow hs 11 rfl rfl rfl sz94 rfl rfl ?_ | refine lw_storeRow hs 12 rfl rfl rfl sz94 rfl rfl ?_ | refine lw_storeRow hs 13 rfl rfl rfl sz94 rfl rfl ?_
  clear hs
  intro w hs
  try simp only [List.set_cons_succ, List.set_cons_zero] at hs
  refine lw_nil ?_
  refine cw_seq ?_
  refine cw_region ?_
  refine lw_makeMap Value.string hs rfl ?_
  clear hs
  intro m14 w hs
  try simp only [List.set_cons_succ, List.set_cons_zero] at hs
  refine lw_makeMap (Value.int .i64) hs rfl ?_
  clear hs
  intro m15 w hs
  try simp only [List.set_cons_succ, List.set_cons_zero] at hs
  first | refine lw_val rfl (run_move (v := .pointer (some _)) rfl) ?_ | refine lw_val rfl (run_move (v := .pointer none) rfl) ?_
  refine lw_val rfl (run_nilCheckP rfl) ?_
  first | refine lw_val rfl (run_fieldAddr (o' := 3) Tryd.underlying94 rfl sz22 rfl rfl rfl) ?_ | refine lw_val rfl (run_fieldAddr Tryd.underlying94 rfl sz22 rfl rfl rfl) ?_
  first | refine lw_val rfl (run_load Tryd.underlying22 rfl rfl (hs.cellAt 0 rfl rfl)) ?_ | refine lw_val rfl (run_load Tryd.underlying22 rfl rfl (hs.cellAt 1 rfl rfl)) ?_ | refine lw_val rfl (run_load Tryd.underlying22 rfl rfl (hs.cellAt 2 rfl rfl)) ?_ | refine lw_val rfl (run_load Tryd.underlying22 rfl rfl (hs.cellAt 3 rfl rfl)) ?_ | refine lw_val rfl (run_load Tryd.underlying22 rfl rfl (hs.cellAt 4 rfl rfl)) ?_ | refine lw_val rfl (run_load Tryd.underlying22 rfl rfl (hs.cellAt 5 rfl rfl)) ?_ | refine lw_val rfl (run_load Tryd.underlying22 rfl rfl (hs.cellAt 6 rfl rfl)) ?_ | refine lw_val rfl (run_load Tryd.underlying22 rfl rfl (hs.cellAt 7 rfl rfl)) ?_ | refine lw_val rfl (run_load Tryd.underlying22 rfl rfl (hs.cellAt 8 rfl rfl)) ?_ | refine lw_val rfl (run_load Tryd.underlying22 rfl rfl (hs.cellAt 9 rfl rfl)) ?_ | refine lw_val rfl (run_load Tryd.underlying22 rfl rfl (hs.cellAt 10 rfl rfl)) ?_ | refine lw_val rfl (run_load Tryd.underlying22 rfl rfl (hs.cellAt 11 rfl rfl)) ?_ | refine lw_val rfl (run_load Tryd.underlying22 rfl rfl (hs.cellAt 12 rfl rfl)) ?_ | refine lw_val rfl (run_load Tryd.underlying22 rfl rfl (hs.cellAt 13 rfl rfl)) ?_
  refine lw_call rfl en98 (cloneI_sl hs (hs.rdOwn' 8 rfl) (by omega)) ?_
  clear hs
  rintro _ w ⟨a20, c20, rfl, hs⟩
  first | refine lw_val rfl (run_fieldAddr (o' := 0) Tryd.underlying94 rfl sz91 rfl rfl rfl) ?_ | refine lw_val rfl (run_fieldAddr Tryd.underlying94 rfl sz91 rfl rfl rfl) ?_
  first | refine lw_store (v := .map _) hs 0 rfl sz91 rfl rfl rfl rfl ?_ | refine lw_store (v := .map _) hs 1 rfl sz91 rfl rfl rfl rfl ?_ | refine lw_store (v := .map _) hs 2 rfl sz91 rfl rfl rfl rfl ?_ | refine lw_store (v := .map _) hs 3 rfl sz91 rfl rfl rfl rfl ?_ | refine lw_store (v := .map _) hs 4 rfl sz91 rfl rfl rfl rfl ?_ | refine lw_store (v := .map _) hs 5 rfl sz91 rfl rfl rfl rfl ?_ | refine lw_store (v := .map _) hs 6 rfl sz91 rfl rfl rfl rfl ?_ | refine lw_store (v := .map _) hs 7 rfl sz91 rfl rfl rfl rfl ?_ | refine lw_store (v := .map _) hs 8 rfl sz91 rfl rfl rfl rfl ?_ | refine lw_store (v := .map _) hs 9 rfl sz91 rfl rfl rfl rfl ?_ | refine lw_store (v := .map _) hs 10 rfl sz91 rfl rfl rfl rfl ?_ | refine lw_store (v := .map _) hs 11 rfl sz91 rfl rfl rfl rfl ?_ | refine lw_store (v := .map _) hs 12 rfl sz91 rfl rfl rfl rfl ?_ | refine lw_store (v := .map _) hs 13 rfl sz91 rfl rfl rfl rfl ?_
  clear hs
  intro w hs
  try simp only [List.set_cons_succ, List.set_cons_zero] at hs
  first | refine lw_val rfl (run_fieldAddr (o' := 1) Tryd.underlying94 rfl sz92 rfl rfl rfl) ?_ | refine lw_val rfl (run_fieldAddr Tryd.underlying94 rfl sz92 rfl rfl rfl) ?_
  first | refine lw_store (v := .map _) hs 0 rfl sz92 rfl rfl rfl rfl ?_ | refine lw_store (v := .map _) hs 1 rfl sz92 rfl rfl rfl rfl ?_ | refine lw_store (v := .map _) hs 2 rfl sz92 rfl rfl rfl rfl ?_ | refine lw_store (v := .map _) hs 3 rfl sz92 rfl rfl rfl rfl ?_ | refine lw_store (v := .map _) hs 4 rfl sz92 rfl rfl rfl rfl ?_ | refine lw_store (v := .map _) hs 5 rfl sz92 rfl rfl rfl rfl ?_ | refine lw_store (v := .map _) hs 6 rfl sz92 rfl rfl rfl rfl ?_ | refine lw_store (v := .map _) hs 7 rfl sz92 rfl rfl rfl rfl ?_ | refine lw_store (v := .map _) hs 8 rfl sz92 rfl rfl rfl rfl ?_ | refine lw_store (v := .map _) hs 9 rfl sz92 rfl rfl rfl rfl ?_ | refine lw_store (v := .map _) hs 10 rfl sz92 rfl rfl rfl rfl ?_ | refine lw_store (v := .map _) hs 11 rfl sz92 rfl rfl rfl rfl ?_ | refine lw_store (v := .map _) hs 12 rfl sz92 rfl rfl rfl rfl ?_ | refine lw_store (v := .map _) hs 13 rfl sz92 rfl rfl rfl rfl ?_
  clear hs
  intro w hs
  try simp only [List.set_cons_succ, List.set_cons_zero] at hs
  first | refine lw_val rfl (run_fieldAddr (o' := 3) Tryd.underlying94 rfl sz22 rfl rfl rfl) ?_ | refine lw_val rfl (run_fieldAddr Tryd.underlying94 rfl sz22 rfl rfl rfl) ?_
  first | refine lw_store (v := .slice _ _ _) hs 0 rfl sz22 rfl rfl rfl rfl ?_ | refine lw_store (v := .slice _ _ _) hs 1 rfl sz22 rfl rfl rfl rfl ?_ | refine lw_store (v := .slice _ _ _) hs 2 rfl sz22 rfl rfl rfl rfl ?_ | refine lw_store (v := .slice _ _ _) hs 3 rfl sz22 rfl rfl rfl rfl ?_ | refine lw_store (v := .slice _ _ _) hs 4 rfl sz22 rfl rfl rfl rfl ?_ | refine lw_store (v := .slice _ _ _) hs 5 rfl sz22 rfl rfl rfl rfl ?_ | refine lw_store (v := .slice _ _ _) hs 6 rfl sz22 rfl rfl rfl rfl ?_ | refine lw_store (v := .slice _ _ _) hs 7 rfl sz22 rfl rfl rfl rfl ?_ | refine lw_store (v := .slice _ _ _) hs 8 rfl sz22 rfl rfl rfl rfl ?_ | refine lw_store (v := .slice _ _ _) hs 9 rfl sz22 rfl rfl rfl rfl ?_ | refine lw_store (v := .slice _ _ _) hs 10 rfl sz22 rfl rfl rfl rfl ?_ | refine lw_store (v := .slice _ _ _) hs 11 rfl sz22 rfl rfl rfl rfl ?_ | refine lw_store (v := .slice _ _ _) hs 12 rfl sz22 rfl rfl rfl rfl ?_ | refine lw_store (v := .slice _ _ _) hs 13 rfl sz22 rfl rfl rfl rfl ?_
  clear hs
  intro w hs
  try simp only [List.set_cons_succ, List.set_cons_zero] at hs
  refine lw_nil ?_
  refine cw_seq ?_
  refine cw_seq ?_
  refine cw_region ?_
  first | refine lw_val rfl (run_move (v := .pointer (some _)) rfl) ?_ | refine lw_val rfl (run_move (v := .pointer none) rfl) ?_
  refine lw_val rfl (run_nilCheckP rfl) ?_
  first | refine lw_val rfl (run_fieldAddr (o' := 0) Tryd.underlying94 rfl sz91 rfl rfl rfl) ?_ | refine lw_val rfl (run_fieldAddr Tryd.underlying94 rfl sz91 rfl rfl rfl) ?_
  first | refine lw_val rfl (run_load Tryd.underlying91 rfl rfl (hs.cellAt 0 rfl rfl)) ?_ | refine lw_val rfl (run_load Tryd.underlying91 rfl rfl (hs.cellAt 1 rfl rfl)) ?_ | refine lw_val rfl (run_load Tryd.underlying91 rfl rfl (hs.cellAt 2 rfl rfl)) ?_ | refine lw_val rfl (run_load Tryd.underlying91 rfl rfl (hs.cellAt 3 rfl rfl)) ?_ | refine lw_val rfl (run_load Tryd.underlying91 rfl rfl (hs.cellAt 4 rfl rfl)) ?_ | refine lw_val rfl (run_load Tryd.underlying91 rfl rfl (hs.cellAt 5 rfl rfl)) ?_ | refine lw_val rfl (run_load Tryd.underlying91 rfl rfl (hs.cellAt 6 rfl rfl)) ?_ | refine lw_val rfl (run_load Tryd.underlying91 rfl rfl (hs.cellAt 7 rfl rfl)) ?_ | refine lw_val rfl (run_load Tryd.underlying91 rfl rfl (hs.cellAt 8 rfl rfl)) ?_ | refine lw_val rfl (run_load Tryd.underlying91 rfl rfl (hs.cellAt 9 rfl rfl)) ?_ | refine lw_val rfl (run_load Tryd.underlying91 rfl rfl (hs.cellAt 10 rfl rfl)) ?_ | refine lw_val rfl (run_load Tryd.underlying91 rfl rfl (hs.cellAt 11 rfl rfl)) ?_ | refine lw_val rfl (run_load Tryd.underlying91 rfl rfl (hs.cellAt 12 rfl rfl)) ?_ | refine lw_val rfl (run_load Tryd.underlying91 rfl rfl (hs.cellAt 13 rfl rfl)) ?_
  first | refine lw_rangeM hs rfl 0 rfl Tryd.underlying91 rfl ?_ | refine lw_rangeM hs rfl 1 rfl Tryd.underlying91 rfl ?_ | refine lw_rangeM hs rfl 2 rfl Tryd.underlying91 rfl ?_ | refine lw_rangeM hs rfl 3 rfl Tryd.underlying91 rfl ?_ | refine lw_rangeM hs rfl 4 rfl Tryd.underlying91 rfl ?_ | refine lw_rangeM hs rfl 5 rfl Tryd.underlying91 rfl ?_ | refine lw_rangeM hs rfl 6 rfl Tryd.underlying91 rfl ?_ | refine lw_rangeM hs rfl 7 rfl Tryd.underlying91 rfl ?_ | refine lw_rangeM hs rfl 8 rfl Tryd.underlying91 rfl ?_ | refine lw_rangeM hs rfl 9 rfl Tryd.underlying91 rfl ?_ | refine lw_rangeM hs rfl 10 rfl Tryd.underlying91 rfl ?_ | refine lw_rangeM hs rfl 11 rfl Tryd.underlying91 rfl ?_ | refine lw_rangeM hs rfl 12 rfl Tryd.underlying91 rfl ?_ | refine lw_rangeM hs rfl 13 rfl Tryd.underlying91 rfl ?_
  clear hs
  intro r28 w hs
  try simp only [List.set_cons_succ, List.set_cons_zero] at hs
  refine lw_nil ?_
  replace hs := (hs.addE (famC_nil (R := rdB) (κ := ByteArray) _)).arr [0, 3, 6, 7, 1, 2, 4, 5, 8, 9, 10] 11 (by decide)
  refine cw_block ?_
  refine cw_loop (X := List (ByteArray × Value) × Option (ByteArray × Value) × List (ByteArray × List UInt8) × List (ByteArray × List UInt8) × List (ByteArray × Value)) [4, 5, 29, 30, 31, 32, 33, 34, 35, 36, 37, 38] (fun x => []) (fun x w => CJ es st.objs x.1 x.2.2.1 x.2.2.2.1 ∧ Mem g w (objsC x.2.2.2.2 x.2.2.2.1 :: mapS m14 x.2.2.2.2 :: rngC Value.string r28 mo es x.1 x.2.1 :: objsC es st.objs :: own (.slice a20 (intsL st.script).length c20) (intsL st.script) :: mapI m15 [] :: cells b3 [.map (some m14), .map (some m15), .int .i64 st.ids, .slice a20 (intsL st.script).length c20, .int .i64 st.calls, .int .i64 st.failed] 94 :: cells p (storeL mo mu st.ids (.slice sa sn sc) st.calls st.failed) 94 :: mapI mu (us.map upPtr) :: famC upC us st.ups :: own (.slice sa sn sc) (intsL st.script) :: M)) (fun x => x.1.length) ((es, none, st.objs, [], [])) ?_ ?_ ?_
  · exact trivial
  · exact ⟨CJ.start hko hno, hs⟩
  clear hs
  rintro x ξ w hI
  obtain ⟨left, cur, lo, objs2, es2⟩ := x
  obtain ⟨hJ0, hs⟩ := hI
  simp only at hJ0 hs
  refine cw_seq ?_
  refine cw_region ?_
  first | refine lw_nextM hs rfl 0 rfl strKind.inj rfl ?_ ?_ | refine lw_nextM hs rfl 0 rfl intKind.inj rfl ?_ ?_ | refine lw_nextM hs rfl 1 rfl strKind.inj rfl ?_ ?_ | refine lw_nextM hs rfl 1 rfl intKind.inj rfl ?_ ?_ | refine lw_nextM hs rfl 2 rfl strKind.inj rfl ?_ ?_ | refine lw_nextM hs rfl 2 rfl intKind.inj rfl ?_ ?_ | refine lw_nextM hs rfl 3 rfl strKind.inj rfl ?_ ?_ | refine lw_nextM hs rfl 3 rfl intKind.inj rfl ?_ ?_ | refine lw_nextM hs rfl 4 rfl strKind.inj rfl ?_ ?_ | refine lw_nextM hs rfl 4 rfl intKind.inj rfl ?_ ?_ | refine lw_nextM hs rfl 5 rfl strKind.inj rfl ?_ ?_ | refine lw_nextM hs rfl 5 rfl intKind.inj rfl ?_ ?_ | refine lw_nextM hs rfl 6 rfl strKind.inj rfl ?_ ?_ | refine lw_nextM hs rfl 6 rfl intKind.inj rfl ?_ ?_ | refine lw_nextM hs rfl 7 rfl strKind.inj rfl ?_ ?_ | refine lw_nextM hs rfl 7 rfl intKind.inj rfl ?_ ?_ | refine lw_nextM hs rfl 8 rfl strKind.inj rfl ?_ ?_ | refine lw_nextM hs rfl 8 rfl intKind.inj rfl ?_ ?_ | refine lw_nextM hs rfl 9 rfl strKind.inj rfl ?_ ?_ | refine lw_nextM hs rfl 9 rfl intKind.inj rfl ?_ ?_ | refine lw_nextM hs rfl 10 rfl strKind.inj rfl ?_ ?_ | refine lw_nextM hs rfl 10 rfl intKind.inj rfl ?_ ?_ | refine lw_nextM hs rfl 11 rfl strKind.inj rfl ?_ ?_ | refine lw_nextM hs rfl 11 rfl intKind.inj rfl ?_ ?_ | refine lw_nextM hs rfl 12 rfl strKind.inj rfl ?_ ?_ | refine lw_nextM hs rfl 12 rfl intKind.inj rfl ?_ ?_ | refine lw_nextM hs rfl 13 rfl strKind.inj rfl ?_ ?_ | refine lw_nextM hs rfl 13 rfl intKind.inj rfl ?_ ?_
  · intro hl29
    subst hl29
    have hpo := hJ0.over
    replace hs := hs.rngd 2 rfl
    first | refine lw_val rfl (run_extract (v := .bool _) rfl rfl) ?_
    refine lw_nil ?_
    refine cw_seq ?_
    refine cw_iff rfl rfl ?_
    refine cw_exit rfl ?_
    refine cw_seq ?_
    refine cw_seq ?_
    refine cw_region ?_
    first | refine lw_val rfl (run_move (v := .pointer (some _)) rfl) ?_ | refine lw_val rfl (run_move (v := .pointer none) rfl) ?_
    refine lw_val rfl (run_nilCheckP rfl) ?_
    first | refine lw_val rfl (run_fieldAddr (o' := 1) Tryd.underlying94 rfl sz92 rfl rfl rfl) ?_ | refine lw_val rfl (run_fieldAddr Tryd.underlying94 rfl sz92 rfl rfl rfl) ?_
    first | refine lw_val rfl (run_load Tryd.underlying92 rfl rfl (hs.cellAt 0 rfl rfl)) ?_ | refine lw_val rfl (run_load Tryd.underlying92 rfl rfl (hs.cellAt 1 rfl rfl)) ?_ | refine lw_val rfl (run_load Tryd.underlying92 rfl rfl (hs.cellAt 2 rfl rfl)) ?_ | refine lw_val rfl (run_load Tryd.underlying92 rfl rfl (hs.cellAt 3 rfl rfl)) ?_ | refine lw_val rfl (run_load Tryd.underlying92 rfl rfl (hs.cellAt 4 rfl rfl)) ?_ | refine lw_val rfl (run_load Tryd.underlying92 rfl rfl (hs.cellAt 5 rfl rfl)) ?_ | refine lw_val rfl (run_load Tryd.underlying92 rfl rfl (hs.cellAt 6 rfl rfl)) ?_ | refine lw_val rfl (run_load Tryd.underlying92 rfl rfl (hs.cellAt 7 rfl rfl)) ?_ | refine lw_val rfl (run_load Tryd.underlying92 rfl rfl (hs.cellAt 8 rfl rfl)) ?_ | refine lw_val rfl (run_load Tryd.underlying92 rfl rfl (hs.cellAt 9 rfl rfl)) ?_ | refine lw_val rfl (run_load Tryd.underlying92 rfl rfl (hs.cellAt 10 rfl rfl)) ?_ | refine lw_val rfl (run_load Tryd.underlying92 rfl rfl (hs.cellAt 11 rfl rfl)) ?_ | refine lw_val rfl (run_load Tryd.underlying92 rfl rfl (hs.cellAt 12 rfl rfl)) ?_ | refine lw_val rfl (run_load Tryd.underlying92 rfl rfl (hs.cellAt 13 rfl rfl)) ?_
    first | refine lw_rangeM hs rfl 0 rfl Tryd.underlying92 rfl ?_ | refine lw_rangeM hs rfl 1 rfl Tryd.underlying92 rfl ?_ | refine lw_rangeM hs rfl 2 rfl Tryd.underlying92 rfl ?_ | refine lw_rangeM hs rfl 3 rfl Tryd.underlying92 rfl ?_ | refine lw_rangeM hs rfl 4 rfl Tryd.underlying92 rfl ?_ | refine lw_rangeM hs rfl 5 rfl Tryd.underlying92 rfl ?_ | refine lw_rangeM hs rfl 6 rfl Tryd.underlying92 rfl ?_ | refine lw_rangeM hs rfl 7 rfl Tryd.underlying92 rfl ?_ | refine lw_rangeM hs rfl 8 rfl Tryd.underlying92 rfl ?_ | refine lw_rangeM hs rfl 9 rfl Tryd.underlying92 rfl ?_ | refine lw_rangeM hs rfl 10 rfl Tryd.underlying92 rfl ?_ | refine lw_rangeM hs rfl 11 rfl Tryd.underlying92 rfl ?_ | refine lw_rangeM hs rfl 12 rfl Tryd.underlying92 rfl ?_ | refine lw_rangeM hs rfl 13 rfl Tryd.underlying92 rfl ?_
    clear hs
    intro r43 w hs
    try simp only [List.set_cons_succ, List.set_cons_zero] at hs
    refine lw_nil ?_
    replace hs := (hs.addE (famC_nil (R := upC) (κ := Int) _)).arr [0, 6, 9, 10, 1, 2, 3, 4, 5, 7, 8, 11] 12 (by decide)
    refine cw_block ?_
    refine cw_loop (X := List (Int × Value) × Option (Int × Value) × List (Int × Up) × List (Int × Nat × Nat)) [6, 7, 8, 9, 10, 44, 45, 46, 47, 48, 49, 50, 51, 52, 53, 54, 55, 56, 57, 58, 59, 60, 61, 62, 63, 64, 65, 66, 67, 68, 69, 70, 71, 72, 73, 74, 75, 76] (fun x => []) (fun x w => UJ us st.ups x.1 x.2.2.1 ∧ Mem g w (famC upC x.2.2.2 x.2.2.1 :: mapI m15 (x.2.2.2.map upPtr) :: rngC (Value.int .i64) r43 mu (us.map upPtr) x.1 x.2.1 :: famC upC us st.ups :: objsC es2 objs2 :: mapS m14 es2 :: mapS mo es :: objsC es st.objs :: own (.slice a20 (intsL st.script).length c20) (intsL st.script) :: cells b3 [.map (some m14), .map (some m15), .int .i64 st.ids, .slice a20 (intsL st.script).length c20, .int .i64 st.calls, .int .i64 st.failed] 94 :: cells p (storeL mo mu st.ids (.slice sa sn sc) st.calls st.failed) 94 :: own (.slice sa sn sc) (intsL st.script) :: M)) (fun x => x.1.length) ((us.map upPtr, none, [], [])) ?_ ?_ ?_
    · exact trivial
    · exact ⟨⟨hnu2, hnu, fun _ _ h => h, by rw [up_keys, hku]; exact List.Perm.refl _, fun _ _ h => by simp [aget] at h⟩, hs⟩
    clear hs
    rintro x ξ w hI
    obtain ⟨left, cur, ups2, us2⟩ := x
    obtain ⟨hJ1, hs⟩ := hI
    simp only at hJ1 hs
    refine cw_seq ?_
    refine cw_region ?_
    first | refine lw_nextM hs rfl 0 rfl strKind.inj rfl ?_ ?_ | refine lw_nextM hs rfl 0 rfl intKind.inj rfl ?_ ?_ | refine lw_nextM hs rfl 1 rfl strKind.inj rfl ?_ ?_ | refine lw_nextM hs rfl 1 rfl intKind.inj rfl ?_ ?_ | refine lw_nextM hs rfl 2 rfl strKind.inj rfl ?_ ?_ | refine lw_nextM hs rfl 2 rfl intKind.inj rfl ?_ ?_ | refine lw_nextM hs rfl 3 rfl strKind.inj rfl ?_ ?_ | refine lw_nextM hs rfl 3 rfl intKind.inj rfl ?_ ?_ | refine lw_nextM hs rfl 4 rfl strKind.inj rfl ?_ ?_ | refine lw_nextM hs rfl 4 rfl intKind.inj rfl ?_ ?_ | refine lw_nextM hs rfl 5 rfl strKind.inj rfl ?_ ?_ | refine lw_nextM hs rfl 5 rfl intKind.inj rfl ?_ ?_ | refine lw_nextM hs rfl 6 rfl strKind.inj rfl ?_ ?_ | refine lw_nextM hs rfl 6 rfl intKind.inj rfl ?_ ?_ | refine lw_nextM hs rfl 7 rfl strKind.inj rfl ?_ ?_ | refine lw_nextM hs rfl 7 rfl intKind.inj rfl ?_ ?_ | refine lw_nextM hs rfl 8 rfl strKind.inj rfl ?_ ?_ | refine lw_nextM hs rfl 8 rfl intKind.inj rfl ?_ ?_ | refine lw_nextM hs rfl 9 rfl strKind.inj rfl ?_ ?_ | refine lw_nextM hs rfl 9 rfl intKind.inj rfl ?_ ?_ | refine lw_nextM hs rfl 10 rfl strKind.inj rfl ?_ ?_ | refine lw_nextM hs rfl 10 rfl intKind.inj rfl ?_ ?_ | refine lw_nextM hs rfl 11 rfl strKind.inj rfl ?_ ?_ | refine lw_nextM hs rfl 11 rfl intKind.inj rfl ?_ ?_ | refine lw_nextM hs rfl 12 rfl strKind.inj rfl ?_ ?_ | refine lw_nextM hs rfl 12 rfl intKind.inj rfl ?_ ?_ | refine lw_nextM hs rfl 13 rfl strKind.inj rfl ?_ ?_ | refine lw_nextM hs rfl 13 rfl intKind.inj rfl ?_ ?_
    · intro hl44
      subst hl44
      replace hs := hs.rngd 2 rfl
      first | refine lw_val rfl (run_extract (v := .bool _) rfl rfl) ?_
      refine lw_nil ?_
      refine cw_seq ?_
      refine cw_iff rfl rfl ?_
      refine cw_exit rfl ?_
      refine cw_seq ?_
      refine cw_region ?_
      first | refine lw_val rfl (run_assign (v := .pointer (some _)) rfl) ?_ | refine lw_val rfl (run_assign (v := .pointer none) rfl) ?_
      refine lw_nil ?_
      refine cw_ret ?_
      first | refine res1 (v := .pointer (some _)) rfl rfl ?_ | refine res1 (v := .pointer none) rfl rfl ?_
      have h1 : Mem g w (storeParts b3 ⟨objs2, ups2, st.ids, st.script, st.calls, st.failed⟩ m14 m15 (.slice a20 (intsL st.script).length c20) es2 us2 ++ (storeParts p st mo mu (.slice sa sn sc) es us ++ M)) := hs.arr [9, 5, 4, 1, 0, 8, 10, 6, 7, 2, 3, 11] 12 (by decide)
      have hkk := hJ1.perm
      simp only [keysOf, List.map_nil, List.append_nil] at hkk
      exact ⟨_, rfl, b3, ⟨objs2, ups2, st.ids, st.script, st.calls, st.failed⟩, rfl, ⟨hpo, hkk, hJ1.like, rfl, rfl, rfl, rfl⟩, h1.closeS.closeS1⟩
    · clear hs
      intro k44 v44 w hk44 hs
      try simp only [List.set_cons_succ, List.set_cons_zero] at hs
      have hks := hJ1.sub _ _ hk44
      rw [up_aget] at hks
      obtain ⟨⟨ub, pm⟩, hus, rfl⟩ := Option.map_eq_some_iff.1 hks
      obtain ⟨u, huu⟩ := fam_some hku.symm hus
      have hdl1 := adel_len1 hk44
      first | refine lw_val rfl (run_extract (v := .bool _) rfl rfl) ?_
      refine lw_nil ?_
      refine cw_seq ?_
      refine cw_ift rfl rfl ?_
      refine cw_skip ?_
      refine cw_block ?_
      refine cw_seq ?_
      refine cw_region ?_
      first | refine lw_val rfl (run_entryM hs 0 rfl rfl) ?_ | refine lw_val rfl (run_entryM hs 1 rfl rfl) ?_ | refine lw_val rfl (run_entryM hs 2 rfl rfl) ?_ | refine lw_val rfl (run_entryM hs 3 rfl rfl) ?_ | refine lw_val rfl (run_entryM hs 4 rfl rfl) ?_ | refine lw_val rfl (run_entryM hs 5 rfl rfl) ?_ | refine lw_val rfl (run_entryM hs 6 rfl rfl) ?_ | refine lw_val rfl (run_entryM hs 7 rfl rfl) ?_ | refine lw_val rfl (run_entryM hs 8 rfl rfl) ?_ | refine lw_val rfl (run_entryM hs 9 rfl rfl) ?_ | refine lw_val rfl (run_entryM hs 10 rfl rfl) ?_ | refine lw_val rfl (run_entryM hs 11 rfl rfl) ?_ | refine lw_val rfl (run_entryM hs 12 rfl rfl) ?_ | refine lw_val rfl (run_entryM hs 13 rfl rfl) ?_
      first | refine lw_val rfl (run_extract (v := .int .i64 _) rfl rfl) ?_
      first | refine lw_val rfl (run_extract (v := .pointer (some _)) rfl rfl) ?_ | refine lw_val rfl (run_extract (v := .pointer none) rfl rfl) ?_
      first | refine lw_val rfl (run_assign (v := .int .i64 _) rfl) ?_
      first | refine lw_val rfl (run_assign (v := .pointer (some _)) rfl) ?_ | refine lw_val rfl (run_assign (v := .pointer none) rfl) ?_
      refine lw_nil ?_
      refine cw_seq ?_
      obtain ⟨ps, hs⟩ := (hs.famTake 3 rfl hus huu).openU
      simp only [List.set_cons_succ, List.set_cons_zero] at hs
      have hkp := hs.famKeys 2 rfl
      have hnp : (keysOf u.parts).Nodup := hkp ▸ (hs.mapAt 1 rfl).nodup
      refine cw_region ?_
      first | refine lw_val rfl (run_move (v := .pointer (some _)) rfl) ?_ | refine lw_val rfl (run_move (v := .pointer none) rfl) ?_
      refine lw_val rfl (run_nilCheckP rfl) ?_
      first | refine lw_val rfl (run_fieldAddr (o' := 0) Tryd.underlying120 rfl sz9 rfl rfl rfl) ?_ | refine lw_val rfl (run_fieldAddr Tryd.underlying120 rfl sz9 rfl rfl rfl) ?_
      first | refine lw_val rfl (run_load Tryd.underlying9 rfl rfl (hs.cellAt 0 rfl rfl)) ?_ | refine lw_val rfl (run_load Tryd.underlying9 rfl rfl (hs.cellAt 1 rfl rfl)) ?_ | refine lw_val rfl (run_load Tryd.underlying9 rfl rfl (hs.cellAt 2 rfl rfl)) ?_ | refine lw_val rfl (run_load Tryd.underlying9 rfl rfl (hs.cellAt 3 rfl rfl)) ?_ | refine lw_val rfl (run_load Tryd.underlying9 rfl rfl (hs.cellAt 4 rfl rfl)) ?_ | refine lw_val rfl (run_load Tryd.underlying9 rfl rfl (hs.cellAt 5 rfl rfl)) ?_ | refine lw_val rfl (run_load Tryd.underlying9 rfl rfl (hs.cellAt 6 rfl rfl)) ?_ | refine lw_val rfl (run_load Tryd.underlying9 rfl rfl (hs.cellAt 7 rfl rfl)) ?_ | refine lw_val rfl (run_load Tryd.underlying9 rfl rfl (hs.cellAt 8 rfl rfl)) ?_ | refine lw_val rfl (run_load Tryd.underlying9 rfl rfl (hs.cellAt 9 rfl rfl)) ?_ | refine lw_val rfl (run_load Tryd.underlying9 rfl rfl (hs.cellAt 10 rfl rfl)) ?_ | refine lw_val rfl (run_load Tryd.underlying9 rfl rfl (hs.cellAt 11 rfl rfl)) ?_ | refine lw_val rfl (run_load Tryd.underlying9 rfl rfl (hs.cellAt 12 rfl rfl)) ?_ | refine lw_val rfl (run_load Tryd.underlying9 rfl rfl (hs.cellAt 13 rfl rfl)) ?_
      refine lw_makeMap (Value.int .i64) hs rfl ?_
      clear hs
      intro m53 w hs
      try simp only [List.set_cons_succ, List.set_cons_zero] at hs
      refine lw_val rfl (run_buildF ([.string u.name, .map (some m53)]) Tryd.underlying120 ze120 pl120 rfl (by simp [Value.cells]) rfl rfl) ?_
      refine lw_box (v := .agg _) hs rfl rfl ?_
      clear hs
      intro b55 w hs
      first | refine lw_val rfl (run_assign (v := .pointer (some _)) rfl) ?_ | refine lw_val rfl (run_assign (v := .pointer none) rfl) ?_
      refine lw_nil ?_
      refine cw_seq ?_
      refine cw_seq ?_
      refine cw_region ?_
      first | refine lw_val rfl (run_move (v := .pointer (some _)) rfl) ?_ | refine lw_val rfl (run_move (v := .pointer none) rfl) ?_
      refine lw_val rfl (run_nilCheckP rfl) ?_
      first | refine lw_val rfl (run_fieldAddr (o' := 1) Tryd.underlying120 rfl sz118 rfl rfl rfl) ?_ | refine lw_val rfl (run_fieldAddr Tryd.underlying120 rfl sz118 rfl rfl rfl) ?_
      first | refine lw_val rfl (run_load Tryd.underlying118 rfl rfl (hs.cellAt 0 rfl rfl)) ?_ | refine lw_val rfl (run_load Tryd.underlying118 rfl rfl (hs.cellAt 1 rfl rfl)) ?_ | refine lw_val rfl (run_load Tryd.underlying118 rfl rfl (hs.cellAt 2 rfl rfl)) ?_ | refine lw_val rfl (run_load Tryd.underlying118 rfl rfl (hs.cellAt 3 rfl rfl)) ?_ | refine lw_val rfl (run_load Tryd.underlying118 rfl rfl (hs.cellAt 4 rfl rfl)) ?_ | refine lw_val rfl (run_load Tryd.underlying118 rfl rfl (hs.cellAt 5 rfl rfl)) ?_ | refine lw_val rfl (run_load Tryd.underlying118 rfl rfl (hs.cellAt 6 rfl rfl)) ?_ | refine lw_val rfl (run_load Tryd.underlying118 rfl rfl (hs.cellAt 7 rfl rfl)) ?_ | refine lw_val rfl (run_load Tryd.underlying118 rfl rfl (hs.cellAt 8 rfl rfl)) ?_ | refine lw_val rfl (run_load Tryd.underlying118 rfl rfl (hs.cellAt 9 rfl rfl)) ?_ | refine lw_val rfl (run_load Tryd.underlying118 rfl rfl (hs.cellAt 10 rfl rfl)) ?_ | refine lw_val rfl (run_load Tryd.underlying118 rfl rfl (hs.cellAt 11 rfl rfl)) ?_ | refine lw_val rfl (run_load Tryd.underlying118 rfl rfl (hs.cellAt 12 rfl rfl)) ?_ | refine lw_val rfl (run_load Tryd.underlying118 rfl rfl (hs.cellAt 13 rfl rfl)) ?_
      first | refine lw_rangeM hs rfl 0 rfl Tryd.underlying118 rfl ?_ | refine lw_rangeM hs rfl 1 rfl Tryd.underlying118 rfl ?_ | refine lw_rangeM hs rfl 2 rfl Tryd.underlying118 rfl ?_ | refine lw_rangeM hs rfl 3 rfl Tryd.underlying118 rfl ?_ | refine lw_rangeM hs rfl 4 rfl Tryd.underlying118 rfl ?_ | refine lw_rangeM hs rfl 5 rfl Tryd.underlying118 rfl ?_ | refine lw_rangeM hs rfl 6 rfl Tryd.underlying118 rfl ?_ | refine lw_rangeM hs rfl 7 rfl Tryd.underlying118 rfl ?_ | refine lw_rangeM hs rfl 8 rfl Tryd.underlying118 rfl ?_ | refine lw_rangeM hs rfl 9 rfl Tryd.underlying118 rfl ?_ | refine lw_rangeM hs rfl 10 rfl Tryd.underlying118 rfl ?_ | refine lw_rangeM hs rfl 11 rfl Tryd.underlying118 rfl ?_ | refine lw_rangeM hs rfl 12 rfl Tryd.underlying118 rfl ?_ | refine lw_rangeM hs rfl 13 rfl Tryd.underlying118 rfl ?_
      clear hs
      intro r60 w hs
      try simp only [List.set_cons_succ, List.set_cons_zero] at hs
      refine lw_nil ?_
      replace hs := (hs.addE (famC_nil (R := rdB) (κ := Int) _)).arr [0, 2, 4, 5, 1, 3] 6 (by decide)
      refine cw_block ?_
      refine cw_loop (X := List (Int × Value) × Option (Int × Value) × List (Int × List UInt8) × List (Int × List UInt8) × List (Int × Value)) [9, 10, 61, 62, 63, 64, 65, 66, 67, 68, 69, 70, 71, 72] (fun x => []) (fun x w => CJ ps u.parts x.1 x.2.2.1 x.2.2.2.1 ∧ Mem g w (partsC x.2.2.2.2 x.2.2.2.1 :: mapI m53 x.2.2.2.2 :: rngC (Value.int .i64) r60 pm ps x.1 x.2.1 :: partsC ps u.parts :: cells b55 [.string u.name, .map (some m53)] 120 :: cells ub [.string u.name, .map (some pm)] 120 :: famC upC us2 ups2 :: mapI m15 (us2.map upPtr) :: rngC (Value.int .i64) r43 mu (us.map upPtr) (adel left k44) (some (k44, .pointer (some ⟨ub, 0, none⟩))) :: famX upC (· = k44) us st.ups :: objsC es2 objs2 :: mapS m14 es2 :: mapS mo es :: objsC es st.objs :: own (.slice a20 (intsL st.script).length c20) (intsL st.script) :: cells b3 [.map (some m14), .map (some m15), .int .i64 st.ids, .slice a20 (intsL st.script).length c20, .int .i64 st.calls, .int .i64 st.failed] 94 :: cells p (storeL mo mu st.ids (.slice sa sn sc) st.calls st.failed) 94 :: own (.slice sa sn sc) (intsL st.script) :: M)) (fun x => x.1.length) ((ps, none, u.parts, [], [])) ?_ ?_ ?_
      · exact trivial
      · exact ⟨CJ.start hkp hnp, hs⟩
      clear hs
      rintro x ξ w hI
      obtain ⟨left3, cur3, lo3, parts2, ps2⟩ := x
      obtain ⟨hJ2, hs⟩ := hI
      simp only at hJ2 hs
      refine cw_seq ?_
      refine cw_region ?_
      first | refine lw_nextM hs rfl 0 rfl strKind.inj rfl ?_ ?_ | refine lw_nextM hs rfl 0 rfl intKind.inj rfl ?_ ?_ | refine lw_nextM hs rfl 1 rfl strKind.inj rfl ?_ ?_ | refine lw_nextM hs rfl 1 rfl intKind.inj rfl ?_ ?_ | refine lw_nextM hs rfl 2 rfl strKind.inj rfl ?_ ?_ | refine lw_nextM hs rfl 2 rfl intKind.inj rfl ?_ ?_ | refine lw_nextM hs rfl 3 rfl strKind.inj rfl ?_ ?_ | refine lw_nextM hs rfl 3 rfl intKind.inj rfl ?_ ?_ | refine lw_nextM hs rfl 4 rfl strKind.inj rfl ?_ ?_ | refine lw_nextM hs rfl 4 rfl intKind.inj rfl ?_ ?_ | refine lw_nextM hs rfl 5 rfl strKind.inj rfl ?_ ?_ | refine lw_nextM hs rfl 5 rfl intKind.inj rfl ?_ ?_ | refine lw_nextM hs rfl 6 rfl strKind.inj rfl ?_ ?_ | refine lw_nextM hs rfl 6 rfl intKind.inj rfl ?_ ?_ | refine lw_nextM hs rfl 7 rfl strKind.inj rfl ?_ ?_ | refine lw_nextM hs rfl 7 rfl intKind.inj rfl ?_ ?_ | refine lw_nextM hs rfl 8 rfl strKind.inj rfl ?_ ?_ | refine lw_nextM hs rfl 8 rfl intKind.inj rfl ?_ ?_ | refine lw_nextM hs rfl 9 rfl strKind.inj rfl ?_ ?_ | refine lw_nextM hs rfl 9 rfl intKind.inj rfl ?_ ?_ | refine lw_nextM hs rfl 10 rfl strKind.inj rfl ?_ ?_ | refine lw_nextM hs rfl 10 rfl intKind.inj rfl ?_ ?_ | refine lw_nextM hs rfl 11 rfl strKind.inj rfl ?_ ?_ | refine lw_nextM hs rfl 11 rfl intKind.inj rfl ?_ ?_ | refine lw_nextM hs rfl 12 rfl strKind.inj rfl ?_ ?_ | refine lw_nextM hs rfl 12 rfl intKind.inj rfl ?_ ?_ | refine lw_nextM hs rfl 13 rfl strKind.inj rfl ?_ ?_ | refine lw_nextM hs rfl 13 rfl intKind.inj rfl ?_ ?_
      · intro hl61
        subst hl61
        have hpp := hJ2.over
        replace hs := hs.rngd 2 rfl
        first | refine lw_val rfl (run_extract (v := .bool _) rfl rfl) ?_
        refine lw_nil ?_
        refine cw_seq ?_
        refine cw_iff rfl rfl ?_
        refine cw_exit rfl ?_
        refine cw_region ?_
        first | refine lw_val rfl (run_fieldAddr (o' := 1) Tryd.underlying94 rfl sz92 rfl rfl rfl) ?_ | refine lw_val rfl (run_fieldAddr Tryd.underlying94 rfl sz92 rfl rfl rfl) ?_
        first | refine lw_val rfl (run_load Tryd.underlying92 rfl rfl (hs.cellAt 15 rfl rfl)) ?_
        first | refine lw_val rfl (run_move (v := .int .i64 _) rfl) ?_
        first | refine lw_val rfl (run_move (v := .pointer (some _)) rfl) ?_ | refine lw_val rfl (run_move (v := .pointer none) rfl) ?_
        first | refine lw_mapUpdate (v := .pointer (some _)) hs 0 rfl intKind Tryd.underlying92 Tryd.underlying3 rfl rfl rfl ?_ | refine lw_mapUpdate (v := .pointer none) hs 0 rfl intKind Tryd.underlying92 Tryd.underlying3 rfl rfl rfl ?_ | refine lw_mapUpdate (v := .pointer (some _)) hs 1 rfl intKind Tryd.underlying92 Tryd.underlying3 rfl rfl rfl ?_ | refine lw_mapUpdate (v := .pointer none) hs 1 rfl intKind Tryd.underlying92 Tryd.underlying3 rfl rfl rfl ?_ | refine lw_mapUpdate (v := .pointer (some _)) hs 2 rfl intKind Tryd.underlying92 Tryd.underlying3 rfl rfl rfl ?_ | refine lw_mapUpdate (v := .pointer none) hs 2 rfl intKind Tryd.underlying92 Tryd.underlying3 rfl rfl rfl ?_ | refine lw_mapUpdate (v := .pointer (some _)) hs 3 rfl intKind Tryd.underlying92 Tryd.underlying3 rfl rfl rfl ?_ | refine lw_mapUpdate (v := .pointer none) hs 3 rfl intKind Tryd.underlying92 Tryd.underlying3 rfl rfl rfl ?_ | refine lw_mapUpdate (v := .pointer (some _)) hs 4 rfl intKind Tryd.underlying92 Tryd.underlying3 rfl rfl rfl ?_ | refine lw_mapUpdate (v := .pointer none) hs 4 rfl intKind Tryd.underlying92 Tryd.underlying3 rfl rfl rfl ?_ | refine lw_mapUpdate (v := .pointer (some _)) hs 5 rfl intKind Tryd.underlying92 Tryd.underlying3 rfl rfl rfl ?_ | refine lw_mapUpdate (v := .pointer none) hs 5 rfl intKind Tryd.underlying92 Tryd.underlying3 rfl rfl rfl ?_ | refine lw_mapUpdate (v := .pointer (some _)) hs 6 rfl intKind Tryd.underlying92 Tryd.underlying3 rfl rfl rfl ?_ | refine lw_mapUpdate (v := .pointer none) hs 6 rfl intKind Tryd.underlying92 Tryd.underlying3 rfl rfl rfl ?_ | refine lw_mapUpdate (v := .pointer (some _)) hs 7 rfl intKind Tryd.underlying92 Tryd.underlying3 rfl rfl rfl ?_ | refine lw_mapUpdate (v := .pointer none) hs 7 rfl intKind Tryd.underlying92 Tryd.underlying3 rfl rfl rfl ?_ | refine lw_mapUpdate (v := .pointer (some _)) hs 8 rfl intKind Tryd.underlying92 Tryd.underlying3 rfl rfl rfl ?_ | refine lw_mapUpdate (v := .pointer none) hs 8 rfl intKind Tryd.underlying92 Tryd.underlying3 rfl rfl rfl ?_ | refine lw_mapUpdate (v := .pointer (some _)) hs 9 rfl intKind Tryd.underlying92 Tryd.underlying3 rfl rfl rfl ?_ | refine lw_mapUpdate (v := .pointer none) hs 9 rfl intKind Tryd.underlying92 Tryd.underlying3 rfl rfl rfl ?_ | refine lw_mapUpdate (v := .pointer (some _)) hs 10 rfl intKind Tryd.underlying92 Tryd.underlying3 rfl rfl rfl ?_ | refine lw_mapUpdate (v := .pointer none) hs 10 rfl intKind Tryd.underlying92 Tryd.underlying3 rfl rfl rfl ?_ | refine lw_mapUpdate (v := .pointer (some _)) hs 11 rfl intKind Tryd.underlying92 Tryd.underlying3 rfl rfl rfl ?_ | refine lw_mapUpdate (v := .pointer none) hs 11 rfl intKind Tryd.underlying92 Tryd.underlying3 rfl rfl rfl ?_ | refine lw_mapUpdate (v := .pointer (some _)) hs 12 rfl intKind Tryd.underlying92 Tryd.underlying3 rfl rfl rfl ?_ | refine lw_mapUpdate (v := .pointer none) hs 12 rfl intKind Tryd.underlying92 Tryd.underlying3 rfl rfl rfl ?_ | refine lw_mapUpdate (v := .pointer (some _)) hs 13 rfl intKind Tryd.underlying92 Tryd.underlying3 rfl rfl rfl ?_ | refine lw_mapUpdate (v := .pointer none) hs 13 rfl intKind Tryd.underlying92 Tryd.underlying3 rfl rfl rfl ?_
        clear hs
        intro w hs
        try simp only [List.set_cons_succ, List.set_cons_zero] at hs
        refine lw_nil ?_
        have h1 := Mem.closeU (u := u) (hs.arr [5, 2, 3, 4, 1, 0] 6 (by decide))
        have h2 := Mem.famPut (R := upC) (k := k44) h1 6 rfl (fun _ h => h)
        rw [aput_same hus, aput_same huu] at h2
        have h3 := Mem.closeU (u := ⟨u.name, parts2⟩) h2
        have h4 := Mem.famPut (R := upC) (k := k44) h3 0 rfl (fun _ h => False.elim h)
        exact ⟨(adel left k44, some (k44, .pointer (some ⟨ub, 0, none⟩)), aput ups2 k44 ⟨u.name, parts2⟩, aput us2 k44 (b55, m53)), by simp only; omega, ⟨(hJ1.step (u2 := ⟨u.name, parts2⟩) hk44 huu ⟨rfl, hpp⟩).1, by simp only [up_aput]; exact h4⟩, trivial, by repeat (first | exact Out.mix _ _ _ | refine Out.updo rfl ?_ | refine Out.upd rfl ?_ | refine Out.mixIn rfl ?_)⟩
      · clear hs
        intro k61 v61 w hk61 hs
        try simp only [List.set_cons_succ, List.set_cons_zero] at hs
        obtain ⟨b, hb1, hb2, hb3⟩ := hJ2.some hk61
        obtain ⟨ba, bc, he, hr⟩ := hs.bytesAt 3 rfl hb2
        rw [hb3] at he
        cases he
        have hbl := hsm.2 k44 u (aget_mem huu) k61 b (aget_mem hb2)
        first | refine lw_val rfl (run_extract (v := .bool _) rfl rfl) ?_
        refine lw_nil ?_
        refine cw_seq ?_
        refine cw_ift rfl rfl ?_
        refine cw_skip ?_
        refine cw_block ?_
        refine cw_seq ?_
        refine cw_region ?_
        first | refine lw_val rfl (run_entryM hs 0 rfl rfl) ?_ | refine lw_val rfl (run_entryM hs 1 rfl rfl) ?_ | refine lw_val rfl (run_entryM hs 2 rfl rfl) ?_ | refine lw_val rfl (run_entryM hs 3 rfl rfl) ?_ | refine lw_val rfl (run_entryM hs 4 rfl rfl) ?_ | refine lw_val rfl (run_entryM hs 5 rfl rfl) ?_ | refine lw_val rfl (run_entryM hs 6 rfl rfl) ?_ | refine lw_val rfl (run_entryM hs 7 rfl rfl) ?_ | refine lw_val rfl (run_entryM hs 8 rfl rfl) ?_ | refine lw_val rfl (run_entryM hs 9 rfl rfl) ?_ | refine lw_val rfl (run_entryM hs 10 rfl rfl) ?_ | refine lw_val rfl (run_entryM hs 11 rfl rfl) ?_ | refine lw_val rfl (run_entryM hs 12 rfl rfl) ?_ | refine lw_val rfl (run_entryM hs 13 rfl rfl) ?_
        first | refine lw_val rfl (run_extract (v := .int .i64 _) rfl rfl) ?_
        first | refine lw_val rfl (run_extract (v := .slice _ _ _) rfl rfl) ?_
        first | refine lw_val rfl (run_assign (v := .int .i64 _) rfl) ?_
        first | refine lw_val rfl (run_assign (v := .slice _ _ _) rfl) ?_
        refine lw_nil ?_
        refine cw_drawS mixes (hs.drop 1) ?_
        intro w tr hK
        replace hs := tr _ hs
        clear tr
        first | refine aw_take 0 rfl (by kernel_rfl) (by kernel_rfl) (by kernel_rfl) rfl (fun w hs => run_move (v := .pointer (some _)) rfl) hK ?_ | refine aw_take 0 rfl (by kernel_rfl) (by kernel_rfl) (by kernel_rfl) rfl (fun w hs => run_move (v := .pointer none) rfl) hK ?_
        refine aw_take 1 rfl (by kernel_rfl) (by kernel_rfl) (by kernel_rfl) rfl (fun w hs => run_nilCheckP rfl) hK ?_
        first | refine aw_take 2 rfl (by kernel_rfl) (by kernel_rfl) (by kernel_rfl) rfl (fun w hs => run_fieldAddr (o' := 1) Tryd.underlying120 rfl sz118 rfl rfl rfl) hK ?_ | refine aw_take 2 rfl (by kernel_rfl) (by kernel_rfl) (by kernel_rfl) rfl (fun w hs => run_fieldAddr Tryd.underlying120 rfl sz118 rfl rfl rfl) hK ?_
        first | refine aw_take 3 rfl (by kernel_rfl) (by kernel_rfl) (by kernel_rfl) rfl (fun w hs => run_load Tryd.underlying118 rfl rfl (hs.cellAt 0 rfl rfl)) hK ?_ | refine aw_take 3 rfl (by kernel_rfl) (by kernel_rfl) (by kernel_rfl) rfl (fun w hs => run_load Tryd.underlying118 rfl rfl (hs.cellAt 1 rfl rfl)) hK ?_ | refine aw_take 3 rfl (by kernel_rfl) (by kernel_rfl) (by kernel_rfl) rfl (fun w hs => run_load Tryd.underlying118 rfl rfl (hs.cellAt 2 rfl rfl)) hK ?_ | refine aw_take 3 rfl (by kernel_rfl) (by kernel_rfl) (by kernel_rfl) rfl (fun w hs => run_load Tryd.underlying118 rfl rfl (hs.cellAt 3 rfl rfl)) hK ?_ | refine aw_take 3 rfl (by kernel_rfl) (by kernel_rfl) (by kernel_rfl) rfl (fun w hs => run_load Tryd.underlying118 rfl rfl (hs.cellAt 4 rfl rfl)) hK ?_ | refine aw_take 3 rfl (by kernel_rfl) (by kernel_rfl) (by kernel_rfl) rfl (fun w hs => run_load Tryd.underlying118 rfl rfl (hs.cellAt 5 rfl rfl)) hK ?_ | refine aw_take 3 rfl (by kernel_rfl) (by kernel_rfl) (by kernel_rfl) rfl (fun w hs => run_load Tryd.underlying118 rfl rfl (hs.cellAt 6 rfl rfl)) hK ?_ | refine aw_take 3 rfl (by kernel_rfl) (by kernel_rfl) (by kernel_rfl) rfl (fun w hs => run_load Tryd.underlying118 rfl rfl (hs.cellAt 7 rfl rfl)) hK ?_ | refine aw_take 3 rfl (by kernel_rfl) (by kernel_rfl) (by kernel_rfl) rfl (fun w hs => run_load Tryd.underlying118 rfl rfl (hs.cellAt 8 rfl rfl)) hK ?_ | refine aw_take 3 rfl (by kernel_rfl) (by kernel_rfl) (by kernel_rfl) rfl (fun w hs => run_load Tryd.underlying118 rfl rfl (hs.cellAt 9 rfl rfl)) hK ?_ | refine aw_take 3 rfl (by kernel_rfl) (by kernel_rfl) (by kernel_rfl) rfl (fun w hs => run_load Tryd.underlying118 rfl rfl (hs.cellAt 10 rfl rfl)) hK ?_ | refine aw_take 3 rfl (by kernel_rfl) (by kernel_rfl) (by kernel_rfl) rfl (fun w hs => run_load Tryd.underlying118 rfl rfl (hs.cellAt 11 rfl rfl)) hK ?_ | refine aw_take 3 rfl (by kernel_rfl) (by kernel_rfl) (by kernel_rfl) rfl (fun w hs => run_load Tryd.underlying118 rfl rfl (hs.cellAt 12 rfl rfl)) hK ?_ | refine aw_take 3 rfl (by kernel_rfl) (by kernel_rfl) (by kernel_rfl) rfl (fun w hs => run_load Tryd.underlying118 rfl rfl (hs.cellAt 13 rfl rfl)) hK ?_
        first | refine aw_take 4 rfl (by kernel_rfl) (by kernel_rfl) (by kernel_rfl) rfl (fun w hs => run_move (v := .int .i64 _) rfl) hK ?_
        first | refine aw_take 5 rfl (by kernel_rfl) (by kernel_rfl) (by kernel_rfl) rfl (fun w hs => run_move (v := .slice _ _ _) rfl) hK ?_
        refine aw_ready [6] (by kernel_rfl) (by simp) ?_
        refine ⟨⟨_, rfl, ?_⟩, trivial⟩
        refine lw_call rfl en69 (clone_sl hs hr (by omega)) ?_
        clear hs
        rintro _ w ⟨a72, c72, rfl, hs⟩
        clear hK
        have hK := hs.tail.drop 1
        refine lw_nil ⟨hK, ?_⟩
        refine aw_ready [7] (by kernel_rfl) (by simp) ?_
        refine ⟨⟨_, rfl, ?_⟩, trivial⟩
        first | refine lw_mapUpdate (v := .slice _ _ _) hs 0 rfl intKind Tryd.underlying118 Tryd.underlying3 rfl rfl rfl ?_ | refine lw_mapUpdate (v := .slice _ _ _) hs 1 rfl intKind Tryd.underlying118 Tryd.underlying3 rfl rfl rfl ?_ | refine lw_mapUpdate (v := .slice _ _ _) hs 2 rfl intKind Tryd.underlying118 Tryd.underlying3 rfl rfl rfl ?_ | refine lw_mapUpdate (v := .slice _ _ _) hs 3 rfl intKind Tryd.underlying118 Tryd.underlying3 rfl rfl rfl ?_ | refine lw_mapUpdate (v := .slice _ _ _) hs 4 rfl intKind Tryd.underlying118 Tryd.underlying3 rfl rfl rfl ?_ | refine lw_mapUpdate (v := .slice _ _ _) hs 5 rfl intKind Tryd.underlying118 Tryd.underlying3 rfl rfl rfl ?_ | refine lw_mapUpdate (v := .slice _ _ _) hs 6 rfl intKind Tryd.underlying118 Tryd.underlying3 rfl rfl rfl ?_ | refine lw_mapUpdate (v := .slice _ _ _) hs 7 rfl intKind Tryd.underlying118 Tryd.underlying3 rfl rfl rfl ?_ | refine lw_mapUpdate (v := .slice _ _ _) hs 8 rfl intKind Tryd.underlying118 Tryd.underlying3 rfl rfl rfl ?_ | refine lw_mapUpdate (v := .slice _ _ _) hs 9 rfl intKind Tryd.underlying118 Tryd.underlying3 rfl rfl rfl ?_ | refine lw_mapUpdate (v := .slice _ _ _) hs 10 rfl intKind Tryd.underlying118 Tryd.underlying3 rfl rfl rfl ?_ | refine lw_mapUpdate (v := .slice _ _ _) hs 11 rfl intKind Tryd.underlying118 Tryd.underlying3 rfl rfl rfl ?_ | refine lw_mapUpdate (v := .slice _ _ _) hs 12 rfl intKind Tryd.underlying118 Tryd.underlying3 rfl rfl rfl ?_ | refine lw_mapUpdate (v := .slice _ _ _) hs 13 rfl intKind Tryd.underlying118 Tryd.underlying3 rfl rfl rfl ?_
        clear hs
        intro w hs
        try simp only [List.set_cons_succ, List.set_cons_zero] at hs
        clear hK
        have hK := hs.tail.drop 1
        refine lw_nil ⟨hK, ?_⟩
        refine aw_done (by kernel_rfl) ?_
        clear hK
        have h1 := Mem.famPut (R := rdB) (k := k61) (b := b) (hs.ownRd 0 rfl) 0 rfl (fun _ h => False.elim h)
        have hdl := adel_len1 hk61
        exact ⟨(adel left3 k61, some (k61, .slice ba b.length bc), adel lo3 k61, aput parts2 k61 b, aput ps2 k61 (.slice a72 (bytesL b).length c72)), by simp only; omega, ⟨hJ2.step hb1, h1⟩, trivial, by repeat (first | exact Out.mix _ _ _ | refine Out.updo rfl ?_ | refine Out.upd rfl ?_ | refine Out.mixIn rfl ?_)⟩
  · clear hs
    intro k29 v29 w hk29 hs
    try simp only [List.set_cons_succ, List.set_cons_zero] at hs
    obtain ⟨b, hb1, hb2, hb3⟩ := hJ0.some hk29
    obtain ⟨ba, bc, he, hr⟩ := hs.bytesAt 3 rfl hb2
    rw [hb3] at he
    cases he
    first | refine lw_val rfl (run_extract (v := .bool _) rfl rfl) ?_
    refine lw_nil ?_
    refine cw_seq ?_
    refine cw_ift rfl rfl ?_
    refine cw_skip ?_
    refine cw_block ?_
    refine cw_seq ?_
    refine cw_region ?_
    first | refine lw_val rfl (run_entryM hs 0 rfl rfl) ?_ | refine lw_val rfl (run_entryM hs 1 rfl rfl) ?_ | refine lw_val rfl (run_entryM hs 2 rfl rfl) ?_ | refine lw_val rfl (run_entryM hs 3 rfl rfl) ?_ | refine lw_val rfl (run_entryM hs 4 rfl rfl) ?_ | refine lw_val rfl (run_entryM hs 5 rfl rfl) ?_ | refine lw_val rfl (run_entryM hs 6 rfl rfl) ?_ | refine lw_val rfl (run_entryM hs 7 rfl rfl) ?_ | refine lw_val rfl (run_entryM hs 8 rfl rfl) ?_ | refine lw_val rfl (run_entryM hs 9 rfl rfl) ?_ | refine lw_val rfl (run_entryM hs 10 rfl rfl) ?_ | refine lw_val rfl (run_entryM hs 11 rfl rfl) ?_ | refine lw_val rfl (run_entryM hs 12 rfl rfl) ?_ | refine lw_val rfl (run_entryM hs 13 rfl rfl) ?_
    first | refine lw_val rfl (run_extract (v := .string _) rfl rfl) ?_
    first | refine lw_val rfl (run_extract (v := .slice _ _ _) rfl rfl) ?_
    first | refine lw_val rfl (run_assign (v := .string _) rfl) ?_
    first | refine lw_val rfl (run_assign (v := .slice _ _ _) rfl) ?_
    refine lw_nil ?_
    refine cw_drawS mixes (hs.drop 1) ?_
    intro w tr hK
    replace hs := tr _ hs
    clear tr
    first | refine aw_take 0 rfl (by kernel_rfl) (by kernel_rfl) (by kernel_rfl) rfl (fun w hs => run_fieldAddr (o' := 0) Tryd.underlying94 rfl sz91 rfl rfl rfl) hK ?_ | refine aw_take 0 rfl (by kernel_rfl) (by kernel_rfl) (by kernel_rfl) rfl (fun w hs => run_fieldAddr Tryd.underlying94 rfl sz91 rfl rfl rfl) hK ?_
    first | refine aw_take 1 rfl (by kernel_rfl) (by kernel_rfl) (by kernel_rfl) rfl (fun w hs => run_load Tryd.underlying91 rfl rfl (hs.cellAt 0 rfl rfl)) hK ?_ | refine aw_take 1 rfl (by kernel_rfl) (by kernel_rfl) (by kernel_rfl) rfl (fun w hs => run_load Tryd.underlying91 rfl rfl (hs.cellAt 1 rfl rfl)) hK ?_ | refine aw_take 1 rfl (by kernel_rfl) (by kernel_rfl) (by kernel_rfl) rfl (fun w hs => run_load Tryd.underlying91 rfl rfl (hs.cellAt 2 rfl rfl)) hK ?_ | refine aw_take 1 rfl (by kernel_rfl) (by kernel_rfl) (by kernel_rfl) rfl (fun w hs => run_load Tryd.underlying91 rfl rfl (hs.cellAt 3 rfl rfl)) hK ?_ | refine aw_take 1 rfl (by kernel_rfl) (by kernel_rfl) (by kernel_rfl) rfl (fun w hs => run_load Tryd.underlying91 rfl rfl (hs.cellAt 4 rfl rfl)) hK ?_ | refine aw_take 1 rfl (by kernel_rfl) (by kernel_rfl) (by kernel_rfl) rfl (fun w hs => run_load Tryd.underlying91 rfl rfl (hs.cellAt 5 rfl rfl)) hK ?_ | refine aw_take 1 rfl (by kernel_rfl) (by kernel_rfl) (by kernel_rfl) rfl (fun w hs => run_load Tryd.underlying91 rfl rfl (hs.cellAt 6 rfl rfl)) hK ?_ | refine aw_take 1 rfl (by kernel_rfl) (by kernel_rfl) (by kernel_rfl) rfl (fun w hs => run_load Tryd.underlying91 rfl rfl (hs.cellAt 7 rfl rfl)) hK ?_ | refine aw_take 1 rfl (by kernel_rfl) (by kernel_rfl) (by kernel_rfl) rfl (fun w hs => run_load Tryd.underlying91 rfl rfl (hs.cellAt 8 rfl rfl)) hK ?_ | refine aw_take 1 rfl (by kernel_rfl) (by kernel_rfl) (by kernel_rfl) rfl (fun w hs => run_load Tryd.underlying91 rfl rfl (hs.cellAt 9 rfl rfl)) hK ?_ | refine aw_take 1 rfl (by kernel_rfl) (by kernel_rfl) (by kernel_rfl) rfl (fun w hs => run_load Tryd.underlying91 rfl rfl (hs.cellAt 10 rfl rfl)) hK ?_ | refine aw_take 1 rfl (by kernel_rfl) (by kernel_rfl) (by kernel_rfl) rfl (fun w hs => run_load Tryd.underlying91 rfl rfl (hs.cellAt 11 rfl rfl)) hK ?_ | refine aw_take 1 rfl (by kernel_rfl) (by kernel_rfl) (by kernel_rfl) rfl (fun w hs => run_load Tryd.underlying91 rfl rfl (hs.cellAt 12 rfl rfl)) hK ?_ | refine aw_take 1 rfl (by kernel_rfl) (by kernel_rfl) (by kernel_rfl) rfl (fun w hs => run_load Tryd.underlying91 rfl rfl (hs.cellAt 13 rfl rfl)) hK ?_
    first | refine aw_take 2 rfl (by kernel_rfl) (by kernel_rfl) (by kernel_rfl) rfl (fun w hs => run_move (v := .string _) rfl) hK ?_
    first | refine aw_take 3 rfl (by kernel_rfl) (by kernel_rfl) (by kernel_rfl) rfl (fun w hs => run_move (v := .slice _ _ _) rfl) hK ?_
    refine aw_ready [4] (by kernel_rfl) (by simp) ?_
    refine ⟨⟨_, rfl, ?_⟩, trivial⟩
    refine lw_call rfl en69 (clone_sl hs hr (hsm.1 k29 b (aget_mem hb2))) ?_
    clear hs
    rintro _ w ⟨a38, c38, rfl, hs⟩
    clear hK
    have hK := hs.tail.drop 1
    refine lw_nil ⟨hK, ?_⟩
    refine aw_ready [5] (by kernel_rfl) (by simp) ?_
    refine ⟨⟨_, rfl, ?_⟩, trivial⟩
    first | refine lw_mapUpdate (v := .slice _ _ _) hs 0 rfl strKind Tryd.underlying91 Tryd.underlying9 rfl rfl rfl ?_ | refine lw_mapUpdate (v := .slice _ _ _) hs 1 rfl strKind Tryd.underlying91 Tryd.underlying9 rfl rfl rfl ?_ | refine lw_mapUpdate (v := .slice _ _ _) hs 2 rfl strKind Tryd.underlying91 Tryd.underlying9 rfl rfl rfl ?_ | refine lw_mapUpdate (v := .slice _ _ _) hs 3 rfl strKind Tryd.underlying91 Tryd.underlying9 rfl rfl rfl ?_ | refine lw_mapUpdate (v := .slice _ _ _) hs 4 rfl strKind Tryd.underlying91 Tryd.underlying9 rfl rfl rfl ?_ | refine lw_mapUpdate (v := .slice _ _ _) hs 5 rfl strKind Tryd.underlying91 Tryd.underlying9 rfl rfl rfl ?_ | refine lw_mapUpdate (v := .slice _ _ _) hs 6 rfl strKind Tryd.underlying91 Tryd.underlying9 rfl rfl rfl ?_ | refine lw_mapUpdate (v := .slice _ _ _) hs 7 rfl strKind Tryd.underlying91 Tryd.underlying9 rfl rfl rfl ?_ | refine lw_mapUpdate (v := .slice _ _ _) hs 8 rfl strKind Tryd.underlying91 Tryd.underlying9 rfl rfl rfl ?_ | refine lw_mapUpdate (v := .slice _ _ _) hs 9 rfl strKind Tryd.underlying91 Tryd.underlying9 rfl rfl rfl ?_ | refine lw_mapUpdate (v := .slice _ _ _) hs 10 rfl strKind Tryd.underlying91 Tryd.underlying9 rfl rfl rfl ?_ | refine lw_mapUpdate (v := .slice _ _ _) hs 11 rfl strKind Tryd.underlying91 Tryd.underlying9 rfl rfl rfl ?_ | refine lw_mapUpdate (v := .slice _ _ _) hs 12 rfl strKind Tryd.underlying91 Tryd.underlying9 rfl rfl rfl ?_ | refine lw_mapUpdate (v := .slice _ _ _) hs 13 rfl strKind Tryd.underlying91 Tryd.underlying9 rfl rfl rfl ?_
    clear hs
    intro w hs
    try simp only [List.set_cons_succ, List.set_cons_zero] at hs
    clear hK
    have hK := hs.tail.drop 1
    refine lw_nil ⟨hK, ?_⟩
    refine aw_done (by kernel_rfl) ?_
    clear hK
    have h1 := Mem.famPut (R := rdB) (k := k29) (b := b) (hs.ownRd 0 rfl) 0 rfl (fun _ h => False.elim h)
    have hdl := adel_len1 hk29
    exact ⟨(adel left k29, some (k29, .slice ba b.length bc), adel lo k29, aput objs2 k29 b, aput es2 k29 (.slice a38 (bytesL b).length c38)), by simp only; omega, ⟨hJ0.step hb1, h1⟩, trivial, by repeat (first | exact Out.mix _ _ _ | refine Out.updo rfl ?_ | refine Out.upd rfl ?_ | refine Out.mixIn rfl ?_)⟩
end Go.Proofs.YtjiigajekminaaaDoor
