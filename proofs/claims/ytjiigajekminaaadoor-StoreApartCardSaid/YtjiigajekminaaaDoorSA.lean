/- Bytes (a copy); StoreApart: the walk. -/
import Derived.Test.YtjiigajekminaaaDoorLs
import Derived.Test.YtjiigajekminaaaDoorNb
import Derived.Test.YtjiigajekminaaaDoorOp
import Derived.Test.YtjiigajekminaaaDoorT4
import Derived.Test.YtjiigajekminaaaDoorSL1
namespace Go.Proofs.YtjiigajekminaaaDoor
set_option linter.all false
open Go.RowKit
attribute [local irreducible] errV
variable {g w : World} {L M : List HP} {ad : Nat → Addr} {p q : Nat} {st : St}

theorem bytesL_app (l m : List UInt8) : bytesL (l ++ m) = bytesL l ++ bytesL m := by simp [bytesL]
theorem intsL_app (l m : List Int) : intsL (l ++ m) = intsL l ++ intsL m := by simp [intsL]
theorem bcopy_sl (hs : Mem g w L) {a : Option Addr} {n c : Nat} {l : List UInt8} (ha : Rd g L (.slice a n c) (bytesL l)) (hn : n = l.length) (hlen : l.length ≤ 1000000) :
    Calls Tryd.prog 57 #[.slice a n c] w (Ret fun v w' => ∃ ao co, v = .slice ao l.length co ∧ Mem g w' (own (.slice ao l.length co) (bytesL l) :: L)) := by
  subst hn
  refine calls_cw Tryd.func57 rfl rfl ?_
  skip
  refine cw_seq ?_
  refine cw_region ?_
  first | refine lw_val rfl (run_assign (v := .slice _ _ _) rfl) ?_
  refine lw_nil ?_
  refine cw_seq ?_
  refine cw_region ?_
  first | refine lw_val rfl (run_move (v := .slice _ _ _) rfl) ?_
  refine lw_val rfl (run_lenS Tryd.underlying27 rfl) ?_
  refine lw_makeSlice hs rfl Tryd.underlying27 in5 rfl rfl rfl (l := 0) (c := l.length) rfl rfl (by omega) (by omega) (by omega) ?_
  clear hs
  intro b7 w hs
  try simp only [List.set_cons_succ, List.set_cons_zero] at hs
  first | refine lw_val rfl (run_assign (v := .slice _ _ _) rfl) ?_
  refine lw_nil ?_
  refine cw_seq ?_
  refine cw_seq ?_
  refine cw_region ?_
  first | refine lw_val rfl (run_assign (v := .int .i64 _) rfl) ?_
  refine lw_nil ?_
  refine cw_block ?_
  refine cw_loop (X := Nat × Option Addr × Nat) [3, 4, 8, 9, 10, 11, 12, 13, 14, 15, 16, 17, 18, 19, 20] (fun x => [(3, .slice x.2.1 (l.take x.1).length x.2.2), (4, .int .i64 (x.1 : Nat))]) (fun x w => x.1 ≤ l.length ∧ Mem g w (own (.slice x.2.1 (l.take x.1).length x.2.2) (bytesL (l.take x.1)) :: L)) (fun x => l.length - x.1) ((0, some ⟨b7, 0, none⟩, l.length)) ?_ ?_ ?_
  · exact ⟨rfl, rfl, trivial⟩
  · exact ⟨Nat.zero_le _, hs⟩
  clear hs
  rintro x ξ w hI
  obtain ⟨i, ra, rc⟩ := x
  obtain ⟨hi, hs⟩ := hI
  simp only at hi hs
  show cw _ _ _ _ _ _ (updL (mix _ ξ _) [(3, .slice ra (l.take i).length rc), (4, .int .i64 (i : Nat))]) w
  refine cw_seq ?_
  refine cw_seq ?_
  refine cw_region ?_
  first | refine lw_val rfl (run_move (v := .int .i64 _) rfl) ?_
  first | refine lw_val rfl (run_move (v := .slice _ _ _) rfl) ?_
  refine lw_val rfl (run_lenS Tryd.underlying27 rfl) ?_
  refine lw_val rfl (run_lss rfl rfl) ?_
  refine lw_nil ?_
  refine cw_if rfl ?_ ?_
  · intro h11
    have g11 := of_decide_eq_true h11
    obtain ⟨u, hu⟩ : ∃ u, l[i]? = some u := ⟨l[i]'(by omega), List.getElem?_eq_getElem _⟩
    obtain ⟨b0, o0, rfl, _⟩ := ha.cons.cells' hs (by rw [bytesL_len]; omega)
    have e1 : l.take (i + 1) = l.take i ++ [u] := by rw [List.take_add_one, hu]; rfl
    refine cw_skip ?_
    refine cw_seq ?_
    refine cw_block ?_
    refine cw_region ?_
    first | refine lw_val rfl (run_move (v := .slice _ _ _) rfl) ?_
    first | refine lw_val rfl (run_move (v := .slice _ _ _) rfl) ?_
    first | refine lw_val rfl (run_move (v := .int .i64 _) rfl) ?_
    refine lw_val rfl (run_indexAddr Tryd.underlying27 sz5 rfl rfl rfl (by omega) rfl) ?_
    refine lw_val rfl (run_load Tryd.underlying5 rfl rfl (ha.cons.cellAt hs (bytesL_at hu))) ?_
    refine lw_buildSlice hs rfl ((bytesL [u])) Tryd.underlying27 zs5 rfl (cells_one (bytesL_one _)) rfl rfl rfl ?_
    clear hs
    intro b19 w hs
    try simp only [List.set_cons_succ, List.set_cons_zero] at hs
    refine lw_append hs rfl 1 rfl Tryd.underlying27 in5 rfl rfl rfl (src_of_seq (P := Tryd.prog) Tryd.underlying27 ((Rd.cells (n := 1) (cs := bytesL [u]) 0 rfl rfl).seq hs) (bytesL_one [u])) (by simp only [bytesL_len, List.length_take, List.length_cons, List.length_nil]; omega) (by simp only [bytesL_len, List.length_take, List.length_cons, List.length_nil]; omega) ?_
    clear hs
    intro a20 c20 w hs
    simp only [List.set_cons_succ, List.set_cons_zero] at hs
    first | refine lw_val rfl (run_assign (v := .slice _ _ _) rfl) ?_
    refine lw_nil ?_
    refine cw_region ?_
    first | refine lw_val rfl (run_move (v := .int .i64 _) rfl) ?_
    refine lw_val rfl (run_add64 rfl rfl rfl (inI (by omega) (by omega))) ?_
    first | refine lw_val rfl (run_assign (v := .int .i64 _) rfl) ?_
    refine lw_nil ?_
    have h2 : Mem g w (own (.slice a20 ((bytesL (l.take i)).length + (bytesL [u]).length) c20) (bytesL (l.take i) ++ bytesL [u]) :: L) := hs.arr [1] 2 (by decide)
    exact ⟨(i + 1, a20, c20), by simp only; omega, ⟨by simp only; omega, by simpa only [e1, bytesL_app, List.length_append, bytesL_len] using h2⟩, ⟨show Value.slice a20 ((bytesL (l.take i)).length + (bytesL [u]).length) c20 = Value.slice a20 (l.take (i + 1)).length c20 from by simp only [e1, List.length_append, bytesL_len], rfl, trivial⟩, by repeat (first | exact Out.mix _ _ _ | refine Out.updo rfl ?_ | refine Out.upd rfl ?_ | refine Out.mixIn rfl ?_)⟩
  · intro h11
    have g11 := of_decide_eq_false h11
    refine cw_exit rfl ?_
    refine cw_seq ?_
    refine cw_region ?_
    first | refine lw_val rfl (run_move (v := .slice _ _ _) rfl) ?_
    first | refine lw_val rfl (run_assign (v := .slice _ _ _) rfl) ?_
    refine lw_nil ?_
    refine cw_ret ?_
    refine res1 (v := .slice _ _ _) rfl rfl ?_
    have e : i = l.length := by omega
    refine ⟨_, rfl, ra, rc, ?_, ?_⟩
    · show Value.slice ra (l.take i).length rc = _; rw [e, List.take_length]
    · rw [e, List.take_length] at hs; exact hs

/-! ### the store of StoreApart -/
def nQ : ByteArray := ⟨#[111]⟩
theorem nQ_valid : validB nQ.data.toList = true := by decide +kernel
def partA (la : List UInt8) (j : Nat) : List UInt8 := la ++ [UInt8.ofNat j]
def idsA (n : Nat) : List Int := (List.range n).map fun i => ((i + 1 : Nat) : Int)
def upsA (la : List UInt8) (n : Nat) : List (Int × Up) := (List.range n).map fun j => (((j + 1 : Nat) : Int), ⟨nQ, [(0, partA la j)]⟩)
def saSt (la : List UInt8) (i : Nat) : St := { objs := [], ups := upsA la i, ids := i, script := [], calls := 2 * i, failed := 0 }
theorem idsA_succ (n : Nat) : idsA (n + 1) = idsA n ++ [((n + 1 : Nat) : Int)] := by simp [idsA, List.range_succ]
theorem idsA_len (n : Nat) : (idsA n).length = n := by simp [idsA]
theorem idsA_at {j n : Nat} (h : j < n) : (intsL (idsA n))[j]? = some (.int .i64 ((j + 1 : Nat) : Int)) := by simp [idsA, intsL, h]
theorem upsA_succ (la : List UInt8) (n : Nat) : upsA la (n + 1) = upsA la n ++ [(((n + 1 : Nat) : Int), ⟨nQ, [(0, partA la n)]⟩)] := by simp [upsA, List.range_succ]
theorem upsA_keys (la : List UInt8) (n : Nat) : keysOf (upsA la n) = idsA n := by simp [upsA, keysOf, idsA, List.map_map, Function.comp_def]
theorem mem_idsA {n : Nat} {x : Int} : x ∈ idsA n ↔ ∃ j, j < n ∧ ((j + 1 : Nat) : Int) = x := by simp [idsA]
theorem idsA_nodup (n : Nat) : (idsA n).Nodup := by
  unfold idsA
  rw [List.Nodup, List.pairwise_map]
  exact List.pairwise_lt_range.imp fun h => by omega
theorem upsA_none (la : List UInt8) {n j : Nat} (h : n ≤ j) : aget (upsA la n) ((j + 1 : Nat) : Int) = none := (aget_none_iff _ _).2 (by rw [upsA_keys, mem_idsA]; rintro ⟨i, hi, he⟩; omega)
theorem upsA_get (la : List UInt8) : ∀ {n j : Nat}, j < n → aget (upsA la n) ((j + 1 : Nat) : Int) = some ⟨nQ, [(0, partA la j)]⟩
  | n + 1, j, h => by
    rw [upsA_succ]
    by_cases e : j = n
    · subst e; exact agetL_app (upsA_none la (Nat.le_refl _))
    · exact agetL_app1 (upsA_get la (by omega))
where
  agetL_app {κ α : Type} [DecidableEq κ] {l : List (κ × α)} {k : κ} {v : α} (h : aget l k = none) : aget (l ++ [(k, v)]) k = some v := by
    induction l with
    | nil => simp [aget]
    | cons x l ih =>
      obtain ⟨a, b⟩ := x
      simp only [aget] at h
      simp only [List.cons_append, aget]
      split
      · rename_i e; rw [if_pos e] at h; cases h
      · rename_i e; rw [if_neg e] at h; exact ih h
  agetL_app1 {κ α : Type} [DecidableEq κ] {l : List (κ × α)} {k k' : κ} {v v' : α} (h : aget l k = some v) : aget (l ++ [(k', v')]) k = some v := by
    induction l with
    | nil => simp [aget] at h
    | cons x l ih =>
      obtain ⟨a, b⟩ := x
      simp only [aget] at h
      simp only [List.cons_append, aget]
      split
      · rename_i e; rw [if_pos e] at h; exact h
      · rename_i e; rw [if_neg e] at h; exact ih h
theorem aput_last {κ α : Type} [DecidableEq κ] {l : List (κ × α)} {k : κ} {v v' : α} (h : aget l k = none) : aput (l ++ [(k, v)]) k v' = l ++ [(k, v')] := by
  induction l with
  | nil => simp [aput]
  | cons x l ih =>
    obtain ⟨a, b⟩ := x
    simp only [aget] at h
    simp only [List.cons_append, aput]
    split
    · rename_i e; rw [if_pos e] at h; cases h
    · rename_i e; rw [if_neg e] at h; rw [ih h]
theorem aput_new {κ α : Type} [DecidableEq κ] {l : List (κ × α)} {k : κ} {v : α} (h : aget l k = none) : aput l k v = l ++ [(k, v)] := by
  induction l with
  | nil => rfl
  | cons x l ih =>
    obtain ⟨a, b⟩ := x
    simp only [aget] at h
    simp only [List.cons_append, aput]
    split
    · rename_i e; rw [if_pos e] at h; cases h
    · rename_i e; rw [if_neg e] at h; rw [ih h]
theorem start_ok {st : St} (h : st.script = []) {n : ByteArray} (hv : validB n.data.toList = true) : st.startR n = (((st.ids + 1 : Nat) : Int), 0, { st with calls := st.calls + 1, ids := st.ids + 1, ups := aput st.ups ((st.ids + 1 : Nat) : Int) ⟨n, []⟩ }) := by
  have h1 : st.next = 0 := by simp [St.next, h]
  unfold St.startR
  rw [if_neg (by omega), if_neg (by omega), begin_nil h]
  simp [St.start1, hv]
theorem part_ok {st : St} (h : st.script = []) {id k : Int} {b : List UInt8} {u : Up} (hu : aget st.ups id = some u) (hk : 0 ≤ k ∧ k < 256) : st.run (St.part1 id k b) = (0, { st with calls := st.calls + 1, ups := aput st.ups id { u with parts := aput u.parts k b } }) := by
  rw [run_ok h]; unfold St.part1; simp only [hu]; rw [if_neg (by omega)]
theorem part_no {st : St} (h : st.script = []) {id k : Int} {b : List UInt8} (hu : aget st.ups id = none) : st.run (St.part1 id k b) = (107, { st with calls := st.calls + 1 }) := by
  rw [run_ok h]; unfold St.part1; simp only [hu]
theorem complete_ok {st : St} (h : st.script = []) {id : Int} {k : Nat} {u : Up} (hu : aget st.ups id = some u) (hk : k ≤ 256) (hall : haveAll u.parts k = true) : st.run (St.complete1 id k) = (0, { st with calls := st.calls + 1, objs := aput st.objs u.name (outK u.parts k), ups := adel st.ups id }) := by
  rw [run_ok h]; unfold St.complete1; simp only [hu]; rw [if_neg (by omega), Int.toNat_natCast, if_pos hall]
def saSt1 (la : List UInt8) (i : Nat) : St := { objs := [], ups := upsA la i ++ [(((i + 1 : Nat) : Int), ⟨nQ, []⟩)], ids := i + 1, script := [], calls := 2 * i + 1, failed := 0 }
theorem sa_start (la : List UInt8) (i : Nat) : (saSt la i).startR nQ = (((i + 1 : Nat) : Int), 0, saSt1 la i) := by
  rw [start_ok rfl nQ_valid]
  show _ = (_, _, saSt1 la i)
  rw [show aput (saSt la i).ups (((saSt la i).ids + 1 : Nat) : Int) (⟨nQ, []⟩ : Up) = _ from aput_new (upsA_none la (Nat.le_refl _))]
  rfl
theorem sa_part (la : List UInt8) (i : Nat) : (saSt1 la i).run (St.part1 ((i + 1 : Nat) : Int) 0 (partA la i)) = (0, saSt la (i + 1)) := by
  have hu : aget (saSt1 la i).ups ((i + 1 : Nat) : Int) = some ⟨nQ, []⟩ := upsA_get.agetL_app (upsA_none la (Nat.le_refl _))
  rw [part_ok rfl hu (by omega)]
  have e : aput (saSt1 la i).ups ((i + 1 : Nat) : Int) ({ (⟨nQ, []⟩ : Up) with parts := aput [] 0 (partA la i) } : Up) = upsA la (i + 1) := by rw [upsA_succ]; exact aput_last (upsA_none la (Nat.le_refl _))
  rw [e]
  simp only [saSt1, saSt, Prod.mk.injEq, true_and]
  congr 1
theorem saSt_small {la : List UInt8} (h : la.length ≤ 50) (i : Nat) : (saSt la i).small := ⟨fun n b hm => by simp [saSt] at hm, fun id u hm k b hb => by
  simp only [saSt, upsA, List.mem_map, Prod.mk.injEq] at hm
  obtain ⟨j, _, _, rfl⟩ := hm
  simp only [List.mem_cons, Prod.mk.injEq, List.not_mem_nil, or_false] at hb
  rw [hb.2]
  simp [partA]; omega⟩
theorem outK1 (b : List UInt8) : outK [(0, b)] 1 = b := by simp [outK, aget]
theorem outK2 (b c : List UInt8) : outK [(0, b), (1, c)] 2 = b ++ c := by simp [outK, aget, List.range_succ]
theorem haveAll1 (b : List UInt8) : haveAll [(0, b)] 1 = true := by simp [haveAll, aget]
theorem haveAll2 (b c : List UInt8) : haveAll [(0, b), (1, c)] 2 = true := by simp [haveAll, aget, List.range_succ]
end Go.Proofs.YtjiigajekminaaaDoor
