/- A view's In. -/
import Derived.Test.YtkogkokmcmallaaGreatDoorWo
import Derived.Test.YtkogkokmcmallaaGreatDoorWi
import Derived.Test.YtkogkokmcmallaaGreatDoorWp
namespace Go.Proofs.YtkogkokmcmallaaGreatDoor
set_option linter.all false
open Go.RowKit
attribute [local irreducible] errV
variable {g w : World} {L M : List HP} {ad : Nat → Addr} {p : Nat} {V : Vw}

theorem filter_one {V : Vw} {P P' : Int × Itm → Bool} {x : Int × Itm} (hn : (keysOf V).Nodup) (hx : x ∈ V) (h1 : P' x = true) (h0 : P x = false) (ho : ∀ y ∈ V, y.1 ≠ x.1 → P' y = P y) : (V.filter P').Perm (x :: V.filter P) := by
  induction V with
  | nil => cases hx
  | cons y V ih =>
    simp only [keysOf, List.map_cons, List.nodup_cons] at hn
    rcases List.mem_cons.1 hx with rfl | hx
    · have e : V.filter P' = V.filter P := List.filter_congr fun z hz => ho z (List.mem_cons_of_mem _ hz) fun e => hn.1 (e ▸ List.mem_map_of_mem hz)
      rw [List.filter_cons, List.filter_cons, h1, h0, e]
      simp
    · have hne : y.1 ≠ x.1 := fun e => hn.1 (e ▸ List.mem_map_of_mem hx)
      have ih := ih hn.2 hx fun z hz => ho z (List.mem_cons_of_mem _ hz)
      rw [List.filter_cons, List.filter_cons, ho y (List.mem_cons_self ..) hne]
      cases P y with
      | false => simpa using ih
      | true => simp only [if_true]; exact (ih.cons y).trans (List.Perm.swap ..)
def seenB (l : List Int) (left : List (Int × Value)) (x : Int × Itm) : Bool := hasI l x.2.st && (aget left x.1).isNone
structure InI (V : Vw) (l : List Int) (es left : List (Int × Value)) (ms : List Mf) : Prop where
  nd : (keysOf left).Nodup
  sub : ∀ k v, aget left k = some v → aget es k = some v
  pm : ms.Perm ((V.filter (seenB l left)).map fun x => x.2.m)
theorem InI.start {l : List Int} {es : List (Int × Value)} (ho : V.ok) (hke : keysOf es = keysOf V) : InI V l es es [] := by
  refine ⟨hke ▸ ho.nd, fun _ _ h => h, ?_⟩
  have e : V.filter (seenB l es) = [] := List.filter_eq_nil_iff.2 fun x hx => by
    obtain ⟨v, hv⟩ := al_of_key (show x.1 ∈ keysOf es from hke ▸ List.mem_map_of_mem hx)
    simp [seenB, hv]
  rw [e]; exact List.Perm.refl _
theorem InI.step {l : List Int} {es left : List (Int × Value)} {ms : List Mf} (h : InI V l es left ms) (ho : V.ok) {k : Int} {i : Itm} {v : Value} (hV : aget V k = some i) (hk : aget left k = some v) : InI V l es (adel left k) (ms ++ if hasI l i.st then [i.m] else []) := by
  have hoth : ∀ y : Int × Itm, y.1 ≠ k → seenB l (adel left k) y = seenB l left y := fun y hy => by simp [seenB, aget_del_other _ hy]
  have h0 : seenB l left (k, i) = false := by simp [seenB, hk]
  refine ⟨nodup_del h.nd k, fun j v hj => ?_, ?_⟩
  · by_cases e : j = k
    · subst e; rw [aget_del_same h.nd] at hj; cases hj
    · rw [aget_del_other _ e] at hj; exact h.sub j v hj
  · by_cases hh : hasI l i.st = true
    · have h1 : seenB l (adel left k) (k, i) = true := by simp [seenB, hh, aget_del_same h.nd]
      have := (filter_one ho.nd (aget_mem hV) h1 h0 fun y _ hy => hoth y hy).map fun x => x.2.m
      rw [if_pos hh]
      exact (List.perm_append_comm.trans (h.pm.cons i.m)).trans this.symm
    · have e : V.filter (seenB l (adel left k)) = V.filter (seenB l left) := List.filter_congr fun y hy => by
        by_cases e : y.1 = k
        · have : y = (k, i) := by
            have h2 := mem_aget ho.nd hy
            rw [e, hV] at h2
            cases h2
            exact Prod.ext e rfl
          subst this
          rw [h0]
          simp [seenB, hh]
        · exact hoth y e
      rw [if_neg hh, List.append_nil, e]
      exact h.pm
theorem InI.over {l : List Int} {es : List (Int × Value)} {ms : List Mf} (h : InI V l es [] ms) : ms.Perm (V.inB l) := by
  have e : seenB l [] = fun x : Int × Itm => hasI l x.2.st := by funext x; simp [seenB, aget]
  have := h.pm
  rw [e] at this
  exact this
theorem InI.few {l : List Int} {es left : List (Int × Value)} {ms : List Mf} (h : InI V l es left ms) (ho : V.ok) : ms.length ≤ 4096 := by
  have := h.pm.length_eq
  rw [List.length_map] at this
  have h2 := List.length_filter_le (seenB l left) V
  have := ho.few
  omega
theorem inB_idOk {l : List Int} {ms : List Mf} (h : ms.Perm (V.inB l)) (ho : V.ok) : ∀ x ∈ ms, idOk x := fun x hx => by
  obtain ⟨u, hu, rfl⟩ := List.mem_map.1 (h.mem_iff.1 hx)
  have h1 := ho.ids (mem_keysV (List.mem_filter.1 hu).1)
  have h2 := (ho.fine u (List.mem_filter.1 hu).1).2.1
  exact ⟨by rw [h2]; exact h1.1, by rw [h2]; exact h1.2⟩
theorem zsMf : (Tryz.prog.info? 36).map (fun i => (i.zero, i.size)) = some (some (.agg #[.int .i64 0, .int .i64 0, .int .i64 0, .int .i64 0, .slice none 0 0, .slice none 0 0]), 6) := by kernel_rfl
theorem fill_mf (a b c d : Int) (e o : SA) (n m : Nat) : Instr.fill (fun i => some (i * 6, 6)) ((Array.range (1 * 6)).map ((Value.agg #[.int .i64 0, .int .i64 0, .int .i64 0, .int .i64 0, .slice none 0 0, .slice none 0 0]).cells[· % (Value.agg #[.int .i64 0, .int .i64 0, .int .i64 0, .int .i64 0, .slice none 0 0, .slice none 0 0]).cells.size]!)) [(0, .agg [.int .i64 a, .int .i64 b, .int .i64 c, .int .i64 d, .slice e.1 n e.2, .slice o.1 m o.2].toArray)] = some [.int .i64 a, .int .i64 b, .int .i64 c, .int .i64 d, .slice e.1 n e.2, .slice o.1 m o.2].toArray := by kernel_rfl
set_option maxHeartbeats 1000000 in
theorem viewIn_sl (hs : Mem g w (ViewC p V :: L)) {a : Option Addr} {n c : Nat} {l : List Int} (hr : Rd g L (.slice a n c) (intsL l)) (hn : n = l.length) (hlen : l.length ≤ 1000000) : Calls Tryz.prog 143 #[.pointer (some ⟨p, 0, none⟩), .slice a n c] w (Ret fun v w' => ∃ (s : SA) (ts : List T3), v = .slice s.1 ts.length s.2 ∧ (ts.map (·.1)).Perm (V.inB l) ∧ (ts.map (·.1)).Pairwise (fun x y => ¬ cmpM y x < 0) ∧ Mem g w' (rowK 6 (.slice s.1 ts.length s.2) (ts.map t3L) :: stars (ts.flatMap t3P) :: ViewC p V :: L)) := by
  subst hn
  obtain ⟨ho, m, es, hs⟩ := hs.openV
  simp only [viewP, List.cons_append, List.nil_append] at hs
  have hke := hs.famKeys 2 rfl
  replace hs := ((Mem.stars (M := []) (L := _ :: _ :: _ :: L) hs).addE (rowK_nil 6 _))
  replace hr := hr.cons (C := famC itmC es V) |>.cons (C := cells p [.map (some m)] 162)
  refine calls_cw Tryz.func143 rfl rfl ?_
  skip
  refine cw_seq ?_
  refine cw_region ?_
  first | refine lw_val rfl (run_assign (v := .slice _ _ _) rfl) ?_
  refine lw_nil ?_
  refine cw_seq ?_
  refine cw_region ?_
  first | refine lw_val rfl (run_assign (v := .slice _ _ _) rfl) ?_
  refine lw_nil ?_
  refine cw_seq ?_
  refine cw_seq ?_
  refine cw_region ?_
  first | refine lw_val rfl (run_move (v := .pointer (some _)) rfl) ?_ | refine lw_val rfl (run_move (v := .pointer none) rfl) ?_ | refine lw_val rfl (run_move (v := .pointer _) rfl) ?_
  refine lw_val rfl (run_nilCheckP rfl) ?_
  first | refine lw_val rfl (run_fieldAddr (o' := 0) Tryz.underlying162 rfl sz160 rfl rfl rfl) ?_ | refine lw_val rfl (run_fieldAddr Tryz.underlying162 rfl sz160 rfl rfl rfl) ?_
  first | refine lw_val rfl (run_load Tryz.underlying160 rfl rfl (hs.cellAt 0 rfl rfl)) ?_ | refine lw_val rfl (run_load Tryz.underlying160 rfl rfl (hs.cellAt 1 rfl rfl)) ?_ | refine lw_val rfl (run_load Tryz.underlying160 rfl rfl (hs.cellAt 2 rfl rfl)) ?_ | refine lw_val rfl (run_load Tryz.underlying160 rfl rfl (hs.cellAt 3 rfl rfl)) ?_ | refine lw_val rfl (run_load Tryz.underlying160 rfl rfl (hs.cellAt 4 rfl rfl)) ?_ | refine lw_val rfl (run_load Tryz.underlying160 rfl rfl (hs.cellAt 5 rfl rfl)) ?_ | refine lw_val rfl (run_load Tryz.underlying160 rfl rfl (hs.cellAt 6 rfl rfl)) ?_ | refine lw_val rfl (run_load Tryz.underlying160 rfl rfl (hs.cellAt 7 rfl rfl)) ?_ | refine lw_val rfl (run_load Tryz.underlying160 rfl rfl (hs.cellAt 8 rfl rfl)) ?_ | refine lw_val rfl (run_load Tryz.underlying160 rfl rfl (hs.cellAt 9 rfl rfl)) ?_ | refine lw_val rfl (run_load Tryz.underlying160 rfl rfl (hs.cellAt 10 rfl rfl)) ?_ | refine lw_val rfl (run_load Tryz.underlying160 rfl rfl (hs.cellAt 11 rfl rfl)) ?_ | refine lw_val rfl (run_load Tryz.underlying160 rfl rfl (hs.cellAt 12 rfl rfl)) ?_ | refine lw_val rfl (run_load Tryz.underlying160 rfl rfl (hs.cellAt 13 rfl rfl)) ?_
  first | refine lw_rangeM hs rfl 0 rfl Tryz.underlying160 rfl ?_ | refine lw_rangeM hs rfl 1 rfl Tryz.underlying160 rfl ?_ | refine lw_rangeM hs rfl 2 rfl Tryz.underlying160 rfl ?_ | refine lw_rangeM hs rfl 3 rfl Tryz.underlying160 rfl ?_ | refine lw_rangeM hs rfl 4 rfl Tryz.underlying160 rfl ?_ | refine lw_rangeM hs rfl 5 rfl Tryz.underlying160 rfl ?_ | refine lw_rangeM hs rfl 6 rfl Tryz.underlying160 rfl ?_ | refine lw_rangeM hs rfl 7 rfl Tryz.underlying160 rfl ?_ | refine lw_rangeM hs rfl 8 rfl Tryz.underlying160 rfl ?_ | refine lw_rangeM hs rfl 9 rfl Tryz.underlying160 rfl ?_ | refine lw_rangeM hs rfl 10 rfl Tryz.underlying160 rfl ?_ | refine lw_rangeM hs rfl 11 rfl Tryz.underlying160 rfl ?_ | refine lw_rangeM hs rfl 12 rfl Tryz.underlying160 rfl ?_ | refine lw_rangeM hs rfl 13 rfl Tryz.underlying160 rfl ?_
  clear hs
  intro r12 w hs
  try simp only [List.set_cons_succ, List.set_cons_zero] at hs
  refine lw_nil ?_
  refine cw_block ?_
  refine cw_loop (X := List (Int × Value) × Option (Int × Value) × List T3 × SA) [5, 7, 13, 14, 15, 16, 17, 18, 19, 20, 21, 22, 23, 24, 25, 26] (fun x => [(5, .slice x.2.2.2.1 x.2.2.1.length x.2.2.2.2)]) (fun x w => InI V l es x.1 (x.2.2.1.map (·.1)) ∧ Mem g w (rowK 6 (.slice x.2.2.2.1 x.2.2.1.length x.2.2.2.2) (x.2.2.1.map t3L) :: stars (x.2.2.1.flatMap t3P) :: rngC (Value.int .i64) r12 m es x.1 x.2.1 :: cells p [.map (some m)] 162 :: famC itmC es V :: L)) (fun x => x.1.length) ((es, none, [], (none, 0))) ?_ ?_ ?_
  · exact ⟨rfl, trivial⟩
  · exact ⟨InI.start ho hke, hs.arr [0, 1, 3, 2, 4] 5 (by decide)⟩
  clear hs
  rintro x ξ w hI
  obtain ⟨left, cur, ts, s⟩ := x
  obtain ⟨hJ, hs⟩ := hI
  simp only at hJ hs
  show cw _ _ _ _ _ _ (updL (mix _ ξ _) [(5, .slice s.1 ts.length s.2)]) w
  refine cw_seq ?_
  refine cw_region ?_
  first | refine lw_nextM hs rfl 0 rfl strKind.inj rfl ?_ ?_ | refine lw_nextM hs rfl 0 rfl intKind.inj rfl ?_ ?_ | refine lw_nextM hs rfl 1 rfl strKind.inj rfl ?_ ?_ | refine lw_nextM hs rfl 1 rfl intKind.inj rfl ?_ ?_ | refine lw_nextM hs rfl 2 rfl strKind.inj rfl ?_ ?_ | refine lw_nextM hs rfl 2 rfl intKind.inj rfl ?_ ?_ | refine lw_nextM hs rfl 3 rfl strKind.inj rfl ?_ ?_ | refine lw_nextM hs rfl 3 rfl intKind.inj rfl ?_ ?_ | refine lw_nextM hs rfl 4 rfl strKind.inj rfl ?_ ?_ | refine lw_nextM hs rfl 4 rfl intKind.inj rfl ?_ ?_ | refine lw_nextM hs rfl 5 rfl strKind.inj rfl ?_ ?_ | refine lw_nextM hs rfl 5 rfl intKind.inj rfl ?_ ?_ | refine lw_nextM hs rfl 6 rfl strKind.inj rfl ?_ ?_ | refine lw_nextM hs rfl 6 rfl intKind.inj rfl ?_ ?_ | refine lw_nextM hs rfl 7 rfl strKind.inj rfl ?_ ?_ | refine lw_nextM hs rfl 7 rfl intKind.inj rfl ?_ ?_ | refine lw_nextM hs rfl 8 rfl strKind.inj rfl ?_ ?_ | refine lw_nextM hs rfl 8 rfl intKind.inj rfl ?_ ?_ | refine lw_nextM hs rfl 9 rfl strKind.inj rfl ?_ ?_ | refine lw_nextM hs rfl 9 rfl intKind.inj rfl ?_ ?_ | refine lw_nextM hs rfl 10 rfl strKind.inj rfl ?_ ?_ | refine lw_nextM hs rfl 10 rfl intKind.inj rfl ?_ ?_ | refine lw_nextM hs rfl 11 rfl strKind.inj rfl ?_ ?_ | refine lw_nextM hs rfl 11 rfl intKind.inj rfl ?_ ?_ | refine lw_nextM hs rfl 12 rfl strKind.inj rfl ?_ ?_ | refine lw_nextM hs rfl 12 rfl intKind.inj rfl ?_ ?_ | refine lw_nextM hs rfl 13 rfl strKind.inj rfl ?_ ?_ | refine lw_nextM hs rfl 13 rfl intKind.inj rfl ?_ ?_
  · intro hl13
    subst hl13
    first | refine lw_val rfl (run_extract (v := .bool _) rfl rfl) ?_
    refine lw_nil ?_
    refine cw_seq ?_
    refine cw_iff rfl rfl ?_
    refine cw_exit rfl ?_
    refine cw_seq ?_
    refine cw_region ?_
    first | refine lw_val rfl (run_move (v := .slice _ _ _) rfl) ?_
    refine lw_call rfl en215 (sortM_sl hs (fun t ht => inB_idOk hJ.over ho t.1 (List.mem_map_of_mem ht)) (by have := hJ.few ho; rw [List.length_map] at this; omega)) ?_
    clear hs
    rintro _ w ⟨rfl, ts2, hp2, hs2, hs⟩
    refine lw_nil ?_
    refine cw_seq ?_
    refine cw_region ?_
    first | refine lw_val rfl (run_move (v := .slice _ _ _) rfl) ?_
    first | refine lw_val rfl (run_assign (v := .slice _ _ _) rfl) ?_
    refine lw_nil ?_
    refine cw_ret ?_
    refine res1 (v := .slice _ _ _) rfl rfl ?_
    have hl2 := hp2.length_eq
    rw [← hl2] at hs ⊢
    have h1 := (hs.arr [1, 0, 2, 3, 4] 5 (by decide)).unstars
    have h2 : Mem g w (ts2.flatMap t3P ++ _) := h1.perm ((hp2.symm.flatMap_right t3P).append_right _)
    have h3 := (h2.stars.arr [2, 0, 1, 3, 4] 5 (by decide)).rngd 0 rfl
    have h4 := Mem.closeV (L := _ :: _ :: L) ho (h3.arr [3, 0, 4, 2, 1] 5 (by decide))
    exact ⟨_, rfl, s, ts2, rfl, (hp2.map _).trans hJ.over, hs2, h4.arr [1, 2, 0] 3 (by decide)⟩
  · clear hs
    intro k13 v13 w hk13 hs
    try simp only [List.set_cons_succ, List.set_cons_zero] at hs
    have hes := hJ.sub _ _ hk13
    obtain ⟨i, hi⟩ := al_of_key (hke ▸ al_key hes : k13 ∈ keysOf V)
    obtain ⟨e, o, he, hm⟩ := hs.itmAt 4 rfl hi
    obtain rfl := Option.some.inj (hes.symm.trans he)
    have hit := ho.item hi
    have hdl := al_del hk13
    have hst := hJ.step ho hi hk13
    have hfw := hJ.few ho
    rw [List.length_map] at hfw
    first | refine lw_val rfl (run_extract (v := .bool _) rfl rfl) ?_
    refine lw_nil ?_
    refine cw_seq ?_
    refine cw_ift rfl rfl ?_
    refine cw_skip ?_
    refine cw_block ?_
    refine cw_seq ?_
    refine cw_region ?_
    first | refine lw_val rfl (run_entryM hs 0 rfl rfl) ?_ | refine lw_val rfl (run_entryM hs 1 rfl rfl) ?_ | refine lw_val rfl (run_entryM hs 2 rfl rfl) ?_ | refine lw_val rfl (run_entryM hs 3 rfl rfl) ?_ | refine lw_val rfl (run_entryM hs 4 rfl rfl) ?_ | refine lw_val rfl (run_entryM hs 5 rfl rfl) ?_ | refine lw_val rfl (run_entryM hs 6 rfl rfl) ?_ | refine lw_val rfl (run_entryM hs 7 rfl rfl) ?_ | refine lw_val rfl (run_entryM hs 8 rfl rfl) ?_ | refine lw_val rfl (run_entryM hs 9 rfl rfl) ?_ | refine lw_val rfl (run_entryM hs 10 rfl rfl) ?_ | refine lw_val rfl (run_entryM hs 11 rfl rfl) ?_ | refine lw_val rfl (run_entryM hs 12 rfl rfl) ?_ | refine lw_val rfl (run_entryM hs 13 rfl rfl) ?_
    first | refine lw_val rfl (run_extract (v := .agg _) rfl rfl) ?_
    refine lw_alloc hs rfl ze164 ?_
    clear hs
    intro b7 w hs
    try simp only [List.set_cons_succ, List.set_cons_zero] at hs
    first | refine lw_storeRow hs 0 rfl rfl rfl sz164 rfl rfl ?_ | refine lw_storeRow hs 1 rfl rfl rfl sz164 rfl rfl ?_ | refine lw_storeRow hs 2 rfl rfl rfl sz164 rfl rfl ?_ | refine lw_storeRow hs 3 rfl rfl rfl sz164 rfl rfl ?_ | refine lw_storeRow hs 4 rfl rfl rfl sz164 rfl rfl ?_ | refine lw_storeRow hs 5 rfl rfl rfl sz164 rfl rfl ?_ | refine lw_storeRow hs 6 rfl rfl rfl sz164 rfl rfl ?_ | refine lw_storeRow hs 7 rfl rfl rfl sz164 rfl rfl ?_ | refine lw_storeRow hs 8 rfl rfl rfl sz164 rfl rfl ?_ | refine lw_storeRow hs 9 rfl rfl rfl sz164 rfl rfl ?_ | refine lw_storeRow hs 10 rfl rfl rfl sz164 rfl rfl ?_ | refine lw_storeRow hs 11 rfl rfl rfl sz164 rfl rfl ?_ | refine lw_storeRow hs 12 rfl rfl rfl sz164 rfl rfl ?_ | refine lw_storeRow hs 13 rfl rfl rfl sz164 rfl rfl ?_
    clear hs
    intro w hs
    try simp only [List.set_cons_succ, List.set_cons_zero] at hs
    refine lw_nil ?_
    refine cw_seq ?_
    refine cw_region ?_
    first | refine lw_val rfl (run_move (v := .slice _ _ _) rfl) ?_
    first | refine lw_val rfl (run_fieldAddr (o' := 0) Tryz.underlying164 rfl sz3 rfl rfl rfl) ?_ | refine lw_val rfl (run_fieldAddr Tryz.underlying164 rfl sz3 rfl rfl rfl) ?_
    first | refine lw_val rfl (run_load Tryz.underlying3 rfl rfl (hs.cellAt 0 rfl rfl)) ?_ | refine lw_val rfl (run_load Tryz.underlying3 rfl rfl (hs.cellAt 1 rfl rfl)) ?_ | refine lw_val rfl (run_load Tryz.underlying3 rfl rfl (hs.cellAt 2 rfl rfl)) ?_ | refine lw_val rfl (run_load Tryz.underlying3 rfl rfl (hs.cellAt 3 rfl rfl)) ?_ | refine lw_val rfl (run_load Tryz.underlying3 rfl rfl (hs.cellAt 4 rfl rfl)) ?_ | refine lw_val rfl (run_load Tryz.underlying3 rfl rfl (hs.cellAt 5 rfl rfl)) ?_ | refine lw_val rfl (run_load Tryz.underlying3 rfl rfl (hs.cellAt 6 rfl rfl)) ?_ | refine lw_val rfl (run_load Tryz.underlying3 rfl rfl (hs.cellAt 7 rfl rfl)) ?_ | refine lw_val rfl (run_load Tryz.underlying3 rfl rfl (hs.cellAt 8 rfl rfl)) ?_ | refine lw_val rfl (run_load Tryz.underlying3 rfl rfl (hs.cellAt 9 rfl rfl)) ?_ | refine lw_val rfl (run_load Tryz.underlying3 rfl rfl (hs.cellAt 10 rfl rfl)) ?_ | refine lw_val rfl (run_load Tryz.underlying3 rfl rfl (hs.cellAt 11 rfl rfl)) ?_ | refine lw_val rfl (run_load Tryz.underlying3 rfl rfl (hs.cellAt 12 rfl rfl)) ?_ | refine lw_val rfl (run_load Tryz.underlying3 rfl rfl (hs.cellAt 13 rfl rfl)) ?_
    refine lw_call rfl en214 (conI_sl hs hr.cons.cons.cons.cons rfl hlen i.st) ?_
    clear hs
    rintro _ w ⟨rfl, hs⟩
    refine lw_nil ?_
    refine cw_if rfl ?_ ?_
    · intro h20
      refine cw_region ?_
      first | refine lw_val rfl (run_move (v := .slice _ _ _) rfl) ?_
      first | refine lw_val rfl (run_fieldAddr (o' := 1) Tryz.underlying164 rfl sz36 rfl rfl rfl) ?_ | refine lw_val rfl (run_fieldAddr Tryz.underlying164 rfl sz36 rfl rfl rfl) ?_
      refine lw_val rfl (run_loadMid hs 0 (mfL i.m e o) rfl Tryz.underlying36 sz36 rfl rfl) ?_
      refine lw_call rfl en110 (cloneM_sl hs hm.cons (by omega) (by omega)) ?_
      clear hs
      rintro _ w ⟨s1, s2, rfl, hs⟩
      refine lw_buildRow hs rfl (row := mfL i.m s1 s2) Tryz.underlying201 zsMf rfl (fill_mf _ _ _ _ _ _ _ _) (by decide) (by decide) ?_
      clear hs
      intro b25 w hs
      refine lw_appendRow hs rfl 4 0 rfl rfl Tryz.underlying201 Tryz.underlying201 in36 rfl rfl (by rfl) rfl rfl (by simp only [List.length_map]; omega) (by simp only [List.length_map]; omega) ?_
      clear hs
      intro a26 c26 w hs
      simp only [List.set_cons_succ, List.set_cons_zero, List.length_map] at hs ⊢
      first | refine lw_val rfl (run_assign (v := .slice _ _ _) rfl) ?_
      refine lw_nil ?_
      rw [if_pos h20] at hst
      have h1 := (hs.arr [5, 1, 2, 4, 6, 7, 8] 9 (by decide)).unstars
      have h2 := Mem.stars (M := (ts ++ [(i.m, s1, s2)]).flatMap t3P) (by simpa [t3P] using h1)
      exact ⟨(adel left k13, some (k13, itmV i e o), ts ++ [(i.m, s1, s2)], (a26, c26)), by simp only; omega, ⟨by simpa using hst, by simpa [t3L] using h2.arr [1, 0] 2 (by decide)⟩, ⟨by simp only [List.length_append, List.length_cons, List.length_nil]; rfl, trivial⟩, by repeat (first | exact Out.mix _ _ _ | refine Out.updo rfl ?_ | refine Out.upd rfl ?_ | refine Out.mixIn rfl ?_)⟩
    · intro h20
      refine cw_skip ?_
      rw [h20] at hst
      exact ⟨(adel left k13, some (k13, itmV i e o), ts, s), by simp only; omega, ⟨by simpa using hst, hs.tail⟩, ⟨rfl, trivial⟩, by repeat (first | exact Out.mix _ _ _ | refine Out.updo rfl ?_ | refine Out.upd rfl ?_ | refine Out.mixIn rfl ?_)⟩
end Go.Proofs.YtkogkokmcmallaaGreatDoor
