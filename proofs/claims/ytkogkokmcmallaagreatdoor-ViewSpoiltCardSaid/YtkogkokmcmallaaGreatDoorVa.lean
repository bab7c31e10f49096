/- A view's methods: New, State, Refers, Apply. -/
import Derived.Test.YtkogkokmcmallaaGreatDoorMd
import Derived.Test.YtkogkokmcmallaaGreatDoorVw
import Derived.Test.YtkogkokmcmallaaGreatDoorZb
namespace Go.Proofs.YtkogkokmcmallaaGreatDoor
set_option linter.all false
open Go.RowKit
attribute [local irreducible] errV
variable {g w : World} {L M : List HP} {ad : Nat → Addr} {p : Nat} {V : Vw}

section
variable {P : Program} {ρ : Env} {dst : Option Tmp} {ty : TypeId} {pos : String} {aft : Array Edge} {x : Operand}
theorem run_lenM {κ : Type} {enc : κ → Value} {m : Nat} {es : List (κ × Value)} {t kt et : TypeId} (hm : MapAt w enc m es) (ht : P.underlying t = some (.map kt et)) (hx : ev ρ x = .map (some m)) : (execOp (ev ρ) ⟨dst, .call { callee := .builtin .len, args := #[x], argTypes := #[t] }, ty, pos, aft, none⟩).run P w = .ok (.value (.int .i64 es.length)) w := by
  obtain ⟨arr, clock, hb, he, _⟩ := hm
  have hl : arr.size = es.length := by have := congrArg List.length he; simpa using this
  simp [execOp, resolve, invoke, builtin, Builtin.len_, run_underlying ht, hx, goInt, MapKept.run_getObj_map hb, hl]
theorem run_field1 {fs : Array Field} {f : Field} {t : TypeId} {i : Nat} {cs : Array Value} {v : Value} (ht : P.underlying t = some (.struct fs)) (hf : fs[i]? = some f) (ha : ∀ w, (isAgg f.type).run P w = .ok false w) (hx : ev ρ x = .agg cs) (hv : cs[f.offset]? = some v) : (execOp (ev ρ) ⟨dst, .field t x i, ty, pos, aft, none⟩).run P w = .ok (.value v) w := by
  have hp : (part f.type cs f.offset).run P w = .ok v w := by simp [part, ha, hv]
  simp [execOp, Instr.field, run_underlying ht, hx, hf, asAgg, hp]
end
theorem itm_inj {i : Itm} {e o e' o' : SA} (h : itmV i e o = itmV i e' o') : e = e' ∧ o = o' := by
  simp only [itmV, mfL, Value.agg.injEq, Array.mk.injEq, List.cons.injEq, Value.slice.injEq, true_and, and_true] at h
  obtain ⟨a, b⟩ := e; obtain ⟨c, d⟩ := o; obtain ⟨a', b'⟩ := e'; obtain ⟨c', d'⟩ := o'
  simp only at h
  obtain ⟨⟨rfl, rfl⟩, rfl, rfl⟩ := h
  exact ⟨rfl, rfl⟩
/-- What is known of a segment of a view. -/
theorem Mem.itmAt {es : List (Int × Value)} (hs : Mem g w L) (k : Nat) (hk : L[k]? = some (famC itmC es V)) {id : Int} {i : Itm} (hV : aget V id = some i) : ∃ e o, aget es id = some (itmV i e o) ∧ MfR g L i.m e o := by
  obtain ⟨v, hv⟩ := fam_some (hs.famKeys k hk) hV
  have h1 := hs.famTake k hk hv hV
  obtain ⟨e, o, rfl, _⟩ := h1.openItm
  refine ⟨e, o, hv, ⟨Ens.fam k hk hv hV fun F w h => ?_, Ens.fam k hk hv hV fun F w h => ?_⟩⟩
  · obtain ⟨⟨e', o'⟩, h2, h3⟩ := h
    obtain ⟨rfl, rfl⟩ := itm_inj h3
    obtain ⟨F1, F2, h4, _⟩ := h2
    exact h4.1.rows
  · obtain ⟨⟨e', o'⟩, h2, h3⟩ := h
    obtain ⟨rfl, rfl⟩ := itm_inj h3
    obtain ⟨F1, F2, _, h5, _⟩ := h2
    obtain ⟨F3, F4, h6, _⟩ := h5
    exact h6.1.rows
theorem mf_len {x : Mf} (h : (mfF x).1 = 0) : x.eps.length ≤ 256 ∧ x.obs.length ≤ 8 := by
  unfold mfF at h
  split at h
  · cases h
  · split at h
    · rename_i h1; exact absurd h h1
    · rename_i h1
      split at h
      · cases h
      · refine ⟨epF_len (by simpa using h1), ?_⟩
        unfold obF at h
        split at h
        · cases h
        · omega
theorem Vw.ok.item (h : V.ok) {id : Int} {i : Itm} (hi : aget V id = some i) : (mfF i.m).1 = 0 ∧ i.m.id = id ∧ 1 ≤ i.st ∧ i.st ≤ 4 ∧ i.m.obs.length ≤ 8 ∧ i.m.eps.length ≤ 256 := by
  have h1 := h.fine _ (aget_mem hi)
  have h2 := mf_len h1.1
  exact ⟨h1.1, h1.2.1, h1.2.2.1, h1.2.2.2, h2.2, h2.1⟩
theorem newv_sl (hs : Mem g w L) : Calls Tryz.prog 28 #[] w (Ret fun v w' => ∃ p, v = .pointer (some ⟨p, 0, none⟩) ∧ Mem g w' (ViewC p [] :: L)) := by
  refine calls_cw Tryz.func28 rfl rfl ?_
  skip
  refine cw_seq ?_
  refine cw_region ?_
  refine lw_val rfl (run_assign (v := .pointer none) rfl) ?_
  refine lw_nil ?_
  refine cw_seq ?_
  refine cw_region ?_
  refine lw_makeMap (Value.int .i64) hs rfl ?_
  clear hs
  intro m1 w hs
  try simp only [List.set_cons_succ, List.set_cons_zero] at hs
  refine lw_val rfl (run_buildF ([.map (some m1)]) Tryz.underlying162 ze162 pl162 rfl (by simp [Value.cells]) rfl rfl) ?_
  refine lw_box (v := .agg _) hs rfl rfl ?_
  clear hs
  intro b3 w hs
  try simp only [List.set_cons_succ, List.set_cons_zero] at hs
  refine lw_val rfl (run_assign (v := .pointer (some _)) rfl) ?_
  refine lw_nil ?_
  refine cw_ret ?_
  refine res1 (v := .pointer (some _)) rfl rfl ?_
  exact ⟨_, rfl, b3, rfl, Mem.closeV (es := []) Vw.ok_nil ((hs.addE (famC_nil (R := itmC) (κ := Int) _)).arr [1, 2, 0] 3 (by decide))⟩
theorem state_sl (hs : Mem g w (ViewC p V :: L)) (id : Int) : Calls Tryz.prog 95 #[.pointer (some ⟨p, 0, none⟩), .int .i64 id] w (Ret fun v w' => v = .int .i64 (V.state id) ∧ Mem g w' (ViewC p V :: L)) := by
  obtain ⟨ho, m, es, hs⟩ := hs.openV
  simp only [viewP, List.cons_append, List.nil_append] at hs
  cases hV : aget V id with
  | none =>
    have hes := fam_none (hs.famKeys 2 rfl) hV
    refine calls_cw Tryz.func95 rfl rfl ?_
    skip
    refine cw_seq ?_
    refine cw_region ?_
    refine lw_val rfl (run_assign (v := .int .i64 _) rfl) ?_
    refine lw_nil ?_
    refine cw_seq ?_
    refine cw_region ?_
    refine lw_val rfl (run_move (v := .pointer (some _)) rfl) ?_
    refine lw_val rfl (run_nilCheckP rfl) ?_
    refine lw_val rfl (run_fieldAddr (o' := 0) Tryz.underlying162 rfl sz160 rfl rfl rfl) ?_
    refine lw_val rfl (run_load Tryz.underlying160 rfl rfl (hs.cellAt 0 rfl rfl)) ?_
    refine lw_val rfl (run_move (v := .int .i64 _) rfl) ?_
    refine lw_val rfl (run_lookup (hs.mapAt 1 rfl) intKind Tryz.underlying160 Tryz.underlying3 ze164 rfl rfl (o := none) hes) ?_
    refine lw_val rfl (run_field1 (v := .int .i64 0) Tryz.underlying164 rfl Tryz.isAgg3 rfl rfl) ?_
    refine lw_val rfl (run_assign (v := .int .i64 _) rfl) ?_
    refine lw_nil ?_
    refine cw_ret ?_
    refine res1 (v := .int .i64 _) rfl rfl ?_
    exact ⟨_, rfl, by simp [Vw.state, hV], Mem.closeV ho hs⟩
  | some i =>
    obtain ⟨e, o, hes, _⟩ := hs.itmAt 2 rfl hV
    refine calls_cw Tryz.func95 rfl rfl ?_
    skip
    refine cw_seq ?_
    refine cw_region ?_
    refine lw_val rfl (run_assign (v := .int .i64 _) rfl) ?_
    refine lw_nil ?_
    refine cw_seq ?_
    refine cw_region ?_
    refine lw_val rfl (run_move (v := .pointer (some _)) rfl) ?_
    refine lw_val rfl (run_nilCheckP rfl) ?_
    refine lw_val rfl (run_fieldAddr (o' := 0) Tryz.underlying162 rfl sz160 rfl rfl rfl) ?_
    refine lw_val rfl (run_load Tryz.underlying160 rfl rfl (hs.cellAt 0 rfl rfl)) ?_
    refine lw_val rfl (run_move (v := .int .i64 _) rfl) ?_
    refine lw_val rfl (run_lookup (hs.mapAt 1 rfl) intKind Tryz.underlying160 Tryz.underlying3 ze164 rfl rfl (o := some (itmV i e o)) hes) ?_
    refine lw_val rfl (run_field1 (v := .int .i64 i.st) Tryz.underlying164 rfl Tryz.isAgg3 rfl rfl) ?_
    refine lw_val rfl (run_assign (v := .int .i64 _) rfl) ?_
    refine lw_nil ?_
    refine cw_ret ?_
    refine res1 (v := .int .i64 _) rfl rfl ?_
    exact ⟨_, rfl, by simp [Vw.state, hV], Mem.closeV ho hs⟩
/-! ### Refers -/
theorem idxT_sl (hs : Mem g w L) {a : Option Addr} {n c : Nat} {l : List ByteArray} (hr : Rd g L (.slice a n c) (textsL l)) (hn : n = l.length) (hlen : l.length ≤ 1000000) (y : ByteArray) : Calls Tryz.prog 189 #[.slice a n c, .string y] w (Ret fun v w' => ∃ r : Int, (0 ≤ r ↔ hasN l y = true) ∧ v = .int .i64 r ∧ Mem g w' L) := by
  subst hn
  refine calls_cw Tryz.func189 rfl rfl ?_
  skip
  refine cw_seq ?_
  refine cw_region ?_
  refine lw_val rfl (run_assign (v := .int .i64 _) rfl) ?_
  refine lw_nil ?_
  refine cw_seq ?_
  refine cw_seq ?_
  refine cw_region ?_
  refine lw_val rfl (run_move (v := .slice _ _ _) rfl) ?_
  refine lw_val rfl (run_lenS Tryz.underlying48 rfl) ?_
  refine lw_val rfl (run_move (v := .int .i64 _) rfl) ?_
  refine lw_nil ?_
  refine cw_block ?_
  refine cw_loop (X := Nat) [4, 5, 8, 9, 10, 11, 12, 13, 14, 15, 16, 17, 18] (fun k => [(8, .int .i64 (k : Nat))]) (fun k w => k ≤ l.length ∧ hasN (l.take k) y = false ∧ Mem g w L) (fun k => l.length - k) (0) ?_ ?_ ?_
  · exact ⟨rfl, trivial⟩
  · exact ⟨Nat.zero_le _, rfl, hs⟩
  clear hs
  rintro x ξ w hI
  obtain ⟨hk, hq, hs⟩ := hI
  refine cw_seq ?_
  refine cw_region ?_
  refine lw_val rfl (run_lss rfl rfl) ?_
  refine lw_nil ?_
  refine cw_seq ?_
  refine cw_if rfl ?_ ?_
  · intro h9
    have g9 := of_decide_eq_true h9
    obtain ⟨z, hz⟩ : ∃ z, l[x]? = some z := ⟨_, List.getElem?_eq_getElem (by omega)⟩
    obtain ⟨b1, o1, rfl, _⟩ := hr.cells' hs (by rw [textsL_len]; omega)
    refine cw_skip ?_
    refine cw_seq ?_
    refine cw_block ?_
    refine cw_seq ?_
    refine cw_region ?_
    refine lw_val rfl (run_move (v := .int .i64 _) rfl) ?_
    refine lw_val rfl (run_assign (v := .int .i64 _) rfl) ?_
    refine lw_nil ?_
    refine cw_seq ?_
    refine cw_region ?_
    refine lw_val rfl (run_move (v := .string _) rfl) ?_
    refine lw_val rfl (run_move (v := .slice _ _ _) rfl) ?_
    refine lw_val rfl (run_move (v := .int .i64 _) rfl) ?_
    refine lw_val rfl (run_indexAddr Tryz.underlying48 sz9 rfl rfl rfl (by omega) rfl) ?_
    refine lw_val rfl (run_load Tryz.underlying9 rfl rfl (hr.cellAt hs (textsL_at hz))) ?_
    refine lw_val rfl (run_eqs rfl rfl) ?_
    refine lw_nil ?_
    refine cw_if rfl ?_ ?_
    · intro h16
      have g16 := of_decide_eq_true h16
      refine cw_seq ?_
      refine cw_region ?_
      refine lw_val rfl (run_move (v := .int .i64 _) rfl) ?_
      refine lw_val rfl (run_assign (v := .int .i64 _) rfl) ?_
      refine lw_nil ?_
      refine cw_ret ?_
      refine res1 (v := .int .i64 _) rfl rfl ?_
      exact ⟨_, rfl, (x : Nat), ⟨fun _ => List.any_eq_true.2 ⟨z, List.mem_of_getElem? hz, decide_eq_true g16.symm⟩, fun _ => by omega⟩, rfl, hs⟩
    · intro h16
      have g16 := of_decide_eq_false h16
      refine cw_skip ?_
      refine cw_region ?_
      refine lw_val rfl (run_add64 rfl rfl rfl (inI (by omega) (by omega))) ?_
      refine lw_val rfl (run_move (v := .int .i64 _) rfl) ?_
      refine lw_nil ?_
      exact ⟨x + 1, by omega, ⟨by omega, by rw [hasN, List.take_add_one, hz, List.any_append]; rw [hasN] at hq; rw [hq]; simp; exact fun e => g16 e.symm, hs⟩, ⟨rfl, trivial⟩, by repeat (first | exact Out.mix _ _ _ | refine Out.updo rfl ?_ | refine Out.upd rfl ?_ | refine Out.mixIn rfl ?_)⟩
  · intro h9
    have g9 := of_decide_eq_false h9
    refine cw_exit rfl ?_
    refine cw_seq ?_
    refine cw_region ?_
    refine lw_val rfl (run_assign (v := .int .i64 _) rfl) ?_
    refine lw_nil ?_
    refine cw_ret ?_
    refine res1 (v := .int .i64 _) rfl rfl ?_
    have e : x = l.length := by omega
    rw [e, List.take_length] at hq
    exact ⟨_, rfl, -1, ⟨fun h => by omega, fun h => by rw [hq] at h; cases h⟩, rfl, hs⟩
theorem conT_sl (hs : Mem g w L) {a : Option Addr} {n c : Nat} {l : List ByteArray} (hr : Rd g L (.slice a n c) (textsL l)) (hn : n = l.length) (hlen : l.length ≤ 1000000) (y : ByteArray) : Calls Tryz.prog 105 #[.slice a n c, .string y] w (Ret fun v w' => v = .bool (hasN l y) ∧ Mem g w' L) := by
  refine calls_cw Tryz.func105 rfl rfl ?_
  skip
  refine cw_seq ?_
  refine cw_region ?_
  refine lw_val rfl (run_assign (v := .bool _) rfl) ?_
  refine lw_nil ?_
  refine cw_seq ?_
  refine cw_region ?_
  refine lw_val rfl (run_move (v := .slice _ _ _) rfl) ?_
  refine lw_val rfl (run_move (v := .string _) rfl) ?_
  refine lw_call rfl en189 (idxT_sl hs hr hn hlen y) ?_
  clear hs
  rintro _ w ⟨r, hr2, rfl, hs⟩
  refine lw_val rfl (run_geq rfl rfl) ?_
  refine lw_val rfl (run_assign (v := .bool _) rfl) ?_
  refine lw_nil ?_
  refine cw_ret ?_
  refine res1 (v := .bool _) rfl rfl ?_
  exact ⟨_, rfl, ret_b (by cases h : hasN l y; exact decide_eq_false (fun h2 => by rw [h] at hr2; exact absurd (hr2.1 h2) (by decide)); exact decide_eq_true (hr2.2 h)), hs⟩
/-- Segments that have not been looked at. -/
structure RfI (V : Vw) (es left : List (Int × Value)) (n : ByteArray) : Prop where
  nd : (keysOf left).Nodup
  sub : ∀ k v, aget left k = some v → aget es k = some v
  seen : ∀ k i, aget V k = some i → aget left k = none → refersB i n = false
theorem RfI.step {es left : List (Int × Value)} {n : ByteArray} (h : RfI V es left n) {k : Int} {i : Itm} (hV : aget V k = some i) (hr : refersB i n = false) : RfI V es (adel left k) n := by
  refine ⟨nodup_del h.nd k, fun j v hj => ?_, fun j u hu hj => ?_⟩
  · by_cases e : j = k
    · subst e; rw [aget_del_same h.nd] at hj; cases hj
    · rw [aget_del_other _ e] at hj; exact h.sub j v hj
  · by_cases e : j = k
    · subst e; rw [hV] at hu; cases hu; exact hr
    · rw [aget_del_other _ e] at hj; exact h.seen j u hu hj
theorem refers_sl (hs : Mem g w (ViewC p V :: L)) (n : ByteArray) : Calls Tryz.prog 24 #[.pointer (some ⟨p, 0, none⟩), .string n] w (Ret fun v w' => v = .bool (V.refers n) ∧ Mem g w' (ViewC p V :: L)) := by
  obtain ⟨ho, m, es, hs⟩ := hs.openV
  simp only [viewP, List.cons_append, List.nil_append] at hs
  have hke := hs.famKeys 2 rfl
  refine calls_cw Tryz.func24 rfl rfl ?_
  skip
  refine cw_seq ?_
  refine cw_region ?_
  refine lw_val rfl (run_assign (v := .bool _) rfl) ?_
  refine lw_nil ?_
  refine cw_seq ?_
  refine cw_seq ?_
  refine cw_region ?_
  refine lw_val rfl (run_move (v := .pointer (some _)) rfl) ?_
  refine lw_val rfl (run_nilCheckP rfl) ?_
  refine lw_val rfl (run_fieldAddr (o' := 0) Tryz.underlying162 rfl sz160 rfl rfl rfl) ?_
  refine lw_val rfl (run_load Tryz.underlying160 rfl rfl (hs.cellAt 0 rfl rfl)) ?_
  refine lw_rangeM hs rfl 1 rfl Tryz.underlying160 rfl ?_
  clear hs
  intro r11 w hs
  try simp only [List.set_cons_succ, List.set_cons_zero] at hs
  refine lw_nil ?_
  refine cw_block ?_
  refine cw_loop (X := List (Int × Value) × Option (Int × Value)) [4, 6, 12, 13, 14, 15, 16, 17, 18, 19, 20, 21, 22, 23, 24, 25, 26, 27, 28, 29, 30] (fun x => []) (fun x w => RfI V es x.1 n ∧ Mem g w (rngC (Value.int .i64) r11 m es x.1 x.2 :: cells p [.map (some m)] 162 :: famC itmC es V :: L)) (fun x => x.1.length) ((es, none)) ?_ ?_ ?_
  · exact trivial
  · exact ⟨⟨hke ▸ ho.nd, fun _ _ h => h, fun k i h1 h2 => by rw [aget_none_iff, hke] at h2; exact absurd (al_key h1) h2⟩, hs.arr [1, 0, 2] 3 (by decide)⟩
  clear hs
  rintro x ξ w hI
  obtain ⟨left, cur⟩ := x
  obtain ⟨hJ, hs⟩ := hI
  simp only at hJ hs
  refine cw_seq ?_
  refine cw_region ?_
  refine lw_nextM hs rfl 0 rfl intKind.inj rfl ?_ ?_
  · intro hl12
    subst hl12
    refine lw_val rfl (run_extract (v := .bool _) rfl rfl) ?_
    refine lw_nil ?_
    refine cw_seq ?_
    refine cw_iff rfl rfl ?_
    refine cw_exit rfl ?_
    refine cw_seq ?_
    refine cw_region ?_
    refine lw_val rfl (run_assign (v := .bool _) rfl) ?_
    refine lw_nil ?_
    refine cw_ret ?_
    refine res1 (v := .bool _) rfl rfl ?_
    have hV : V.refers n = false := Bool.eq_false_iff.2 (fun h => by obtain ⟨x, hx, hr⟩ := Vw.refers_iff.1 h; rw [hJ.seen x.1 x.2 (mem_aget ho.nd hx) rfl] at hr; cases hr)
    exact ⟨_, rfl, ret_b hV.symm, Mem.closeV ho ((hs.rngd 0 rfl).arr [1, 0, 2] 3 (by decide))⟩
  · clear hs
    intro k12 v12 w hk12 hs
    try simp only [List.set_cons_succ, List.set_cons_zero] at hs
    have hes := hJ.sub _ _ hk12
    obtain ⟨i, hi⟩ := al_of_key (hke ▸ al_key hes : k12 ∈ keysOf V)
    obtain ⟨e, o, he, hm⟩ := hs.itmAt 2 rfl hi
    obtain rfl := Option.some.inj (hes.symm.trans he)
    have hit := ho.item hi
    have hdl := al_del hk12
    refine lw_val rfl (run_extract (v := .bool _) rfl rfl) ?_
    refine lw_nil ?_
    refine cw_seq ?_
    refine cw_ift rfl rfl ?_
    refine cw_skip ?_
    refine cw_block ?_
    refine cw_seq ?_
    refine cw_region ?_
    refine lw_val rfl (run_entryM hs 0 rfl rfl) ?_
    refine lw_val rfl (run_extract (v := .agg _) rfl rfl) ?_
    refine lw_alloc hs rfl ze164 ?_
    clear hs
    intro b6 w hs
    try simp only [List.set_cons_succ, List.set_cons_zero] at hs
    refine lw_storeRow hs 0 rfl rfl rfl sz164 rfl rfl ?_
    clear hs
    intro w hs
    try simp only [List.set_cons_succ, List.set_cons_zero] at hs
    refine lw_nil ?_
    refine cw_seq ?_
    refine cw_region ?_
    refine lw_val rfl (run_fieldAddr (o' := 0) Tryz.underlying164 rfl sz3 rfl rfl rfl) ?_
    refine lw_val rfl (run_load Tryz.underlying3 rfl rfl (hs.cellAt 0 rfl rfl)) ?_
    refine lw_val rfl (run_eqi rfl rfl) ?_
    refine lw_val rfl (run_move (v := .bool _) rfl) ?_
    refine lw_split (t := _) (d := 19) rfl ?_ ?_
    · intro h18
      have g18 := of_decide_eq_true h18
      refine lw_off rfl rfl rfl h18 ?_
      refine lw_off rfl rfl rfl h18 ?_
      refine lw_off rfl rfl rfl h18 ?_
      refine lw_val rfl (run_pickT (v := .bool _) rfl h18 rfl) ?_
      refine lw_val rfl (run_move (v := .bool _) rfl) ?_
      refine lw_on rfl rfl rfl ?_
      refine lw_val rfl (run_fieldAddr (o' := 1) Tryz.underlying164 rfl sz36 rfl rfl rfl) ?_
      refine lw_on rfl rfl rfl ?_
      refine lw_val rfl (run_loadMid hs 0 (mfL i.m e o) rfl Tryz.underlying36 sz36 rfl rfl) ?_
      refine lw_on rfl rfl rfl ?_
      refine lw_call rfl en106 (mnames_sl hs hm.cons (by omega)) ?_
      clear hs
      rintro _ w ⟨s, rfl, hs⟩
      refine lw_on rfl rfl rfl ?_
      refine lw_val rfl (run_move (v := .string _) rfl) ?_
      refine lw_on rfl rfl rfl ?_
      refine lw_call rfl en105 (conT_sl hs (hs.rdOwn 0 rfl) rfl (by simp [Mf.names]; omega) n) ?_
      clear hs
      rintro _ w ⟨rfl, hs⟩
      refine lw_val rfl (run_pickT (v := .bool _) rfl rfl rfl) ?_
      refine lw_nil ?_
      refine cw_if rfl ?_ ?_
      · intro h29
        refine cw_seq ?_
        refine cw_region ?_
        refine lw_val rfl (run_assign (v := .bool _) rfl) ?_
        refine lw_nil ?_
        refine cw_ret ?_
        refine res1 (v := .bool _) rfl rfl ?_
        have hV : V.refers n = true := Vw.refers_iff.2 ⟨(k12, i), aget_mem hi, by simp [refersB, h29]; omega⟩
        exact ⟨_, rfl, ret_b hV.symm, Mem.closeV ho ((hs.rngd 2 rfl).arr [3, 2, 4] 5 (by decide))⟩
      · intro h29
        refine cw_skip ?_
        exact ⟨(adel left k12, some (k12, itmV i e o)), by simp only; omega, ⟨hJ.step hi (by simp [refersB, h29]), hs.tail.tail⟩, trivial, by repeat (first | exact Out.mix _ _ _ | refine Out.updo rfl ?_ | refine Out.upd rfl ?_ | refine Out.mixIn rfl ?_)⟩
    · intro h18
      have g18 := of_decide_eq_false h18
      refine lw_on rfl rfl h18 ?_
      refine lw_val rfl (run_fieldAddr (o' := 0) Tryz.underlying164 rfl sz3 rfl rfl rfl) ?_
      refine lw_on rfl rfl h18 ?_
      refine lw_val rfl (run_load Tryz.underlying3 rfl rfl (hs.cellAt 0 rfl rfl)) ?_
      refine lw_on rfl rfl h18 ?_
      refine lw_val rfl (run_eqi rfl rfl) ?_
      refine lw_val rfl (run_pickF (v := .bool _) rfl h18 rfl) ?_
      refine lw_val rfl (run_move (v := .bool _) rfl) ?_
      refine lw_split (t := _) (d := 24) rfl ?_ ?_
      · intro h22
        have g22 := of_decide_eq_true h22
        refine lw_on rfl rfl h22 ?_
        refine lw_val rfl (run_fieldAddr (o' := 1) Tryz.underlying164 rfl sz36 rfl rfl rfl) ?_
        refine lw_on rfl rfl h22 ?_
        refine lw_val rfl (run_loadMid hs 0 (mfL i.m e o) rfl Tryz.underlying36 sz36 rfl rfl) ?_
        refine lw_on rfl rfl h22 ?_
        refine lw_call rfl en106 (mnames_sl hs hm.cons (by omega)) ?_
        clear hs
        rintro _ w ⟨s, rfl, hs⟩
        refine lw_on rfl rfl h22 ?_
        refine lw_val rfl (run_move (v := .string _) rfl) ?_
        refine lw_on rfl rfl h22 ?_
        refine lw_call rfl en105 (conT_sl hs (hs.rdOwn 0 rfl) rfl (by simp [Mf.names]; omega) n) ?_
        clear hs
        rintro _ w ⟨rfl, hs⟩
        refine lw_val rfl (run_pickT (v := .bool _) rfl h22 rfl) ?_
        refine lw_nil ?_
        refine cw_if rfl ?_ ?_
        · intro h29
          refine cw_seq ?_
          refine cw_region ?_
          refine lw_val rfl (run_assign (v := .bool _) rfl) ?_
          refine lw_nil ?_
          refine cw_ret ?_
          refine res1 (v := .bool _) rfl rfl ?_
          have hV : V.refers n = true := Vw.refers_iff.2 ⟨(k12, i), aget_mem hi, by simp [refersB, h29]; omega⟩
          exact ⟨_, rfl, ret_b hV.symm, Mem.closeV ho ((hs.rngd 2 rfl).arr [3, 2, 4] 5 (by decide))⟩
        · intro h29
          refine cw_skip ?_
          exact ⟨(adel left k12, some (k12, itmV i e o)), by simp only; omega, ⟨hJ.step hi (by simp [refersB, h29]), hs.tail.tail⟩, trivial, by repeat (first | exact Out.mix _ _ _ | refine Out.updo rfl ?_ | refine Out.upd rfl ?_ | refine Out.mixIn rfl ?_)⟩
      · intro h22
        have g22 := of_decide_eq_false h22
        refine lw_off rfl rfl rfl h22 ?_
        refine lw_off rfl rfl rfl h22 ?_
        refine lw_off rfl rfl rfl h22 ?_
        refine lw_off rfl rfl rfl h22 ?_
        refine lw_off rfl rfl rfl h22 ?_
        refine lw_val rfl (run_pickF (v := .bool _) rfl h22 rfl) ?_
        refine lw_nil ?_
        refine cw_iff rfl rfl ?_
        refine cw_skip ?_
        exact ⟨(adel left k12, some (k12, itmV i e o)), by simp only; omega, ⟨hJ.step hi (by simp [refersB, g18, g22]), hs.tail⟩, trivial, by repeat (first | exact Out.mix _ _ _ | refine Out.updo rfl ?_ | refine Out.upd rfl ?_ | refine Out.mixIn rfl ?_)⟩
end Go.Proofs.YtkogkokmcmallaaGreatDoor
