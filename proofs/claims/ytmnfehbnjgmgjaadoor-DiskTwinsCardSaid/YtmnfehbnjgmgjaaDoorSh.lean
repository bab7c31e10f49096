/- maps.Clone, slices.SortFunc, slices.Contains over files: over chunks. -/
import Derived.Test.YtmnfehbnjgmgjaaDoorSh0
import Derived.Test.YtmnfehbnjgmgjaaDoorDc
import Derived.LaidEql
namespace Go.Proofs.YtmnfehbnjgmgjaaDoor
set_option linter.all false
open Go.RowKit Go.Sort Go.Shelf
variable {g w : World} {L M : List HP} {ad : Nat → Addr} {d : Dk} {ptr : List (Nat × Nat)}

theorem mclone_sl (hs : Mem g w L) (i : Nat) {m : Nat} {es : List (ByteArray × Value)} (hi : L[i]? = some (mapS m es)) : Calls Tryd.prog 90 #[.map (some m)] w (Ret fun v w' => ∃ m', v = .map (some m') ∧ Mem g w' (mapS m' es :: L)) := by
  obtain ⟨F, ⟨⟨arr, clock, hb, he, hst⟩, _⟩⟩ := hs.read hi
  refine (AnyW.maps_Clone Tryd.mclone90 m arr clock w hb).mono ?_
  rintro e w' ⟨rfl, rfl⟩
  exact ⟨_, rfl, w.heap.size, rfl, hs.add (F' := fun x => x = w.heap.size) ⟨⟨arr, clock, World.alloc_heap_new w _, he, hst⟩, fun _ => Iff.rfl⟩ (fun _ h => Nat.le_of_eq h.symm) ((Keeps.refl _ _).alloc _)⟩

/-! ### slices.SortFunc -/
theorem Mem.apart2 {A B : HP} (hs : Mem g w (A :: B :: L)) : ∃ F G, A.ok F w ∧ B.ok G w ∧ ∀ b, F b → ¬ G b := by
  obtain ⟨F, h1, _, G, k1, k2, _⟩ := hs.sat
  exact ⟨F, G, h1, k1, fun b hF hG => k2 b hG (.inr hF)⟩
theorem cmp_sl {w : World} {x y bx bY : Nat} (hx : w.cell? ⟨bx, 0, none⟩ = some (.int .i64 x)) (hy : w.cell? ⟨bY, 0, none⟩ = some (.int .i64 y)) (h1 : x ≤ 4611686018427387904) (h2 : y ≤ 4611686018427387904) :
    Calls Tryd.prog 89 #[.pointer (some ⟨bx, 0, none⟩), .pointer (some ⟨bY, 0, none⟩)] w fun e w' => e = .returned (.int .i64 ((x : Int) - y)) ∧ ∃ q, w' = w.drewN q := by
  refine calls_cw Tryd.func89 rfl rfl ?_
  skip
  refine cw_seq ?_
  refine cw_region ?_
  first | refine lw_val rfl (run_assign (v := .int .i64 _) rfl) ?_
  refine lw_nil ?_
  refine cw_seq ?_
  refine cw_draw (fun w' => ∃ q, w' = w.drewN q) mixes ?_
  have hK : (fun w' => ∃ q, w' = w.drewN q) w.drew := ⟨1, rfl⟩
  generalize World.drew w = w1 at hK ⊢
  first | refine aw_take 0 rfl (by kernel_rfl) (by kernel_rfl) (by kernel_rfl) rfl (fun w hs => run_move (v := .pointer (some _)) rfl) hK ?_ | refine aw_take 0 rfl (by kernel_rfl) (by kernel_rfl) (by kernel_rfl) rfl (fun w hs => run_move (v := .pointer none) rfl) hK ?_
  refine aw_take 1 rfl (by kernel_rfl) (by kernel_rfl) (by kernel_rfl) rfl (fun w hs => run_nilCheckP rfl) hK ?_
  first | refine aw_take 2 rfl (by kernel_rfl) (by kernel_rfl) (by kernel_rfl) rfl (fun w hs => run_fieldAddr (o' := 0) Tryd.underlying115 rfl sz3 rfl rfl rfl) hK ?_ | refine aw_take 2 rfl (by kernel_rfl) (by kernel_rfl) (by kernel_rfl) rfl (fun w hs => run_fieldAddr Tryd.underlying115 rfl sz3 rfl rfl rfl) hK ?_
  refine aw_take 3 rfl (by kernel_rfl) (by kernel_rfl) (by kernel_rfl) rfl (fun w hs => run_load Tryd.underlying3 rfl rfl (by obtain ⟨q, rfl⟩ := hs; exact hx)) hK ?_
  first | refine aw_take 4 rfl (by kernel_rfl) (by kernel_rfl) (by kernel_rfl) rfl (fun w hs => run_move (v := .pointer (some _)) rfl) hK ?_ | refine aw_take 4 rfl (by kernel_rfl) (by kernel_rfl) (by kernel_rfl) rfl (fun w hs => run_move (v := .pointer none) rfl) hK ?_
  refine aw_take 5 rfl (by kernel_rfl) (by kernel_rfl) (by kernel_rfl) rfl (fun w hs => run_nilCheckP rfl) hK ?_
  first | refine aw_take 6 rfl (by kernel_rfl) (by kernel_rfl) (by kernel_rfl) rfl (fun w hs => run_fieldAddr (o' := 0) Tryd.underlying115 rfl sz3 rfl rfl rfl) hK ?_ | refine aw_take 6 rfl (by kernel_rfl) (by kernel_rfl) (by kernel_rfl) rfl (fun w hs => run_fieldAddr Tryd.underlying115 rfl sz3 rfl rfl rfl) hK ?_
  refine aw_take 7 rfl (by kernel_rfl) (by kernel_rfl) (by kernel_rfl) rfl (fun w hs => run_load Tryd.underlying3 rfl rfl (by obtain ⟨q, rfl⟩ := hs; exact hy)) hK ?_
  refine aw_take 8 rfl (by kernel_rfl) (by kernel_rfl) (by kernel_rfl) rfl (fun w hs => run_sub64 rfl rfl rfl (inI (by omega) (by omega))) hK ?_
  first | refine aw_take 9 rfl (by kernel_rfl) (by kernel_rfl) (by kernel_rfl) rfl (fun w hs => run_assign (v := .int .i64 _) rfl) hK ?_
  refine aw_done (by kernel_rfl) ?_
  skip
  refine cw_ret ?_
  refine res1 (v := .int .i64 _) rfl rfl ?_
  exact ⟨rfl, hK⟩
theorem heap_sortWorld {α : Type} [Inhabited α] (enc : α → Value) (w : World) (blk off m : Nat) (d : Array α) (os : Array Obj) {cs : Array Value} {E : TypeId} (hb : w.heap[blk]? = some (.cells cs E (0, 0))) : (sortWorld enc w blk off m d os).heap[blk]? = some (.cells (putCells enc off d cs) E (0, 0)) := by
  have hlt := lt_of_block hb
  simp only [sortWorld, grow, putRow, mapBlock, heap_ahead]
  rw [Array.getElem?_append_left (by simpa using hlt), Array.getElem?_modify, if_pos rfl, hb]
  rfl
theorem keeps_sortWorld {α : Type} [Inhabited α] (enc : α → Value) (w : World) (blk off m : Nat) (d : Array α) (os : Array Obj) : Keeps (fun b => b = blk) w (sortWorld enc w blk off m d os) := by
  refine ⟨rfl, rfl, rfl, by simp [sortWorld, grow], fun k hk hne => ?_⟩
  simp only [sortWorld, grow, putRow, mapBlock, heap_ahead]
  rw [Array.getElem?_append_left (by simpa using hk), Array.getElem?_modify, if_neg (fun e => hne e.symm)]
theorem swo_ids {α : Type} (f : α → Nat) : SWO (ltOf fun x y : α => (f x : Int) - f y) := by
  refine ⟨fun x => ?_, fun x y z h1 h2 => ?_, fun x y z h1 h2 => ?_⟩
  · simp [ltOf]
  · simp only [ltOf, decide_eq_true_eq] at *; omega
  · simp only [ltOf, decide_eq_false_iff_not] at *; omega
theorem sortf_sl (ho : d.okB) {a : Option Addr} {n c : Nat} {ids : List Nat} (hs : Mem g w (own (.slice a n c) (ids.map (fptr ptr)) :: famC flC ptr d.fs :: L)) (hid : ∀ x ∈ ids, x ∈ keysOf d.fs) (hfn : d.files ≤ 4611686018427387904) (hil : ids.length < 4611686018427387904) :
    Calls Tryd.prog 88 #[.slice a n c, .func (.func 89) #[] #[]] w (Ret fun v w' => v = .tuple #[] ∧ ∃ ids' : List Nat, ids'.Perm ids ∧ ids'.Pairwise (· ≤ ·) ∧ Mem g w' (own (.slice a n c) (ids'.map (fptr ptr)) :: famC flC ptr d.fs :: L)) := by
  obtain ⟨F, G, ⟨⟨a', n', c', hv, hn, hc, ha, h⟩, hF⟩, ⟨G2, f1, f2, f3, f4, f5⟩, hap⟩ := hs.apart2
  simp only [Value.slice.injEq] at hv
  obtain ⟨rfl, rfl, rfl⟩ := hv
  simp only [List.length_map] at hn
  by_cases h0 : ids = []
  · subst h0
    subst hn
    refine (AnyF.slices_SortFunc_none { Tryd.sortf88 with } a c _ w).mono ?_
    rintro e w' ⟨rfl, rfl⟩
    exact ⟨_, rfl, rfl, [], List.Perm.refl _, List.Pairwise.nil, hs⟩
  have hpos : 0 < ids.length := by cases ids with | nil => exact absurd rfl h0 | cons x l => simp
  rcases h with h | ⟨b, off, cs, E, rfl, hb, hz, hcs⟩
  · omega
  letI : Inhabited {x // x ∈ ids} := ⟨⟨ids.head h0, List.head_mem h0⟩⟩
  have hat : ∀ x ∈ ids, ∃ bx, aget ptr x = some bx ∧ fptr ptr x = .pointer (some ⟨bx, 0, none⟩) ∧ bx ≠ b ∧ w.cell? ⟨bx, 0, none⟩ = some (.int .i64 x) := by
    intro x hx
    obtain ⟨f, hf⟩ := aget_of_key (hid x hx)
    obtain ⟨bx, hbx⟩ := aget_of_key (f1 ▸ hid x hx : x ∈ keysOf ptr)
    have hok := f2 x bx f id hbx hf
    obtain ⟨v, F1, F2, ⟨k1, k2⟩, k3⟩ := id hok
    refine ⟨bx, hbx, fptr_some hbx, fun e => ?_, ?_⟩
    · refine hap b ((hF b).2 rfl) ((f5 b).2 ⟨x, ?_⟩)
      obtain ⟨_, _, k6⟩ := k3
      exact (k6 b).2 (.inl ((k2 b).2 e.symm))
    · have := cell_at k1 (i := 0) (v := .int .i64 f.id) (by simp)
      rw [(ho.fid x f hf).1] at this
      exact this
  have hle : ∀ x ∈ ids, x ≤ 4611686018427387904 := fun x hx => by have := ho.key (hid x hx); omega
  have hsz : ids.attach.toArray.size = ids.length := by simp
  have hget : ∀ j (hj : j < ids.length), (ids.attach.toArray[j]!).1 = ids[j] := fun j hj => by rw [getElem!_pos _ _ (by simpa using hj)]; simp
  have key := Any.slices_SortFunc Tryd.sortf88 (fun x : {x // x ∈ ids} => fptr ptr x.1) (fun x => by obtain ⟨bx, _, h, _⟩ := hat x.1 x.2; show (fptr ptr x.1).oneCell' = true; rw [h]; rfl) (fun x y => (x.1 : Int) - y.1) (swo_ids _) 89 #[] b off c ids.attach.toArray w
    en89 (CmpReads.lays fun m os dk hdk x y => by
      obtain ⟨bx, _, hx1, hx2, hx3⟩ := hat x.1 x.2
      obtain ⟨bY, _, hy1, hy2, hy3⟩ := hat y.1 y.2
      simp only [hx1, hy1]
      have hc : ∀ q v, q ≠ b → w.cell? ⟨q, 0, none⟩ = some v → (sortWorld (fun x : {x // x ∈ ids} => fptr ptr x.1) w b off m dk os).cell? ⟨q, 0, none⟩ = some v := fun q v hq hv => by
        obtain ⟨c1, e1, fr, k1, k2⟩ := cells_of_cell? hv
        have := (keeps_sortWorld (fun x : {x // x ∈ ids} => fptr ptr x.1) w b off m dk os).block q (lt_of_block k1) hq
        simp only [World.cell?, this]
        simpa only [World.cell?] using hv
      exact cmp_sl (hc _ _ hx2 hx3) (hc _ _ hy2 hy3) (hle _ x.2) (hle _ y.2))
    (fun j hj => by
      rw [hsz] at hj
      refine ⟨?_, ?_⟩
      · show w.cell? ⟨b, off + j, none⟩ = some (fptr ptr (ids.attach.toArray[j]!).1)
        rw [hget j hj]
        exact cell_at hb (by rw [hcs j (by simpa using hj)]; simp [hj])
      · exact free_at hb)
    (lt_of_block hb) (by rw [hsz]; omega)
  rw [hsz] at key
  subst hn
  refine key.mono ?_
  rintro e w' ⟨rfl, d', m, os, ⟨p1, p2, p3⟩, hso, rfl⟩
  rw [hsz] at p1
  have hperm : (d'.toList.map (·.1)).Perm ids := by
    have h3 := p3.map (·.1)
    simpa [Array.extract_eq_self_of_le, p1] using h3
  refine ⟨_, rfl, rfl, d'.toList.map (·.1), hperm, ?_, ?_⟩
  · rw [List.pairwise_iff_getElem]
    intro i j hi hj hij
    simp only [List.length_map, Array.length_toList] at hi hj
    have := hso i j (Nat.zero_le _) hij (by omega)
    rw [getElem!_pos d' i hi, getElem!_pos d' j hj] at this
    simp only [ltOf, decide_eq_false_iff_not] at this
    simp only [List.getElem_map, Array.getElem_toList]
    omega
  · obtain ⟨F', ⟨g1, g2⟩, g3⟩ := hs.turn (i := 0) rfl
    refine g3 _ _ F' ⟨⟨_, _, c, rfl, by simp [p1], hc, ⟨fun h => (by cases h), fun q hq => ?_⟩, .inr ⟨b, off, putCells (fun x : {x // x ∈ ids} => fptr ptr x.1) off d' cs, E, rfl, heap_sortWorld _ _ _ _ _ _ _ hb, by simpa [putCells] using hz, fun j hj => ?_⟩⟩, g2⟩ (fun _ h => .inl h) ((keeps_sortWorld _ _ _ _ _ _ _).mono fun x _ e => (g2 x).2 (by rw [e]; rfl))
    · cases hq
      exact lt_of_block (heap_sortWorld _ _ _ _ _ _ _ hb)
    · simp only [List.length_map, Array.length_toList] at hj
      simp only [putCells, Array.getElem?_mapIdx]
      rw [hcs j (by simp; omega)]
      simp only [List.getElem?_map, List.getElem?_eq_getElem (show j < ids.length by omega), Option.map_some]
      rw [if_pos ⟨by omega, by omega⟩, show off + j - off = j by omega, getElem!_pos d' j hj]
      simp [hj]
end Go.Proofs.YtmnfehbnjgmgjaaDoor
