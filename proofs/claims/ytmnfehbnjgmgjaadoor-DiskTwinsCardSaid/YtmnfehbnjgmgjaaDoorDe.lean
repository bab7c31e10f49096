/- The disk, over chunks: Crash. -/
import Derived.Test.YtmnfehbnjgmgjaaDoorDd
namespace Go.Proofs.YtmnfehbnjgmgjaaDoor
set_option linter.all false
open Go.RowKit
attribute [local irreducible] errV
variable {g w : World} {L M : List HP} {ad : Nat → Addr} {p mn mk sc : Nat} {sa : Option Addr} {d : Dk} {ptr : List (Nat × Nat)}

theorem nmV_nil {l : List (ByteArray × Nat)} (h : nmV ptr l = []) : l = [] := by
  cases l with
  | nil => rfl
  | cons x l => simp [nmV] at h
theorem adel_has {κ α : Type} [DecidableEq κ] : ∀ {l : List (κ × α)} {k : κ} {v : α} {y : κ × α}, aget l k = some v → y ∈ l → y ∈ adel l k ∨ y.2 = v
  | (a, b) :: l, k, v, y, h, hy => by
    simp only [aget] at h
    simp only [adel]
    split at h
    · rename_i e
      rw [if_pos e]
      cases h
      rcases List.mem_cons.1 hy with rfl | hy
      · exact .inr rfl
      · exact .inl hy
    · rename_i e
      rw [if_neg e]
      rcases List.mem_cons.1 hy with rfl | hy
      · exact .inl (List.mem_cons_self ..)
      · rcases adel_has h hy with h | h
        · exact .inl (List.mem_cons_of_mem _ h)
        · exact .inr h
theorem Dk.ok.ids_len (ho : d.ok) {ids : List Nat} (hn : ids.Nodup) (hid : ∀ x ∈ ids, x ∈ keysOf d.fs) : ids.length ≤ d.calls := by
  have h1 : ids.length ≤ ((List.range d.files).map (· + 1)).length := hn.length_le_of_subset fun x hx => by
    have := ho.key (hid x hx)
    exact List.mem_map.2 ⟨x - 1, List.mem_range.2 (by omega), by omega⟩
  have h2 := ho.fcl
  simp at h1
  omega
theorem crash_sl (hs : Mem g w (DiskC p d :: L)) (hcl : d.calls < 1000000) {a : Option Addr} {m c : Nat} {picks : List Int} (hr : Rd g L (.slice a m c) (intsL picks)) (hm : m = picks.length) (hpl : picks.length ≤ 1000000000) : Calls Tryd.prog 42 #[.pointer (some ⟨p, 0, none⟩), .slice a m c] w (Ret fun v w' => v = .tuple #[] ∧ Mem g w' (DiskC p (d.crash picks) :: L)) := by
  obtain ⟨ho, mn, mk, sa, sc, ptr, hs⟩ := hs.openD
  have hkl := ho.kl
  have hfc := ho.fcl
  obtain ⟨q, hq⟩ : ∃ q, q = pickN picks 0 d.changes.length := ⟨_, rfl⟩
  have hqle : q ≤ d.changes.length := hq ▸ pickN_le _ _ _
  obtain ⟨kept, hkept⟩ : ∃ kept, kept = applyAll d.kept (d.changes.take q) := ⟨_, rfl⟩
  have hprops := applyAll_props (cs := d.changes.take q) (l := d.kept) (S := fun i => i ∈ keysOf d.fs) ho.knd ho.kin fun c hc i hi => ho.cin c (List.mem_of_mem_take hc) i hi
  rw [← hkept] at hprops
  have hptr : ∀ j ∈ keysOf d.fs, ∃ bj, aget ptr j = some bj ∧ fptr ptr j = .pointer (some ⟨bj, 0, none⟩) ∧ aget d.fs j = some (d.fl j) := fun j hj => ho.ptrOf hs 4 rfl hj
  have hfid := ho.fid
  obtain ⟨hrn, hrc, hra⟩ := hs.rowForm 3 rfl
  refine calls_cw Tryd.func42 rfl rfl ?_
  skip
  refine cw_seq ?_
  refine cw_seq ?_
  refine cw_drawS mixes hs ?_
  intro w tr hK
  replace hs := tr _ hs
  clear tr
  first | refine aw_take 0 rfl (by kernel_rfl) (by kernel_rfl) (by kernel_rfl) rfl (fun w hs => run_move (v := .pointer (some _)) rfl) hK ?_ | refine aw_take 0 rfl (by kernel_rfl) (by kernel_rfl) (by kernel_rfl) rfl (fun w hs => run_move (v := .pointer none) rfl) hK ?_
  refine aw_take 1 rfl (by kernel_rfl) (by kernel_rfl) (by kernel_rfl) rfl (fun w hs => run_nilCheckP rfl) hK ?_
  first | refine aw_take 2 rfl (by kernel_rfl) (by kernel_rfl) (by kernel_rfl) rfl (fun w hs => run_fieldAddr (o' := 3) Tryd.underlying110 rfl sz108 rfl rfl rfl) hK ?_ | refine aw_take 2 rfl (by kernel_rfl) (by kernel_rfl) (by kernel_rfl) rfl (fun w hs => run_fieldAddr Tryd.underlying110 rfl sz108 rfl rfl rfl) hK ?_
  first | refine aw_take 3 rfl (by kernel_rfl) (by kernel_rfl) (by kernel_rfl) rfl (fun w hs => run_load Tryd.underlying108 rfl rfl (hs.cellAt 0 rfl rfl)) hK ?_ | refine aw_take 3 rfl (by kernel_rfl) (by kernel_rfl) (by kernel_rfl) rfl (fun w hs => run_load Tryd.underlying108 rfl rfl (hs.cellAt 1 rfl rfl)) hK ?_ | refine aw_take 3 rfl (by kernel_rfl) (by kernel_rfl) (by kernel_rfl) rfl (fun w hs => run_load Tryd.underlying108 rfl rfl (hs.cellAt 2 rfl rfl)) hK ?_ | refine aw_take 3 rfl (by kernel_rfl) (by kernel_rfl) (by kernel_rfl) rfl (fun w hs => run_load Tryd.underlying108 rfl rfl (hs.cellAt 3 rfl rfl)) hK ?_ | refine aw_take 3 rfl (by kernel_rfl) (by kernel_rfl) (by kernel_rfl) rfl (fun w hs => run_load Tryd.underlying108 rfl rfl (hs.cellAt 4 rfl rfl)) hK ?_ | refine aw_take 3 rfl (by kernel_rfl) (by kernel_rfl) (by kernel_rfl) rfl (fun w hs => run_load Tryd.underlying108 rfl rfl (hs.cellAt 5 rfl rfl)) hK ?_ | refine aw_take 3 rfl (by kernel_rfl) (by kernel_rfl) (by kernel_rfl) rfl (fun w hs => run_load Tryd.underlying108 rfl rfl (hs.cellAt 6 rfl rfl)) hK ?_ | refine aw_take 3 rfl (by kernel_rfl) (by kernel_rfl) (by kernel_rfl) rfl (fun w hs => run_load Tryd.underlying108 rfl rfl (hs.cellAt 7 rfl rfl)) hK ?_ | refine aw_take 3 rfl (by kernel_rfl) (by kernel_rfl) (by kernel_rfl) rfl (fun w hs => run_load Tryd.underlying108 rfl rfl (hs.cellAt 8 rfl rfl)) hK ?_ | refine aw_take 3 rfl (by kernel_rfl) (by kernel_rfl) (by kernel_rfl) rfl (fun w hs => run_load Tryd.underlying108 rfl rfl (hs.cellAt 9 rfl rfl)) hK ?_ | refine aw_take 3 rfl (by kernel_rfl) (by kernel_rfl) (by kernel_rfl) rfl (fun w hs => run_load Tryd.underlying108 rfl rfl (hs.cellAt 10 rfl rfl)) hK ?_ | refine aw_take 3 rfl (by kernel_rfl) (by kernel_rfl) (by kernel_rfl) rfl (fun w hs => run_load Tryd.underlying108 rfl rfl (hs.cellAt 11 rfl rfl)) hK ?_ | refine aw_take 3 rfl (by kernel_rfl) (by kernel_rfl) (by kernel_rfl) rfl (fun w hs => run_load Tryd.underlying108 rfl rfl (hs.cellAt 12 rfl rfl)) hK ?_ | refine aw_take 3 rfl (by kernel_rfl) (by kernel_rfl) (by kernel_rfl) rfl (fun w hs => run_load Tryd.underlying108 rfl rfl (hs.cellAt 13 rfl rfl)) hK ?_
  first | refine aw_take 4 rfl (by kernel_rfl) (by kernel_rfl) (by kernel_rfl) rfl (fun w hs => run_move (v := .slice _ _ _) rfl) hK ?_
  first | refine aw_take 5 rfl (by kernel_rfl) (by kernel_rfl) (by kernel_rfl) rfl (fun w hs => run_move (v := .pointer (some _)) rfl) hK ?_ | refine aw_take 5 rfl (by kernel_rfl) (by kernel_rfl) (by kernel_rfl) rfl (fun w hs => run_move (v := .pointer none) rfl) hK ?_
  refine aw_take 6 rfl (by kernel_rfl) (by kernel_rfl) (by kernel_rfl) rfl (fun w hs => run_nilCheckP rfl) hK ?_
  first | refine aw_take 7 rfl (by kernel_rfl) (by kernel_rfl) (by kernel_rfl) rfl (fun w hs => run_fieldAddr (o' := 3) Tryd.underlying110 rfl sz108 rfl rfl rfl) hK ?_ | refine aw_take 7 rfl (by kernel_rfl) (by kernel_rfl) (by kernel_rfl) rfl (fun w hs => run_fieldAddr Tryd.underlying110 rfl sz108 rfl rfl rfl) hK ?_
  first | refine aw_take 8 rfl (by kernel_rfl) (by kernel_rfl) (by kernel_rfl) rfl (fun w hs => run_load Tryd.underlying108 rfl rfl (hs.cellAt 0 rfl rfl)) hK ?_ | refine aw_take 8 rfl (by kernel_rfl) (by kernel_rfl) (by kernel_rfl) rfl (fun w hs => run_load Tryd.underlying108 rfl rfl (hs.cellAt 1 rfl rfl)) hK ?_ | refine aw_take 8 rfl (by kernel_rfl) (by kernel_rfl) (by kernel_rfl) rfl (fun w hs => run_load Tryd.underlying108 rfl rfl (hs.cellAt 2 rfl rfl)) hK ?_ | refine aw_take 8 rfl (by kernel_rfl) (by kernel_rfl) (by kernel_rfl) rfl (fun w hs => run_load Tryd.underlying108 rfl rfl (hs.cellAt 3 rfl rfl)) hK ?_ | refine aw_take 8 rfl (by kernel_rfl) (by kernel_rfl) (by kernel_rfl) rfl (fun w hs => run_load Tryd.underlying108 rfl rfl (hs.cellAt 4 rfl rfl)) hK ?_ | refine aw_take 8 rfl (by kernel_rfl) (by kernel_rfl) (by kernel_rfl) rfl (fun w hs => run_load Tryd.underlying108 rfl rfl (hs.cellAt 5 rfl rfl)) hK ?_ | refine aw_take 8 rfl (by kernel_rfl) (by kernel_rfl) (by kernel_rfl) rfl (fun w hs => run_load Tryd.underlying108 rfl rfl (hs.cellAt 6 rfl rfl)) hK ?_ | refine aw_take 8 rfl (by kernel_rfl) (by kernel_rfl) (by kernel_rfl) rfl (fun w hs => run_load Tryd.underlying108 rfl rfl (hs.cellAt 7 rfl rfl)) hK ?_ | refine aw_take 8 rfl (by kernel_rfl) (by kernel_rfl) (by kernel_rfl) rfl (fun w hs => run_load Tryd.underlying108 rfl rfl (hs.cellAt 8 rfl rfl)) hK ?_ | refine aw_take 8 rfl (by kernel_rfl) (by kernel_rfl) (by kernel_rfl) rfl (fun w hs => run_load Tryd.underlying108 rfl rfl (hs.cellAt 9 rfl rfl)) hK ?_ | refine aw_take 8 rfl (by kernel_rfl) (by kernel_rfl) (by kernel_rfl) rfl (fun w hs => run_load Tryd.underlying108 rfl rfl (hs.cellAt 10 rfl rfl)) hK ?_ | refine aw_take 8 rfl (by kernel_rfl) (by kernel_rfl) (by kernel_rfl) rfl (fun w hs => run_load Tryd.underlying108 rfl rfl (hs.cellAt 11 rfl rfl)) hK ?_ | refine aw_take 8 rfl (by kernel_rfl) (by kernel_rfl) (by kernel_rfl) rfl (fun w hs => run_load Tryd.underlying108 rfl rfl (hs.cellAt 12 rfl rfl)) hK ?_ | refine aw_take 8 rfl (by kernel_rfl) (by kernel_rfl) (by kernel_rfl) rfl (fun w hs => run_load Tryd.underlying108 rfl rfl (hs.cellAt 13 rfl rfl)) hK ?_
  refine aw_take 9 rfl (by kernel_rfl) (by kernel_rfl) (by kernel_rfl) rfl (fun w hs => run_lenS Tryd.underlying108 rfl) hK ?_
  first | refine aw_take 13 rfl (by kernel_rfl) (by kernel_rfl) (by kernel_rfl) rfl (fun w hs => run_move (v := .int .i64 _) rfl) hK ?_
  refine aw_ready [10] (by kernel_rfl) (by simp) ?_
  refine ⟨⟨_, rfl, ?_⟩, trivial⟩
  refine lw_call rfl en85 (picked_sl hs (((((hr.cons).cons).cons).cons).cons) hm 0 d.changes.length (by omega)) ?_
  clear hs
  rintro _ w ⟨rfl, hs⟩
  rw [← hq]
  clear hK
  have hK := hs
  refine lw_nil ⟨hK, ?_⟩
  refine aw_take 11 rfl (by kernel_rfl) (by kernel_rfl) (by kernel_rfl) rfl (fun w hs => run_sliceToK Tryd.underlying108 sz117 rfl rfl (hi := q) rfl (by omega) hra) hK ?_
  refine aw_take 12 rfl (by kernel_rfl) (by kernel_rfl) (by kernel_rfl) rfl (fun w hs => run_lenS Tryd.underlying108 rfl) hK ?_
  refine aw_done (by kernel_rfl) ?_
  clear hK
  refine cw_block ?_
  refine cw_loop (X := Nat) [5, 24, 25, 26, 27, 28, 29, 30, 31, 32, 33, 34] (fun k => [(24, .int .i64 (k : Nat))]) (fun k w => k ≤ q ∧ Mem g w (cells p (diskL mn mk d sa sc) 110 :: mapS mn (nmV ptr d.names) :: mapS mk (nmV ptr (applyAll d.kept (d.changes.take k))) :: rowK 3 (.slice sa d.changes.length sc) (d.changes.map (chgV ptr)) :: famC flC ptr d.fs :: L)) (fun k => q - k) (0) ?_ ?_ ?_
  · exact ⟨rfl, trivial⟩
  · exact ⟨Nat.zero_le _, hs⟩
  clear hs
  rintro x ξ w hI
  obtain ⟨hk, hs⟩ := hI
  refine cw_seq ?_
  refine cw_region ?_
  refine lw_val rfl (run_lss rfl rfl) ?_
  refine lw_nil ?_
  refine cw_seq ?_
  refine cw_if rfl ?_ ?_
  · intro h25
    have g25 := of_decide_eq_true h25
    obtain ⟨ch, hch⟩ : ∃ ch, d.changes[x]? = some ch := ⟨_, List.getElem?_eq_getElem (by omega)⟩
    have hpc : ∀ i, ch.f = some i → ∃ b, aget ptr i = some b := fun i hi => by obtain ⟨b, hb, _⟩ := hptr i (ho.cin ch (List.mem_of_getElem? hch) i hi); exact ⟨b, hb⟩
    obtain ⟨PP, hrow, hPP⟩ := row_form hpc
    obtain ⟨rb, ro, rfl⟩ : ∃ rb ro, sa = some ⟨rb, ro, none⟩ := hra.elim (fun h => by omega) (fun ⟨b, o, h⟩ => ⟨b, o, h⟩)
    refine cw_skip ?_
    refine cw_seq ?_
    refine cw_block ?_
    refine cw_seq ?_
    refine cw_region ?_
    refine lw_val rfl (run_indexAddrK Tryd.underlying108 sz117 rfl rfl rfl (by omega) rfl) ?_
    refine lw_val rfl (run_loadK (cs := [.string ch.name, .string ch.gone, PP]) Tryd.underlying117 sz117 rfl (hs.rowAt 3 rfl (q := x) (by rw [List.getElem?_map, hch, Option.map_some, hrow]))) ?_
    refine lw_alloc hs rfl ze117 ?_
    clear hs
    intro b5 w hs
    try simp only [List.set_cons_succ, List.set_cons_zero] at hs
    refine lw_storeRow (vs := [.string ch.name, .string ch.gone, PP]) hs 0 rfl rfl rfl sz117 rfl (by simp only [List.all_cons, List.all_nil, hPP]; rfl) ?_
    clear hs
    intro w hs
    simp only [List.set_cons_succ, List.set_cons_zero] at hs
    refine lw_nil ?_
    refine cw_drawS mixes (hs.drop 3) ?_
    intro w tr hK
    replace hs := tr _ hs
    clear tr
    first | refine aw_take 0 rfl (by kernel_rfl) (by kernel_rfl) (by kernel_rfl) rfl (fun w hs => run_move (v := .pointer (some _)) rfl) hK ?_ | refine aw_take 0 rfl (by kernel_rfl) (by kernel_rfl) (by kernel_rfl) rfl (fun w hs => run_move (v := .pointer none) rfl) hK ?_
    refine aw_take 1 rfl (by kernel_rfl) (by kernel_rfl) (by kernel_rfl) rfl (fun w hs => run_nilCheckP rfl) hK ?_
    first | refine aw_take 2 rfl (by kernel_rfl) (by kernel_rfl) (by kernel_rfl) rfl (fun w hs => run_fieldAddr (o' := 2) Tryd.underlying110 rfl sz107 rfl rfl rfl) hK ?_ | refine aw_take 2 rfl (by kernel_rfl) (by kernel_rfl) (by kernel_rfl) rfl (fun w hs => run_fieldAddr Tryd.underlying110 rfl sz107 rfl rfl rfl) hK ?_
    first | refine aw_take 3 rfl (by kernel_rfl) (by kernel_rfl) (by kernel_rfl) rfl (fun w hs => run_load Tryd.underlying107 rfl rfl (hs.cellAt 0 rfl rfl)) hK ?_ | refine aw_take 3 rfl (by kernel_rfl) (by kernel_rfl) (by kernel_rfl) rfl (fun w hs => run_load Tryd.underlying107 rfl rfl (hs.cellAt 1 rfl rfl)) hK ?_ | refine aw_take 3 rfl (by kernel_rfl) (by kernel_rfl) (by kernel_rfl) rfl (fun w hs => run_load Tryd.underlying107 rfl rfl (hs.cellAt 2 rfl rfl)) hK ?_ | refine aw_take 3 rfl (by kernel_rfl) (by kernel_rfl) (by kernel_rfl) rfl (fun w hs => run_load Tryd.underlying107 rfl rfl (hs.cellAt 3 rfl rfl)) hK ?_ | refine aw_take 3 rfl (by kernel_rfl) (by kernel_rfl) (by kernel_rfl) rfl (fun w hs => run_load Tryd.underlying107 rfl rfl (hs.cellAt 4 rfl rfl)) hK ?_ | refine aw_take 3 rfl (by kernel_rfl) (by kernel_rfl) (by kernel_rfl) rfl (fun w hs => run_load Tryd.underlying107 rfl rfl (hs.cellAt 5 rfl rfl)) hK ?_ | refine aw_take 3 rfl (by kernel_rfl) (by kernel_rfl) (by kernel_rfl) rfl (fun w hs => run_load Tryd.underlying107 rfl rfl (hs.cellAt 6 rfl rfl)) hK ?_ | refine aw_take 3 rfl (by kernel_rfl) (by kernel_rfl) (by kernel_rfl) rfl (fun w hs => run_load Tryd.underlying107 rfl rfl (hs.cellAt 7 rfl rfl)) hK ?_ | refine aw_take 3 rfl (by kernel_rfl) (by kernel_rfl) (by kernel_rfl) rfl (fun w hs => run_load Tryd.underlying107 rfl rfl (hs.cellAt 8 rfl rfl)) hK ?_ | refine aw_take 3 rfl (by kernel_rfl) (by kernel_rfl) (by kernel_rfl) rfl (fun w hs => run_load Tryd.underlying107 rfl rfl (hs.cellAt 9 rfl rfl)) hK ?_ | refine aw_take 3 rfl (by kernel_rfl) (by kernel_rfl) (by kernel_rfl) rfl (fun w hs => run_load Tryd.underlying107 rfl rfl (hs.cellAt 10 rfl rfl)) hK ?_ | refine aw_take 3 rfl (by kernel_rfl) (by kernel_rfl) (by kernel_rfl) rfl (fun w hs => run_load Tryd.underlying107 rfl rfl (hs.cellAt 11 rfl rfl)) hK ?_ | refine aw_take 3 rfl (by kernel_rfl) (by kernel_rfl) (by kernel_rfl) rfl (fun w hs => run_load Tryd.underlying107 rfl rfl (hs.cellAt 12 rfl rfl)) hK ?_ | refine aw_take 3 rfl (by kernel_rfl) (by kernel_rfl) (by kernel_rfl) rfl (fun w hs => run_load Tryd.underlying107 rfl rfl (hs.cellAt 13 rfl rfl)) hK ?_
    first | refine aw_take 4 rfl (by kernel_rfl) (by kernel_rfl) (by kernel_rfl) rfl (fun w hs => run_loadRow hs 0 rfl Tryd.underlying117 sz117 rfl) hK ?_ | refine aw_take 4 rfl (by kernel_rfl) (by kernel_rfl) (by kernel_rfl) rfl (fun w hs => run_loadRow hs 1 rfl Tryd.underlying117 sz117 rfl) hK ?_ | refine aw_take 4 rfl (by kernel_rfl) (by kernel_rfl) (by kernel_rfl) rfl (fun w hs => run_loadRow hs 2 rfl Tryd.underlying117 sz117 rfl) hK ?_ | refine aw_take 4 rfl (by kernel_rfl) (by kernel_rfl) (by kernel_rfl) rfl (fun w hs => run_loadRow hs 3 rfl Tryd.underlying117 sz117 rfl) hK ?_ | refine aw_take 4 rfl (by kernel_rfl) (by kernel_rfl) (by kernel_rfl) rfl (fun w hs => run_loadRow hs 4 rfl Tryd.underlying117 sz117 rfl) hK ?_ | refine aw_take 4 rfl (by kernel_rfl) (by kernel_rfl) (by kernel_rfl) rfl (fun w hs => run_loadRow hs 5 rfl Tryd.underlying117 sz117 rfl) hK ?_ | refine aw_take 4 rfl (by kernel_rfl) (by kernel_rfl) (by kernel_rfl) rfl (fun w hs => run_loadRow hs 6 rfl Tryd.underlying117 sz117 rfl) hK ?_ | refine aw_take 4 rfl (by kernel_rfl) (by kernel_rfl) (by kernel_rfl) rfl (fun w hs => run_loadRow hs 7 rfl Tryd.underlying117 sz117 rfl) hK ?_ | refine aw_take 4 rfl (by kernel_rfl) (by kernel_rfl) (by kernel_rfl) rfl (fun w hs => run_loadRow hs 8 rfl Tryd.underlying117 sz117 rfl) hK ?_ | refine aw_take 4 rfl (by kernel_rfl) (by kernel_rfl) (by kernel_rfl) rfl (fun w hs => run_loadRow hs 9 rfl Tryd.underlying117 sz117 rfl) hK ?_ | refine aw_take 4 rfl (by kernel_rfl) (by kernel_rfl) (by kernel_rfl) rfl (fun w hs => run_loadRow hs 10 rfl Tryd.underlying117 sz117 rfl) hK ?_ | refine aw_take 4 rfl (by kernel_rfl) (by kernel_rfl) (by kernel_rfl) rfl (fun w hs => run_loadRow hs 11 rfl Tryd.underlying117 sz117 rfl) hK ?_ | refine aw_take 4 rfl (by kernel_rfl) (by kernel_rfl) (by kernel_rfl) rfl (fun w hs => run_loadRow hs 12 rfl Tryd.underlying117 sz117 rfl) hK ?_ | refine aw_take 4 rfl (by kernel_rfl) (by kernel_rfl) (by kernel_rfl) rfl (fun w hs => run_loadRow hs 13 rfl Tryd.underlying117 sz117 rfl) hK ?_
    refine aw_ready [5] (by kernel_rfl) (by simp) ?_
    refine ⟨⟨_, rfl, ?_⟩, trivial⟩
    refine lw_call rfl en86 (apply_sl (l := applyAll d.kept (d.changes.take x)) (hs.arr [3, 0, 1, 2, 4, 5] 6 (by decide)) ch hpc hrow) ?_
    clear hs
    rintro _ w ⟨rfl, hs⟩
    clear hK
    have hK := hs.tail
    refine lw_nil ⟨hK, ?_⟩
    refine aw_done (by kernel_rfl) ?_
    clear hK
    refine cw_region ?_
    refine lw_val rfl (run_add64 rfl rfl rfl (inI (by omega) (by omega))) ?_
    first | refine lw_val rfl (run_move (v := .int .i64 _) rfl) ?_
    refine lw_nil ?_
    exact ⟨x + 1, by omega, ⟨by omega, by rw [applyAll_take hch]; exact hs.arr [2, 3, 0, 4, 5] 6 (by decide)⟩, ⟨rfl, trivial⟩, by repeat (first | exact Out.mix _ _ _ | refine Out.updo rfl ?_ | refine Out.upd rfl ?_ | refine Out.mixIn rfl ?_)⟩
  · intro h25
    have g25 := of_decide_eq_false h25
    obtain rfl : x = q := by omega
    rw [← hkept] at hs
    refine cw_exit rfl ?_
    refine cw_seq ?_
    refine cw_region ?_
    first | refine lw_val rfl (run_assign (v := .slice _ _ _) rfl) ?_
    refine lw_nil ?_
    refine cw_seq ?_
    refine cw_seq ?_
    refine cw_region ?_
    first | refine lw_val rfl (run_move (v := .pointer (some _)) rfl) ?_ | refine lw_val rfl (run_move (v := .pointer none) rfl) ?_
    refine lw_val rfl (run_nilCheckP rfl) ?_
    first | refine lw_val rfl (run_fieldAddr (o' := 2) Tryd.underlying110 rfl sz107 rfl rfl rfl) ?_ | refine lw_val rfl (run_fieldAddr Tryd.underlying110 rfl sz107 rfl rfl rfl) ?_
    first | refine lw_val rfl (run_load Tryd.underlying107 rfl rfl (hs.cellAt 0 rfl rfl)) ?_ | refine lw_val rfl (run_load Tryd.underlying107 rfl rfl (hs.cellAt 1 rfl rfl)) ?_ | refine lw_val rfl (run_load Tryd.underlying107 rfl rfl (hs.cellAt 2 rfl rfl)) ?_ | refine lw_val rfl (run_load Tryd.underlying107 rfl rfl (hs.cellAt 3 rfl rfl)) ?_ | refine lw_val rfl (run_load Tryd.underlying107 rfl rfl (hs.cellAt 4 rfl rfl)) ?_ | refine lw_val rfl (run_load Tryd.underlying107 rfl rfl (hs.cellAt 5 rfl rfl)) ?_ | refine lw_val rfl (run_load Tryd.underlying107 rfl rfl (hs.cellAt 6 rfl rfl)) ?_ | refine lw_val rfl (run_load Tryd.underlying107 rfl rfl (hs.cellAt 7 rfl rfl)) ?_ | refine lw_val rfl (run_load Tryd.underlying107 rfl rfl (hs.cellAt 8 rfl rfl)) ?_ | refine lw_val rfl (run_load Tryd.underlying107 rfl rfl (hs.cellAt 9 rfl rfl)) ?_ | refine lw_val rfl (run_load Tryd.underlying107 rfl rfl (hs.cellAt 10 rfl rfl)) ?_ | refine lw_val rfl (run_load Tryd.underlying107 rfl rfl (hs.cellAt 11 rfl rfl)) ?_ | refine lw_val rfl (run_load Tryd.underlying107 rfl rfl (hs.cellAt 12 rfl rfl)) ?_ | refine lw_val rfl (run_load Tryd.underlying107 rfl rfl (hs.cellAt 13 rfl rfl)) ?_
    first | refine lw_rangeM hs rfl 0 rfl Tryd.underlying107 rfl ?_ | refine lw_rangeM hs rfl 1 rfl Tryd.underlying107 rfl ?_ | refine lw_rangeM hs rfl 2 rfl Tryd.underlying107 rfl ?_ | refine lw_rangeM hs rfl 3 rfl Tryd.underlying107 rfl ?_ | refine lw_rangeM hs rfl 4 rfl Tryd.underlying107 rfl ?_ | refine lw_rangeM hs rfl 5 rfl Tryd.underlying107 rfl ?_ | refine lw_rangeM hs rfl 6 rfl Tryd.underlying107 rfl ?_ | refine lw_rangeM hs rfl 7 rfl Tryd.underlying107 rfl ?_ | refine lw_rangeM hs rfl 8 rfl Tryd.underlying107 rfl ?_ | refine lw_rangeM hs rfl 9 rfl Tryd.underlying107 rfl ?_ | refine lw_rangeM hs rfl 10 rfl Tryd.underlying107 rfl ?_ | refine lw_rangeM hs rfl 11 rfl Tryd.underlying107 rfl ?_ | refine lw_rangeM hs rfl 12 rfl Tryd.underlying107 rfl ?_ | refine lw_rangeM hs rfl 13 rfl Tryd.underlying107 rfl ?_
    clear hs
    intro r39 w hs
    try simp only [List.set_cons_succ, List.set_cons_zero] at hs
    refine lw_nil ?_
    refine cw_block ?_
    refine cw_loop (X := List Nat × List (ByteArray × Nat) × Option (ByteArray × Value) × Option Addr × Nat) [6, 8, 40, 41, 42, 43, 44, 45, 46, 47, 48, 49, 50, 51] (fun x => [(6, .slice x.2.2.2.1 x.1.length x.2.2.2.2)]) (fun x w => x.1.Nodup ∧ (∀ y ∈ kept, y ∈ x.2.1 ∨ y.2 ∈ x.1) ∧ (∀ i ∈ x.1, ∃ y ∈ kept, y.2 = i) ∧ (∀ y ∈ x.2.1, y ∈ kept) ∧ Mem g w (own (.slice x.2.2.2.1 x.1.length x.2.2.2.2) (x.1.map (fptr ptr)) :: cells p (diskL mn mk d sa sc) 110 :: mapS mn (nmV ptr d.names) :: rngC Value.string r39 mk (nmV ptr kept) (nmV ptr x.2.1) x.2.2.1 :: rowK 3 (.slice sa d.changes.length sc) (d.changes.map (chgV ptr)) :: famC flC ptr d.fs :: L)) (fun x => x.2.1.length) (([], kept, none, none, 0)) ?_ ?_ ?_
    · exact ⟨rfl, trivial⟩
    · exact ⟨List.nodup_nil, fun y hy => .inl hy, fun i hi => by simp at hi, fun y hy => hy, hs.addE (own_nil _)⟩
    clear hs
    rintro x ξ w hI
    obtain ⟨ids, lo, cur, la, lc⟩ := x
    obtain ⟨hnd, hall, hfrom, hlo, hs⟩ := hI
    simp only at hnd hall hfrom hlo hs
    have hik : ∀ i ∈ ids, i ∈ keysOf d.fs := fun i hi => by obtain ⟨y, hy, rfl⟩ := hfrom i hi; exact hprops.2.1 y hy
    have hil := ho.ids_len hnd hik
    show cw _ _ _ _ _ _ (updL (mix _ ξ _) [(6, .slice la ids.length lc)]) w
    refine cw_seq ?_
    refine cw_region ?_
    first | refine lw_nextM hs rfl 3 rfl strKind.inj rfl ?_ ?_ | refine lw_nextM hs rfl 3 rfl intKind.inj rfl ?_ ?_
    · intro hl40
      obtain rfl := nmV_nil hl40
      replace hs := hs.rngd 3 rfl
      have hmem : ∀ i, i ∈ ids ↔ i ∈ kept.map (·.2) := fun i => ⟨fun h => by obtain ⟨y, hy, rfl⟩ := hfrom i h; exact List.mem_map_of_mem hy, fun h => by obtain ⟨y, hy, rfl⟩ := List.mem_map.1 h; exact (hall y hy).elim (fun h => by simp at h) id⟩
      first | refine lw_val rfl (run_extract (v := .bool _) rfl rfl) ?_
      refine lw_nil ?_
      refine cw_seq ?_
      refine cw_iff rfl rfl ?_
      refine cw_exit rfl ?_
      refine cw_seq ?_
      refine cw_region ?_
      first | refine lw_val rfl (run_move (v := .slice _ _ _) rfl) ?_
      refine lw_call rfl en88 (sortf_sl ho.tookB (hs.arr [0, 5, 1, 2, 3, 4] 6 (by decide)) hik (by omega) (by omega)) ?_
      clear hs
      rintro _ w ⟨rfl, ids', hperm, hrise, hs⟩
      have hids := ids_eq ho.tookB hprops.2.1 hperm hrise hnd hmem
      have hnd' : ids'.Nodup := hperm.symm.nodup hnd
      have hik' : ∀ i ∈ ids', i ∈ keysOf d.fs := fun i hi => hik i (hperm.mem_iff.1 hi)
      have hlen' := hperm.length_eq
      refine lw_nil ?_
      refine cw_seq ?_
      refine cw_seq ?_
      refine cw_region ?_
      first | refine lw_val rfl (run_move (v := .slice _ _ _) rfl) ?_
      refine lw_val rfl (run_lenS Tryd.underlying124 rfl) ?_
      first | refine lw_val rfl (run_move (v := .int .i64 _) rfl) ?_
      refine lw_nil ?_
      refine cw_block ?_
      refine cw_loop (X := Nat) [9, 10, 56, 57, 58, 59, 60, 61, 62, 63, 64, 65, 66, 67, 68, 69, 70, 71, 72, 73, 74, 75, 76, 77, 78, 79, 80, 81, 82, 83, 84, 85, 86, 87, 88, 89, 90, 91, 92, 93, 94, 95, 96, 97] (fun k => [(56, .int .i64 (k : Nat))]) (fun k w => k ≤ ids'.length ∧ Mem g w (own (.slice la ids.length lc) (ids'.map (fptr ptr)) :: famC flC ptr (crashFs picks 0 (ids'.take k) d.fs) :: cells p (diskL mn mk d sa sc) 110 :: mapS mn (nmV ptr d.names) :: mapS mk (nmV ptr kept) :: rowK 3 (.slice sa d.changes.length sc) (d.changes.map (chgV ptr)) :: L)) (fun k => ids'.length - k) (0) ?_ ?_ ?_
      · exact ⟨rfl, trivial⟩
      · exact ⟨Nat.zero_le _, hs⟩
      clear hs
      rintro x ξ w hI
      obtain ⟨hk3, hs⟩ := hI
      refine cw_seq ?_
      refine cw_region ?_
      refine lw_val rfl (run_lss rfl rfl) ?_
      refine lw_nil ?_
      refine cw_seq ?_
      refine cw_if rfl ?_ ?_
      · intro h57
        have g57 := of_decide_eq_true h57
        obtain ⟨i, hi⟩ : ∃ i, ids'[x]? = some i := ⟨_, List.getElem?_eq_getElem (by omega)⟩
        obtain ⟨b, hb, hp, hf⟩ := hptr i (hik' i (List.mem_of_getElem? hi))
        have hfl := hfid i _ hf
        obtain ⟨lb, lo2, rfl, _⟩ := hs.ownCells 0 rfl (by rw [List.length_map]; omega)
        have hni : i ∉ ids'.take x := fun hm => by obtain ⟨j, hj, e⟩ := List.mem_iff_getElem.1 hm; simp only [List.length_take] at hj; rw [List.getElem_take] at e; have h1 := List.getElem?_eq_some_iff.1 hi; exact absurd ((List.getElem_inj hnd').1 (e.trans h1.2.symm)) (by omega)
        have hf2 : aget (crashFs picks 0 (ids'.take x) d.fs) i = some (d.fl i) := by rw [crashFs_other _ _ _ hni]; exact hf
        refine cw_skip ?_
        refine cw_seq ?_
        refine cw_block ?_
        refine cw_seq ?_
        refine cw_region ?_
        first | refine lw_val rfl (run_move (v := .int .i64 _) rfl) ?_
        refine lw_val rfl (run_indexAddr Tryd.underlying124 sz112 rfl rfl rfl (by omega) rfl) ?_
        refine lw_val rfl (run_load (v := .pointer (some ⟨b, 0, none⟩)) Tryd.underlying112 rfl rfl (hs.ownAt 0 rfl (by rw [List.getElem?_map, hi, Option.map_some, hp]))) ?_
        first | refine lw_val rfl (run_assign (v := .int .i64 _) rfl) ?_
        first | refine lw_val rfl (run_assign (v := .pointer (some _)) rfl) ?_ | refine lw_val rfl (run_assign (v := .pointer none) rfl) ?_
        refine lw_nil ?_
        refine cw_seq ?_
        replace hs := hs.famTake (R := flC) 1 rfl hb hf2
        obtain ⟨fa, fc, hs⟩ := hs.openF
        have hfc2 := (hs.ownForm 1 rfl).2.1
        have hpk := pickN_le picks (x + 1) ((d.fl i).b.length - (d.fl i).syn)
        refine cw_drawS mixes hs.hold2 ?_
        intro w tr hK
        replace hs := tr _ hs
        clear tr
        first | refine aw_take 0 rfl (by kernel_rfl) (by kernel_rfl) (by kernel_rfl) rfl (fun w hs => run_move (v := .pointer (some _)) rfl) hK ?_ | refine aw_take 0 rfl (by kernel_rfl) (by kernel_rfl) (by kernel_rfl) rfl (fun w hs => run_move (v := .pointer none) rfl) hK ?_
        first | refine aw_take 1 rfl (by kernel_rfl) (by kernel_rfl) (by kernel_rfl) rfl (fun w hs => run_move (v := .pointer (some _)) rfl) hK ?_ | refine aw_take 1 rfl (by kernel_rfl) (by kernel_rfl) (by kernel_rfl) rfl (fun w hs => run_move (v := .pointer none) rfl) hK ?_
        refine aw_take 2 rfl (by kernel_rfl) (by kernel_rfl) (by kernel_rfl) rfl (fun w hs => run_nilCheckP rfl) hK ?_
        first | refine aw_take 3 rfl (by kernel_rfl) (by kernel_rfl) (by kernel_rfl) rfl (fun w hs => run_fieldAddr (o' := 1) Tryd.underlying115 rfl sz23 rfl rfl rfl) hK ?_ | refine aw_take 3 rfl (by kernel_rfl) (by kernel_rfl) (by kernel_rfl) rfl (fun w hs => run_fieldAddr Tryd.underlying115 rfl sz23 rfl rfl rfl) hK ?_
        first | refine aw_take 5 rfl (by kernel_rfl) (by kernel_rfl) (by kernel_rfl) rfl (fun w hs => run_move (v := .pointer (some _)) rfl) hK ?_ | refine aw_take 5 rfl (by kernel_rfl) (by kernel_rfl) (by kernel_rfl) rfl (fun w hs => run_move (v := .pointer none) rfl) hK ?_
        refine aw_take 6 rfl (by kernel_rfl) (by kernel_rfl) (by kernel_rfl) rfl (fun w hs => run_nilCheckP rfl) hK ?_
        first | refine aw_take 7 rfl (by kernel_rfl) (by kernel_rfl) (by kernel_rfl) rfl (fun w hs => run_fieldAddr (o' := 2) Tryd.underlying115 rfl sz3 rfl rfl rfl) hK ?_ | refine aw_take 7 rfl (by kernel_rfl) (by kernel_rfl) (by kernel_rfl) rfl (fun w hs => run_fieldAddr Tryd.underlying115 rfl sz3 rfl rfl rfl) hK ?_
        refine aw_take 8 rfl (by kernel_rfl) (by kernel_rfl) (by kernel_rfl) rfl (fun w hs => run_load Tryd.underlying3 rfl rfl (hs.holdAt 0 rfl)) hK ?_
        first | refine aw_take 9 rfl (by kernel_rfl) (by kernel_rfl) (by kernel_rfl) rfl (fun w hs => run_move (v := .slice _ _ _) rfl) hK ?_
        first | refine aw_take 10 rfl (by kernel_rfl) (by kernel_rfl) (by kernel_rfl) rfl (fun w hs => run_move (v := .int .i64 _) rfl) hK ?_
        refine aw_take 11 rfl (by kernel_rfl) (by kernel_rfl) (by kernel_rfl) rfl (fun w hs => run_add64 rfl rfl rfl (inI (by omega) (by omega))) hK ?_
        first | refine aw_take 12 rfl (by kernel_rfl) (by kernel_rfl) (by kernel_rfl) rfl (fun w hs => run_move (v := .pointer (some _)) rfl) hK ?_ | refine aw_take 12 rfl (by kernel_rfl) (by kernel_rfl) (by kernel_rfl) rfl (fun w hs => run_move (v := .pointer none) rfl) hK ?_
        refine aw_take 13 rfl (by kernel_rfl) (by kernel_rfl) (by kernel_rfl) rfl (fun w hs => run_nilCheckP rfl) hK ?_
        first | refine aw_take 14 rfl (by kernel_rfl) (by kernel_rfl) (by kernel_rfl) rfl (fun w hs => run_fieldAddr (o' := 1) Tryd.underlying115 rfl sz23 rfl rfl rfl) hK ?_ | refine aw_take 14 rfl (by kernel_rfl) (by kernel_rfl) (by kernel_rfl) rfl (fun w hs => run_fieldAddr Tryd.underlying115 rfl sz23 rfl rfl rfl) hK ?_
        first | refine aw_take 17 rfl (by kernel_rfl) (by kernel_rfl) (by kernel_rfl) rfl (fun w hs => run_move (v := .pointer (some _)) rfl) hK ?_ | refine aw_take 17 rfl (by kernel_rfl) (by kernel_rfl) (by kernel_rfl) rfl (fun w hs => run_move (v := .pointer none) rfl) hK ?_
        refine aw_take 18 rfl (by kernel_rfl) (by kernel_rfl) (by kernel_rfl) rfl (fun w hs => run_nilCheckP rfl) hK ?_
        first | refine aw_take 19 rfl (by kernel_rfl) (by kernel_rfl) (by kernel_rfl) rfl (fun w hs => run_fieldAddr (o' := 2) Tryd.underlying115 rfl sz3 rfl rfl rfl) hK ?_ | refine aw_take 19 rfl (by kernel_rfl) (by kernel_rfl) (by kernel_rfl) rfl (fun w hs => run_fieldAddr Tryd.underlying115 rfl sz3 rfl rfl rfl) hK ?_
        refine aw_take 20 rfl (by kernel_rfl) (by kernel_rfl) (by kernel_rfl) rfl (fun w hs => run_load Tryd.underlying3 rfl rfl (hs.holdAt 0 rfl)) hK ?_
        refine aw_ready [4, 15] (by kernel_rfl) (by simp) ?_
        refine ⟨⟨_, rfl, ?_⟩, ⟨_, rfl, ?_⟩, trivial⟩
        · skip
          first | refine lw_val rfl (run_load Tryd.underlying23 rfl rfl (hs.cellAt 0 rfl rfl)) ?_ | refine lw_val rfl (run_load Tryd.underlying23 rfl rfl (hs.cellAt 1 rfl rfl)) ?_ | refine lw_val rfl (run_load Tryd.underlying23 rfl rfl (hs.cellAt 2 rfl rfl)) ?_ | refine lw_val rfl (run_load Tryd.underlying23 rfl rfl (hs.cellAt 3 rfl rfl)) ?_ | refine lw_val rfl (run_load Tryd.underlying23 rfl rfl (hs.cellAt 4 rfl rfl)) ?_ | refine lw_val rfl (run_load Tryd.underlying23 rfl rfl (hs.cellAt 5 rfl rfl)) ?_ | refine lw_val rfl (run_load Tryd.underlying23 rfl rfl (hs.cellAt 6 rfl rfl)) ?_ | refine lw_val rfl (run_load Tryd.underlying23 rfl rfl (hs.cellAt 7 rfl rfl)) ?_ | refine lw_val rfl (run_load Tryd.underlying23 rfl rfl (hs.cellAt 8 rfl rfl)) ?_ | refine lw_val rfl (run_load Tryd.underlying23 rfl rfl (hs.cellAt 9 rfl rfl)) ?_ | refine lw_val rfl (run_load Tryd.underlying23 rfl rfl (hs.cellAt 10 rfl rfl)) ?_ | refine lw_val rfl (run_load Tryd.underlying23 rfl rfl (hs.cellAt 11 rfl rfl)) ?_ | refine lw_val rfl (run_load Tryd.underlying23 rfl rfl (hs.cellAt 12 rfl rfl)) ?_ | refine lw_val rfl (run_load Tryd.underlying23 rfl rfl (hs.cellAt 13 rfl rfl)) ?_
          clear hK
          have hK := hs.hold2
          refine lw_nil ⟨hK, ?_⟩
          refine aw_ready [15] (by kernel_rfl) (by simp) ?_
          refine ⟨⟨_, rfl, ?_⟩, trivial⟩
          first | refine lw_val rfl (run_load Tryd.underlying23 rfl rfl (hs.cellAt 0 rfl rfl)) ?_ | refine lw_val rfl (run_load Tryd.underlying23 rfl rfl (hs.cellAt 1 rfl rfl)) ?_ | refine lw_val rfl (run_load Tryd.underlying23 rfl rfl (hs.cellAt 2 rfl rfl)) ?_ | refine lw_val rfl (run_load Tryd.underlying23 rfl rfl (hs.cellAt 3 rfl rfl)) ?_ | refine lw_val rfl (run_load Tryd.underlying23 rfl rfl (hs.cellAt 4 rfl rfl)) ?_ | refine lw_val rfl (run_load Tryd.underlying23 rfl rfl (hs.cellAt 5 rfl rfl)) ?_ | refine lw_val rfl (run_load Tryd.underlying23 rfl rfl (hs.cellAt 6 rfl rfl)) ?_ | refine lw_val rfl (run_load Tryd.underlying23 rfl rfl (hs.cellAt 7 rfl rfl)) ?_ | refine lw_val rfl (run_load Tryd.underlying23 rfl rfl (hs.cellAt 8 rfl rfl)) ?_ | refine lw_val rfl (run_load Tryd.underlying23 rfl rfl (hs.cellAt 9 rfl rfl)) ?_ | refine lw_val rfl (run_load Tryd.underlying23 rfl rfl (hs.cellAt 10 rfl rfl)) ?_ | refine lw_val rfl (run_load Tryd.underlying23 rfl rfl (hs.cellAt 11 rfl rfl)) ?_ | refine lw_val rfl (run_load Tryd.underlying23 rfl rfl (hs.cellAt 12 rfl rfl)) ?_ | refine lw_val rfl (run_load Tryd.underlying23 rfl rfl (hs.cellAt 13 rfl rfl)) ?_
          clear hK
          have hK := hs.hold2
          refine lw_nil ⟨hK, ?_⟩
          refine aw_take 16 rfl (by kernel_rfl) (by kernel_rfl) (by kernel_rfl) rfl (fun w hs => run_lenS Tryd.underlying23 rfl) hK ?_
          refine aw_take 21 rfl (by kernel_rfl) (by kernel_rfl) (by kernel_rfl) rfl (fun w hs => run_sub64 rfl rfl (c := (((d.fl i).b.length - (d.fl i).syn : Nat) : Int)) (by omega) (inI (by omega) (by omega))) hK ?_
          refine aw_ready [22] (by kernel_rfl) (by simp) ?_
          refine ⟨⟨_, rfl, ?_⟩, trivial⟩
          refine lw_call rfl en85 (picked_sl hs ((((((((hr.cons).cons).cons).cons).cons).cons).cons).cons) hm (x + 1) ((d.fl i).b.length - (d.fl i).syn) (by omega)) ?_
          clear hs
          rintro _ w ⟨rfl, hs⟩
          clear hK
          have hK := hs.hold2
          refine lw_nil ⟨hK, ?_⟩
          refine aw_take 23 rfl (by kernel_rfl) (by kernel_rfl) (by kernel_rfl) rfl (fun w hs => run_add64 rfl rfl (c := (((d.fl i).syn + pickN picks (x + 1) ((d.fl i).b.length - (d.fl i).syn) : Nat) : Int)) (by omega) (inI (by omega) (by omega))) hK ?_
          refine aw_take 24 rfl (by kernel_rfl) (by kernel_rfl) (by kernel_rfl) rfl (fun w hs => run_sliceTo Tryd.underlying23 sz5 rfl rfl (hi := (d.fl i).syn + pickN picks (x + 1) ((d.fl i).b.length - (d.fl i).syn)) rfl (by omega)) hK ?_
          refine aw_ready [25] (by kernel_rfl) (by simp) ?_
          refine ⟨⟨_, rfl, ?_⟩, trivial⟩
          refine lw_call rfl en84 (clone_sl hs (l := ((d.fl i).b.take ((d.fl i).syn + pickN picks (x + 1) ((d.fl i).b.length - (d.fl i).syn))).drop 0) ((hs.rdOwn 1 rfl).subB (by omega) (by omega)) (by simp; omega)) ?_
          clear hs
          rintro _ w ⟨a86, c86, rfl, hs⟩
          clear hK
          have hK := hs.tail.hold2
          refine lw_nil ⟨hK, ?_⟩
          refine aw_take 26 rfl (by kernel_rfl) (by kernel_rfl) (by kernel_rfl) rfl (fun w hs => run_nilCheckP rfl) hK ?_
          first | refine aw_take 27 rfl (by kernel_rfl) (by kernel_rfl) (by kernel_rfl) rfl (fun w hs => run_fieldAddr (o' := 1) Tryd.underlying115 rfl sz23 rfl rfl rfl) hK ?_ | refine aw_take 27 rfl (by kernel_rfl) (by kernel_rfl) (by kernel_rfl) rfl (fun w hs => run_fieldAddr Tryd.underlying115 rfl sz23 rfl rfl rfl) hK ?_
          refine aw_ready [28] (by kernel_rfl) (by simp) ?_
          refine ⟨⟨_, rfl, ?_⟩, trivial⟩
          first | refine lw_store (v := .slice _ _ _) hs 0 rfl sz23 rfl rfl rfl rfl ?_ | refine lw_store (v := .slice _ _ _) hs 1 rfl sz23 rfl rfl rfl rfl ?_ | refine lw_store (v := .slice _ _ _) hs 2 rfl sz23 rfl rfl rfl rfl ?_ | refine lw_store (v := .slice _ _ _) hs 3 rfl sz23 rfl rfl rfl rfl ?_ | refine lw_store (v := .slice _ _ _) hs 4 rfl sz23 rfl rfl rfl rfl ?_ | refine lw_store (v := .slice _ _ _) hs 5 rfl sz23 rfl rfl rfl rfl ?_ | refine lw_store (v := .slice _ _ _) hs 6 rfl sz23 rfl rfl rfl rfl ?_ | refine lw_store (v := .slice _ _ _) hs 7 rfl sz23 rfl rfl rfl rfl ?_ | refine lw_store (v := .slice _ _ _) hs 8 rfl sz23 rfl rfl rfl rfl ?_ | refine lw_store (v := .slice _ _ _) hs 9 rfl sz23 rfl rfl rfl rfl ?_ | refine lw_store (v := .slice _ _ _) hs 10 rfl sz23 rfl rfl rfl rfl ?_ | refine lw_store (v := .slice _ _ _) hs 11 rfl sz23 rfl rfl rfl rfl ?_ | refine lw_store (v := .slice _ _ _) hs 12 rfl sz23 rfl rfl rfl rfl ?_ | refine lw_store (v := .slice _ _ _) hs 13 rfl sz23 rfl rfl rfl rfl ?_
          clear hs
          intro w hs
          try simp only [List.set_cons_succ, List.set_cons_zero] at hs
          clear hK
          have hK := hs.tail.hold2
          refine lw_nil ⟨hK, ?_⟩
          refine aw_done (by kernel_rfl) ?_
          clear hK
          refine cw_region ?_
          first | refine lw_val rfl (run_move (v := .pointer (some _)) rfl) ?_ | refine lw_val rfl (run_move (v := .pointer none) rfl) ?_
          first | refine lw_val rfl (run_move (v := .pointer (some _)) rfl) ?_ | refine lw_val rfl (run_move (v := .pointer none) rfl) ?_
          refine lw_val rfl (run_nilCheckP rfl) ?_
          first | refine lw_val rfl (run_fieldAddr (o' := 1) Tryd.underlying115 rfl sz23 rfl rfl rfl) ?_ | refine lw_val rfl (run_fieldAddr Tryd.underlying115 rfl sz23 rfl rfl rfl) ?_
          first | refine lw_val rfl (run_load Tryd.underlying23 rfl rfl (hs.cellAt 0 rfl rfl)) ?_ | refine lw_val rfl (run_load Tryd.underlying23 rfl rfl (hs.cellAt 1 rfl rfl)) ?_ | refine lw_val rfl (run_load Tryd.underlying23 rfl rfl (hs.cellAt 2 rfl rfl)) ?_ | refine lw_val rfl (run_load Tryd.underlying23 rfl rfl (hs.cellAt 3 rfl rfl)) ?_ | refine lw_val rfl (run_load Tryd.underlying23 rfl rfl (hs.cellAt 4 rfl rfl)) ?_ | refine lw_val rfl (run_load Tryd.underlying23 rfl rfl (hs.cellAt 5 rfl rfl)) ?_ | refine lw_val rfl (run_load Tryd.underlying23 rfl rfl (hs.cellAt 6 rfl rfl)) ?_ | refine lw_val rfl (run_load Tryd.underlying23 rfl rfl (hs.cellAt 7 rfl rfl)) ?_ | refine lw_val rfl (run_load Tryd.underlying23 rfl rfl (hs.cellAt 8 rfl rfl)) ?_ | refine lw_val rfl (run_load Tryd.underlying23 rfl rfl (hs.cellAt 9 rfl rfl)) ?_ | refine lw_val rfl (run_load Tryd.underlying23 rfl rfl (hs.cellAt 10 rfl rfl)) ?_ | refine lw_val rfl (run_load Tryd.underlying23 rfl rfl (hs.cellAt 11 rfl rfl)) ?_ | refine lw_val rfl (run_load Tryd.underlying23 rfl rfl (hs.cellAt 12 rfl rfl)) ?_ | refine lw_val rfl (run_load Tryd.underlying23 rfl rfl (hs.cellAt 13 rfl rfl)) ?_
          refine lw_val rfl (run_lenS Tryd.underlying23 rfl) ?_
          refine lw_val rfl (run_nilCheckP rfl) ?_
          first | refine lw_val rfl (run_fieldAddr (o' := 2) Tryd.underlying115 rfl sz3 rfl rfl rfl) ?_ | refine lw_val rfl (run_fieldAddr Tryd.underlying115 rfl sz3 rfl rfl rfl) ?_
          first | refine lw_store (v := .int .i64 _) hs 0 rfl sz3 rfl rfl rfl rfl ?_ | refine lw_store (v := .int .i64 _) hs 1 rfl sz3 rfl rfl rfl rfl ?_ | refine lw_store (v := .int .i64 _) hs 2 rfl sz3 rfl rfl rfl rfl ?_ | refine lw_store (v := .int .i64 _) hs 3 rfl sz3 rfl rfl rfl rfl ?_ | refine lw_store (v := .int .i64 _) hs 4 rfl sz3 rfl rfl rfl rfl ?_ | refine lw_store (v := .int .i64 _) hs 5 rfl sz3 rfl rfl rfl rfl ?_ | refine lw_store (v := .int .i64 _) hs 6 rfl sz3 rfl rfl rfl rfl ?_ | refine lw_store (v := .int .i64 _) hs 7 rfl sz3 rfl rfl rfl rfl ?_ | refine lw_store (v := .int .i64 _) hs 8 rfl sz3 rfl rfl rfl rfl ?_ | refine lw_store (v := .int .i64 _) hs 9 rfl sz3 rfl rfl rfl rfl ?_ | refine lw_store (v := .int .i64 _) hs 10 rfl sz3 rfl rfl rfl rfl ?_ | refine lw_store (v := .int .i64 _) hs 11 rfl sz3 rfl rfl rfl rfl ?_ | refine lw_store (v := .int .i64 _) hs 12 rfl sz3 rfl rfl rfl rfl ?_ | refine lw_store (v := .int .i64 _) hs 13 rfl sz3 rfl rfl rfl rfl ?_
          clear hs
          intro w hs
          try simp only [List.set_cons_succ, List.set_cons_zero] at hs
          refine lw_nil ?_
          refine cw_region ?_
          refine lw_val rfl (run_add64 rfl rfl rfl (inI (by omega) (by omega))) ?_
          first | refine lw_val rfl (run_move (v := .int .i64 _) rfl) ?_
          refine lw_nil ?_
          rw [bytesL_len] at hs
          have h1 := Mem.closeF2 (f := (d.fl i).crashed picks x) (L := own (.slice (some ⟨lb, lo2, none⟩) ids.length lc) (ids'.map (fptr ptr)) :: famX flC (· = i) ptr (crashFs picks 0 (ids'.take x) d.fs) :: cells p (diskL mn mk d sa sc) 110 :: mapS mn (nmV ptr d.names) :: mapS mk (nmV ptr kept) :: rowK 3 (.slice sa d.changes.length sc) (d.changes.map (chgV ptr)) :: L) rfl rfl rfl rfl (hs.arr [1, 0, 3, 4, 5, 6, 7, 8] 9 (by decide))
          have h2 := Mem.famPut (R := flC) (k := i) h1 1 rfl (fun _ h => h)
          rw [aput_same hb] at h2
          refine ⟨x + 1, by omega, ⟨by omega, ?_⟩, ⟨rfl, trivial⟩, by repeat (first | exact Out.mix _ _ _ | refine Out.updo rfl ?_ | refine Out.upd rfl ?_ | refine Out.mixIn rfl ?_)⟩
          have e3 : crashFs picks 0 (ids'.take (x + 1)) d.fs = aput (crashFs picks 0 (ids'.take x) d.fs) i ((d.fl i).crashed picks x) := by rw [List.take_add_one, hi, Option.toList_some, crashFs_snoc]; simp only [crashStep, hf2, Nat.zero_add, List.length_take]; rw [Nat.min_eq_left (by omega)]
          rw [e3]
          exact h2
        · skip
          first | refine lw_val rfl (run_load Tryd.underlying23 rfl rfl (hs.cellAt 0 rfl rfl)) ?_ | refine lw_val rfl (run_load Tryd.underlying23 rfl rfl (hs.cellAt 1 rfl rfl)) ?_ | refine lw_val rfl (run_load Tryd.underlying23 rfl rfl (hs.cellAt 2 rfl rfl)) ?_ | refine lw_val rfl (run_load Tryd.underlying23 rfl rfl (hs.cellAt 3 rfl rfl)) ?_ | refine lw_val rfl (run_load Tryd.underlying23 rfl rfl (hs.cellAt 4 rfl rfl)) ?_ | refine lw_val rfl (run_load Tryd.underlying23 rfl rfl (hs.cellAt 5 rfl rfl)) ?_ | refine lw_val rfl (run_load Tryd.underlying23 rfl rfl (hs.cellAt 6 rfl rfl)) ?_ | refine lw_val rfl (run_load Tryd.underlying23 rfl rfl (hs.cellAt 7 rfl rfl)) ?_ | refine lw_val rfl (run_load Tryd.underlying23 rfl rfl (hs.cellAt 8 rfl rfl)) ?_ | refine lw_val rfl (run_load Tryd.underlying23 rfl rfl (hs.cellAt 9 rfl rfl)) ?_ | refine lw_val rfl (run_load Tryd.underlying23 rfl rfl (hs.cellAt 10 rfl rfl)) ?_ | refine lw_val rfl (run_load Tryd.underlying23 rfl rfl (hs.cellAt 11 rfl rfl)) ?_ | refine lw_val rfl (run_load Tryd.underlying23 rfl rfl (hs.cellAt 12 rfl rfl)) ?_ | refine lw_val rfl (run_load Tryd.underlying23 rfl rfl (hs.cellAt 13 rfl rfl)) ?_
          clear hK
          have hK := hs.hold2
          refine lw_nil ⟨hK, ?_⟩
          refine aw_take 16 rfl (by kernel_rfl) (by kernel_rfl) (by kernel_rfl) rfl (fun w hs => run_lenS Tryd.underlying23 rfl) hK ?_
          refine aw_take 21 rfl (by kernel_rfl) (by kernel_rfl) (by kernel_rfl) rfl (fun w hs => run_sub64 rfl rfl (c := (((d.fl i).b.length - (d.fl i).syn : Nat) : Int)) (by omega) (inI (by omega) (by omega))) hK ?_
          refine aw_ready [4, 22] (by kernel_rfl) (by simp) ?_
          refine ⟨⟨_, rfl, ?_⟩, ⟨_, rfl, ?_⟩, trivial⟩
          · skip
            first | refine lw_val rfl (run_load Tryd.underlying23 rfl rfl (hs.cellAt 0 rfl rfl)) ?_ | refine lw_val rfl (run_load Tryd.underlying23 rfl rfl (hs.cellAt 1 rfl rfl)) ?_ | refine lw_val rfl (run_load Tryd.underlying23 rfl rfl (hs.cellAt 2 rfl rfl)) ?_ | refine lw_val rfl (run_load Tryd.underlying23 rfl rfl (hs.cellAt 3 rfl rfl)) ?_ | refine lw_val rfl (run_load Tryd.underlying23 rfl rfl (hs.cellAt 4 rfl rfl)) ?_ | refine lw_val rfl (run_load Tryd.underlying23 rfl rfl (hs.cellAt 5 rfl rfl)) ?_ | refine lw_val rfl (run_load Tryd.underlying23 rfl rfl (hs.cellAt 6 rfl rfl)) ?_ | refine lw_val rfl (run_load Tryd.underlying23 rfl rfl (hs.cellAt 7 rfl rfl)) ?_ | refine lw_val rfl (run_load Tryd.underlying23 rfl rfl (hs.cellAt 8 rfl rfl)) ?_ | refine lw_val rfl (run_load Tryd.underlying23 rfl rfl (hs.cellAt 9 rfl rfl)) ?_ | refine lw_val rfl (run_load Tryd.underlying23 rfl rfl (hs.cellAt 10 rfl rfl)) ?_ | refine lw_val rfl (run_load Tryd.underlying23 rfl rfl (hs.cellAt 11 rfl rfl)) ?_ | refine lw_val rfl (run_load Tryd.underlying23 rfl rfl (hs.cellAt 12 rfl rfl)) ?_ | refine lw_val rfl (run_load Tryd.underlying23 rfl rfl (hs.cellAt 13 rfl rfl)) ?_
            clear hK
            have hK := hs.hold2
            refine lw_nil ⟨hK, ?_⟩
            refine aw_ready [22] (by kernel_rfl) (by simp) ?_
            refine ⟨⟨_, rfl, ?_⟩, trivial⟩
            refine lw_call rfl en85 (picked_sl hs ((((((((hr.cons).cons).cons).cons).cons).cons).cons).cons) hm (x + 1) ((d.fl i).b.length - (d.fl i).syn) (by omega)) ?_
            clear hs
            rintro _ w ⟨rfl, hs⟩
            clear hK
            have hK := hs.hold2
            refine lw_nil ⟨hK, ?_⟩
            refine aw_take 23 rfl (by kernel_rfl) (by kernel_rfl) (by kernel_rfl) rfl (fun w hs => run_add64 rfl rfl (c := (((d.fl i).syn + pickN picks (x + 1) ((d.fl i).b.length - (d.fl i).syn) : Nat) : Int)) (by omega) (inI (by omega) (by omega))) hK ?_
            refine aw_take 24 rfl (by kernel_rfl) (by kernel_rfl) (by kernel_rfl) rfl (fun w hs => run_sliceTo Tryd.underlying23 sz5 rfl rfl (hi := (d.fl i).syn + pickN picks (x + 1) ((d.fl i).b.length - (d.fl i).syn)) rfl (by omega)) hK ?_
            refine aw_ready [25] (by kernel_rfl) (by simp) ?_
            refine ⟨⟨_, rfl, ?_⟩, trivial⟩
            refine lw_call rfl en84 (clone_sl hs (l := ((d.fl i).b.take ((d.fl i).syn + pickN picks (x + 1) ((d.fl i).b.length - (d.fl i).syn))).drop 0) ((hs.rdOwn 1 rfl).subB (by omega) (by omega)) (by simp; omega)) ?_
            clear hs
            rintro _ w ⟨a86, c86, rfl, hs⟩
            clear hK
            have hK := hs.tail.hold2
            refine lw_nil ⟨hK, ?_⟩
            refine aw_take 26 rfl (by kernel_rfl) (by kernel_rfl) (by kernel_rfl) rfl (fun w hs => run_nilCheckP rfl) hK ?_
            first | refine aw_take 27 rfl (by kernel_rfl) (by kernel_rfl) (by kernel_rfl) rfl (fun w hs => run_fieldAddr (o' := 1) Tryd.underlying115 rfl sz23 rfl rfl rfl) hK ?_ | refine aw_take 27 rfl (by kernel_rfl) (by kernel_rfl) (by kernel_rfl) rfl (fun w hs => run_fieldAddr Tryd.underlying115 rfl sz23 rfl rfl rfl) hK ?_
            refine aw_ready [28] (by kernel_rfl) (by simp) ?_
            refine ⟨⟨_, rfl, ?_⟩, trivial⟩
            first | refine lw_store (v := .slice _ _ _) hs 0 rfl sz23 rfl rfl rfl rfl ?_ | refine lw_store (v := .slice _ _ _) hs 1 rfl sz23 rfl rfl rfl rfl ?_ | refine lw_store (v := .slice _ _ _) hs 2 rfl sz23 rfl rfl rfl rfl ?_ | refine lw_store (v := .slice _ _ _) hs 3 rfl sz23 rfl rfl rfl rfl ?_ | refine lw_store (v := .slice _ _ _) hs 4 rfl sz23 rfl rfl rfl rfl ?_ | refine lw_store (v := .slice _ _ _) hs 5 rfl sz23 rfl rfl rfl rfl ?_ | refine lw_store (v := .slice _ _ _) hs 6 rfl sz23 rfl rfl rfl rfl ?_ | refine lw_store (v := .slice _ _ _) hs 7 rfl sz23 rfl rfl rfl rfl ?_ | refine lw_store (v := .slice _ _ _) hs 8 rfl sz23 rfl rfl rfl rfl ?_ | refine lw_store (v := .slice _ _ _) hs 9 rfl sz23 rfl rfl rfl rfl ?_ | refine lw_store (v := .slice _ _ _) hs 10 rfl sz23 rfl rfl rfl rfl ?_ | refine lw_store (v := .slice _ _ _) hs 11 rfl sz23 rfl rfl rfl rfl ?_ | refine lw_store (v := .slice _ _ _) hs 12 rfl sz23 rfl rfl rfl rfl ?_ | refine lw_store (v := .slice _ _ _) hs 13 rfl sz23 rfl rfl rfl rfl ?_
            clear hs
            intro w hs
            try simp only [List.set_cons_succ, List.set_cons_zero] at hs
            clear hK
            have hK := hs.tail.hold2
            refine lw_nil ⟨hK, ?_⟩
            refine aw_done (by kernel_rfl) ?_
            clear hK
            refine cw_region ?_
            first | refine lw_val rfl (run_move (v := .pointer (some _)) rfl) ?_ | refine lw_val rfl (run_move (v := .pointer none) rfl) ?_
            first | refine lw_val rfl (run_move (v := .pointer (some _)) rfl) ?_ | refine lw_val rfl (run_move (v := .pointer none) rfl) ?_
            refine lw_val rfl (run_nilCheckP rfl) ?_
            first | refine lw_val rfl (run_fieldAddr (o' := 1) Tryd.underlying115 rfl sz23 rfl rfl rfl) ?_ | refine lw_val rfl (run_fieldAddr Tryd.underlying115 rfl sz23 rfl rfl rfl) ?_
            first | refine lw_val rfl (run_load Tryd.underlying23 rfl rfl (hs.cellAt 0 rfl rfl)) ?_ | refine lw_val rfl (run_load Tryd.underlying23 rfl rfl (hs.cellAt 1 rfl rfl)) ?_ | refine lw_val rfl (run_load Tryd.underlying23 rfl rfl (hs.cellAt 2 rfl rfl)) ?_ | refine lw_val rfl (run_load Tryd.underlying23 rfl rfl (hs.cellAt 3 rfl rfl)) ?_ | refine lw_val rfl (run_load Tryd.underlying23 rfl rfl (hs.cellAt 4 rfl rfl)) ?_ | refine lw_val rfl (run_load Tryd.underlying23 rfl rfl (hs.cellAt 5 rfl rfl)) ?_ | refine lw_val rfl (run_load Tryd.underlying23 rfl rfl (hs.cellAt 6 rfl rfl)) ?_ | refine lw_val rfl (run_load Tryd.underlying23 rfl rfl (hs.cellAt 7 rfl rfl)) ?_ | refine lw_val rfl (run_load Tryd.underlying23 rfl rfl (hs.cellAt 8 rfl rfl)) ?_ | refine lw_val rfl (run_load Tryd.underlying23 rfl rfl (hs.cellAt 9 rfl rfl)) ?_ | refine lw_val rfl (run_load Tryd.underlying23 rfl rfl (hs.cellAt 10 rfl rfl)) ?_ | refine lw_val rfl (run_load Tryd.underlying23 rfl rfl (hs.cellAt 11 rfl rfl)) ?_ | refine lw_val rfl (run_load Tryd.underlying23 rfl rfl (hs.cellAt 12 rfl rfl)) ?_ | refine lw_val rfl (run_load Tryd.underlying23 rfl rfl (hs.cellAt 13 rfl rfl)) ?_
            refine lw_val rfl (run_lenS Tryd.underlying23 rfl) ?_
            refine lw_val rfl (run_nilCheckP rfl) ?_
            first | refine lw_val rfl (run_fieldAddr (o' := 2) Tryd.underlying115 rfl sz3 rfl rfl rfl) ?_ | refine lw_val rfl (run_fieldAddr Tryd.underlying115 rfl sz3 rfl rfl rfl) ?_
            first | refine lw_store (v := .int .i64 _) hs 0 rfl sz3 rfl rfl rfl rfl ?_ | refine lw_store (v := .int .i64 _) hs 1 rfl sz3 rfl rfl rfl rfl ?_ | refine lw_store (v := .int .i64 _) hs 2 rfl sz3 rfl rfl rfl rfl ?_ | refine lw_store (v := .int .i64 _) hs 3 rfl sz3 rfl rfl rfl rfl ?_ | refine lw_store (v := .int .i64 _) hs 4 rfl sz3 rfl rfl rfl rfl ?_ | refine lw_store (v := .int .i64 _) hs 5 rfl sz3 rfl rfl rfl rfl ?_ | refine lw_store (v := .int .i64 _) hs 6 rfl sz3 rfl rfl rfl rfl ?_ | refine lw_store (v := .int .i64 _) hs 7 rfl sz3 rfl rfl rfl rfl ?_ | refine lw_store (v := .int .i64 _) hs 8 rfl sz3 rfl rfl rfl rfl ?_ | refine lw_store (v := .int .i64 _) hs 9 rfl sz3 rfl rfl rfl rfl ?_ | refine lw_store (v := .int .i64 _) hs 10 rfl sz3 rfl rfl rfl rfl ?_ | refine lw_store (v := .int .i64 _) hs 11 rfl sz3 rfl rfl rfl rfl ?_ | refine lw_store (v := .int .i64 _) hs 12 rfl sz3 rfl rfl rfl rfl ?_ | refine lw_store (v := .int .i64 _) hs 13 rfl sz3 rfl rfl rfl rfl ?_
            clear hs
            intro w hs
            try simp only [List.set_cons_succ, List.set_cons_zero] at hs
            refine lw_nil ?_
            refine cw_region ?_
            refine lw_val rfl (run_add64 rfl rfl rfl (inI (by omega) (by omega))) ?_
            first | refine lw_val rfl (run_move (v := .int .i64 _) rfl) ?_
            refine lw_nil ?_
            rw [bytesL_len] at hs
            have h1 := Mem.closeF2 (f := (d.fl i).crashed picks x) (L := own (.slice (some ⟨lb, lo2, none⟩) ids.length lc) (ids'.map (fptr ptr)) :: famX flC (· = i) ptr (crashFs picks 0 (ids'.take x) d.fs) :: cells p (diskL mn mk d sa sc) 110 :: mapS mn (nmV ptr d.names) :: mapS mk (nmV ptr kept) :: rowK 3 (.slice sa d.changes.length sc) (d.changes.map (chgV ptr)) :: L) rfl rfl rfl rfl (hs.arr [1, 0, 3, 4, 5, 6, 7, 8] 9 (by decide))
            have h2 := Mem.famPut (R := flC) (k := i) h1 1 rfl (fun _ h => h)
            rw [aput_same hb] at h2
            refine ⟨x + 1, by omega, ⟨by omega, ?_⟩, ⟨rfl, trivial⟩, by repeat (first | exact Out.mix _ _ _ | refine Out.updo rfl ?_ | refine Out.upd rfl ?_ | refine Out.mixIn rfl ?_)⟩
            have e3 : crashFs picks 0 (ids'.take (x + 1)) d.fs = aput (crashFs picks 0 (ids'.take x) d.fs) i ((d.fl i).crashed picks x) := by rw [List.take_add_one, hi, Option.toList_some, crashFs_snoc]; simp only [crashStep, hf2, Nat.zero_add, List.length_take]; rw [Nat.min_eq_left (by omega)]
            rw [e3]
            exact h2
          · skip
            refine lw_call rfl en85 (picked_sl hs ((((((((hr.cons).cons).cons).cons).cons).cons).cons).cons) hm (x + 1) ((d.fl i).b.length - (d.fl i).syn) (by omega)) ?_
            clear hs
            rintro _ w ⟨rfl, hs⟩
            clear hK
            have hK := hs.hold2
            refine lw_nil ⟨hK, ?_⟩
            refine aw_take 23 rfl (by kernel_rfl) (by kernel_rfl) (by kernel_rfl) rfl (fun w hs => run_add64 rfl rfl (c := (((d.fl i).syn + pickN picks (x + 1) ((d.fl i).b.length - (d.fl i).syn) : Nat) : Int)) (by omega) (inI (by omega) (by omega))) hK ?_
            refine aw_ready [4] (by kernel_rfl) (by simp) ?_
            refine ⟨⟨_, rfl, ?_⟩, trivial⟩
            first | refine lw_val rfl (run_load Tryd.underlying23 rfl rfl (hs.cellAt 0 rfl rfl)) ?_ | refine lw_val rfl (run_load Tryd.underlying23 rfl rfl (hs.cellAt 1 rfl rfl)) ?_ | refine lw_val rfl (run_load Tryd.underlying23 rfl rfl (hs.cellAt 2 rfl rfl)) ?_ | refine lw_val rfl (run_load Tryd.underlying23 rfl rfl (hs.cellAt 3 rfl rfl)) ?_ | refine lw_val rfl (run_load Tryd.underlying23 rfl rfl (hs.cellAt 4 rfl rfl)) ?_ | refine lw_val rfl (run_load Tryd.underlying23 rfl rfl (hs.cellAt 5 rfl rfl)) ?_ | refine lw_val rfl (run_load Tryd.underlying23 rfl rfl (hs.cellAt 6 rfl rfl)) ?_ | refine lw_val rfl (run_load Tryd.underlying23 rfl rfl (hs.cellAt 7 rfl rfl)) ?_ | refine lw_val rfl (run_load Tryd.underlying23 rfl rfl (hs.cellAt 8 rfl rfl)) ?_ | refine lw_val rfl (run_load Tryd.underlying23 rfl rfl (hs.cellAt 9 rfl rfl)) ?_ | refine lw_val rfl (run_load Tryd.underlying23 rfl rfl (hs.cellAt 10 rfl rfl)) ?_ | refine lw_val rfl (run_load Tryd.underlying23 rfl rfl (hs.cellAt 11 rfl rfl)) ?_ | refine lw_val rfl (run_load Tryd.underlying23 rfl rfl (hs.cellAt 12 rfl rfl)) ?_ | refine lw_val rfl (run_load Tryd.underlying23 rfl rfl (hs.cellAt 13 rfl rfl)) ?_
            clear hK
            have hK := hs.hold2
            refine lw_nil ⟨hK, ?_⟩
            refine aw_take 24 rfl (by kernel_rfl) (by kernel_rfl) (by kernel_rfl) rfl (fun w hs => run_sliceTo Tryd.underlying23 sz5 rfl rfl (hi := (d.fl i).syn + pickN picks (x + 1) ((d.fl i).b.length - (d.fl i).syn)) rfl (by omega)) hK ?_
            refine aw_ready [25] (by kernel_rfl) (by simp) ?_
            refine ⟨⟨_, rfl, ?_⟩, trivial⟩
            refine lw_call rfl en84 (clone_sl hs (l := ((d.fl i).b.take ((d.fl i).syn + pickN picks (x + 1) ((d.fl i).b.length - (d.fl i).syn))).drop 0) ((hs.rdOwn 1 rfl).subB (by omega) (by omega)) (by simp; omega)) ?_
            clear hs
            rintro _ w ⟨a86, c86, rfl, hs⟩
            clear hK
            have hK := hs.tail.hold2
            refine lw_nil ⟨hK, ?_⟩
            refine aw_take 26 rfl (by kernel_rfl) (by kernel_rfl) (by kernel_rfl) rfl (fun w hs => run_nilCheckP rfl) hK ?_
            first | refine aw_take 27 rfl (by kernel_rfl) (by kernel_rfl) (by kernel_rfl) rfl (fun w hs => run_fieldAddr (o' := 1) Tryd.underlying115 rfl sz23 rfl rfl rfl) hK ?_ | refine aw_take 27 rfl (by kernel_rfl) (by kernel_rfl) (by kernel_rfl) rfl (fun w hs => run_fieldAddr Tryd.underlying115 rfl sz23 rfl rfl rfl) hK ?_
            refine aw_ready [28] (by kernel_rfl) (by simp) ?_
            refine ⟨⟨_, rfl, ?_⟩, trivial⟩
            first | refine lw_store (v := .slice _ _ _) hs 0 rfl sz23 rfl rfl rfl rfl ?_ | refine lw_store (v := .slice _ _ _) hs 1 rfl sz23 rfl rfl rfl rfl ?_ | refine lw_store (v := .slice _ _ _) hs 2 rfl sz23 rfl rfl rfl rfl ?_ | refine lw_store (v := .slice _ _ _) hs 3 rfl sz23 rfl rfl rfl rfl ?_ | refine lw_store (v := .slice _ _ _) hs 4 rfl sz23 rfl rfl rfl rfl ?_ | refine lw_store (v := .slice _ _ _) hs 5 rfl sz23 rfl rfl rfl rfl ?_ | refine lw_store (v := .slice _ _ _) hs 6 rfl sz23 rfl rfl rfl rfl ?_ | refine lw_store (v := .slice _ _ _) hs 7 rfl sz23 rfl rfl rfl rfl ?_ | refine lw_store (v := .slice _ _ _) hs 8 rfl sz23 rfl rfl rfl rfl ?_ | refine lw_store (v := .slice _ _ _) hs 9 rfl sz23 rfl rfl rfl rfl ?_ | refine lw_store (v := .slice _ _ _) hs 10 rfl sz23 rfl rfl rfl rfl ?_ | refine lw_store (v := .slice _ _ _) hs 11 rfl sz23 rfl rfl rfl rfl ?_ | refine lw_store (v := .slice _ _ _) hs 12 rfl sz23 rfl rfl rfl rfl ?_ | refine lw_store (v := .slice _ _ _) hs 13 rfl sz23 rfl rfl rfl rfl ?_
            clear hs
            intro w hs
            try simp only [List.set_cons_succ, List.set_cons_zero] at hs
            clear hK
            have hK := hs.tail.hold2
            refine lw_nil ⟨hK, ?_⟩
            refine aw_done (by kernel_rfl) ?_
            clear hK
            refine cw_region ?_
            first | refine lw_val rfl (run_move (v := .pointer (some _)) rfl) ?_ | refine lw_val rfl (run_move (v := .pointer none) rfl) ?_
            first | refine lw_val rfl (run_move (v := .pointer (some _)) rfl) ?_ | refine lw_val rfl (run_move (v := .pointer none) rfl) ?_
            refine lw_val rfl (run_nilCheckP rfl) ?_
            first | refine lw_val rfl (run_fieldAddr (o' := 1) Tryd.underlying115 rfl sz23 rfl rfl rfl) ?_ | refine lw_val rfl (run_fieldAddr Tryd.underlying115 rfl sz23 rfl rfl rfl) ?_
            first | refine lw_val rfl (run_load Tryd.underlying23 rfl rfl (hs.cellAt 0 rfl rfl)) ?_ | refine lw_val rfl (run_load Tryd.underlying23 rfl rfl (hs.cellAt 1 rfl rfl)) ?_ | refine lw_val rfl (run_load Tryd.underlying23 rfl rfl (hs.cellAt 2 rfl rfl)) ?_ | refine lw_val rfl (run_load Tryd.underlying23 rfl rfl (hs.cellAt 3 rfl rfl)) ?_ | refine lw_val rfl (run_load Tryd.underlying23 rfl rfl (hs.cellAt 4 rfl rfl)) ?_ | refine lw_val rfl (run_load Tryd.underlying23 rfl rfl (hs.cellAt 5 rfl rfl)) ?_ | refine lw_val rfl (run_load Tryd.underlying23 rfl rfl (hs.cellAt 6 rfl rfl)) ?_ | refine lw_val rfl (run_load Tryd.underlying23 rfl rfl (hs.cellAt 7 rfl rfl)) ?_ | refine lw_val rfl (run_load Tryd.underlying23 rfl rfl (hs.cellAt 8 rfl rfl)) ?_ | refine lw_val rfl (run_load Tryd.underlying23 rfl rfl (hs.cellAt 9 rfl rfl)) ?_ | refine lw_val rfl (run_load Tryd.underlying23 rfl rfl (hs.cellAt 10 rfl rfl)) ?_ | refine lw_val rfl (run_load Tryd.underlying23 rfl rfl (hs.cellAt 11 rfl rfl)) ?_ | refine lw_val rfl (run_load Tryd.underlying23 rfl rfl (hs.cellAt 12 rfl rfl)) ?_ | refine lw_val rfl (run_load Tryd.underlying23 rfl rfl (hs.cellAt 13 rfl rfl)) ?_
            refine lw_val rfl (run_lenS Tryd.underlying23 rfl) ?_
            refine lw_val rfl (run_nilCheckP rfl) ?_
            first | refine lw_val rfl (run_fieldAddr (o' := 2) Tryd.underlying115 rfl sz3 rfl rfl rfl) ?_ | refine lw_val rfl (run_fieldAddr Tryd.underlying115 rfl sz3 rfl rfl rfl) ?_
            first | refine lw_store (v := .int .i64 _) hs 0 rfl sz3 rfl rfl rfl rfl ?_ | refine lw_store (v := .int .i64 _) hs 1 rfl sz3 rfl rfl rfl rfl ?_ | refine lw_store (v := .int .i64 _) hs 2 rfl sz3 rfl rfl rfl rfl ?_ | refine lw_store (v := .int .i64 _) hs 3 rfl sz3 rfl rfl rfl rfl ?_ | refine lw_store (v := .int .i64 _) hs 4 rfl sz3 rfl rfl rfl rfl ?_ | refine lw_store (v := .int .i64 _) hs 5 rfl sz3 rfl rfl rfl rfl ?_ | refine lw_store (v := .int .i64 _) hs 6 rfl sz3 rfl rfl rfl rfl ?_ | refine lw_store (v := .int .i64 _) hs 7 rfl sz3 rfl rfl rfl rfl ?_ | refine lw_store (v := .int .i64 _) hs 8 rfl sz3 rfl rfl rfl rfl ?_ | refine lw_store (v := .int .i64 _) hs 9 rfl sz3 rfl rfl rfl rfl ?_ | refine lw_store (v := .int .i64 _) hs 10 rfl sz3 rfl rfl rfl rfl ?_ | refine lw_store (v := .int .i64 _) hs 11 rfl sz3 rfl rfl rfl rfl ?_ | refine lw_store (v := .int .i64 _) hs 12 rfl sz3 rfl rfl rfl rfl ?_ | refine lw_store (v := .int .i64 _) hs 13 rfl sz3 rfl rfl rfl rfl ?_
            clear hs
            intro w hs
            try simp only [List.set_cons_succ, List.set_cons_zero] at hs
            refine lw_nil ?_
            refine cw_region ?_
            refine lw_val rfl (run_add64 rfl rfl rfl (inI (by omega) (by omega))) ?_
            first | refine lw_val rfl (run_move (v := .int .i64 _) rfl) ?_
            refine lw_nil ?_
            rw [bytesL_len] at hs
            have h1 := Mem.closeF2 (f := (d.fl i).crashed picks x) (L := own (.slice (some ⟨lb, lo2, none⟩) ids.length lc) (ids'.map (fptr ptr)) :: famX flC (· = i) ptr (crashFs picks 0 (ids'.take x) d.fs) :: cells p (diskL mn mk d sa sc) 110 :: mapS mn (nmV ptr d.names) :: mapS mk (nmV ptr kept) :: rowK 3 (.slice sa d.changes.length sc) (d.changes.map (chgV ptr)) :: L) rfl rfl rfl rfl (hs.arr [1, 0, 3, 4, 5, 6, 7, 8] 9 (by decide))
            have h2 := Mem.famPut (R := flC) (k := i) h1 1 rfl (fun _ h => h)
            rw [aput_same hb] at h2
            refine ⟨x + 1, by omega, ⟨by omega, ?_⟩, ⟨rfl, trivial⟩, by repeat (first | exact Out.mix _ _ _ | refine Out.updo rfl ?_ | refine Out.upd rfl ?_ | refine Out.mixIn rfl ?_)⟩
            have e3 : crashFs picks 0 (ids'.take (x + 1)) d.fs = aput (crashFs picks 0 (ids'.take x) d.fs) i ((d.fl i).crashed picks x) := by rw [List.take_add_one, hi, Option.toList_some, crashFs_snoc]; simp only [crashStep, hf2, Nat.zero_add, List.length_take]; rw [Nat.min_eq_left (by omega)]
            rw [e3]
            exact h2
      · intro h57
        have g57 := of_decide_eq_false h57
        obtain rfl : x = ids'.length := by omega
        rw [List.take_of_length_le (Nat.le_refl _), hids] at hs
        refine cw_exit rfl ?_
        refine cw_seq ?_
        refine cw_region ?_
        first | refine lw_val rfl (run_move (v := .pointer (some _)) rfl) ?_ | refine lw_val rfl (run_move (v := .pointer none) rfl) ?_
        first | refine lw_val rfl (run_move (v := .pointer (some _)) rfl) ?_ | refine lw_val rfl (run_move (v := .pointer none) rfl) ?_
        first | refine lw_val rfl (run_move (v := .pointer (some _)) rfl) ?_ | refine lw_val rfl (run_move (v := .pointer none) rfl) ?_
        refine lw_val rfl (run_nilCheckP rfl) ?_
        first | refine lw_val rfl (run_fieldAddr (o' := 2) Tryd.underlying110 rfl sz107 rfl rfl rfl) ?_ | refine lw_val rfl (run_fieldAddr Tryd.underlying110 rfl sz107 rfl rfl rfl) ?_
        first | refine lw_val rfl (run_load Tryd.underlying107 rfl rfl (hs.cellAt 0 rfl rfl)) ?_ | refine lw_val rfl (run_load Tryd.underlying107 rfl rfl (hs.cellAt 1 rfl rfl)) ?_ | refine lw_val rfl (run_load Tryd.underlying107 rfl rfl (hs.cellAt 2 rfl rfl)) ?_ | refine lw_val rfl (run_load Tryd.underlying107 rfl rfl (hs.cellAt 3 rfl rfl)) ?_ | refine lw_val rfl (run_load Tryd.underlying107 rfl rfl (hs.cellAt 4 rfl rfl)) ?_ | refine lw_val rfl (run_load Tryd.underlying107 rfl rfl (hs.cellAt 5 rfl rfl)) ?_ | refine lw_val rfl (run_load Tryd.underlying107 rfl rfl (hs.cellAt 6 rfl rfl)) ?_ | refine lw_val rfl (run_load Tryd.underlying107 rfl rfl (hs.cellAt 7 rfl rfl)) ?_ | refine lw_val rfl (run_load Tryd.underlying107 rfl rfl (hs.cellAt 8 rfl rfl)) ?_ | refine lw_val rfl (run_load Tryd.underlying107 rfl rfl (hs.cellAt 9 rfl rfl)) ?_ | refine lw_val rfl (run_load Tryd.underlying107 rfl rfl (hs.cellAt 10 rfl rfl)) ?_ | refine lw_val rfl (run_load Tryd.underlying107 rfl rfl (hs.cellAt 11 rfl rfl)) ?_ | refine lw_val rfl (run_load Tryd.underlying107 rfl rfl (hs.cellAt 12 rfl rfl)) ?_ | refine lw_val rfl (run_load Tryd.underlying107 rfl rfl (hs.cellAt 13 rfl rfl)) ?_
        refine lw_call rfl en90 (mclone_sl hs 4 rfl) ?_
        clear hs
        rintro _ w ⟨m104, rfl, hs⟩
        refine lw_val rfl (run_nilCheckP rfl) ?_
        first | refine lw_val rfl (run_fieldAddr (o' := 1) Tryd.underlying110 rfl sz107 rfl rfl rfl) ?_ | refine lw_val rfl (run_fieldAddr Tryd.underlying110 rfl sz107 rfl rfl rfl) ?_
        first | refine lw_store (v := .map _) hs 0 rfl sz107 rfl rfl rfl rfl ?_ | refine lw_store (v := .map _) hs 1 rfl sz107 rfl rfl rfl rfl ?_ | refine lw_store (v := .map _) hs 2 rfl sz107 rfl rfl rfl rfl ?_ | refine lw_store (v := .map _) hs 3 rfl sz107 rfl rfl rfl rfl ?_ | refine lw_store (v := .map _) hs 4 rfl sz107 rfl rfl rfl rfl ?_ | refine lw_store (v := .map _) hs 5 rfl sz107 rfl rfl rfl rfl ?_ | refine lw_store (v := .map _) hs 6 rfl sz107 rfl rfl rfl rfl ?_ | refine lw_store (v := .map _) hs 7 rfl sz107 rfl rfl rfl rfl ?_ | refine lw_store (v := .map _) hs 8 rfl sz107 rfl rfl rfl rfl ?_ | refine lw_store (v := .map _) hs 9 rfl sz107 rfl rfl rfl rfl ?_ | refine lw_store (v := .map _) hs 10 rfl sz107 rfl rfl rfl rfl ?_ | refine lw_store (v := .map _) hs 11 rfl sz107 rfl rfl rfl rfl ?_ | refine lw_store (v := .map _) hs 12 rfl sz107 rfl rfl rfl rfl ?_ | refine lw_store (v := .map _) hs 13 rfl sz107 rfl rfl rfl rfl ?_
        clear hs
        intro w hs
        try simp only [List.set_cons_succ, List.set_cons_zero] at hs
        refine lw_val rfl (run_nilCheckP rfl) ?_
        first | refine lw_val rfl (run_fieldAddr (o' := 3) Tryd.underlying110 rfl sz108 rfl rfl rfl) ?_ | refine lw_val rfl (run_fieldAddr Tryd.underlying110 rfl sz108 rfl rfl rfl) ?_
        first | refine lw_store (v := .slice _ _ _) hs 0 rfl sz108 rfl rfl rfl rfl ?_ | refine lw_store (v := .slice _ _ _) hs 1 rfl sz108 rfl rfl rfl rfl ?_ | refine lw_store (v := .slice _ _ _) hs 2 rfl sz108 rfl rfl rfl rfl ?_ | refine lw_store (v := .slice _ _ _) hs 3 rfl sz108 rfl rfl rfl rfl ?_ | refine lw_store (v := .slice _ _ _) hs 4 rfl sz108 rfl rfl rfl rfl ?_ | refine lw_store (v := .slice _ _ _) hs 5 rfl sz108 rfl rfl rfl rfl ?_ | refine lw_store (v := .slice _ _ _) hs 6 rfl sz108 rfl rfl rfl rfl ?_ | refine lw_store (v := .slice _ _ _) hs 7 rfl sz108 rfl rfl rfl rfl ?_ | refine lw_store (v := .slice _ _ _) hs 8 rfl sz108 rfl rfl rfl rfl ?_ | refine lw_store (v := .slice _ _ _) hs 9 rfl sz108 rfl rfl rfl rfl ?_ | refine lw_store (v := .slice _ _ _) hs 10 rfl sz108 rfl rfl rfl rfl ?_ | refine lw_store (v := .slice _ _ _) hs 11 rfl sz108 rfl rfl rfl rfl ?_ | refine lw_store (v := .slice _ _ _) hs 12 rfl sz108 rfl rfl rfl rfl ?_ | refine lw_store (v := .slice _ _ _) hs 13 rfl sz108 rfl rfl rfl rfl ?_
        clear hs
        intro w hs
        try simp only [List.set_cons_succ, List.set_cons_zero] at hs
        refine lw_nil ?_
        refine cw_region ?_
        first | refine lw_val rfl (run_move (v := .pointer (some _)) rfl) ?_ | refine lw_val rfl (run_move (v := .pointer none) rfl) ?_
        first | refine lw_val rfl (run_move (v := .pointer (some _)) rfl) ?_ | refine lw_val rfl (run_move (v := .pointer none) rfl) ?_
        refine lw_val rfl (run_nilCheckP rfl) ?_
        first | refine lw_val rfl (run_fieldAddr (o' := 5) Tryd.underlying110 rfl sz3 rfl rfl rfl) ?_ | refine lw_val rfl (run_fieldAddr Tryd.underlying110 rfl sz3 rfl rfl rfl) ?_
        first | refine lw_store (v := .int .i64 _) hs 0 rfl sz3 rfl rfl rfl rfl ?_ | refine lw_store (v := .int .i64 _) hs 1 rfl sz3 rfl rfl rfl rfl ?_ | refine lw_store (v := .int .i64 _) hs 2 rfl sz3 rfl rfl rfl rfl ?_ | refine lw_store (v := .int .i64 _) hs 3 rfl sz3 rfl rfl rfl rfl ?_ | refine lw_store (v := .int .i64 _) hs 4 rfl sz3 rfl rfl rfl rfl ?_ | refine lw_store (v := .int .i64 _) hs 5 rfl sz3 rfl rfl rfl rfl ?_ | refine lw_store (v := .int .i64 _) hs 6 rfl sz3 rfl rfl rfl rfl ?_ | refine lw_store (v := .int .i64 _) hs 7 rfl sz3 rfl rfl rfl rfl ?_ | refine lw_store (v := .int .i64 _) hs 8 rfl sz3 rfl rfl rfl rfl ?_ | refine lw_store (v := .int .i64 _) hs 9 rfl sz3 rfl rfl rfl rfl ?_ | refine lw_store (v := .int .i64 _) hs 10 rfl sz3 rfl rfl rfl rfl ?_ | refine lw_store (v := .int .i64 _) hs 11 rfl sz3 rfl rfl rfl rfl ?_ | refine lw_store (v := .int .i64 _) hs 12 rfl sz3 rfl rfl rfl rfl ?_ | refine lw_store (v := .int .i64 _) hs 13 rfl sz3 rfl rfl rfl rfl ?_
        clear hs
        intro w hs
        try simp only [List.set_cons_succ, List.set_cons_zero] at hs
        refine lw_val rfl (run_nilCheckP rfl) ?_
        first | refine lw_val rfl (run_fieldAddr (o' := 6) Tryd.underlying110 rfl sz4 rfl rfl rfl) ?_ | refine lw_val rfl (run_fieldAddr Tryd.underlying110 rfl sz4 rfl rfl rfl) ?_
        first | refine lw_store (v := .bool _) hs 0 rfl sz4 rfl rfl rfl rfl ?_ | refine lw_store (v := .bool _) hs 1 rfl sz4 rfl rfl rfl rfl ?_ | refine lw_store (v := .bool _) hs 2 rfl sz4 rfl rfl rfl rfl ?_ | refine lw_store (v := .bool _) hs 3 rfl sz4 rfl rfl rfl rfl ?_ | refine lw_store (v := .bool _) hs 4 rfl sz4 rfl rfl rfl rfl ?_ | refine lw_store (v := .bool _) hs 5 rfl sz4 rfl rfl rfl rfl ?_ | refine lw_store (v := .bool _) hs 6 rfl sz4 rfl rfl rfl rfl ?_ | refine lw_store (v := .bool _) hs 7 rfl sz4 rfl rfl rfl rfl ?_ | refine lw_store (v := .bool _) hs 8 rfl sz4 rfl rfl rfl rfl ?_ | refine lw_store (v := .bool _) hs 9 rfl sz4 rfl rfl rfl rfl ?_ | refine lw_store (v := .bool _) hs 10 rfl sz4 rfl rfl rfl rfl ?_ | refine lw_store (v := .bool _) hs 11 rfl sz4 rfl rfl rfl rfl ?_ | refine lw_store (v := .bool _) hs 12 rfl sz4 rfl rfl rfl rfl ?_ | refine lw_store (v := .bool _) hs 13 rfl sz4 rfl rfl rfl rfl ?_
        clear hs
        intro w hs
        try simp only [List.set_cons_succ, List.set_cons_zero] at hs
        refine lw_nil ?_
        refine res0  rfl ?_
        have e : d.crash picks = { d with kept := kept, names := kept, changes := [], armed := 0, down := false, fs := crashFs picks 0 (keptIds d.fs kept) d.fs } := by simp only [Dk.crash, ← hq, ← hkept]
        have hok := ho.crash picks
        rw [e] at hok ⊢
        exact ⟨_, rfl, rfl, Mem.closeD (mn := m104) (mk := mk) (sa := none) (sc := 0) (ptr := ptr) hok ((hs.addE (rows_nil _)).arr [4, 1, 6, 0, 3] 8 (by decide))⟩
    · clear hs
      intro k40 v40 w hk40 hs
      try simp only [List.set_cons_succ, List.set_cons_zero] at hs
      have hk2 := hk40
      rw [nmV_get] at hk2
      obtain ⟨i, hi, rfl⟩ := Option.map_eq_some_iff.1 hk2
      have hiy := hlo _ (aget_mem hi)
      have hiks : i ∈ keysOf d.fs := hprops.2.1 _ hiy
      obtain ⟨b, hb, hp, hf⟩ := hptr i hiks
      rw [hp] at hs ⊢
      rw [← nmV_del] at hs
      first | refine lw_val rfl (run_extract (v := .bool _) rfl rfl) ?_
      refine lw_nil ?_
      refine cw_seq ?_
      refine cw_ift rfl rfl ?_
      refine cw_skip ?_
      refine cw_block ?_
      refine cw_seq ?_
      refine cw_region ?_
      first | refine lw_val rfl (run_entryM hs 3 rfl rfl) ?_
      first | refine lw_val rfl (run_extract (v := .pointer (some _)) rfl rfl) ?_ | refine lw_val rfl (run_extract (v := .pointer none) rfl rfl) ?_
      first | refine lw_val rfl (run_assign (v := .pointer (some _)) rfl) ?_ | refine lw_val rfl (run_assign (v := .pointer none) rfl) ?_
      refine lw_nil ?_
      refine cw_seq ?_
      refine cw_region ?_
      first | refine lw_val rfl (run_move (v := .slice _ _ _) rfl) ?_
      first | refine lw_val rfl (run_move (v := .pointer (some _)) rfl) ?_ | refine lw_val rfl (run_move (v := .pointer none) rfl) ?_
      refine lw_call rfl en87 (contains_sl ho.tookB hs 5 rfl (hs.rdOwn 0 rfl) rfl (by omega) hik hiks hb) ?_
      clear hs
      rintro _ w ⟨rfl, hs⟩
      refine lw_val rfl (run_not rfl) ?_
      refine lw_nil ?_
      refine cw_if rfl ?_ ?_
      · intro h46
        replace h46 := not_b h46
        refine cw_region ?_
        first | refine lw_val rfl (run_move (v := .slice _ _ _) rfl) ?_
        first | refine lw_val rfl (run_move (v := .pointer (some _)) rfl) ?_ | refine lw_val rfl (run_move (v := .pointer none) rfl) ?_
        refine lw_buildSlice hs rfl ([.pointer (some ⟨b, 0, none⟩)]) Tryd.underlying124 zs112 rfl (by simp [Value.cells]) rfl rfl rfl ?_
        clear hs
        intro b50 w hs
        try simp only [List.set_cons_succ, List.set_cons_zero] at hs
        refine lw_append hs rfl 1 rfl Tryd.underlying124 in112 rfl rfl rfl (src_of_seq (P := Tryd.prog) Tryd.underlying124 ((Rd.cells (n := 1) (cs := [.pointer (some ⟨b, 0, none⟩)]) 0 rfl rfl).seq hs) (fun u hu => by simp at hu; subst hu; rfl)) (by simp only [List.length_map, List.length_cons, List.length_nil]; omega) (by simp only [List.length_map, List.length_cons, List.length_nil]; omega) ?_
        clear hs
        intro a51 c51 w hs
        simp only [List.set_cons_succ, List.set_cons_zero] at hs
        first | refine lw_val rfl (run_assign (v := .slice _ _ _) rfl) ?_
        refine lw_nil ?_
        have hm := of_decide_eq_false h46
        have e1 : ids.map (fptr ptr) ++ [.pointer (some ⟨b, 0, none⟩)] = (ids ++ [i]).map (fptr ptr) := by simp [hp]
        have e2 : (ids.map (fptr ptr)).length + [Value.pointer (some ⟨b, 0, none⟩)].length = (ids ++ [i]).length := by simp
        rw [e1, e2] at hs
        refine ⟨(ids ++ [i], adel lo k40, some (k40, .pointer (some ⟨b, 0, none⟩)), a51, c51), adel_shrink hi, ⟨?_, fun y hy => ?_, fun j hj => ?_, fun y hy => hlo y (adel_in hy), hs.tail⟩, ⟨by rw [← e2]; rfl, trivial⟩, by repeat (first | exact Out.mix _ _ _ | refine Out.updo rfl ?_ | refine Out.upd rfl ?_ | refine Out.mixIn rfl ?_)⟩
        · rw [List.nodup_append]; exact ⟨hnd, by simp, fun x hx y hy e => by simp at hy; subst hy; subst e; exact hm hx⟩
        · exact (hall y hy).elim (fun h => (adel_has hi h).imp id fun e => (by rw [e]; simp)) (fun h => .inr (List.mem_append_left _ h))
        · exact (List.mem_append.1 hj).elim (hfrom j) (fun h => by simp at h; subst h; exact ⟨_, hiy, rfl⟩)
      · intro h46
        replace h46 := not_c h46
        refine cw_skip ?_
        have hm := of_decide_eq_true h46
        exact ⟨(ids, adel lo k40, some (k40, .pointer (some ⟨b, 0, none⟩)), la, lc), adel_shrink hi, ⟨hnd, fun y hy => (hall y hy).elim (fun h => (adel_has hi h).imp id fun e => (by rw [e]; exact hm)) .inr, hfrom, fun y hy => hlo y (adel_in hy), hs⟩, ⟨rfl, trivial⟩, by repeat (first | exact Out.mix _ _ _ | refine Out.updo rfl ?_ | refine Out.upd rfl ?_ | refine Out.mixIn rfl ?_)⟩
end Go.Proofs.YtmnfehbnjgmgjaaDoor
