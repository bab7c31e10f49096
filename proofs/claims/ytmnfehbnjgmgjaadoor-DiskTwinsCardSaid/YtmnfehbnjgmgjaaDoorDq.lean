/- A copy of a disk: a file is copied once. -/
import Derived.Test.YtmnfehbnjgmgjaaDoorPp
namespace Go.Proofs.YtmnfehbnjgmgjaaDoor
set_option linter.all false
open Go.RowKit
attribute [local irreducible] errV
variable {g w : World} {L M : List HP} {ad : Nat → Addr} {p mn mk sc : Nat} {sa : Option Addr} {d : Dk} {ptr ptr2 : List (Nat × Nat)} {fs2 : List (Nat × Fl)}

def oP (ptr : List (Nat × Nat)) : Option Nat → Value
  | some i => fptr ptr i
  | none => .pointer none
/-- The map of copies, by the blocks of what is copied. -/
def esP (ptr ptr2 : List (Nat × Nat)) : List (Nat × Value) := ptr2.map fun x => ((aget ptr x.1).getD 0, pK x.2)
structure ClI (d : Dk) (ptr2 : List (Nat × Nat)) (fs2 : List (Nat × Fl)) : Prop where
  keys : keysOf ptr2 = keysOf fs2
  nd : (keysOf ptr2).Nodup
  sub : ∀ i f, aget fs2 i = some f → aget d.fs i = some f
def Ext (p q : List (Nat × Nat)) : Prop := ∀ i b, aget p i = some b → aget q i = some b
theorem Ext.refl (p : List (Nat × Nat)) : Ext p p := fun _ _ h => h
theorem Ext.trans {p q r : List (Nat × Nat)} (h : Ext p q) (k : Ext q r) : Ext p r := fun i b e => k i b (h i b e)
theorem Ext.key {p q : List (Nat × Nat)} (h : Ext p q) {i : Nat} (hi : i ∈ keysOf p) : i ∈ keysOf q := by
  obtain ⟨b, hb⟩ := aget_of_key hi
  exact aget_keys (h i b hb)
theorem Ext.fptr {p q : List (Nat × Nat)} (h : Ext p q) {i : Nat} (hi : i ∈ keysOf p) : Go.Proofs.YtmnfehbnjgmgjaaDoor.fptr p i = Go.Proofs.YtmnfehbnjgmgjaaDoor.fptr q i := by
  obtain ⟨b, hb⟩ := aget_of_key hi
  rw [fptr_some hb, fptr_some (h i b hb)]
theorem Ext.names {p q : List (Nat × Nat)} (h : Ext p q) {l : List (ByteArray × Nat)} (hl : ∀ x ∈ l, x.2 ∈ keysOf p) : nmV p l = nmV q l := List.map_congr_left fun x hx => by rw [h.fptr (hl x hx)]
theorem Ext.chgs {p q : List (Nat × Nat)} (h : Ext p q) {l : List Chg} (hl : ∀ c ∈ l, ∀ i, c.f = some i → i ∈ keysOf p) : l.map (chgV p) = l.map (chgV q) := List.map_congr_left fun c hc => by
  unfold chgV
  cases hf : c.f with
  | none => rfl
  | some i => simp only; rw [h.fptr (hl c hc i hf)]
theorem esP_get (inj : ∀ i j b, aget ptr i = some b → aget ptr j = some b → i = j) {i b : Nat} (hb : aget ptr i = some b) : ∀ (ptr2 : List (Nat × Nat)), (∀ j ∈ keysOf ptr2, ∃ c, aget ptr j = some c) → aget (esP ptr ptr2) b = (aget ptr2 i).map pK
  | [], _ => rfl
  | (j, nb) :: l, h => by
    have ih := esP_get inj hb l fun j hj => h j (List.mem_cons_of_mem _ hj)
    obtain ⟨c, hc⟩ := h j (List.mem_cons_self ..)
    simp only [esP, List.map_cons, aget, hc, Option.getD_some] at ih ⊢
    by_cases e : j = i
    · subst e
      rw [hb] at hc; cases hc
      rw [if_pos rfl, if_pos rfl]; rfl
    · rw [if_neg e, if_neg (show ¬ c = b from fun e2 => e (inj j i b (e2 ▸ hc) hb))]
      exact ih
theorem esP_add (i nb : Nat) : esP ptr (ptr2 ++ [(i, nb)]) = esP ptr ptr2 ++ [((aget ptr i).getD 0, pK nb)] := by simp [esP]
theorem adel_permD {κ α : Type} [DecidableEq κ] {l : List (κ × α)} {k : κ} {v : α} (h : aget l k = some v) : l.Perm ((k, v) :: adel l k) := by
  induction l with
  | nil => simp [aget] at h
  | cons x l ih =>
    obtain ⟨a, b⟩ := x
    simp only [aget] at h
    simp only [adel]
    split
    · rename_i e; rw [if_pos e] at h; cases h; rw [e]
    · rename_i e; rw [if_neg e] at h; exact ((ih h).cons _).trans (List.Perm.swap _ _ _)
theorem ClI.add (hC : ClI d ptr2 fs2) {i nb : Nat} {f : Fl} (hn : aget ptr2 i = none) (hf : aget d.fs i = some f) : ClI d (ptr2 ++ [(i, nb)]) (fs2 ++ [(i, f)]) ∧ Ext ptr2 (ptr2 ++ [(i, nb)]) ∧ aget (ptr2 ++ [(i, nb)]) i = some nb := by
  have hk : i ∉ keysOf ptr2 := (aget_none_iff _ _).1 hn
  rw [← aput_end hk, ← aput_end (hC.keys ▸ hk : i ∉ keysOf fs2)]
  refine ⟨⟨by rw [keys_put, keys_put, if_neg hk, if_neg (hC.keys ▸ hk), hC.keys], nodup_put hC.nd _ _, fun j f' hj => ?_⟩, fun j b hj => ?_, aget_put_same _ _ _⟩
  · by_cases e : j = i
    · subst e; rw [aget_put_same] at hj; cases hj; exact hf
    · rw [aget_put_other _ _ e] at hj; exact hC.sub j f' hj
  · have e : j ≠ i := fun e => by rw [e, hn] at hj; cases hj
    rw [aget_put_other _ _ e]; exact hj
theorem esP_there (hs : Mem g w L) (k : Nat) {fs : List (Nat × Fl)} (hk : L[k]? = some (famC flC ptr fs)) (hsub : ∀ j ∈ keysOf ptr2, ∃ c, aget ptr j = some c) : ∀ x ∈ keysOf (esP ptr ptr2), There w x := fun x hx => by
  simp only [keysOf, esP, List.map_map, List.mem_map, Function.comp_apply] at hx
  obtain ⟨y, hy, rfl⟩ := hx
  obtain ⟨c, hc⟩ := hsub y.1 (List.mem_map_of_mem hy)
  rw [hc]
  exact hs.flThere k hk hc
theorem esP_thereX (hs : Mem g w L) (k : Nat) {i : Nat} {fs : List (Nat × Fl)} (hk : L[k]? = some (famX flC (· = i) ptr fs)) (hsub : ∀ j ∈ keysOf ptr2, ∃ c, aget ptr j = some c) (h2 : aget ptr2 i = none) : ∀ x ∈ keysOf (esP ptr ptr2), There w x := fun x hx => by
  simp only [keysOf, esP, List.map_map, List.mem_map, Function.comp_apply] at hx
  obtain ⟨y, hy, rfl⟩ := hx
  have hm : y.1 ∈ keysOf ptr2 := List.mem_map_of_mem hy
  obtain ⟨c, hc⟩ := hsub y.1 hm
  rw [hc]
  exact hs.fxThere k hk (fun e => (aget_none_iff _ _).1 h2 (e ▸ hm)) hc
theorem cl_sub {i nb b : Nat} (hb : aget ptr i = some b) (hsub : ∀ j ∈ keysOf ptr2, ∃ c, aget ptr j = some c) : ∀ j ∈ keysOf (ptr2 ++ [(i, nb)]), ∃ c, aget ptr j = some c := fun j hj => by
  simp only [keysOf, List.map_append, List.map_cons, List.map_nil, List.mem_append, List.mem_cons, List.not_mem_nil, or_false] at hj
  rcases hj with hj | rfl
  · exact hsub j hj
  · exact ⟨b, hb⟩
theorem cl_last {i nb b : Nat} (hb : aget ptr i = some b) (hg : aget (esP ptr ptr2) b = none) : aget (esP ptr (ptr2 ++ [(i, nb)])) b = some (pK nb) := by
  rw [esP_add, hb, Option.getD_some, ← aput_end ((aget_none_iff _ _).1 hg), aget_put_same]
theorem cl_close {C3 : HP} {b mo i nb : Nat} {f : Fl} {fa na : Option Addr} {fc nc : Nat} (hC : ClI d ptr2 fs2) (hb : aget ptr i = some b) (hf : aget d.fs i = some f) (h2 : aget ptr2 i = none)
    (hs : Mem g w (cells nb [.int .i64 f.id, .slice na f.b.length nc, .int .i64 f.syn] 115 :: own (.slice na f.b.length nc) (bytesL f.b) :: mapC pK mo (esP ptr ptr2 ++ [(b, pK nb)]) :: C3 :: cells b [.int .i64 f.id, .slice fa f.b.length fc, .int .i64 f.syn] 115 :: own (.slice fa f.b.length fc) (bytesL f.b) :: famC flC ptr2 fs2 :: famX flC (· = i) ptr d.fs :: L)) :
    Mem g w (mapC pK mo (esP ptr (ptr2 ++ [(i, nb)])) :: C3 :: famC flC (ptr2 ++ [(i, nb)]) (fs2 ++ [(i, f)]) :: famC flC ptr d.fs :: L) := by
  have h1 := Mem.closeF (f := f) (hs.arr [4, 5, 0, 1, 2, 3, 6, 7] 8 (by decide))
  have h3 := Mem.famPut (R := flC) (k := i) h1 5 rfl (fun _ h => h)
  rw [aput_same hb, aput_same hf] at h3
  have h4 := Mem.closeF (f := f) h3
  have h5 := Mem.famPut (R := flC) (k := i) h4 2 rfl (fun _ h => False.elim h)
  have hk : i ∉ keysOf ptr2 := (aget_none_iff _ _).1 h2
  rw [aput_end hk, aput_end (hC.keys ▸ hk : i ∉ keysOf fs2)] at h5
  rw [esP_add, hb]
  exact h5
/-- The closure that copies a file, once. -/
abbrev clP (mo b3 : Nat) (ptr ptr2 : List (Nat × Nat)) (fs2 fs : List (Nat × Fl)) : List HP := [mapC pK mo (esP ptr ptr2), cells b3 [.map (some mo)] 136, famC flC ptr2 fs2, famC flC ptr fs]
def ClR (g : World) (L : List HP) (mo b3 : Nat) (ptr ptr2 : List (Nat × Nat)) (d : Dk) (o : Option Nat) (v : Value) (w' : World) : Prop :=
  ∃ ptr3 fs3, Ext ptr2 ptr3 ∧ ClI d ptr3 fs3 ∧ (∀ i, o = some i → i ∈ keysOf ptr3) ∧ ∃ Q, oP ptr3 o = Q ∧ Q = v ∧ Mem g w' (clP mo b3 ptr ptr3 fs3 d.fs ++ L)
theorem cloneF_sl {mo b3 : Nat} (ho : d.okB) (hC : ClI d ptr2 fs2) (o : Option Nat) (hi : ∀ i, o = some i → i ∈ keysOf d.fs) {v0 : Value} (hv : oP ptr o = v0) (hs : Mem g w (clP mo b3 ptr ptr2 fs2 d.fs ++ L)) :
    Calls Tryd.prog 96 #[v0, .pointer (some ⟨b3, 0, none⟩)] w (Ret (ClR g L mo b3 ptr ptr2 d o)) := by
  subst hv
  simp only [clP, List.cons_append, List.nil_append] at hs
  cases o with
  | none =>
    show Calls _ _ #[.pointer none, _] _ _
    refine calls_cw Tryd.func96 rfl rfl ?_
    skip
    refine cw_seq ?_
    refine cw_region ?_
    first | refine lw_val rfl (run_assign (v := .pointer (some _)) rfl) ?_ | refine lw_val rfl (run_assign (v := .pointer none) rfl) ?_
    refine lw_nil ?_
    refine cw_seq ?_
    refine cw_seq ?_
    refine cw_region ?_
    first | refine lw_val rfl (run_move (v := .pointer (some _)) rfl) ?_ | refine lw_val rfl (run_move (v := .pointer none) rfl) ?_
    refine lw_val rfl (run_eqpn Tryd.underlying112 rfl rfl) ?_
    refine lw_nil ?_
    refine cw_ift rfl (rfl) ?_
    refine cw_seq ?_
    refine cw_region ?_
    first | refine lw_val rfl (run_assign (v := .pointer (some _)) rfl) ?_ | refine lw_val rfl (run_assign (v := .pointer none) rfl) ?_
    refine lw_nil ?_
    refine cw_ret ?_
    first | refine res1 (v := .pointer (some _)) rfl rfl ?_ | refine res1 (v := .pointer none) rfl rfl ?_
    exact ⟨_, rfl, ptr2, fs2, Ext.refl _, hC, (fun i h => by cases h), _, rfl, rfl, hs⟩
  | some i =>
    have hik := hi i rfl
    have hko := hs.famKeys 3 rfl
    obtain ⟨b, hb, hp, hf⟩ := ho.ptrOf hs 3 rfl hik
    have inj : ∀ i j b, aget ptr i = some b → aget ptr j = some b → i = j := fun i j b h1 h2 => fam_inj hs 3 rfl h1 h2
    have hsub : ∀ j ∈ keysOf ptr2, ∃ c, aget ptr j = some c := fun j hj => by
      obtain ⟨f, hf⟩ := aget_of_key (hC.keys ▸ hj : j ∈ keysOf fs2)
      exact aget_of_key (hko.symm ▸ aget_keys (hC.sub j f hf))
    have hget := esP_get inj hb ptr2 hsub
    have hth := esP_there hs 3 rfl hsub
    have hkt : There w b := hs.flThere 3 rfl hb
    show Calls _ _ #[fptr ptr i, _] _ _
    rw [hp]
    cases h2 : aget ptr2 i with
    | some nb =>
      rw [h2] at hget
      refine calls_cw Tryd.func96 rfl rfl ?_
      skip
      refine cw_seq ?_
      refine cw_region ?_
      first | refine lw_val rfl (run_assign (v := .pointer (some _)) rfl) ?_ | refine lw_val rfl (run_assign (v := .pointer none) rfl) ?_
      refine lw_nil ?_
      refine cw_seq ?_
      refine cw_seq ?_
      refine cw_region ?_
      first | refine lw_val rfl (run_move (v := .pointer (some _)) rfl) ?_ | refine lw_val rfl (run_move (v := .pointer none) rfl) ?_
      refine lw_val rfl (run_eqpn Tryd.underlying112 rfl rfl) ?_
      refine lw_nil ?_
      refine cw_iff rfl (rfl) ?_
      refine cw_skip ?_
      refine cw_seq ?_
      refine cw_seq ?_
      refine cw_region ?_
      first | refine lw_val rfl (run_load Tryd.underlying136 rfl rfl (hs.cellAt 0 rfl rfl)) ?_ | refine lw_val rfl (run_load Tryd.underlying136 rfl rfl (hs.cellAt 1 rfl rfl)) ?_ | refine lw_val rfl (run_load Tryd.underlying136 rfl rfl (hs.cellAt 2 rfl rfl)) ?_ | refine lw_val rfl (run_load Tryd.underlying136 rfl rfl (hs.cellAt 3 rfl rfl)) ?_ | refine lw_val rfl (run_load Tryd.underlying136 rfl rfl (hs.cellAt 4 rfl rfl)) ?_ | refine lw_val rfl (run_load Tryd.underlying136 rfl rfl (hs.cellAt 5 rfl rfl)) ?_ | refine lw_val rfl (run_load Tryd.underlying136 rfl rfl (hs.cellAt 6 rfl rfl)) ?_ | refine lw_val rfl (run_load Tryd.underlying136 rfl rfl (hs.cellAt 7 rfl rfl)) ?_ | refine lw_val rfl (run_load Tryd.underlying136 rfl rfl (hs.cellAt 8 rfl rfl)) ?_ | refine lw_val rfl (run_load Tryd.underlying136 rfl rfl (hs.cellAt 9 rfl rfl)) ?_ | refine lw_val rfl (run_load Tryd.underlying136 rfl rfl (hs.cellAt 10 rfl rfl)) ?_ | refine lw_val rfl (run_load Tryd.underlying136 rfl rfl (hs.cellAt 11 rfl rfl)) ?_ | refine lw_val rfl (run_load Tryd.underlying136 rfl rfl (hs.cellAt 12 rfl rfl)) ?_ | refine lw_val rfl (run_load Tryd.underlying136 rfl rfl (hs.cellAt 13 rfl rfl)) ?_
      first | refine lw_val rfl (run_move (v := .pointer (some _)) rfl) ?_ | refine lw_val rfl (run_move (v := .pointer none) rfl) ?_
      refine lw_val rfl (run_lookupP (hs.mapAt 0 rfl) Tryd.underlying136 Tryd.underlying112 sz115 (by decide) hth hkt (v := .pointer none) ze112 rfl rfl hget) ?_
      refine lw_val rfl (run_eqpn Tryd.underlying112 rfl rfl) ?_
      refine lw_nil ?_
      refine cw_iff rfl (rfl) ?_
      refine cw_skip ?_
      refine cw_seq ?_
      refine cw_region ?_
      first | refine lw_val rfl (run_load Tryd.underlying136 rfl rfl (hs.cellAt 0 rfl rfl)) ?_ | refine lw_val rfl (run_load Tryd.underlying136 rfl rfl (hs.cellAt 1 rfl rfl)) ?_ | refine lw_val rfl (run_load Tryd.underlying136 rfl rfl (hs.cellAt 2 rfl rfl)) ?_ | refine lw_val rfl (run_load Tryd.underlying136 rfl rfl (hs.cellAt 3 rfl rfl)) ?_ | refine lw_val rfl (run_load Tryd.underlying136 rfl rfl (hs.cellAt 4 rfl rfl)) ?_ | refine lw_val rfl (run_load Tryd.underlying136 rfl rfl (hs.cellAt 5 rfl rfl)) ?_ | refine lw_val rfl (run_load Tryd.underlying136 rfl rfl (hs.cellAt 6 rfl rfl)) ?_ | refine lw_val rfl (run_load Tryd.underlying136 rfl rfl (hs.cellAt 7 rfl rfl)) ?_ | refine lw_val rfl (run_load Tryd.underlying136 rfl rfl (hs.cellAt 8 rfl rfl)) ?_ | refine lw_val rfl (run_load Tryd.underlying136 rfl rfl (hs.cellAt 9 rfl rfl)) ?_ | refine lw_val rfl (run_load Tryd.underlying136 rfl rfl (hs.cellAt 10 rfl rfl)) ?_ | refine lw_val rfl (run_load Tryd.underlying136 rfl rfl (hs.cellAt 11 rfl rfl)) ?_ | refine lw_val rfl (run_load Tryd.underlying136 rfl rfl (hs.cellAt 12 rfl rfl)) ?_ | refine lw_val rfl (run_load Tryd.underlying136 rfl rfl (hs.cellAt 13 rfl rfl)) ?_
      first | refine lw_val rfl (run_move (v := .pointer (some _)) rfl) ?_ | refine lw_val rfl (run_move (v := .pointer none) rfl) ?_
      refine lw_val rfl (run_lookupP (hs.mapAt 0 rfl) Tryd.underlying136 Tryd.underlying112 sz115 (by decide) hth hkt (v := .pointer none) ze112 rfl rfl hget) ?_
      first | refine lw_val rfl (run_assign (v := .pointer (some _)) rfl) ?_ | refine lw_val rfl (run_assign (v := .pointer none) rfl) ?_
      refine lw_nil ?_
      refine cw_ret ?_
      first | refine res1 (v := .pointer (some _)) rfl rfl ?_ | refine res1 (v := .pointer none) rfl rfl ?_
      exact ⟨_, rfl, ptr2, fs2, Ext.refl _, hC, (fun j h => by cases h; exact aget_keys h2), _, fptr_some h2, rfl, hs⟩
    | none =>
      rw [h2] at hget
      refine calls_cw Tryd.func96 rfl rfl ?_
      skip
      refine cw_seq ?_
      refine cw_region ?_
      first | refine lw_val rfl (run_assign (v := .pointer (some _)) rfl) ?_ | refine lw_val rfl (run_assign (v := .pointer none) rfl) ?_
      refine lw_nil ?_
      refine cw_seq ?_
      refine cw_seq ?_
      refine cw_region ?_
      first | refine lw_val rfl (run_move (v := .pointer (some _)) rfl) ?_ | refine lw_val rfl (run_move (v := .pointer none) rfl) ?_
      refine lw_val rfl (run_eqpn Tryd.underlying112 rfl rfl) ?_
      refine lw_nil ?_
      refine cw_iff rfl (rfl) ?_
      refine cw_skip ?_
      refine cw_seq ?_
      refine cw_seq ?_
      refine cw_region ?_
      first | refine lw_val rfl (run_load Tryd.underlying136 rfl rfl (hs.cellAt 0 rfl rfl)) ?_ | refine lw_val rfl (run_load Tryd.underlying136 rfl rfl (hs.cellAt 1 rfl rfl)) ?_ | refine lw_val rfl (run_load Tryd.underlying136 rfl rfl (hs.cellAt 2 rfl rfl)) ?_ | refine lw_val rfl (run_load Tryd.underlying136 rfl rfl (hs.cellAt 3 rfl rfl)) ?_ | refine lw_val rfl (run_load Tryd.underlying136 rfl rfl (hs.cellAt 4 rfl rfl)) ?_ | refine lw_val rfl (run_load Tryd.underlying136 rfl rfl (hs.cellAt 5 rfl rfl)) ?_ | refine lw_val rfl (run_load Tryd.underlying136 rfl rfl (hs.cellAt 6 rfl rfl)) ?_ | refine lw_val rfl (run_load Tryd.underlying136 rfl rfl (hs.cellAt 7 rfl rfl)) ?_ | refine lw_val rfl (run_load Tryd.underlying136 rfl rfl (hs.cellAt 8 rfl rfl)) ?_ | refine lw_val rfl (run_load Tryd.underlying136 rfl rfl (hs.cellAt 9 rfl rfl)) ?_ | refine lw_val rfl (run_load Tryd.underlying136 rfl rfl (hs.cellAt 10 rfl rfl)) ?_ | refine lw_val rfl (run_load Tryd.underlying136 rfl rfl (hs.cellAt 11 rfl rfl)) ?_ | refine lw_val rfl (run_load Tryd.underlying136 rfl rfl (hs.cellAt 12 rfl rfl)) ?_ | refine lw_val rfl (run_load Tryd.underlying136 rfl rfl (hs.cellAt 13 rfl rfl)) ?_
      first | refine lw_val rfl (run_move (v := .pointer (some _)) rfl) ?_ | refine lw_val rfl (run_move (v := .pointer none) rfl) ?_
      refine lw_val rfl (run_lookupP (hs.mapAt 0 rfl) Tryd.underlying136 Tryd.underlying112 sz115 (by decide) hth hkt (v := .pointer none) ze112 rfl rfl hget) ?_
      refine lw_val rfl (run_eqpn Tryd.underlying112 rfl rfl) ?_
      refine lw_nil ?_
      refine cw_ift rfl (rfl) ?_
      replace hs := hs.famTake (R := flC) 3 rfl hb hf
      obtain ⟨fa, fc, hs⟩ := hs.openF
      simp only [List.set_cons_succ, List.set_cons_zero] at hs
      replace hs := hs.arr [2, 3, 0, 1, 4, 5] 6 (by decide)
      refine cw_drawS mixes hs.tail ?_
      intro w tr hK
      replace hs := tr _ hs
      clear tr
      first | refine aw_take 0 rfl (by kernel_rfl) (by kernel_rfl) (by kernel_rfl) rfl (fun w hs => run_load Tryd.underlying136 rfl rfl (hs.cellAt 0 rfl rfl)) hK ?_ | refine aw_take 0 rfl (by kernel_rfl) (by kernel_rfl) (by kernel_rfl) rfl (fun w hs => run_load Tryd.underlying136 rfl rfl (hs.cellAt 1 rfl rfl)) hK ?_ | refine aw_take 0 rfl (by kernel_rfl) (by kernel_rfl) (by kernel_rfl) rfl (fun w hs => run_load Tryd.underlying136 rfl rfl (hs.cellAt 2 rfl rfl)) hK ?_ | refine aw_take 0 rfl (by kernel_rfl) (by kernel_rfl) (by kernel_rfl) rfl (fun w hs => run_load Tryd.underlying136 rfl rfl (hs.cellAt 3 rfl rfl)) hK ?_ | refine aw_take 0 rfl (by kernel_rfl) (by kernel_rfl) (by kernel_rfl) rfl (fun w hs => run_load Tryd.underlying136 rfl rfl (hs.cellAt 4 rfl rfl)) hK ?_ | refine aw_take 0 rfl (by kernel_rfl) (by kernel_rfl) (by kernel_rfl) rfl (fun w hs => run_load Tryd.underlying136 rfl rfl (hs.cellAt 5 rfl rfl)) hK ?_ | refine aw_take 0 rfl (by kernel_rfl) (by kernel_rfl) (by kernel_rfl) rfl (fun w hs => run_load Tryd.underlying136 rfl rfl (hs.cellAt 6 rfl rfl)) hK ?_ | refine aw_take 0 rfl (by kernel_rfl) (by kernel_rfl) (by kernel_rfl) rfl (fun w hs => run_load Tryd.underlying136 rfl rfl (hs.cellAt 7 rfl rfl)) hK ?_ | refine aw_take 0 rfl (by kernel_rfl) (by kernel_rfl) (by kernel_rfl) rfl (fun w hs => run_load Tryd.underlying136 rfl rfl (hs.cellAt 8 rfl rfl)) hK ?_ | refine aw_take 0 rfl (by kernel_rfl) (by kernel_rfl) (by kernel_rfl) rfl (fun w hs => run_load Tryd.underlying136 rfl rfl (hs.cellAt 9 rfl rfl)) hK ?_ | refine aw_take 0 rfl (by kernel_rfl) (by kernel_rfl) (by kernel_rfl) rfl (fun w hs => run_load Tryd.underlying136 rfl rfl (hs.cellAt 10 rfl rfl)) hK ?_ | refine aw_take 0 rfl (by kernel_rfl) (by kernel_rfl) (by kernel_rfl) rfl (fun w hs => run_load Tryd.underlying136 rfl rfl (hs.cellAt 11 rfl rfl)) hK ?_ | refine aw_take 0 rfl (by kernel_rfl) (by kernel_rfl) (by kernel_rfl) rfl (fun w hs => run_load Tryd.underlying136 rfl rfl (hs.cellAt 12 rfl rfl)) hK ?_ | refine aw_take 0 rfl (by kernel_rfl) (by kernel_rfl) (by kernel_rfl) rfl (fun w hs => run_load Tryd.underlying136 rfl rfl (hs.cellAt 13 rfl rfl)) hK ?_
      first | refine aw_take 1 rfl (by kernel_rfl) (by kernel_rfl) (by kernel_rfl) rfl (fun w hs => run_move (v := .pointer (some _)) rfl) hK ?_ | refine aw_take 1 rfl (by kernel_rfl) (by kernel_rfl) (by kernel_rfl) rfl (fun w hs => run_move (v := .pointer none) rfl) hK ?_
      first | refine aw_take 2 rfl (by kernel_rfl) (by kernel_rfl) (by kernel_rfl) rfl (fun w hs => run_move (v := .pointer (some _)) rfl) hK ?_ | refine aw_take 2 rfl (by kernel_rfl) (by kernel_rfl) (by kernel_rfl) rfl (fun w hs => run_move (v := .pointer none) rfl) hK ?_
      refine aw_take 3 rfl (by kernel_rfl) (by kernel_rfl) (by kernel_rfl) rfl (fun w hs => run_nilCheckP rfl) hK ?_
      first | refine aw_take 4 rfl (by kernel_rfl) (by kernel_rfl) (by kernel_rfl) rfl (fun w hs => run_fieldAddr (o' := 0) Tryd.underlying115 rfl sz3 rfl rfl rfl) hK ?_ | refine aw_take 4 rfl (by kernel_rfl) (by kernel_rfl) (by kernel_rfl) rfl (fun w hs => run_fieldAddr Tryd.underlying115 rfl sz3 rfl rfl rfl) hK ?_
      first | refine aw_take 5 rfl (by kernel_rfl) (by kernel_rfl) (by kernel_rfl) rfl (fun w hs => run_load Tryd.underlying3 rfl rfl (hs.cellAt 0 rfl rfl)) hK ?_ | refine aw_take 5 rfl (by kernel_rfl) (by kernel_rfl) (by kernel_rfl) rfl (fun w hs => run_load Tryd.underlying3 rfl rfl (hs.cellAt 1 rfl rfl)) hK ?_ | refine aw_take 5 rfl (by kernel_rfl) (by kernel_rfl) (by kernel_rfl) rfl (fun w hs => run_load Tryd.underlying3 rfl rfl (hs.cellAt 2 rfl rfl)) hK ?_ | refine aw_take 5 rfl (by kernel_rfl) (by kernel_rfl) (by kernel_rfl) rfl (fun w hs => run_load Tryd.underlying3 rfl rfl (hs.cellAt 3 rfl rfl)) hK ?_ | refine aw_take 5 rfl (by kernel_rfl) (by kernel_rfl) (by kernel_rfl) rfl (fun w hs => run_load Tryd.underlying3 rfl rfl (hs.cellAt 4 rfl rfl)) hK ?_ | refine aw_take 5 rfl (by kernel_rfl) (by kernel_rfl) (by kernel_rfl) rfl (fun w hs => run_load Tryd.underlying3 rfl rfl (hs.cellAt 5 rfl rfl)) hK ?_ | refine aw_take 5 rfl (by kernel_rfl) (by kernel_rfl) (by kernel_rfl) rfl (fun w hs => run_load Tryd.underlying3 rfl rfl (hs.cellAt 6 rfl rfl)) hK ?_ | refine aw_take 5 rfl (by kernel_rfl) (by kernel_rfl) (by kernel_rfl) rfl (fun w hs => run_load Tryd.underlying3 rfl rfl (hs.cellAt 7 rfl rfl)) hK ?_ | refine aw_take 5 rfl (by kernel_rfl) (by kernel_rfl) (by kernel_rfl) rfl (fun w hs => run_load Tryd.underlying3 rfl rfl (hs.cellAt 8 rfl rfl)) hK ?_ | refine aw_take 5 rfl (by kernel_rfl) (by kernel_rfl) (by kernel_rfl) rfl (fun w hs => run_load Tryd.underlying3 rfl rfl (hs.cellAt 9 rfl rfl)) hK ?_ | refine aw_take 5 rfl (by kernel_rfl) (by kernel_rfl) (by kernel_rfl) rfl (fun w hs => run_load Tryd.underlying3 rfl rfl (hs.cellAt 10 rfl rfl)) hK ?_ | refine aw_take 5 rfl (by kernel_rfl) (by kernel_rfl) (by kernel_rfl) rfl (fun w hs => run_load Tryd.underlying3 rfl rfl (hs.cellAt 11 rfl rfl)) hK ?_ | refine aw_take 5 rfl (by kernel_rfl) (by kernel_rfl) (by kernel_rfl) rfl (fun w hs => run_load Tryd.underlying3 rfl rfl (hs.cellAt 12 rfl rfl)) hK ?_ | refine aw_take 5 rfl (by kernel_rfl) (by kernel_rfl) (by kernel_rfl) rfl (fun w hs => run_load Tryd.underlying3 rfl rfl (hs.cellAt 13 rfl rfl)) hK ?_
      first | refine aw_take 6 rfl (by kernel_rfl) (by kernel_rfl) (by kernel_rfl) rfl (fun w hs => run_move (v := .pointer (some _)) rfl) hK ?_ | refine aw_take 6 rfl (by kernel_rfl) (by kernel_rfl) (by kernel_rfl) rfl (fun w hs => run_move (v := .pointer none) rfl) hK ?_
      refine aw_take 7 rfl (by kernel_rfl) (by kernel_rfl) (by kernel_rfl) rfl (fun w hs => run_nilCheckP rfl) hK ?_
      first | refine aw_take 8 rfl (by kernel_rfl) (by kernel_rfl) (by kernel_rfl) rfl (fun w hs => run_fieldAddr (o' := 1) Tryd.underlying115 rfl sz23 rfl rfl rfl) hK ?_ | refine aw_take 8 rfl (by kernel_rfl) (by kernel_rfl) (by kernel_rfl) rfl (fun w hs => run_fieldAddr Tryd.underlying115 rfl sz23 rfl rfl rfl) hK ?_
      first | refine aw_take 9 rfl (by kernel_rfl) (by kernel_rfl) (by kernel_rfl) rfl (fun w hs => run_load Tryd.underlying23 rfl rfl (hs.cellAt 0 rfl rfl)) hK ?_ | refine aw_take 9 rfl (by kernel_rfl) (by kernel_rfl) (by kernel_rfl) rfl (fun w hs => run_load Tryd.underlying23 rfl rfl (hs.cellAt 1 rfl rfl)) hK ?_ | refine aw_take 9 rfl (by kernel_rfl) (by kernel_rfl) (by kernel_rfl) rfl (fun w hs => run_load Tryd.underlying23 rfl rfl (hs.cellAt 2 rfl rfl)) hK ?_ | refine aw_take 9 rfl (by kernel_rfl) (by kernel_rfl) (by kernel_rfl) rfl (fun w hs => run_load Tryd.underlying23 rfl rfl (hs.cellAt 3 rfl rfl)) hK ?_ | refine aw_take 9 rfl (by kernel_rfl) (by kernel_rfl) (by kernel_rfl) rfl (fun w hs => run_load Tryd.underlying23 rfl rfl (hs.cellAt 4 rfl rfl)) hK ?_ | refine aw_take 9 rfl (by kernel_rfl) (by kernel_rfl) (by kernel_rfl) rfl (fun w hs => run_load Tryd.underlying23 rfl rfl (hs.cellAt 5 rfl rfl)) hK ?_ | refine aw_take 9 rfl (by kernel_rfl) (by kernel_rfl) (by kernel_rfl) rfl (fun w hs => run_load Tryd.underlying23 rfl rfl (hs.cellAt 6 rfl rfl)) hK ?_ | refine aw_take 9 rfl (by kernel_rfl) (by kernel_rfl) (by kernel_rfl) rfl (fun w hs => run_load Tryd.underlying23 rfl rfl (hs.cellAt 7 rfl rfl)) hK ?_ | refine aw_take 9 rfl (by kernel_rfl) (by kernel_rfl) (by kernel_rfl) rfl (fun w hs => run_load Tryd.underlying23 rfl rfl (hs.cellAt 8 rfl rfl)) hK ?_ | refine aw_take 9 rfl (by kernel_rfl) (by kernel_rfl) (by kernel_rfl) rfl (fun w hs => run_load Tryd.underlying23 rfl rfl (hs.cellAt 9 rfl rfl)) hK ?_ | refine aw_take 9 rfl (by kernel_rfl) (by kernel_rfl) (by kernel_rfl) rfl (fun w hs => run_load Tryd.underlying23 rfl rfl (hs.cellAt 10 rfl rfl)) hK ?_ | refine aw_take 9 rfl (by kernel_rfl) (by kernel_rfl) (by kernel_rfl) rfl (fun w hs => run_load Tryd.underlying23 rfl rfl (hs.cellAt 11 rfl rfl)) hK ?_ | refine aw_take 9 rfl (by kernel_rfl) (by kernel_rfl) (by kernel_rfl) rfl (fun w hs => run_load Tryd.underlying23 rfl rfl (hs.cellAt 12 rfl rfl)) hK ?_ | refine aw_take 9 rfl (by kernel_rfl) (by kernel_rfl) (by kernel_rfl) rfl (fun w hs => run_load Tryd.underlying23 rfl rfl (hs.cellAt 13 rfl rfl)) hK ?_
      first | refine aw_take 11 rfl (by kernel_rfl) (by kernel_rfl) (by kernel_rfl) rfl (fun w hs => run_move (v := .pointer (some _)) rfl) hK ?_ | refine aw_take 11 rfl (by kernel_rfl) (by kernel_rfl) (by kernel_rfl) rfl (fun w hs => run_move (v := .pointer none) rfl) hK ?_
      refine aw_take 12 rfl (by kernel_rfl) (by kernel_rfl) (by kernel_rfl) rfl (fun w hs => run_nilCheckP rfl) hK ?_
      first | refine aw_take 13 rfl (by kernel_rfl) (by kernel_rfl) (by kernel_rfl) rfl (fun w hs => run_fieldAddr (o' := 2) Tryd.underlying115 rfl sz3 rfl rfl rfl) hK ?_ | refine aw_take 13 rfl (by kernel_rfl) (by kernel_rfl) (by kernel_rfl) rfl (fun w hs => run_fieldAddr Tryd.underlying115 rfl sz3 rfl rfl rfl) hK ?_
      first | refine aw_take 14 rfl (by kernel_rfl) (by kernel_rfl) (by kernel_rfl) rfl (fun w hs => run_load Tryd.underlying3 rfl rfl (hs.cellAt 0 rfl rfl)) hK ?_ | refine aw_take 14 rfl (by kernel_rfl) (by kernel_rfl) (by kernel_rfl) rfl (fun w hs => run_load Tryd.underlying3 rfl rfl (hs.cellAt 1 rfl rfl)) hK ?_ | refine aw_take 14 rfl (by kernel_rfl) (by kernel_rfl) (by kernel_rfl) rfl (fun w hs => run_load Tryd.underlying3 rfl rfl (hs.cellAt 2 rfl rfl)) hK ?_ | refine aw_take 14 rfl (by kernel_rfl) (by kernel_rfl) (by kernel_rfl) rfl (fun w hs => run_load Tryd.underlying3 rfl rfl (hs.cellAt 3 rfl rfl)) hK ?_ | refine aw_take 14 rfl (by kernel_rfl) (by kernel_rfl) (by kernel_rfl) rfl (fun w hs => run_load Tryd.underlying3 rfl rfl (hs.cellAt 4 rfl rfl)) hK ?_ | refine aw_take 14 rfl (by kernel_rfl) (by kernel_rfl) (by kernel_rfl) rfl (fun w hs => run_load Tryd.underlying3 rfl rfl (hs.cellAt 5 rfl rfl)) hK ?_ | refine aw_take 14 rfl (by kernel_rfl) (by kernel_rfl) (by kernel_rfl) rfl (fun w hs => run_load Tryd.underlying3 rfl rfl (hs.cellAt 6 rfl rfl)) hK ?_ | refine aw_take 14 rfl (by kernel_rfl) (by kernel_rfl) (by kernel_rfl) rfl (fun w hs => run_load Tryd.underlying3 rfl rfl (hs.cellAt 7 rfl rfl)) hK ?_ | refine aw_take 14 rfl (by kernel_rfl) (by kernel_rfl) (by kernel_rfl) rfl (fun w hs => run_load Tryd.underlying3 rfl rfl (hs.cellAt 8 rfl rfl)) hK ?_ | refine aw_take 14 rfl (by kernel_rfl) (by kernel_rfl) (by kernel_rfl) rfl (fun w hs => run_load Tryd.underlying3 rfl rfl (hs.cellAt 9 rfl rfl)) hK ?_ | refine aw_take 14 rfl (by kernel_rfl) (by kernel_rfl) (by kernel_rfl) rfl (fun w hs => run_load Tryd.underlying3 rfl rfl (hs.cellAt 10 rfl rfl)) hK ?_ | refine aw_take 14 rfl (by kernel_rfl) (by kernel_rfl) (by kernel_rfl) rfl (fun w hs => run_load Tryd.underlying3 rfl rfl (hs.cellAt 11 rfl rfl)) hK ?_ | refine aw_take 14 rfl (by kernel_rfl) (by kernel_rfl) (by kernel_rfl) rfl (fun w hs => run_load Tryd.underlying3 rfl rfl (hs.cellAt 12 rfl rfl)) hK ?_ | refine aw_take 14 rfl (by kernel_rfl) (by kernel_rfl) (by kernel_rfl) rfl (fun w hs => run_load Tryd.underlying3 rfl rfl (hs.cellAt 13 rfl rfl)) hK ?_
      refine aw_ready [10] (by kernel_rfl) (by simp) ?_
      refine ⟨⟨_, rfl, ?_⟩, trivial⟩
      refine lw_call rfl en84 (clone_sl hs (l := (d.fl i).b) (hs.rdOwn 3 rfl) (by have := (ho.fid _ _ hf).2.2; omega)) ?_
      clear hs
      rintro _ w ⟨a20, c20, rfl, hs⟩
      clear hK
      have hK := hs.tail.tail
      refine lw_nil ⟨hK, ?_⟩
      refine aw_take 15 rfl (by kernel_rfl) (by kernel_rfl) (by kernel_rfl) rfl (fun w hs => run_buildF ([.int .i64 (d.fl i).id, .slice a20 (bytesL (d.fl i).b).length c20, .int .i64 (d.fl i).syn]) Tryd.underlying115 ze115 pl115 rfl (by simp [Value.cells]) rfl rfl) hK ?_
      refine aw_ready [16] (by kernel_rfl) (by simp) ?_
      refine ⟨⟨_, rfl, ?_⟩, trivial⟩
      first | refine lw_box (v := .agg _) hs rfl rfl ?_
      clear hs
      intro b26 w hs
      try simp only [List.set_cons_succ, List.set_cons_zero] at hs
      clear hK
      have hK := hs.tail.tail.tail
      refine lw_nil ⟨hK, ?_⟩
      refine aw_ready [17] (by kernel_rfl) (by simp) ?_
      refine ⟨⟨_, rfl, ?_⟩, trivial⟩
      refine lw_mapUpdateP hs 2 rfl Tryd.underlying136 Tryd.underlying112 sz115 (by decide) (esP_thereX hs 7 rfl hsub h2) (hs.cellsThere 4 rfl) (v := pK b26) rfl rfl rfl hget ?_
      clear hs
      intro w hs
      clear hK
      have hK := hs.tail.tail.tail
      refine lw_nil ⟨hK, ?_⟩
      refine aw_done (by kernel_rfl) ?_
      clear hK
      rw [bytesL_len] at hs
      replace hs := cl_close hC hb hf h2 hs
      refine cw_seq ?_
      refine cw_region ?_
      first | refine lw_val rfl (run_load Tryd.underlying136 rfl rfl (hs.cellAt 0 rfl rfl)) ?_ | refine lw_val rfl (run_load Tryd.underlying136 rfl rfl (hs.cellAt 1 rfl rfl)) ?_ | refine lw_val rfl (run_load Tryd.underlying136 rfl rfl (hs.cellAt 2 rfl rfl)) ?_ | refine lw_val rfl (run_load Tryd.underlying136 rfl rfl (hs.cellAt 3 rfl rfl)) ?_ | refine lw_val rfl (run_load Tryd.underlying136 rfl rfl (hs.cellAt 4 rfl rfl)) ?_ | refine lw_val rfl (run_load Tryd.underlying136 rfl rfl (hs.cellAt 5 rfl rfl)) ?_ | refine lw_val rfl (run_load Tryd.underlying136 rfl rfl (hs.cellAt 6 rfl rfl)) ?_ | refine lw_val rfl (run_load Tryd.underlying136 rfl rfl (hs.cellAt 7 rfl rfl)) ?_ | refine lw_val rfl (run_load Tryd.underlying136 rfl rfl (hs.cellAt 8 rfl rfl)) ?_ | refine lw_val rfl (run_load Tryd.underlying136 rfl rfl (hs.cellAt 9 rfl rfl)) ?_ | refine lw_val rfl (run_load Tryd.underlying136 rfl rfl (hs.cellAt 10 rfl rfl)) ?_ | refine lw_val rfl (run_load Tryd.underlying136 rfl rfl (hs.cellAt 11 rfl rfl)) ?_ | refine lw_val rfl (run_load Tryd.underlying136 rfl rfl (hs.cellAt 12 rfl rfl)) ?_ | refine lw_val rfl (run_load Tryd.underlying136 rfl rfl (hs.cellAt 13 rfl rfl)) ?_
      first | refine lw_val rfl (run_move (v := .pointer (some _)) rfl) ?_ | refine lw_val rfl (run_move (v := .pointer none) rfl) ?_
      refine lw_val rfl (run_lookupP (hs.mapAt 0 rfl) Tryd.underlying136 Tryd.underlying112 sz115 (by decide) (esP_there hs 3 rfl (cl_sub hb hsub)) (hs.flThere 3 rfl hb) (v := .pointer none) ze112 rfl rfl (o := some (pK b26)) (cl_last hb hget)) ?_
      first | refine lw_val rfl (run_assign (v := .pointer (some _)) rfl) ?_ | refine lw_val rfl (run_assign (v := .pointer none) rfl) ?_
      refine lw_nil ?_
      refine cw_ret ?_
      first | refine res1 (v := .pointer (some _)) rfl rfl ?_ | refine res1 (v := .pointer none) rfl rfl ?_
      exact ⟨_, rfl, ptr2 ++ [(i, b26)], fs2 ++ [(i, d.fl i)], (hC.add h2 hf).2.1, (hC.add h2 hf).1, (fun j h => by cases h; exact aget_keys (hC.add (nb := b26) h2 hf).2.2), _, fptr_some (hC.add (nb := b26) h2 hf).2.2, rfl, hs⟩

/-! ### the whole disk -/
theorem aget_filterK {α : Type} (q : Nat → Bool) : ∀ (l : List (Nat × α)) (k : Nat), aget (l.filter fun x => q x.1) k = if q k then aget l k else none
  | [], k => by simp [aget]
  | (a, b) :: l, k => by
    have ih := aget_filterK q l k
    by_cases e : a = k
    · subst e
      cases hq : q a with
      | true => simp [List.filter_cons, hq, aget]
      | false => simp only [List.filter_cons, hq, Bool.false_eq_true, if_false]; rw [ih, hq]; simp
    · cases hq : q a with
      | true => simp only [List.filter_cons, hq, if_true, aget, if_neg e]; exact ih
      | false => simp only [List.filter_cons, hq, Bool.false_eq_true, if_false, aget, if_neg e]; exact ih
/-- Names that have been copied, and those that are left. -/
structure CpI (nm lo acc : List (ByteArray × Nat)) (ptr2 : List (Nat × Nat)) : Prop where
  perm : (acc ++ lo).Perm nm
  has : ∀ x ∈ acc, x.2 ∈ keysOf ptr2
theorem CpI.start (nm : List (ByteArray × Nat)) : CpI nm nm [] ptr2 := ⟨List.Perm.refl _, fun x h => by cases h⟩
theorem CpI.ext {nm lo acc : List (ByteArray × Nat)} {ptr3 : List (Nat × Nat)} (h : CpI nm lo acc ptr2) (k : Ext ptr2 ptr3) : CpI nm lo acc ptr3 := ⟨h.perm, fun x hx => k.key (h.has x hx)⟩
theorem CpI.mem {nm lo acc : List (ByteArray × Nat)} (h : CpI nm lo acc ptr2) {n : ByteArray} {i : Nat} (hi : aget lo n = some i) : (n, i) ∈ nm := h.perm.subset (List.mem_append_right _ (aget_mem hi))
theorem CpI.step {nm lo acc : List (ByteArray × Nat)} (hnd : (keysOf nm).Nodup) (h : CpI nm lo acc ptr2) {n : ByteArray} {i : Nat} (hi : aget lo n = some i) (hk : i ∈ keysOf ptr2) : CpI nm (adel lo n) (aput acc n i) ptr2 := by
  have hn : n ∉ keysOf acc := fun hm => by
    have h1 : (keysOf (acc ++ lo)).Nodup := (h.perm.map Prod.fst).symm.nodup hnd
    simp only [keysOf, List.map_append] at h1
    exact (List.nodup_append.1 h1).2.2 n hm n (aget_keys hi) rfl
  rw [aput_end hn]
  refine ⟨?_, fun x hx => ?_⟩
  · rw [List.append_assoc]
    exact ((List.Perm.refl acc).append (adel_permD hi).symm).trans h.perm
  · rcases List.mem_append.1 hx with hx | hx
    · exact h.has x hx
    · simp only [List.mem_cons, List.not_mem_nil, or_false] at hx; subst hx; exact hk
theorem CpI.over {nm acc : List (ByteArray × Nat)} (h : CpI nm [] acc ptr2) : acc.Perm nm := by have := h.perm; rwa [List.append_nil] at this
theorem nmV_none {l : List (ByteArray × Nat)} (h : nmV ptr l = []) : l = [] := List.map_eq_nil_iff.1 h
/-- A disk as a copy has it: names in another order, files that none leads to left out. -/
structure Dk.like (e d : Dk) : Prop where
  names : e.names.Perm d.names
  used : e.used = d.used
  calls : e.calls = d.calls
  room : e.room = d.room
  armed : e.armed = d.armed
  down : e.down = d.down
  ok : e.ok
theorem clone_like (ho : d.ok) (hC : ClI d ptr2 fs2) {acc kacc : List (ByteArray × Nat)} (h1 : CpI d.names [] acc ptr2) (h2 : CpI d.kept [] kacc ptr2) (h3 : ∀ c ∈ d.changes, ∀ i, c.f = some i → i ∈ keysOf ptr2) :
    Dk.like { d with names := acc, kept := kacc, fs := d.fs.filter fun x => decide (x.1 ∈ keysOf ptr2) } d := by
  have hp1 := h1.over
  have hp2 := h2.over
  have hg : ∀ k, k ∈ keysOf ptr2 → aget (d.fs.filter fun x => decide (x.1 ∈ keysOf ptr2)) k = aget d.fs k := fun k hk => by
    have := aget_filterK (fun k => decide (k ∈ keysOf ptr2)) d.fs k
    rw [this, if_pos (by simpa using hk)]
  have hin : ∀ k, k ∈ keysOf ptr2 → k ∈ keysOf (d.fs.filter fun x => decide (x.1 ∈ keysOf ptr2)) := fun k hk => by
    obtain ⟨f, hf⟩ := aget_of_key (hC.keys ▸ hk : k ∈ keysOf fs2)
    exact aget_keys ((hg k hk).trans (hC.sub k f hf))
  have hsl : (keysOf (d.fs.filter fun x => decide (x.1 ∈ keysOf ptr2))).Sublist (keysOf d.fs) := (List.filter_sublist).map _
  refine ⟨hp1, ?_, rfl, rfl, rfl, rfl, ⟨⟨ho.room, ⟨ho.ids.1.sublist hsl, fun i hi => ho.ids.2 i (hsl.subset hi)⟩, fun i f hf => ?_, (hp1.map Prod.fst).symm.nodup ho.nnd, (hp2.map Prod.fst).symm.nodup ho.knd, fun x hx => hin _ (h1.has x hx), fun x hx => hin _ (h2.has x hx), fun c hc i hi => hin _ (h3 c hc i hi)⟩, ho.fcl, ?_, ?_, ho.al⟩⟩
  · show (acc.map fun x => ((aget (d.fs.filter fun x => decide (x.1 ∈ keysOf ptr2)) x.2).map (·.b.length)).getD 0).sum = (d.names.map fun x => d.len x.2).sum
    rw [← (hp1.map fun x => d.len x.2).sum_nat]
    congr 1
    refine List.map_congr_left fun x hx => ?_
    rw [hg _ (h1.has x hx)]; rfl
  · have hf : aget (d.fs.filter fun x => decide (x.1 ∈ keysOf ptr2)) i = some f := hf
    have hk : i ∈ keysOf ptr2 := by
      have := aget_filterK (fun k => decide (k ∈ keysOf ptr2)) d.fs i
      rw [this] at hf
      split at hf
      · rename_i h; simpa using h
      · cases hf
    rw [hg i hk] at hf
    exact ho.fid i f hf
  · show acc.length ≤ d.calls
    rw [hp1.length_eq]; exact ho.nl
  · show kacc.length + d.changes.length ≤ d.calls
    rw [hp2.length_eq]; exact ho.kl
theorem aget_mapK {α β : Type} (h : Nat → β) : ∀ (l : List (Nat × α)) (k : Nat), aget (l.map fun x => (x.1, h x.1)) k = (aget l k).map fun _ => h k
  | [], k => rfl
  | (a, b) :: l, k => by
    have ih := aget_mapK h l k
    simp only [List.map_cons, aget]
    by_cases e : a = k
    · subst e; simp
    · simp only [if_neg e]; exact ih
theorem Ext.same {p q : List (Nat × Nat)} (h : ∀ i, aget p i = aget q i) : Ext p q := fun i b e => (h i) ▸ e
theorem chgV_oP (c : Chg) : chgV ptr c = [.string c.name, .string c.gone, oP ptr c.f] := by unfold chgV oP; cases c.f <;> rfl
theorem oP_one (o : Option Nat) : (oP ptr o).oneCell' = true := by cases o <;> rfl
/-- The copy's chunks, put together. -/
theorem clone_close {q mn mk sc k : Nat} {sa : Option Addr} (ho : d.ok) (hC : ClI d ptr2 fs2) {acc kacc : List (ByteArray × Nat)} (h1 : CpI d.names [] acc ptr2) (h2 : CpI d.kept [] kacc ptr2) (h3 : ∀ c ∈ d.changes, ∀ i, c.f = some i → i ∈ keysOf ptr2) (hk : k = d.changes.length)
    (hs : Mem g w (cells q [.int .i64 d.room, .map (some mn), .map (some mk), .slice sa k sc, .int .i64 d.files, .int .i64 d.armed, .bool d.down, .int .i64 d.calls] 110 :: mapS mn (nmV ptr2 acc) :: mapS mk (nmV ptr2 kacc) :: rowK 3 (.slice sa k sc) (d.changes.map (chgV ptr2)) :: famC flC ptr2 fs2 :: L)) : ∃ e, Dk.like e d ∧ Mem g w (DiskC q e :: L) := by
  subst hk
  have hl := clone_like ho hC h1 h2 h3
  refine ⟨_, hl, ?_⟩
  have hfs : ∀ i, aget (d.fs.filter fun x => decide (x.1 ∈ keysOf ptr2)) i = aget fs2 i := fun i => by
    rw [aget_filterK (fun k => decide (k ∈ keysOf ptr2)) d.fs i]
    by_cases hi : i ∈ keysOf ptr2
    · rw [if_pos (by simpa using hi)]
      obtain ⟨f, hf⟩ := aget_of_key (hC.keys ▸ hi : i ∈ keysOf fs2)
      rw [hf, hC.sub i f hf]
    · rw [if_neg (by simpa using hi), (aget_none_iff fs2 i).2 (hC.keys ▸ hi)]
  have hp : ∀ i, aget ((d.fs.filter fun x => decide (x.1 ∈ keysOf ptr2)).map fun x => (x.1, (aget ptr2 x.1).getD 0)) i = aget ptr2 i := fun i => by
    rw [aget_mapK (fun k => (aget ptr2 k).getD 0), hfs]
    cases h : aget ptr2 i with
    | none => rw [(aget_none_iff fs2 i).2 (hC.keys ▸ (aget_none_iff ptr2 i).1 h)]; rfl
    | some b =>
      obtain ⟨f, hf⟩ := aget_of_key (hC.keys ▸ aget_keys h : i ∈ keysOf fs2)
      rw [hf]; rfl
  have h4 := hs.famPerm 4 rfl (l' := (d.fs.filter fun x => decide (x.1 ∈ keysOf ptr2)).map fun x => (x.1, (aget ptr2 x.1).getD 0)) (m' := d.fs.filter fun x => decide (x.1 ∈ keysOf ptr2)) (by simp [keysOf, List.map_map, Function.comp_def]) hp hfs
  have hx := Ext.same fun i => (hp i).symm
  rw [hx.names h1.has, hx.names h2.has, hx.chgs h3] at h4
  exact Mem.closeD (d := { d with names := acc, kept := kacc, fs := d.fs.filter fun x => decide (x.1 ∈ keysOf ptr2) }) hl.ok h4
set_option maxHeartbeats 4000000 in
set_option maxRecDepth 10000 in
theorem dclone_sl (hcl : d.calls < 1000000) (hs : Mem g w (DiskC p d :: L)) : Calls Tryd.prog 55 #[.pointer (some ⟨p, 0, none⟩)] w (Ret fun v w' => ∃ q e, v = .pointer (some ⟨q, 0, none⟩) ∧ Dk.like e d ∧ Mem g w' (DiskC q e :: DiskC p d :: L)) := by
  obtain ⟨ho, mn, mk, sa, sc, ptr, hs⟩ := hs.openD
  simp only [diskParts, List.cons_append, List.nil_append] at hs
  have hptr : ∀ j ∈ keysOf d.fs, ∃ bj, aget ptr j = some bj ∧ fptr ptr j = .pointer (some ⟨bj, 0, none⟩) ∧ aget d.fs j = some (d.fl j) := fun j hj => ho.ptrOf hs 4 rfl hj
  obtain ⟨hrn, hrc, hra⟩ := hs.rowForm 3 rfl
  have hkl := ho.kl
  refine calls_cw Tryd.func55 rfl rfl ?_
  skip
  refine cw_seq ?_
  refine cw_region ?_
  first | refine lw_val rfl (run_assign (v := .pointer (some _)) rfl) ?_ | refine lw_val rfl (run_assign (v := .pointer none) rfl) ?_
  refine lw_nil ?_
  refine cw_seq ?_
  refine cw_region ?_
  refine lw_makeMap pK hs rfl ?_
  clear hs
  intro m12 w hs
  try simp only [List.set_cons_succ, List.set_cons_zero] at hs
  refine lw_alloc hs rfl ze136 ?_
  clear hs
  intro b3 w hs
  try simp only [List.set_cons_succ, List.set_cons_zero] at hs
  first | refine lw_store (v := .map _) hs 0 rfl sz136 rfl rfl rfl rfl ?_ | refine lw_store (v := .map _) hs 1 rfl sz136 rfl rfl rfl rfl ?_ | refine lw_store (v := .map _) hs 2 rfl sz136 rfl rfl rfl rfl ?_ | refine lw_store (v := .map _) hs 3 rfl sz136 rfl rfl rfl rfl ?_ | refine lw_store (v := .map _) hs 4 rfl sz136 rfl rfl rfl rfl ?_ | refine lw_store (v := .map _) hs 5 rfl sz136 rfl rfl rfl rfl ?_ | refine lw_store (v := .map _) hs 6 rfl sz136 rfl rfl rfl rfl ?_ | refine lw_store (v := .map _) hs 7 rfl sz136 rfl rfl rfl rfl ?_ | refine lw_store (v := .map _) hs 8 rfl sz136 rfl rfl rfl rfl ?_ | refine lw_store (v := .map _) hs 9 rfl sz136 rfl rfl rfl rfl ?_ | refine lw_store (v := .map _) hs 10 rfl sz136 rfl rfl rfl rfl ?_ | refine lw_store (v := .map _) hs 11 rfl sz136 rfl rfl rfl rfl ?_ | refine lw_store (v := .map _) hs 12 rfl sz136 rfl rfl rfl rfl ?_ | refine lw_store (v := .map _) hs 13 rfl sz136 rfl rfl rfl rfl ?_
  clear hs
  intro w hs
  try simp only [List.set_cons_succ, List.set_cons_zero] at hs
  refine lw_nil ?_
  refine cw_seq ?_
  refine cw_region ?_
  refine lw_val rfl (run_makeFunc) ?_
  first | refine lw_val rfl (run_assign (v := .func _ _ _) rfl) ?_
  refine lw_nil ?_
  refine cw_seq ?_
  refine cw_region ?_
  first | refine lw_val rfl (run_move (v := .pointer (some _)) rfl) ?_ | refine lw_val rfl (run_move (v := .pointer none) rfl) ?_
  refine lw_val rfl (run_nilCheckP rfl) ?_
  first | refine lw_val rfl (run_loadRow hs 0 rfl Tryd.underlying110 sz110 rfl) ?_ | refine lw_val rfl (run_loadRow hs 1 rfl Tryd.underlying110 sz110 rfl) ?_ | refine lw_val rfl (run_loadRow hs 2 rfl Tryd.underlying110 sz110 rfl) ?_ | refine lw_val rfl (run_loadRow hs 3 rfl Tryd.underlying110 sz110 rfl) ?_ | refine lw_val rfl (run_loadRow hs 4 rfl Tryd.underlying110 sz110 rfl) ?_ | refine lw_val rfl (run_loadRow hs 5 rfl Tryd.underlying110 sz110 rfl) ?_ | refine lw_val rfl (run_loadRow hs 6 rfl Tryd.underlying110 sz110 rfl) ?_ | refine lw_val rfl (run_loadRow hs 7 rfl Tryd.underlying110 sz110 rfl) ?_ | refine lw_val rfl (run_loadRow hs 8 rfl Tryd.underlying110 sz110 rfl) ?_ | refine lw_val rfl (run_loadRow hs 9 rfl Tryd.underlying110 sz110 rfl) ?_ | refine lw_val rfl (run_loadRow hs 10 rfl Tryd.underlying110 sz110 rfl) ?_ | refine lw_val rfl (run_loadRow hs 11 rfl Tryd.underlying110 sz110 rfl) ?_ | refine lw_val rfl (run_loadRow hs 12 rfl Tryd.underlying110 sz110 rfl) ?_ | refine lw_val rfl (run_loadRow hs 13 rfl Tryd.underlying110 sz110 rfl) ?_
  refine lw_alloc hs rfl ze110 ?_
  clear hs
  intro b5 w hs
  try simp only [List.set_cons_succ, List.set_cons_zero] at hs
  first | refine lw_storeRow hs 0 rfl rfl rfl sz110 rfl rfl ?_ | refine lw_storeRow hs 1 rfl rfl rfl sz110 rfl rfl ?_ | refine lw_storeRow hs 2 rfl rfl rfl sz110 rfl rfl ?_ | refine lw_storeRow hs 3 rfl rfl rfl sz110 rfl rfl ?_ | refine lw_storeRow hs 4 rfl rfl rfl sz110 rfl rfl ?_ | refine lw_storeRow hs 5 rfl rfl rfl sz110 rfl rfl ?_ | refine lw_storeRow hs 6 rfl rfl rfl sz110 rfl rfl ?_ | refine lw_storeRow hs 7 rfl rfl rfl sz110 rfl rfl ?_ | refine lw_storeRow hs 8 rfl rfl rfl sz110 rfl rfl ?_ | refine lw_storeRow hs 9 rfl rfl rfl sz110 rfl rfl ?_ | refine lw_storeRow hs 10 rfl rfl rfl sz110 rfl rfl ?_ | refine lw_storeRow hs 11 rfl rfl rfl sz110 rfl rfl ?_ | refine lw_storeRow hs 12 rfl rfl rfl sz110 rfl rfl ?_ | refine lw_storeRow hs 13 rfl rfl rfl sz110 rfl rfl ?_
  clear hs
  intro w hs
  try simp only [List.set_cons_succ, List.set_cons_zero] at hs
  refine lw_nil ?_
  refine cw_seq ?_
  refine cw_region ?_
  refine lw_makeMap Value.string hs rfl ?_
  clear hs
  intro m17 w hs
  try simp only [List.set_cons_succ, List.set_cons_zero] at hs
  refine lw_makeMap Value.string hs rfl ?_
  clear hs
  intro m18 w hs
  try simp only [List.set_cons_succ, List.set_cons_zero] at hs
  first | refine lw_val rfl (run_fieldAddr (o' := 1) Tryd.underlying110 rfl sz107 rfl rfl rfl) ?_ | refine lw_val rfl (run_fieldAddr Tryd.underlying110 rfl sz107 rfl rfl rfl) ?_
  first | refine lw_store (v := .map _) hs 0 rfl sz107 rfl rfl rfl rfl ?_ | refine lw_store (v := .map _) hs 1 rfl sz107 rfl rfl rfl rfl ?_ | refine lw_store (v := .map _) hs 2 rfl sz107 rfl rfl rfl rfl ?_ | refine lw_store (v := .map _) hs 3 rfl sz107 rfl rfl rfl rfl ?_ | refine lw_store (v := .map _) hs 4 rfl sz107 rfl rfl rfl rfl ?_ | refine lw_store (v := .map _) hs 5 rfl sz107 rfl rfl rfl rfl ?_ | refine lw_store (v := .map _) hs 6 rfl sz107 rfl rfl rfl rfl ?_ | refine lw_store (v := .map _) hs 7 rfl sz107 rfl rfl rfl rfl ?_ | refine lw_store (v := .map _) hs 8 rfl sz107 rfl rfl rfl rfl ?_ | refine lw_store (v := .map _) hs 9 rfl sz107 rfl rfl rfl rfl ?_ | refine lw_store (v := .map _) hs 10 rfl sz107 rfl rfl rfl rfl ?_ | refine lw_store (v := .map _) hs 11 rfl sz107 rfl rfl rfl rfl ?_ | refine lw_store (v := .map _) hs 12 rfl sz107 rfl rfl rfl rfl ?_ | refine lw_store (v := .map _) hs 13 rfl sz107 rfl rfl rfl rfl ?_
  clear hs
  intro w hs
  try simp only [List.set_cons_succ, List.set_cons_zero] at hs
  first | refine lw_val rfl (run_fieldAddr (o' := 2) Tryd.underlying110 rfl sz107 rfl rfl rfl) ?_ | refine lw_val rfl (run_fieldAddr Tryd.underlying110 rfl sz107 rfl rfl rfl) ?_
  first | refine lw_store (v := .map _) hs 0 rfl sz107 rfl rfl rfl rfl ?_ | refine lw_store (v := .map _) hs 1 rfl sz107 rfl rfl rfl rfl ?_ | refine lw_store (v := .map _) hs 2 rfl sz107 rfl rfl rfl rfl ?_ | refine lw_store (v := .map _) hs 3 rfl sz107 rfl rfl rfl rfl ?_ | refine lw_store (v := .map _) hs 4 rfl sz107 rfl rfl rfl rfl ?_ | refine lw_store (v := .map _) hs 5 rfl sz107 rfl rfl rfl rfl ?_ | refine lw_store (v := .map _) hs 6 rfl sz107 rfl rfl rfl rfl ?_ | refine lw_store (v := .map _) hs 7 rfl sz107 rfl rfl rfl rfl ?_ | refine lw_store (v := .map _) hs 8 rfl sz107 rfl rfl rfl rfl ?_ | refine lw_store (v := .map _) hs 9 rfl sz107 rfl rfl rfl rfl ?_ | refine lw_store (v := .map _) hs 10 rfl sz107 rfl rfl rfl rfl ?_ | refine lw_store (v := .map _) hs 11 rfl sz107 rfl rfl rfl rfl ?_ | refine lw_store (v := .map _) hs 12 rfl sz107 rfl rfl rfl rfl ?_ | refine lw_store (v := .map _) hs 13 rfl sz107 rfl rfl rfl rfl ?_
  clear hs
  intro w hs
  try simp only [List.set_cons_succ, List.set_cons_zero] at hs
  first | refine lw_val rfl (run_fieldAddr (o' := 3) Tryd.underlying110 rfl sz108 rfl rfl rfl) ?_ | refine lw_val rfl (run_fieldAddr Tryd.underlying110 rfl sz108 rfl rfl rfl) ?_
  first | refine lw_store (v := .slice _ _ _) hs 0 rfl sz108 rfl rfl rfl rfl ?_ | refine lw_store (v := .slice _ _ _) hs 1 rfl sz108 rfl rfl rfl rfl ?_ | refine lw_store (v := .slice _ _ _) hs 2 rfl sz108 rfl rfl rfl rfl ?_ | refine lw_store (v := .slice _ _ _) hs 3 rfl sz108 rfl rfl rfl rfl ?_ | refine lw_store (v := .slice _ _ _) hs 4 rfl sz108 rfl rfl rfl rfl ?_ | refine lw_store (v := .slice _ _ _) hs 5 rfl sz108 rfl rfl rfl rfl ?_ | refine lw_store (v := .slice _ _ _) hs 6 rfl sz108 rfl rfl rfl rfl ?_ | refine lw_store (v := .slice _ _ _) hs 7 rfl sz108 rfl rfl rfl rfl ?_ | refine lw_store (v := .slice _ _ _) hs 8 rfl sz108 rfl rfl rfl rfl ?_ | refine lw_store (v := .slice _ _ _) hs 9 rfl sz108 rfl rfl rfl rfl ?_ | refine lw_store (v := .slice _ _ _) hs 10 rfl sz108 rfl rfl rfl rfl ?_ | refine lw_store (v := .slice _ _ _) hs 11 rfl sz108 rfl rfl rfl rfl ?_ | refine lw_store (v := .slice _ _ _) hs 12 rfl sz108 rfl rfl rfl rfl ?_ | refine lw_store (v := .slice _ _ _) hs 13 rfl sz108 rfl rfl rfl rfl ?_
  clear hs
  intro w hs
  try simp only [List.set_cons_succ, List.set_cons_zero] at hs
  refine lw_nil ?_
  refine cw_seq ?_
  refine cw_seq ?_
  refine cw_region ?_
  first | refine lw_val rfl (run_move (v := .pointer (some _)) rfl) ?_ | refine lw_val rfl (run_move (v := .pointer none) rfl) ?_
  refine lw_val rfl (run_nilCheckP rfl) ?_
  first | refine lw_val rfl (run_fieldAddr (o' := 1) Tryd.underlying110 rfl sz107 rfl rfl rfl) ?_ | refine lw_val rfl (run_fieldAddr Tryd.underlying110 rfl sz107 rfl rfl rfl) ?_
  first | refine lw_val rfl (run_load Tryd.underlying107 rfl rfl (hs.cellAt 0 rfl rfl)) ?_ | refine lw_val rfl (run_load Tryd.underlying107 rfl rfl (hs.cellAt 1 rfl rfl)) ?_ | refine lw_val rfl (run_load Tryd.underlying107 rfl rfl (hs.cellAt 2 rfl rfl)) ?_ | refine lw_val rfl (run_load Tryd.underlying107 rfl rfl (hs.cellAt 3 rfl rfl)) ?_ | refine lw_val rfl (run_load Tryd.underlying107 rfl rfl (hs.cellAt 4 rfl rfl)) ?_ | refine lw_val rfl (run_load Tryd.underlying107 rfl rfl (hs.cellAt 5 rfl rfl)) ?_ | refine lw_val rfl (run_load Tryd.underlying107 rfl rfl (hs.cellAt 6 rfl rfl)) ?_ | refine lw_val rfl (run_load Tryd.underlying107 rfl rfl (hs.cellAt 7 rfl rfl)) ?_ | refine lw_val rfl (run_load Tryd.underlying107 rfl rfl (hs.cellAt 8 rfl rfl)) ?_ | refine lw_val rfl (run_load Tryd.underlying107 rfl rfl (hs.cellAt 9 rfl rfl)) ?_ | refine lw_val rfl (run_load Tryd.underlying107 rfl rfl (hs.cellAt 10 rfl rfl)) ?_ | refine lw_val rfl (run_load Tryd.underlying107 rfl rfl (hs.cellAt 11 rfl rfl)) ?_ | refine lw_val rfl (run_load Tryd.underlying107 rfl rfl (hs.cellAt 12 rfl rfl)) ?_ | refine lw_val rfl (run_load Tryd.underlying107 rfl rfl (hs.cellAt 13 rfl rfl)) ?_
  first | refine lw_rangeM hs rfl 0 rfl Tryd.underlying107 rfl ?_ | refine lw_rangeM hs rfl 1 rfl Tryd.underlying107 rfl ?_ | refine lw_rangeM hs rfl 2 rfl Tryd.underlying107 rfl ?_ | refine lw_rangeM hs rfl 3 rfl Tryd.underlying107 rfl ?_ | refine lw_rangeM hs rfl 4 rfl Tryd.underlying107 rfl ?_ | refine lw_rangeM hs rfl 5 rfl Tryd.underlying107 rfl ?_ | refine lw_rangeM hs rfl 6 rfl Tryd.underlying107 rfl ?_ | refine lw_rangeM hs rfl 7 rfl Tryd.underlying107 rfl ?_ | refine lw_rangeM hs rfl 8 rfl Tryd.underlying107 rfl ?_ | refine lw_rangeM hs rfl 9 rfl Tryd.underlying107 rfl ?_ | refine lw_rangeM hs rfl 10 rfl Tryd.underlying107 rfl ?_ | refine lw_rangeM hs rfl 11 rfl Tryd.underlying107 rfl ?_ | refine lw_rangeM hs rfl 12 rfl Tryd.underlying107 rfl ?_ | refine lw_rangeM hs rfl 13 rfl Tryd.underlying107 rfl ?_
  clear hs
  intro r26 w hs
  try simp only [List.set_cons_succ, List.set_cons_zero] at hs
  refine lw_nil ?_
  replace hs := (hs.addE (famC_nil (R := flC) (κ := Nat) _)).arr [5, 0, 2, 4, 10, 3, 7, 1, 6, 8, 9] 11 (by decide)
  refine cw_block ?_
  refine cw_loop (X := List (ByteArray × Nat) × Option (ByteArray × Value) × List (ByteArray × Nat) × List (Nat × Nat) × List (Nat × Fl)) [6, 7, 27, 28, 29, 30, 31, 32, 33, 34, 35, 36, 37] (fun x => []) (fun x w => CpI d.names x.1 x.2.2.1 x.2.2.2.1 ∧ ClI d x.2.2.2.1 x.2.2.2.2 ∧ Mem g w (mapC pK m12 (esP ptr x.2.2.2.1) :: famC flC x.2.2.2.1 x.2.2.2.2 :: mapS m17 (nmV x.2.2.2.1 x.2.2.1) :: cells b3 [.map (some m12)] 136 :: famC flC ptr d.fs :: cells b5 [.int .i64 d.room, .map (some m17), .map (some m18), .slice none 0 0, .int .i64 d.files, .int .i64 d.armed, .bool d.down, .int .i64 d.calls] 110 :: rngC Value.string r26 mn (nmV ptr d.names) (nmV ptr x.1) x.2.1 :: mapS m18 [] :: cells p (diskL mn mk d sa sc) 110 :: mapS mk (nmV ptr d.kept) :: rowK 3 (.slice sa d.changes.length sc) (d.changes.map (chgV ptr)) :: L)) (fun x => x.1.length) ((d.names, none, [], [], [])) ?_ ?_ ?_
  · exact trivial
  · exact ⟨CpI.start _, ⟨rfl, List.nodup_nil, fun i f h => by cases h⟩, hs⟩
  clear hs
  rintro x ξ w hI
  obtain ⟨lo, cur, acc, ptr2, fs2⟩ := x
  obtain ⟨hN, hC, hs⟩ := hI
  simp only at hN hC hs
  refine cw_seq ?_
  refine cw_region ?_
  first | refine lw_nextM hs rfl 0 rfl strKind.inj rfl ?_ ?_ | refine lw_nextM hs rfl 0 rfl intKind.inj rfl ?_ ?_ | refine lw_nextM hs rfl 1 rfl strKind.inj rfl ?_ ?_ | refine lw_nextM hs rfl 1 rfl intKind.inj rfl ?_ ?_ | refine lw_nextM hs rfl 2 rfl strKind.inj rfl ?_ ?_ | refine lw_nextM hs rfl 2 rfl intKind.inj rfl ?_ ?_ | refine lw_nextM hs rfl 3 rfl strKind.inj rfl ?_ ?_ | refine lw_nextM hs rfl 3 rfl intKind.inj rfl ?_ ?_ | refine lw_nextM hs rfl 4 rfl strKind.inj rfl ?_ ?_ | refine lw_nextM hs rfl 4 rfl intKind.inj rfl ?_ ?_ | refine lw_nextM hs rfl 5 rfl strKind.inj rfl ?_ ?_ | refine lw_nextM hs rfl 5 rfl intKind.inj rfl ?_ ?_ | refine lw_nextM hs rfl 6 rfl strKind.inj rfl ?_ ?_ | refine lw_nextM hs rfl 6 rfl intKind.inj rfl ?_ ?_ | refine lw_nextM hs rfl 7 rfl strKind.inj rfl ?_ ?_ | refine lw_nextM hs rfl 7 rfl intKind.inj rfl ?_ ?_ | refine lw_nextM hs rfl 8 rfl strKind.inj rfl ?_ ?_ | refine lw_nextM hs rfl 8 rfl intKind.inj rfl ?_ ?_ | refine lw_nextM hs rfl 9 rfl strKind.inj rfl ?_ ?_ | refine lw_nextM hs rfl 9 rfl intKind.inj rfl ?_ ?_ | refine lw_nextM hs rfl 10 rfl strKind.inj rfl ?_ ?_ | refine lw_nextM hs rfl 10 rfl intKind.inj rfl ?_ ?_ | refine lw_nextM hs rfl 11 rfl strKind.inj rfl ?_ ?_ | refine lw_nextM hs rfl 11 rfl intKind.inj rfl ?_ ?_ | refine lw_nextM hs rfl 12 rfl strKind.inj rfl ?_ ?_ | refine lw_nextM hs rfl 12 rfl intKind.inj rfl ?_ ?_ | refine lw_nextM hs rfl 13 rfl strKind.inj rfl ?_ ?_ | refine lw_nextM hs rfl 13 rfl intKind.inj rfl ?_ ?_
  · intro hl27
    obtain rfl := nmV_none hl27
    replace hs := hs.rngd 6 rfl
    first | refine lw_val rfl (run_extract (v := .bool _) rfl rfl) ?_
    refine lw_nil ?_
    refine cw_seq ?_
    refine cw_iff rfl rfl ?_
    refine cw_exit rfl ?_
    refine cw_seq ?_
    refine cw_seq ?_
    refine cw_region ?_
    first | refine lw_val rfl (run_move (v := .pointer (some _)) rfl) ?_ | refine lw_val rfl (run_move (v := .pointer none) rfl) ?_
    refine lw_val rfl (run_nilCheckP rfl) ?_
    first | refine lw_val rfl (run_fieldAddr (o' := 2) Tryd.underlying110 rfl sz107 rfl rfl rfl) ?_ | refine lw_val rfl (run_fieldAddr Tryd.underlying110 rfl sz107 rfl rfl rfl) ?_
    first | refine lw_val rfl (run_load Tryd.underlying107 rfl rfl (hs.cellAt 0 rfl rfl)) ?_ | refine lw_val rfl (run_load Tryd.underlying107 rfl rfl (hs.cellAt 1 rfl rfl)) ?_ | refine lw_val rfl (run_load Tryd.underlying107 rfl rfl (hs.cellAt 2 rfl rfl)) ?_ | refine lw_val rfl (run_load Tryd.underlying107 rfl rfl (hs.cellAt 3 rfl rfl)) ?_ | refine lw_val rfl (run_load Tryd.underlying107 rfl rfl (hs.cellAt 4 rfl rfl)) ?_ | refine lw_val rfl (run_load Tryd.underlying107 rfl rfl (hs.cellAt 5 rfl rfl)) ?_ | refine lw_val rfl (run_load Tryd.underlying107 rfl rfl (hs.cellAt 6 rfl rfl)) ?_ | refine lw_val rfl (run_load Tryd.underlying107 rfl rfl (hs.cellAt 7 rfl rfl)) ?_ | refine lw_val rfl (run_load Tryd.underlying107 rfl rfl (hs.cellAt 8 rfl rfl)) ?_ | refine lw_val rfl (run_load Tryd.underlying107 rfl rfl (hs.cellAt 9 rfl rfl)) ?_ | refine lw_val rfl (run_load Tryd.underlying107 rfl rfl (hs.cellAt 10 rfl rfl)) ?_ | refine lw_val rfl (run_load Tryd.underlying107 rfl rfl (hs.cellAt 11 rfl rfl)) ?_ | refine lw_val rfl (run_load Tryd.underlying107 rfl rfl (hs.cellAt 12 rfl rfl)) ?_ | refine lw_val rfl (run_load Tryd.underlying107 rfl rfl (hs.cellAt 13 rfl rfl)) ?_
    first | refine lw_rangeM hs rfl 0 rfl Tryd.underlying107 rfl ?_ | refine lw_rangeM hs rfl 1 rfl Tryd.underlying107 rfl ?_ | refine lw_rangeM hs rfl 2 rfl Tryd.underlying107 rfl ?_ | refine lw_rangeM hs rfl 3 rfl Tryd.underlying107 rfl ?_ | refine lw_rangeM hs rfl 4 rfl Tryd.underlying107 rfl ?_ | refine lw_rangeM hs rfl 5 rfl Tryd.underlying107 rfl ?_ | refine lw_rangeM hs rfl 6 rfl Tryd.underlying107 rfl ?_ | refine lw_rangeM hs rfl 7 rfl Tryd.underlying107 rfl ?_ | refine lw_rangeM hs rfl 8 rfl Tryd.underlying107 rfl ?_ | refine lw_rangeM hs rfl 9 rfl Tryd.underlying107 rfl ?_ | refine lw_rangeM hs rfl 10 rfl Tryd.underlying107 rfl ?_ | refine lw_rangeM hs rfl 11 rfl Tryd.underlying107 rfl ?_ | refine lw_rangeM hs rfl 12 rfl Tryd.underlying107 rfl ?_ | refine lw_rangeM hs rfl 13 rfl Tryd.underlying107 rfl ?_
    clear hs
    intro r42 w hs
    try simp only [List.set_cons_succ, List.set_cons_zero] at hs
    refine lw_nil ?_
    replace hs := hs.arr [0, 1, 7, 2, 3, 4, 5, 6, 8, 9, 10] 11 (by decide)
    refine cw_block ?_
    refine cw_loop (X := List (ByteArray × Nat) × Option (ByteArray × Value) × List (ByteArray × Nat) × List (Nat × Nat) × List (Nat × Fl)) [8, 9, 43, 44, 45, 46, 47, 48, 49, 50, 51, 52, 53] (fun x => []) (fun x w => CpI d.names [] acc x.2.2.2.1 ∧ CpI d.kept x.1 x.2.2.1 x.2.2.2.1 ∧ ClI d x.2.2.2.1 x.2.2.2.2 ∧ Mem g w (mapC pK m12 (esP ptr x.2.2.2.1) :: famC flC x.2.2.2.1 x.2.2.2.2 :: mapS m18 (nmV x.2.2.2.1 x.2.2.1) :: mapS m17 (nmV x.2.2.2.1 acc) :: cells b3 [.map (some m12)] 136 :: famC flC ptr d.fs :: cells b5 [.int .i64 d.room, .map (some m17), .map (some m18), .slice none 0 0, .int .i64 d.files, .int .i64 d.armed, .bool d.down, .int .i64 d.calls] 110 :: mapS mn (nmV ptr d.names) :: cells p (diskL mn mk d sa sc) 110 :: rngC Value.string r42 mk (nmV ptr d.kept) (nmV ptr x.1) x.2.1 :: rowK 3 (.slice sa d.changes.length sc) (d.changes.map (chgV ptr)) :: L)) (fun x => x.1.length) ((d.kept, none, [], ptr2, fs2)) ?_ ?_ ?_
    · exact trivial
    · exact ⟨hN, CpI.start _, hC, hs⟩
    clear hs
    rintro x ξ w hI
    obtain ⟨lo1, cur1, kacc, ptr4, fs4⟩ := x
    obtain ⟨hN1, hKp, hC1, hs⟩ := hI
    simp only at hN1 hKp hC1 hs
    refine cw_seq ?_
    refine cw_region ?_
    first | refine lw_nextM hs rfl 0 rfl strKind.inj rfl ?_ ?_ | refine lw_nextM hs rfl 0 rfl intKind.inj rfl ?_ ?_ | refine lw_nextM hs rfl 1 rfl strKind.inj rfl ?_ ?_ | refine lw_nextM hs rfl 1 rfl intKind.inj rfl ?_ ?_ | refine lw_nextM hs rfl 2 rfl strKind.inj rfl ?_ ?_ | refine lw_nextM hs rfl 2 rfl intKind.inj rfl ?_ ?_ | refine lw_nextM hs rfl 3 rfl strKind.inj rfl ?_ ?_ | refine lw_nextM hs rfl 3 rfl intKind.inj rfl ?_ ?_ | refine lw_nextM hs rfl 4 rfl strKind.inj rfl ?_ ?_ | refine lw_nextM hs rfl 4 rfl intKind.inj rfl ?_ ?_ | refine lw_nextM hs rfl 5 rfl strKind.inj rfl ?_ ?_ | refine lw_nextM hs rfl 5 rfl intKind.inj rfl ?_ ?_ | refine lw_nextM hs rfl 6 rfl strKind.inj rfl ?_ ?_ | refine lw_nextM hs rfl 6 rfl intKind.inj rfl ?_ ?_ | refine lw_nextM hs rfl 7 rfl strKind.inj rfl ?_ ?_ | refine lw_nextM hs rfl 7 rfl intKind.inj rfl ?_ ?_ | refine lw_nextM hs rfl 8 rfl strKind.inj rfl ?_ ?_ | refine lw_nextM hs rfl 8 rfl intKind.inj rfl ?_ ?_ | refine lw_nextM hs rfl 9 rfl strKind.inj rfl ?_ ?_ | refine lw_nextM hs rfl 9 rfl intKind.inj rfl ?_ ?_ | refine lw_nextM hs rfl 10 rfl strKind.inj rfl ?_ ?_ | refine lw_nextM hs rfl 10 rfl intKind.inj rfl ?_ ?_ | refine lw_nextM hs rfl 11 rfl strKind.inj rfl ?_ ?_ | refine lw_nextM hs rfl 11 rfl intKind.inj rfl ?_ ?_ | refine lw_nextM hs rfl 12 rfl strKind.inj rfl ?_ ?_ | refine lw_nextM hs rfl 12 rfl intKind.inj rfl ?_ ?_ | refine lw_nextM hs rfl 13 rfl strKind.inj rfl ?_ ?_ | refine lw_nextM hs rfl 13 rfl intKind.inj rfl ?_ ?_
    · intro hl43
      obtain rfl := nmV_none hl43
      replace hs := hs.rngd 9 rfl
      first | refine lw_val rfl (run_extract (v := .bool _) rfl rfl) ?_
      refine lw_nil ?_
      refine cw_seq ?_
      refine cw_iff rfl rfl ?_
      refine cw_exit rfl ?_
      refine cw_seq ?_
      refine cw_seq ?_
      refine cw_region ?_
      first | refine lw_val rfl (run_move (v := .pointer (some _)) rfl) ?_ | refine lw_val rfl (run_move (v := .pointer none) rfl) ?_
      refine lw_val rfl (run_nilCheckP rfl) ?_
      first | refine lw_val rfl (run_fieldAddr (o' := 3) Tryd.underlying110 rfl sz108 rfl rfl rfl) ?_ | refine lw_val rfl (run_fieldAddr Tryd.underlying110 rfl sz108 rfl rfl rfl) ?_
      first | refine lw_val rfl (run_load Tryd.underlying108 rfl rfl (hs.cellAt 0 rfl rfl)) ?_ | refine lw_val rfl (run_load Tryd.underlying108 rfl rfl (hs.cellAt 1 rfl rfl)) ?_ | refine lw_val rfl (run_load Tryd.underlying108 rfl rfl (hs.cellAt 2 rfl rfl)) ?_ | refine lw_val rfl (run_load Tryd.underlying108 rfl rfl (hs.cellAt 3 rfl rfl)) ?_ | refine lw_val rfl (run_load Tryd.underlying108 rfl rfl (hs.cellAt 4 rfl rfl)) ?_ | refine lw_val rfl (run_load Tryd.underlying108 rfl rfl (hs.cellAt 5 rfl rfl)) ?_ | refine lw_val rfl (run_load Tryd.underlying108 rfl rfl (hs.cellAt 6 rfl rfl)) ?_ | refine lw_val rfl (run_load Tryd.underlying108 rfl rfl (hs.cellAt 7 rfl rfl)) ?_ | refine lw_val rfl (run_load Tryd.underlying108 rfl rfl (hs.cellAt 8 rfl rfl)) ?_ | refine lw_val rfl (run_load Tryd.underlying108 rfl rfl (hs.cellAt 9 rfl rfl)) ?_ | refine lw_val rfl (run_load Tryd.underlying108 rfl rfl (hs.cellAt 10 rfl rfl)) ?_ | refine lw_val rfl (run_load Tryd.underlying108 rfl rfl (hs.cellAt 11 rfl rfl)) ?_ | refine lw_val rfl (run_load Tryd.underlying108 rfl rfl (hs.cellAt 12 rfl rfl)) ?_ | refine lw_val rfl (run_load Tryd.underlying108 rfl rfl (hs.cellAt 13 rfl rfl)) ?_
      refine lw_val rfl (run_lenS Tryd.underlying108 rfl) ?_
      first | refine lw_val rfl (run_move (v := .int .i64 _) rfl) ?_
      refine lw_nil ?_
      replace hs := (hs.addE (rows_nil _)).arr [1, 2, 0, 3, 4, 5, 6, 7, 8, 9, 10, 11] 12 (by decide)
      refine cw_block ?_
      refine cw_loop (X := Nat × List (Nat × Nat) × List (Nat × Fl) × Option Addr × Nat) [11, 59, 60, 61, 62, 63, 64, 65, 66, 67, 68, 69, 70, 71, 72, 73, 74] (fun x => [(59, .int .i64 (x.1 : Nat))]) (fun x w => x.1 ≤ d.changes.length ∧ CpI d.names [] acc x.2.1 ∧ CpI d.kept [] kacc x.2.1 ∧ (∀ c ∈ d.changes.take x.1, ∀ i, c.f = some i → i ∈ keysOf x.2.1) ∧ ClI d x.2.1 x.2.2.1 ∧ Mem g w (mapC pK m12 (esP ptr x.2.1) :: famC flC x.2.1 x.2.2.1 :: rowK 3 (.slice x.2.2.2.1 x.1 x.2.2.2.2) ((d.changes.take x.1).map (chgV x.2.1)) :: mapS m18 (nmV x.2.1 kacc) :: mapS m17 (nmV x.2.1 acc) :: cells b3 [.map (some m12)] 136 :: famC flC ptr d.fs :: cells b5 [.int .i64 d.room, .map (some m17), .map (some m18), .slice x.2.2.2.1 x.1 x.2.2.2.2, .int .i64 d.files, .int .i64 d.armed, .bool d.down, .int .i64 d.calls] 110 :: mapS mn (nmV ptr d.names) :: cells p (diskL mn mk d sa sc) 110 :: mapS mk (nmV ptr d.kept) :: rowK 3 (.slice sa d.changes.length sc) (d.changes.map (chgV ptr)) :: L)) (fun x => d.changes.length - x.1) ((0, ptr4, fs4, none, 0)) ?_ ?_ ?_
      · exact ⟨rfl, trivial⟩
      · exact ⟨Nat.zero_le _, hN1, hKp, (fun c hc => by simp at hc), hC1, hs⟩
      clear hs
      rintro x ξ w hI
      obtain ⟨k, ptr6, fs6, oa, oc⟩ := x
      obtain ⟨hkl2, hN2, hK2, hG, hC2, hs⟩ := hI
      simp only at hkl2 hN2 hK2 hG hC2 hs
      show cw _ _ _ _ _ _ (updL (mix _ ξ _) [(59, .int .i64 (k : Nat))]) w
      refine cw_seq ?_
      refine cw_region ?_
      refine lw_val rfl (run_lss rfl rfl) ?_
      refine lw_nil ?_
      refine cw_seq ?_
      refine cw_if rfl ?_ ?_
      · intro h60
        have g60 := of_decide_eq_true h60
        obtain ⟨ch, hch⟩ : ∃ ch, d.changes[k]? = some ch := ⟨_, List.getElem?_eq_getElem (by omega)⟩
        have hci := ho.cin ch (List.mem_of_getElem? hch)
        obtain ⟨rb, ro, rfl⟩ : ∃ rb ro, sa = some ⟨rb, ro, none⟩ := hra.elim (fun h => by omega) (fun ⟨b, o, h⟩ => ⟨b, o, h⟩)
        obtain ⟨PP, hPP⟩ : ∃ PP, oP ptr ch.f = PP := ⟨_, rfl⟩
        have hP1 : PP.oneCell' = true := hPP ▸ oP_one _
        refine cw_skip ?_
        refine cw_seq ?_
        refine cw_block ?_
        refine cw_seq ?_
        refine cw_region ?_
        refine lw_val rfl (run_indexAddrK Tryd.underlying108 sz117 rfl rfl rfl (by omega) rfl) ?_
        refine lw_val rfl (run_loadK (cs := [.string ch.name, .string ch.gone, PP]) Tryd.underlying117 sz117 rfl (hs.rowAt 11 rfl (q := k) (by rw [List.getElem?_map, hch, Option.map_some, chgV_oP, hPP]))) ?_
        refine lw_alloc hs rfl ze117 ?_
        clear hs
        intro b11 w hs
        try simp only [List.set_cons_succ, List.set_cons_zero] at hs
        refine lw_storeRow (vs := [.string ch.name, .string ch.gone, PP]) hs 0 rfl rfl rfl sz117 rfl (by simp only [List.all_cons, List.all_nil, hP1]; rfl) ?_
        clear hs
        intro w hs
        simp only [List.set_cons_succ, List.set_cons_zero] at hs
        refine lw_nil ?_
        refine cw_seq ?_
        refine cw_region ?_
        first | refine lw_val rfl (run_move (v := .func _ _ _) rfl) ?_
        first | refine lw_val rfl (run_fieldAddr (o' := 2) Tryd.underlying117 rfl sz112 rfl rfl rfl) ?_ | refine lw_val rfl (run_fieldAddr Tryd.underlying117 rfl sz112 rfl rfl rfl) ?_
        first | refine lw_val rfl (run_load Tryd.underlying112 rfl rfl (hs.cellAt 0 rfl rfl)) ?_ | refine lw_val rfl (run_load Tryd.underlying112 rfl rfl (hs.cellAt 1 rfl rfl)) ?_ | refine lw_val rfl (run_load Tryd.underlying112 rfl rfl (hs.cellAt 2 rfl rfl)) ?_ | refine lw_val rfl (run_load Tryd.underlying112 rfl rfl (hs.cellAt 3 rfl rfl)) ?_ | refine lw_val rfl (run_load Tryd.underlying112 rfl rfl (hs.cellAt 4 rfl rfl)) ?_ | refine lw_val rfl (run_load Tryd.underlying112 rfl rfl (hs.cellAt 5 rfl rfl)) ?_ | refine lw_val rfl (run_load Tryd.underlying112 rfl rfl (hs.cellAt 6 rfl rfl)) ?_ | refine lw_val rfl (run_load Tryd.underlying112 rfl rfl (hs.cellAt 7 rfl rfl)) ?_ | refine lw_val rfl (run_load Tryd.underlying112 rfl rfl (hs.cellAt 8 rfl rfl)) ?_ | refine lw_val rfl (run_load Tryd.underlying112 rfl rfl (hs.cellAt 9 rfl rfl)) ?_ | refine lw_val rfl (run_load Tryd.underlying112 rfl rfl (hs.cellAt 10 rfl rfl)) ?_ | refine lw_val rfl (run_load Tryd.underlying112 rfl rfl (hs.cellAt 11 rfl rfl)) ?_ | refine lw_val rfl (run_load Tryd.underlying112 rfl rfl (hs.cellAt 12 rfl rfl)) ?_ | refine lw_val rfl (run_load Tryd.underlying112 rfl rfl (hs.cellAt 13 rfl rfl)) ?_
        refine lw_callv rfl (cap := #[.pointer (some ⟨b3, 0, none⟩)]) en96 rfl (cloneF_sl ho.tookB hC2 ch.f hci hPP (hs.arr [1, 6, 2, 7, 0, 3, 4, 5, 8, 9, 10, 11, 12] 13 (by decide))) ?_
        clear hs
        rintro _ w ⟨ptr7, fs7, hX, hC3, hk3, Q, hQ, rfl, hs⟩
        have hQ1 : Q.oneCell' = true := hQ ▸ oP_one _
        replace hs := hs.arr [4, 0, 2, 5, 6, 7, 1, 3, 8, 9, 10, 11, 12] 13 (by decide)
        rw [hX.names hN2.has, hX.names hK2.has, hX.chgs hG] at hs
        first | refine lw_val rfl (run_fieldAddr (o' := 2) Tryd.underlying117 rfl sz112 rfl rfl rfl) ?_ | refine lw_val rfl (run_fieldAddr Tryd.underlying117 rfl sz112 rfl rfl rfl) ?_
        refine lw_store (v := Q) hs 0 rfl sz112 rfl rfl rfl hQ1 ?_
        clear hs
        intro w hs
        simp only [List.set_cons_succ, List.set_cons_zero] at hs
        refine lw_nil ?_
        refine cw_region ?_
        first | refine lw_val rfl (run_fieldAddr (o' := 3) Tryd.underlying110 rfl sz108 rfl rfl rfl) ?_ | refine lw_val rfl (run_fieldAddr Tryd.underlying110 rfl sz108 rfl rfl rfl) ?_
        first | refine lw_val rfl (run_load Tryd.underlying108 rfl rfl (hs.cellAt 0 rfl rfl)) ?_ | refine lw_val rfl (run_load Tryd.underlying108 rfl rfl (hs.cellAt 1 rfl rfl)) ?_ | refine lw_val rfl (run_load Tryd.underlying108 rfl rfl (hs.cellAt 2 rfl rfl)) ?_ | refine lw_val rfl (run_load Tryd.underlying108 rfl rfl (hs.cellAt 3 rfl rfl)) ?_ | refine lw_val rfl (run_load Tryd.underlying108 rfl rfl (hs.cellAt 4 rfl rfl)) ?_ | refine lw_val rfl (run_load Tryd.underlying108 rfl rfl (hs.cellAt 5 rfl rfl)) ?_ | refine lw_val rfl (run_load Tryd.underlying108 rfl rfl (hs.cellAt 6 rfl rfl)) ?_ | refine lw_val rfl (run_load Tryd.underlying108 rfl rfl (hs.cellAt 7 rfl rfl)) ?_ | refine lw_val rfl (run_load Tryd.underlying108 rfl rfl (hs.cellAt 8 rfl rfl)) ?_ | refine lw_val rfl (run_load Tryd.underlying108 rfl rfl (hs.cellAt 9 rfl rfl)) ?_ | refine lw_val rfl (run_load Tryd.underlying108 rfl rfl (hs.cellAt 10 rfl rfl)) ?_ | refine lw_val rfl (run_load Tryd.underlying108 rfl rfl (hs.cellAt 11 rfl rfl)) ?_ | refine lw_val rfl (run_load Tryd.underlying108 rfl rfl (hs.cellAt 12 rfl rfl)) ?_ | refine lw_val rfl (run_load Tryd.underlying108 rfl rfl (hs.cellAt 13 rfl rfl)) ?_
        first | refine lw_val rfl (run_loadRow hs 0 rfl Tryd.underlying117 sz117 rfl) ?_ | refine lw_val rfl (run_loadRow hs 1 rfl Tryd.underlying117 sz117 rfl) ?_ | refine lw_val rfl (run_loadRow hs 2 rfl Tryd.underlying117 sz117 rfl) ?_ | refine lw_val rfl (run_loadRow hs 3 rfl Tryd.underlying117 sz117 rfl) ?_ | refine lw_val rfl (run_loadRow hs 4 rfl Tryd.underlying117 sz117 rfl) ?_ | refine lw_val rfl (run_loadRow hs 5 rfl Tryd.underlying117 sz117 rfl) ?_ | refine lw_val rfl (run_loadRow hs 6 rfl Tryd.underlying117 sz117 rfl) ?_ | refine lw_val rfl (run_loadRow hs 7 rfl Tryd.underlying117 sz117 rfl) ?_ | refine lw_val rfl (run_loadRow hs 8 rfl Tryd.underlying117 sz117 rfl) ?_ | refine lw_val rfl (run_loadRow hs 9 rfl Tryd.underlying117 sz117 rfl) ?_ | refine lw_val rfl (run_loadRow hs 10 rfl Tryd.underlying117 sz117 rfl) ?_ | refine lw_val rfl (run_loadRow hs 11 rfl Tryd.underlying117 sz117 rfl) ?_ | refine lw_val rfl (run_loadRow hs 12 rfl Tryd.underlying117 sz117 rfl) ?_ | refine lw_val rfl (run_loadRow hs 13 rfl Tryd.underlying117 sz117 rfl) ?_
        refine lw_buildRow hs rfl (row := [.string ch.name, .string ch.gone, Q]) Tryd.underlying108 zsC rfl (by simp [Instr.fill, Value.cells, Array.range_succ, show Array.range 0 = #[] from by simp]) (by decide) (by decide) ?_
        clear hs
        intro b71 w hs
        refine lw_appendRow hs rfl 4 0 rfl rfl Tryd.underlying108 Tryd.underlying108 in117 rfl rfl (by simp only [List.all_cons, List.all_nil, hQ1]; rfl) rfl rfl (by simp only [List.length_map, List.length_take]; omega) (by simp only [List.length_map, List.length_take]; omega) ?_
        clear hs
        intro a72 c72 w hs
        simp only [List.set_cons_succ, List.set_cons_zero] at hs
        rw [show ((d.changes.take k).map (chgV ptr7)).length = k by simp only [List.length_map, List.length_take]; omega, ← hQ, ← chgV_oP] at hs
        first | refine lw_val rfl (run_fieldAddr (o' := 3) Tryd.underlying110 rfl sz108 rfl rfl rfl) ?_ | refine lw_val rfl (run_fieldAddr Tryd.underlying110 rfl sz108 rfl rfl rfl) ?_
        first | refine lw_store (v := .slice _ _ _) hs 0 rfl sz108 rfl rfl rfl rfl ?_ | refine lw_store (v := .slice _ _ _) hs 1 rfl sz108 rfl rfl rfl rfl ?_ | refine lw_store (v := .slice _ _ _) hs 2 rfl sz108 rfl rfl rfl rfl ?_ | refine lw_store (v := .slice _ _ _) hs 3 rfl sz108 rfl rfl rfl rfl ?_ | refine lw_store (v := .slice _ _ _) hs 4 rfl sz108 rfl rfl rfl rfl ?_ | refine lw_store (v := .slice _ _ _) hs 5 rfl sz108 rfl rfl rfl rfl ?_ | refine lw_store (v := .slice _ _ _) hs 6 rfl sz108 rfl rfl rfl rfl ?_ | refine lw_store (v := .slice _ _ _) hs 7 rfl sz108 rfl rfl rfl rfl ?_ | refine lw_store (v := .slice _ _ _) hs 8 rfl sz108 rfl rfl rfl rfl ?_ | refine lw_store (v := .slice _ _ _) hs 9 rfl sz108 rfl rfl rfl rfl ?_ | refine lw_store (v := .slice _ _ _) hs 10 rfl sz108 rfl rfl rfl rfl ?_ | refine lw_store (v := .slice _ _ _) hs 11 rfl sz108 rfl rfl rfl rfl ?_ | refine lw_store (v := .slice _ _ _) hs 12 rfl sz108 rfl rfl rfl rfl ?_ | refine lw_store (v := .slice _ _ _) hs 13 rfl sz108 rfl rfl rfl rfl ?_
        clear hs
        intro w hs
        try simp only [List.set_cons_succ, List.set_cons_zero] at hs
        refine lw_nil ?_
        refine cw_region ?_
        refine lw_val rfl (run_add64 rfl rfl rfl (inI (by omega) (by omega))) ?_
        first | refine lw_val rfl (run_move (v := .int .i64 _) rfl) ?_
        refine lw_nil ?_
        have h8 := hs.tail.tail
        have hlk : ((d.changes.take k).map (chgV ptr7)).length = k := by simp only [List.length_map, List.length_take]; omega
        rw [hlk] at h8
        exact ⟨(k + 1, ptr7, fs7, a72, c72), by simp only; omega, ⟨by simp only; omega, hN2.ext hX, hK2.ext hX, fun c hc i hi => by rw [List.take_add_one, hch] at hc; rcases List.mem_append.1 hc with hc | hc; exact hX.key (hG c hc i hi); simp at hc; subst hc; exact hk3 i hi, hC3, by simp only [List.take_add_one, hch, Option.toList, List.map_append, List.map_cons, List.map_nil]; exact h8⟩, ⟨by simp only; rfl, trivial⟩, by repeat (first | exact Out.mix _ _ _ | refine Out.updo rfl ?_ | refine Out.upd rfl ?_ | refine Out.mixIn rfl ?_)⟩
      · intro h60
        have g60 := of_decide_eq_false h60
        refine cw_exit rfl ?_
        refine cw_seq ?_
        refine cw_region ?_
        first | refine lw_val rfl (run_assign (v := .pointer (some _)) rfl) ?_ | refine lw_val rfl (run_assign (v := .pointer none) rfl) ?_
        refine lw_nil ?_
        refine cw_ret ?_
        first | refine res1 (v := .pointer (some _)) rfl rfl ?_ | refine res1 (v := .pointer none) rfl rfl ?_
        have hk : k = d.changes.length := by omega
        rw [hk, List.take_length] at hG
        rw [List.take_of_length_le (by omega)] at hs
        obtain ⟨e, he, h8⟩ := clone_close ho hC2 hN2 hK2 hG hk (hs.arr [7, 4, 3, 2, 1, 0, 5, 6, 8, 9, 10, 11] 12 (by decide))
        refine ⟨_, rfl, b5, e, rfl, he, ?_⟩
        have h9 := h8.arr [5, 4, 6, 7, 3, 0] 8 (by decide)
        exact (Mem.closeD (L := DiskC b5 e :: L) ho h9).arr [1, 0] 2 (by decide)
    · clear hs
      intro k43 v43 w hk43 hs
      try simp only [List.set_cons_succ, List.set_cons_zero] at hs
      rw [nmV_get] at hk43
      obtain ⟨i, hi, hv⟩ := Option.map_eq_some_iff.1 hk43
      have hik := ho.kin _ (hKp.mem hi)
      obtain ⟨bi, hbi, hpi, _⟩ := hptr i hik
      obtain rfl := hpi.symm.trans hv
      first | refine lw_val rfl (run_extract (v := .bool _) rfl rfl) ?_
      refine lw_nil ?_
      refine cw_seq ?_
      refine cw_ift rfl rfl ?_
      refine cw_skip ?_
      refine cw_block ?_
      refine cw_seq ?_
      refine cw_region ?_
      first | refine lw_val rfl (run_entryM hs 0 rfl rfl) ?_ | refine lw_val rfl (run_entryM hs 1 rfl rfl) ?_ | refine lw_val rfl (run_entryM hs 2 rfl rfl) ?_ | refine lw_val rfl (run_entryM hs 3 rfl rfl) ?_ | refine lw_val rfl (run_entryM hs 4 rfl rfl) ?_ | refine lw_val rfl (run_entryM hs 5 rfl rfl) ?_ | refine lw_val rfl (run_entryM hs 6 rfl rfl) ?_ | refine lw_val rfl (run_entryM hs 7 rfl rfl) ?_ | refine lw_val rfl (run_entryM hs 8 rfl rfl) ?_ | refine lw_val rfl (run_entryM hs 9 rfl rfl) ?_ | refine lw_val rfl (run_entryM hs 10 rfl rfl) ?_ | refine lw_val rfl (run_entryM hs 11 rfl rfl) ?_ | refine lw_val rfl (run_entryM hs 12 rfl rfl) ?_ | refine lw_val rfl (run_entryM hs 13 rfl rfl) ?_
      first | refine lw_val rfl (run_extract (v := .string _) rfl rfl) ?_
      first | refine lw_val rfl (run_extract (v := .pointer (some _)) rfl rfl) ?_ | refine lw_val rfl (run_extract (v := .pointer none) rfl rfl) ?_
      first | refine lw_val rfl (run_assign (v := .string _) rfl) ?_
      first | refine lw_val rfl (run_assign (v := .pointer (some _)) rfl) ?_ | refine lw_val rfl (run_assign (v := .pointer none) rfl) ?_
      refine lw_nil ?_
      refine cw_drawS mixes (hs.suffix 4 rfl) ?_
      intro w tr hK
      replace hs := tr _ hs
      clear tr
      first | refine aw_take 0 rfl (by kernel_rfl) (by kernel_rfl) (by kernel_rfl) rfl (fun w hs => run_fieldAddr (o' := 2) Tryd.underlying110 rfl sz107 rfl rfl rfl) hK ?_ | refine aw_take 0 rfl (by kernel_rfl) (by kernel_rfl) (by kernel_rfl) rfl (fun w hs => run_fieldAddr Tryd.underlying110 rfl sz107 rfl rfl rfl) hK ?_
      first | refine aw_take 1 rfl (by kernel_rfl) (by kernel_rfl) (by kernel_rfl) rfl (fun w hs => run_load Tryd.underlying107 rfl rfl (hs.cellAt 0 rfl rfl)) hK ?_ | refine aw_take 1 rfl (by kernel_rfl) (by kernel_rfl) (by kernel_rfl) rfl (fun w hs => run_load Tryd.underlying107 rfl rfl (hs.cellAt 1 rfl rfl)) hK ?_ | refine aw_take 1 rfl (by kernel_rfl) (by kernel_rfl) (by kernel_rfl) rfl (fun w hs => run_load Tryd.underlying107 rfl rfl (hs.cellAt 2 rfl rfl)) hK ?_ | refine aw_take 1 rfl (by kernel_rfl) (by kernel_rfl) (by kernel_rfl) rfl (fun w hs => run_load Tryd.underlying107 rfl rfl (hs.cellAt 3 rfl rfl)) hK ?_ | refine aw_take 1 rfl (by kernel_rfl) (by kernel_rfl) (by kernel_rfl) rfl (fun w hs => run_load Tryd.underlying107 rfl rfl (hs.cellAt 4 rfl rfl)) hK ?_ | refine aw_take 1 rfl (by kernel_rfl) (by kernel_rfl) (by kernel_rfl) rfl (fun w hs => run_load Tryd.underlying107 rfl rfl (hs.cellAt 5 rfl rfl)) hK ?_ | refine aw_take 1 rfl (by kernel_rfl) (by kernel_rfl) (by kernel_rfl) rfl (fun w hs => run_load Tryd.underlying107 rfl rfl (hs.cellAt 6 rfl rfl)) hK ?_ | refine aw_take 1 rfl (by kernel_rfl) (by kernel_rfl) (by kernel_rfl) rfl (fun w hs => run_load Tryd.underlying107 rfl rfl (hs.cellAt 7 rfl rfl)) hK ?_ | refine aw_take 1 rfl (by kernel_rfl) (by kernel_rfl) (by kernel_rfl) rfl (fun w hs => run_load Tryd.underlying107 rfl rfl (hs.cellAt 8 rfl rfl)) hK ?_ | refine aw_take 1 rfl (by kernel_rfl) (by kernel_rfl) (by kernel_rfl) rfl (fun w hs => run_load Tryd.underlying107 rfl rfl (hs.cellAt 9 rfl rfl)) hK ?_ | refine aw_take 1 rfl (by kernel_rfl) (by kernel_rfl) (by kernel_rfl) rfl (fun w hs => run_load Tryd.underlying107 rfl rfl (hs.cellAt 10 rfl rfl)) hK ?_ | refine aw_take 1 rfl (by kernel_rfl) (by kernel_rfl) (by kernel_rfl) rfl (fun w hs => run_load Tryd.underlying107 rfl rfl (hs.cellAt 11 rfl rfl)) hK ?_ | refine aw_take 1 rfl (by kernel_rfl) (by kernel_rfl) (by kernel_rfl) rfl (fun w hs => run_load Tryd.underlying107 rfl rfl (hs.cellAt 12 rfl rfl)) hK ?_ | refine aw_take 1 rfl (by kernel_rfl) (by kernel_rfl) (by kernel_rfl) rfl (fun w hs => run_load Tryd.underlying107 rfl rfl (hs.cellAt 13 rfl rfl)) hK ?_
      first | refine aw_take 2 rfl (by kernel_rfl) (by kernel_rfl) (by kernel_rfl) rfl (fun w hs => run_move (v := .string _) rfl) hK ?_
      first | refine aw_take 3 rfl (by kernel_rfl) (by kernel_rfl) (by kernel_rfl) rfl (fun w hs => run_move (v := .func _ _ _) rfl) hK ?_
      first | refine aw_take 4 rfl (by kernel_rfl) (by kernel_rfl) (by kernel_rfl) rfl (fun w hs => run_move (v := .pointer (some _)) rfl) hK ?_ | refine aw_take 4 rfl (by kernel_rfl) (by kernel_rfl) (by kernel_rfl) rfl (fun w hs => run_move (v := .pointer none) rfl) hK ?_
      refine aw_ready [5] (by kernel_rfl) (by simp) ?_
      refine ⟨⟨_, rfl, ?_⟩, trivial⟩
      refine lw_callv rfl (cap := #[.pointer (some ⟨b3, 0, none⟩)]) en96 rfl (cloneF_sl ho.tookB hC1 (some i) (fun j h => by cases h; exact hik) hpi (hs.arr [0, 4, 1, 5, 2, 3, 6, 7, 8, 9, 10] 11 (by decide))) ?_
      clear hs
      rintro _ w ⟨ptr5, fs5, hX, hC3, hk3, Q, hQ, rfl, hs⟩
      obtain ⟨nb, hnb⟩ := aget_of_key (hk3 i rfl)
      obtain rfl := hQ.symm.trans (fptr_some hnb)
      replace hs := hs.arr [0, 2, 4, 5, 1, 3, 6, 7, 8, 9, 10] 11 (by decide)
      rw [hX.names hKp.has, hX.names hN1.has] at hs
      clear hK
      have hK := hs.suffix 4 rfl
      refine lw_nil ⟨hK, ?_⟩
      refine aw_ready [6] (by kernel_rfl) (by simp) ?_
      refine ⟨⟨_, rfl, ?_⟩, trivial⟩
      first | refine lw_mapUpdate (v := .pointer (some _)) hs 0 rfl strKind Tryd.underlying107 Tryd.underlying9 rfl rfl rfl ?_ | refine lw_mapUpdate (v := .pointer none) hs 0 rfl strKind Tryd.underlying107 Tryd.underlying9 rfl rfl rfl ?_ | refine lw_mapUpdate (v := .pointer (some _)) hs 1 rfl strKind Tryd.underlying107 Tryd.underlying9 rfl rfl rfl ?_ | refine lw_mapUpdate (v := .pointer none) hs 1 rfl strKind Tryd.underlying107 Tryd.underlying9 rfl rfl rfl ?_ | refine lw_mapUpdate (v := .pointer (some _)) hs 2 rfl strKind Tryd.underlying107 Tryd.underlying9 rfl rfl rfl ?_ | refine lw_mapUpdate (v := .pointer none) hs 2 rfl strKind Tryd.underlying107 Tryd.underlying9 rfl rfl rfl ?_ | refine lw_mapUpdate (v := .pointer (some _)) hs 3 rfl strKind Tryd.underlying107 Tryd.underlying9 rfl rfl rfl ?_ | refine lw_mapUpdate (v := .pointer none) hs 3 rfl strKind Tryd.underlying107 Tryd.underlying9 rfl rfl rfl ?_ | refine lw_mapUpdate (v := .pointer (some _)) hs 4 rfl strKind Tryd.underlying107 Tryd.underlying9 rfl rfl rfl ?_ | refine lw_mapUpdate (v := .pointer none) hs 4 rfl strKind Tryd.underlying107 Tryd.underlying9 rfl rfl rfl ?_ | refine lw_mapUpdate (v := .pointer (some _)) hs 5 rfl strKind Tryd.underlying107 Tryd.underlying9 rfl rfl rfl ?_ | refine lw_mapUpdate (v := .pointer none) hs 5 rfl strKind Tryd.underlying107 Tryd.underlying9 rfl rfl rfl ?_ | refine lw_mapUpdate (v := .pointer (some _)) hs 6 rfl strKind Tryd.underlying107 Tryd.underlying9 rfl rfl rfl ?_ | refine lw_mapUpdate (v := .pointer none) hs 6 rfl strKind Tryd.underlying107 Tryd.underlying9 rfl rfl rfl ?_ | refine lw_mapUpdate (v := .pointer (some _)) hs 7 rfl strKind Tryd.underlying107 Tryd.underlying9 rfl rfl rfl ?_ | refine lw_mapUpdate (v := .pointer none) hs 7 rfl strKind Tryd.underlying107 Tryd.underlying9 rfl rfl rfl ?_ | refine lw_mapUpdate (v := .pointer (some _)) hs 8 rfl strKind Tryd.underlying107 Tryd.underlying9 rfl rfl rfl ?_ | refine lw_mapUpdate (v := .pointer none) hs 8 rfl strKind Tryd.underlying107 Tryd.underlying9 rfl rfl rfl ?_ | refine lw_mapUpdate (v := .pointer (some _)) hs 9 rfl strKind Tryd.underlying107 Tryd.underlying9 rfl rfl rfl ?_ | refine lw_mapUpdate (v := .pointer none) hs 9 rfl strKind Tryd.underlying107 Tryd.underlying9 rfl rfl rfl ?_ | refine lw_mapUpdate (v := .pointer (some _)) hs 10 rfl strKind Tryd.underlying107 Tryd.underlying9 rfl rfl rfl ?_ | refine lw_mapUpdate (v := .pointer none) hs 10 rfl strKind Tryd.underlying107 Tryd.underlying9 rfl rfl rfl ?_ | refine lw_mapUpdate (v := .pointer (some _)) hs 11 rfl strKind Tryd.underlying107 Tryd.underlying9 rfl rfl rfl ?_ | refine lw_mapUpdate (v := .pointer none) hs 11 rfl strKind Tryd.underlying107 Tryd.underlying9 rfl rfl rfl ?_ | refine lw_mapUpdate (v := .pointer (some _)) hs 12 rfl strKind Tryd.underlying107 Tryd.underlying9 rfl rfl rfl ?_ | refine lw_mapUpdate (v := .pointer none) hs 12 rfl strKind Tryd.underlying107 Tryd.underlying9 rfl rfl rfl ?_ | refine lw_mapUpdate (v := .pointer (some _)) hs 13 rfl strKind Tryd.underlying107 Tryd.underlying9 rfl rfl rfl ?_ | refine lw_mapUpdate (v := .pointer none) hs 13 rfl strKind Tryd.underlying107 Tryd.underlying9 rfl rfl rfl ?_
      clear hs
      intro w hs
      try simp only [List.set_cons_succ, List.set_cons_zero] at hs
      clear hK
      have hK := hs.suffix 4 rfl
      refine lw_nil ⟨hK, ?_⟩
      refine aw_done (by kernel_rfl) ?_
      clear hK
      exact ⟨(adel lo1 k43, some (k43, .pointer (some ⟨bi, 0, none⟩)), aput kacc k43 i, ptr5, fs5), by simp only; have := (adel_permD hi).length_eq; simp at this; omega, ⟨hN1.ext hX, (hKp.ext hX).step ho.knd hi (hk3 i rfl), hC3, by simp only [nmV_del, nmV_put, fptr_some hnb]; exact hs⟩, trivial, by repeat (first | exact Out.mix _ _ _ | refine Out.updo rfl ?_ | refine Out.upd rfl ?_ | refine Out.mixIn rfl ?_)⟩
  · clear hs
    intro k27 v27 w hk27 hs
    try simp only [List.set_cons_succ, List.set_cons_zero] at hs
    rw [nmV_get] at hk27
    obtain ⟨i, hi, hv⟩ := Option.map_eq_some_iff.1 hk27
    have hik := ho.nin _ (hN.mem hi)
    obtain ⟨bi, hbi, hpi, _⟩ := hptr i hik
    obtain rfl := hpi.symm.trans hv
    first | refine lw_val rfl (run_extract (v := .bool _) rfl rfl) ?_
    refine lw_nil ?_
    refine cw_seq ?_
    refine cw_ift rfl rfl ?_
    refine cw_skip ?_
    refine cw_block ?_
    refine cw_seq ?_
    refine cw_region ?_
    first | refine lw_val rfl (run_entryM hs 0 rfl rfl) ?_ | refine lw_val rfl (run_entryM hs 1 rfl rfl) ?_ | refine lw_val rfl (run_entryM hs 2 rfl rfl) ?_ | refine lw_val rfl (run_entryM hs 3 rfl rfl) ?_ | refine lw_val rfl (run_entryM hs 4 rfl rfl) ?_ | refine lw_val rfl (run_entryM hs 5 rfl rfl) ?_ | refine lw_val rfl (run_entryM hs 6 rfl rfl) ?_ | refine lw_val rfl (run_entryM hs 7 rfl rfl) ?_ | refine lw_val rfl (run_entryM hs 8 rfl rfl) ?_ | refine lw_val rfl (run_entryM hs 9 rfl rfl) ?_ | refine lw_val rfl (run_entryM hs 10 rfl rfl) ?_ | refine lw_val rfl (run_entryM hs 11 rfl rfl) ?_ | refine lw_val rfl (run_entryM hs 12 rfl rfl) ?_ | refine lw_val rfl (run_entryM hs 13 rfl rfl) ?_
    first | refine lw_val rfl (run_extract (v := .string _) rfl rfl) ?_
    first | refine lw_val rfl (run_extract (v := .pointer (some _)) rfl rfl) ?_ | refine lw_val rfl (run_extract (v := .pointer none) rfl rfl) ?_
    first | refine lw_val rfl (run_assign (v := .string _) rfl) ?_
    first | refine lw_val rfl (run_assign (v := .pointer (some _)) rfl) ?_ | refine lw_val rfl (run_assign (v := .pointer none) rfl) ?_
    refine lw_nil ?_
    refine cw_drawS mixes (hs.suffix 3 rfl) ?_
    intro w tr hK
    replace hs := tr _ hs
    clear tr
    first | refine aw_take 0 rfl (by kernel_rfl) (by kernel_rfl) (by kernel_rfl) rfl (fun w hs => run_fieldAddr (o' := 1) Tryd.underlying110 rfl sz107 rfl rfl rfl) hK ?_ | refine aw_take 0 rfl (by kernel_rfl) (by kernel_rfl) (by kernel_rfl) rfl (fun w hs => run_fieldAddr Tryd.underlying110 rfl sz107 rfl rfl rfl) hK ?_
    first | refine aw_take 1 rfl (by kernel_rfl) (by kernel_rfl) (by kernel_rfl) rfl (fun w hs => run_load Tryd.underlying107 rfl rfl (hs.cellAt 0 rfl rfl)) hK ?_ | refine aw_take 1 rfl (by kernel_rfl) (by kernel_rfl) (by kernel_rfl) rfl (fun w hs => run_load Tryd.underlying107 rfl rfl (hs.cellAt 1 rfl rfl)) hK ?_ | refine aw_take 1 rfl (by kernel_rfl) (by kernel_rfl) (by kernel_rfl) rfl (fun w hs => run_load Tryd.underlying107 rfl rfl (hs.cellAt 2 rfl rfl)) hK ?_ | refine aw_take 1 rfl (by kernel_rfl) (by kernel_rfl) (by kernel_rfl) rfl (fun w hs => run_load Tryd.underlying107 rfl rfl (hs.cellAt 3 rfl rfl)) hK ?_ | refine aw_take 1 rfl (by kernel_rfl) (by kernel_rfl) (by kernel_rfl) rfl (fun w hs => run_load Tryd.underlying107 rfl rfl (hs.cellAt 4 rfl rfl)) hK ?_ | refine aw_take 1 rfl (by kernel_rfl) (by kernel_rfl) (by kernel_rfl) rfl (fun w hs => run_load Tryd.underlying107 rfl rfl (hs.cellAt 5 rfl rfl)) hK ?_ | refine aw_take 1 rfl (by kernel_rfl) (by kernel_rfl) (by kernel_rfl) rfl (fun w hs => run_load Tryd.underlying107 rfl rfl (hs.cellAt 6 rfl rfl)) hK ?_ | refine aw_take 1 rfl (by kernel_rfl) (by kernel_rfl) (by kernel_rfl) rfl (fun w hs => run_load Tryd.underlying107 rfl rfl (hs.cellAt 7 rfl rfl)) hK ?_ | refine aw_take 1 rfl (by kernel_rfl) (by kernel_rfl) (by kernel_rfl) rfl (fun w hs => run_load Tryd.underlying107 rfl rfl (hs.cellAt 8 rfl rfl)) hK ?_ | refine aw_take 1 rfl (by kernel_rfl) (by kernel_rfl) (by kernel_rfl) rfl (fun w hs => run_load Tryd.underlying107 rfl rfl (hs.cellAt 9 rfl rfl)) hK ?_ | refine aw_take 1 rfl (by kernel_rfl) (by kernel_rfl) (by kernel_rfl) rfl (fun w hs => run_load Tryd.underlying107 rfl rfl (hs.cellAt 10 rfl rfl)) hK ?_ | refine aw_take 1 rfl (by kernel_rfl) (by kernel_rfl) (by kernel_rfl) rfl (fun w hs => run_load Tryd.underlying107 rfl rfl (hs.cellAt 11 rfl rfl)) hK ?_ | refine aw_take 1 rfl (by kernel_rfl) (by kernel_rfl) (by kernel_rfl) rfl (fun w hs => run_load Tryd.underlying107 rfl rfl (hs.cellAt 12 rfl rfl)) hK ?_ | refine aw_take 1 rfl (by kernel_rfl) (by kernel_rfl) (by kernel_rfl) rfl (fun w hs => run_load Tryd.underlying107 rfl rfl (hs.cellAt 13 rfl rfl)) hK ?_
    first | refine aw_take 2 rfl (by kernel_rfl) (by kernel_rfl) (by kernel_rfl) rfl (fun w hs => run_move (v := .string _) rfl) hK ?_
    first | refine aw_take 3 rfl (by kernel_rfl) (by kernel_rfl) (by kernel_rfl) rfl (fun w hs => run_move (v := .func _ _ _) rfl) hK ?_
    first | refine aw_take 4 rfl (by kernel_rfl) (by kernel_rfl) (by kernel_rfl) rfl (fun w hs => run_move (v := .pointer (some _)) rfl) hK ?_ | refine aw_take 4 rfl (by kernel_rfl) (by kernel_rfl) (by kernel_rfl) rfl (fun w hs => run_move (v := .pointer none) rfl) hK ?_
    refine aw_ready [5] (by kernel_rfl) (by simp) ?_
    refine ⟨⟨_, rfl, ?_⟩, trivial⟩
    refine lw_callv rfl (cap := #[.pointer (some ⟨b3, 0, none⟩)]) en96 rfl (cloneF_sl ho.tookB hC (some i) (fun j h => by cases h; exact hik) hpi (hs.arr [0, 3, 1, 4, 2, 5, 6, 7, 8, 9, 10] 11 (by decide))) ?_
    clear hs
    rintro _ w ⟨ptr3, fs3, hX, hC3, hk3, Q, hQ, rfl, hs⟩
    obtain ⟨nb, hnb⟩ := aget_of_key (hk3 i rfl)
    obtain rfl := hQ.symm.trans (fptr_some hnb)
    replace hs := hs.arr [0, 2, 4, 1, 3, 5, 6, 7, 8, 9, 10] 11 (by decide)
    rw [hX.names hN.has] at hs
    clear hK
    have hK := hs.suffix 3 rfl
    refine lw_nil ⟨hK, ?_⟩
    refine aw_ready [6] (by kernel_rfl) (by simp) ?_
    refine ⟨⟨_, rfl, ?_⟩, trivial⟩
    first | refine lw_mapUpdate (v := .pointer (some _)) hs 0 rfl strKind Tryd.underlying107 Tryd.underlying9 rfl rfl rfl ?_ | refine lw_mapUpdate (v := .pointer none) hs 0 rfl strKind Tryd.underlying107 Tryd.underlying9 rfl rfl rfl ?_ | refine lw_mapUpdate (v := .pointer (some _)) hs 1 rfl strKind Tryd.underlying107 Tryd.underlying9 rfl rfl rfl ?_ | refine lw_mapUpdate (v := .pointer none) hs 1 rfl strKind Tryd.underlying107 Tryd.underlying9 rfl rfl rfl ?_ | refine lw_mapUpdate (v := .pointer (some _)) hs 2 rfl strKind Tryd.underlying107 Tryd.underlying9 rfl rfl rfl ?_ | refine lw_mapUpdate (v := .pointer none) hs 2 rfl strKind Tryd.underlying107 Tryd.underlying9 rfl rfl rfl ?_ | refine lw_mapUpdate (v := .pointer (some _)) hs 3 rfl strKind Tryd.underlying107 Tryd.underlying9 rfl rfl rfl ?_ | refine lw_mapUpdate (v := .pointer none) hs 3 rfl strKind Tryd.underlying107 Tryd.underlying9 rfl rfl rfl ?_ | refine lw_mapUpdate (v := .pointer (some _)) hs 4 rfl strKind Tryd.underlying107 Tryd.underlying9 rfl rfl rfl ?_ | refine lw_mapUpdate (v := .pointer none) hs 4 rfl strKind Tryd.underlying107 Tryd.underlying9 rfl rfl rfl ?_ | refine lw_mapUpdate (v := .pointer (some _)) hs 5 rfl strKind Tryd.underlying107 Tryd.underlying9 rfl rfl rfl ?_ | refine lw_mapUpdate (v := .pointer none) hs 5 rfl strKind Tryd.underlying107 Tryd.underlying9 rfl rfl rfl ?_ | refine lw_mapUpdate (v := .pointer (some _)) hs 6 rfl strKind Tryd.underlying107 Tryd.underlying9 rfl rfl rfl ?_ | refine lw_mapUpdate (v := .pointer none) hs 6 rfl strKind Tryd.underlying107 Tryd.underlying9 rfl rfl rfl ?_ | refine lw_mapUpdate (v := .pointer (some _)) hs 7 rfl strKind Tryd.underlying107 Tryd.underlying9 rfl rfl rfl ?_ | refine lw_mapUpdate (v := .pointer none) hs 7 rfl strKind Tryd.underlying107 Tryd.underlying9 rfl rfl rfl ?_ | refine lw_mapUpdate (v := .pointer (some _)) hs 8 rfl strKind Tryd.underlying107 Tryd.underlying9 rfl rfl rfl ?_ | refine lw_mapUpdate (v := .pointer none) hs 8 rfl strKind Tryd.underlying107 Tryd.underlying9 rfl rfl rfl ?_ | refine lw_mapUpdate (v := .pointer (some _)) hs 9 rfl strKind Tryd.underlying107 Tryd.underlying9 rfl rfl rfl ?_ | refine lw_mapUpdate (v := .pointer none) hs 9 rfl strKind Tryd.underlying107 Tryd.underlying9 rfl rfl rfl ?_ | refine lw_mapUpdate (v := .pointer (some _)) hs 10 rfl strKind Tryd.underlying107 Tryd.underlying9 rfl rfl rfl ?_ | refine lw_mapUpdate (v := .pointer none) hs 10 rfl strKind Tryd.underlying107 Tryd.underlying9 rfl rfl rfl ?_ | refine lw_mapUpdate (v := .pointer (some _)) hs 11 rfl strKind Tryd.underlying107 Tryd.underlying9 rfl rfl rfl ?_ | refine lw_mapUpdate (v := .pointer none) hs 11 rfl strKind Tryd.underlying107 Tryd.underlying9 rfl rfl rfl ?_ | refine lw_mapUpdate (v := .pointer (some _)) hs 12 rfl strKind Tryd.underlying107 Tryd.underlying9 rfl rfl rfl ?_ | refine lw_mapUpdate (v := .pointer none) hs 12 rfl strKind Tryd.underlying107 Tryd.underlying9 rfl rfl rfl ?_ | refine lw_mapUpdate (v := .pointer (some _)) hs 13 rfl strKind Tryd.underlying107 Tryd.underlying9 rfl rfl rfl ?_ | refine lw_mapUpdate (v := .pointer none) hs 13 rfl strKind Tryd.underlying107 Tryd.underlying9 rfl rfl rfl ?_
    clear hs
    intro w hs
    try simp only [List.set_cons_succ, List.set_cons_zero] at hs
    clear hK
    have hK := hs.suffix 3 rfl
    refine lw_nil ⟨hK, ?_⟩
    refine aw_done (by kernel_rfl) ?_
    clear hK
    exact ⟨(adel lo k27, some (k27, .pointer (some ⟨bi, 0, none⟩)), aput acc k27 i, ptr3, fs3), by simp only; have := (adel_permD hi).length_eq; simp at this; omega, ⟨(hN.ext hX).step ho.nnd hi (hk3 i rfl), hC3, by simp only [nmV_del, nmV_put, fptr_some hnb]; exact hs⟩, trivial, by repeat (first | exact Out.mix _ _ _ | refine Out.updo rfl ?_ | refine Out.upd rfl ?_ | refine Out.mixIn rfl ?_)⟩
end Go.Proofs.YtmnfehbnjgmgjaaDoor
