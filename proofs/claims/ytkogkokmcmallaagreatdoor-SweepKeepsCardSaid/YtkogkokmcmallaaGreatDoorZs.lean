/- The store as plain data; where it lies in memory ('StoreAt': its footprint of blocks that it writes, the blocks that it only reads). The store's walks, first part: New, Calls, Failed, Bytes, Script, call. The store's walks, second part: Script, call. The store's walks, third part: 'call': what comes of a call. The store's walks: Put. Chapter 11's statements: what they share: bytes as a string; the chapter's examples ('first'). -/
import Derived.Test.YtkogkokmcmallaaGreatDoorZa
import Derived.Lib.SlBytesConst
namespace Go.Proofs.YtkogkokmcmallaaGreatDoor
set_option linter.all false
open Go.RowKit

/-- An upload: its name, its parts. -/
structure Up where
  name : ByteArray
  parts : List (Int × List UInt8)
/-- The store. -/
structure St where
  objs : List (ByteArray × List UInt8)
  ups : List (Int × Up)
  ids : Nat
  script : List Int
  calls : Nat
  failed : Nat

/-- Bytes that are kept: read alone; their block is one of these. -/
def Kept (w : World) (dt : List Nat) (v : Value) (l : List UInt8) : Prop := seqV w v (bytesL l) ∧ ∀ b, blk v = some b → b ∈ dt
/-- An upload in memory (its block, the block of its map of parts). -/
def UpAt (w : World) (dt : List Nat) (e : Nat × Nat) (u : Up) : Prop :=
  e.1 ∈ dt ∧ w.heap[e.1]? = some (.cells #[.string u.name, .map (some e.2)] 148 (0, 0)) ∧ ∃ ps, MapAt w (Value.int .i64) e.2 ps ∧ ARel (Kept w dt) ps u.parts
def upPtr (e : Int × Nat × Nat) : Int × Value := (e.1, .pointer (some ⟨e.2.1, 0, none⟩))

/-- The six cells of a store. -/
def StoreCells (mo mu : Nat) (ids : Nat) (sv : Value) (calls failed : Nat) : Array Value :=
  #[.map (some mo), .map (some mu), .int .i64 ids, sv, .int .i64 calls, .int .i64 failed]

/-- The store's inside: the blocks of its two maps, its script's slice, the entries. -/
structure StIn (w : World) (p : Nat) (st : St) (fp dt : List Nat) (mo mu : Nat) (sv : Value) (es : List (ByteArray × Value)) (us : List (Int × Nat × Nat)) : Prop where
  cells : w.heap[p]? = some (.cells (StoreCells mo mu st.ids sv st.calls st.failed) 135 (0, 0))
  mapO : MapAt w Value.string mo es
  objs : ARel (Kept w dt) es st.objs
  mapU : MapAt w (Value.int .i64) mu (us.map upPtr)
  ups : ARel (UpAt w dt) us st.ups
  script : ownV w sv (intsL st.script)
  scriptB : ∀ b, blk sv = some b → b ∈ fp ∧ b ≠ p ∧ b ≠ mo ∧ b ≠ mu ∧ ∀ e ∈ us, b ≠ e.2.2
  moF : mo ∈ fp
  muF : mu ∈ fp
  pmF : ∀ e ∈ us, e.2.2 ∈ fp
  nodup : (mo :: mu :: us.map (·.2.2)).Nodup
/-- The store lies at block p. -/
structure StoreAt (B : Nat) (w : World) (p : Nat) (st : St) (fp dt : List Nat) : Prop where
  body : ∃ mo mu sv es us, StIn w p st fp dt mo mu sv es us
  self : p ∈ fp
  apart : ∀ k ∈ fp, k ∉ dt
  ge : ∀ k ∈ fp, B ≤ k
  lt : ∀ k, k ∈ fp ∨ k ∈ dt → k < w.heap.size

theorem Kept.keep {F : Nat → Prop} {w w' : World} {dt dt' : List Nat} {v : Value} {l : List UInt8} (h : Kept w dt v l) (k : Keeps F w w') (hF : ∀ b ∈ dt, ¬ F b) (hd : ∀ b ∈ dt, b ∈ dt') : Kept w' dt' v l :=
  ⟨h.1.keep k fun b hb => hF b (h.2 b hb), fun b hb => hd b (h.2 b hb)⟩
theorem UpAt.keep {F : Nat → Prop} {w w' : World} {dt dt' : List Nat} {e : Nat × Nat} {u : Up} (h : UpAt w dt e u) (k : Keeps F w w') (hF : ∀ b ∈ dt, ¬ F b) (hm : ¬ F e.2) (hd : ∀ b ∈ dt, b ∈ dt') : UpAt w' dt' e u := by
  obtain ⟨h1, h2, ps, h3, h4⟩ := h
  exact ⟨hd _ h1, k.get h2 (hF _ h1), ps, h3.keep k hm, h4.mono fun _ _ _ _ _ h => h.keep k hF hd⟩
theorem ups_keep {F : Nat → Prop} {w w' : World} {dt dt' : List Nat} {us : List (Int × Nat × Nat)} {ups : List (Int × Up)} (h : ARel (UpAt w dt) us ups) (k : Keeps F w w') (hF : ∀ b ∈ dt, ¬ F b) (hm : ∀ e ∈ us, ¬ F e.2.2) (hd : ∀ b ∈ dt, b ∈ dt') : ARel (UpAt w' dt') us ups :=
  h.mono fun _ _ _ ha _ h => h.keep k hF (hm _ ha) hd
theorem MapAt.ne_cells {κ : Type} {w : World} {enc : κ → Value} {m p : Nat} {es : List (κ × Value)} {cs : Array Value} {E : TypeId} {fz : Nat × Nat} (h : MapAt w enc m es) (hp : w.heap[p]? = some (.cells cs E fz)) : m ≠ p := by
  rintro rfl
  obtain ⟨arr, clock, hb, _⟩ := h
  rw [hb] at hp
  cases hp
theorem StIn.pm_ne {w : World} {p : Nat} {st : St} {fp dt : List Nat} {mo mu : Nat} {sv : Value} {es : List (ByteArray × Value)} {us : List (Int × Nat × Nat)} (h : StIn w p st fp dt mo mu sv es us) {e : Int × Nat × Nat} (he : e ∈ us) : e.2.2 ≠ p := by
  have := h.ups
  intro q
  have hm : ∃ ps, MapAt w (Value.int .i64) e.2.2 ps := by
    have key := arel_ind (R := UpAt w dt) (M := fun (us : List (Int × Nat × Nat)) (_ : List (Int × Up)) => ∀ e ∈ us, ∃ ps, MapAt w (Value.int .i64) e.2.2 ps) (fun _ h => by cases h)
      (fun k a b l m hr _ ih e he => by
        rcases List.mem_cons.1 he with rfl | he
        · obtain ⟨_, _, ps, h3, _⟩ := hr; exact ⟨ps, h3⟩
        · exact ih e he) us st.ups this
    exact key e he
  obtain ⟨ps, hm⟩ := hm
  exact hm.ne_cells h.cells q
/-- Nothing of the store has turned. -/
theorem StIn.keep {F : Nat → Prop} {w w' : World} {p : Nat} {st : St} {fp dt : List Nat} {mo mu : Nat} {sv : Value} {es : List (ByteArray × Value)} {us : List (Int × Nat × Nat)} (h : StIn w p st fp dt mo mu sv es us) (k : Keeps F w w')
    (hp : ¬ F p) (hf : ∀ b ∈ fp, ¬ F b) (hd : ∀ b ∈ dt, ¬ F b) : StIn w' p st fp dt mo mu sv es us where
  cells := k.get h.cells hp
  mapO := h.mapO.keep k (hf _ h.moF)
  objs := h.objs.mono fun _ _ _ _ _ x => x.keep k hd fun _ h => h
  mapU := h.mapU.keep k (hf _ h.muF)
  ups := ups_keep h.ups k hd (fun e he => hf _ (h.pmF e he)) fun _ h => h
  script := h.script.keep k fun _ hb => hf _ (h.scriptB _ hb).1
  scriptB := h.scriptB
  moF := h.moF
  muF := h.muF
  pmF := h.pmF
  nodup := h.nodup
theorem StoreAt.keep {F : Nat → Prop} {B : Nat} {w w' : World} {p : Nat} {st : St} {fp dt : List Nat} (h : StoreAt B w p st fp dt) (k : Keeps F w w') (hF : ∀ b, b ∈ fp ∨ b ∈ dt → ¬ F b) : StoreAt B w' p st fp dt where
  body := by obtain ⟨mo, mu, sv, es, us, hi⟩ := h.body; exact ⟨mo, mu, sv, es, us, hi.keep k (hF _ (.inl h.self)) (fun b hb => hF b (.inl hb)) (fun b hb => hF b (.inr hb))⟩
  self := h.self
  apart := h.apart
  ge := h.ge
  lt b hb := Nat.lt_of_lt_of_le (h.lt b hb) k.size
/-- Only the six cells have turned (counters, the script's slice). -/
theorem StIn.turn {w w' : World} {p : Nat} {st st' : St} {fp dt : List Nat} {mo mu : Nat} {sv sv' : Value} {es : List (ByteArray × Value)} {us : List (Int × Nat × Nat)} (h : StIn w p st fp dt mo mu sv es us) (k : Keeps (· = p) w w') (hpf : p ∈ fp) (hap : ∀ k ∈ fp, k ∉ dt)
    (hc : w'.heap[p]? = some (.cells (StoreCells mo mu st'.ids sv' st'.calls st'.failed) 135 (0, 0))) (ho : st'.objs = st.objs) (hu : st'.ups = st.ups) (hs : ownV w' sv' (intsL st'.script)) (hsb : ∀ b, blk sv' = some b → b ∈ fp ∧ b ≠ p ∧ b ≠ mo ∧ b ≠ mu ∧ ∀ e ∈ us, b ≠ e.2.2) :
    StIn w' p st' fp dt mo mu sv' es us where
  cells := hc
  mapO := h.mapO.keep k (h.mapO.ne_cells h.cells)
  objs := ho ▸ h.objs.mono fun _ _ _ _ _ x => x.keep k (fun _ hb e => hap p hpf (e ▸ hb)) fun _ h => h
  mapU := h.mapU.keep k (h.mapU.ne_cells h.cells)
  ups := hu ▸ ups_keep h.ups k (fun _ hb e => hap p hpf (e ▸ hb)) (fun _ he => h.pm_ne he) fun _ h => h
  script := hs
  scriptB := hsb
  moF := h.moF
  muF := h.muF
  pmF := h.pmF
  nodup := h.nodup
end Go.Proofs.YtkogkokmcmallaaGreatDoor
namespace Go.Proofs.YtkogkokmcmallaaGreatDoor
set_option linter.all false
open Go.RowKit

def St.empty : St := { objs := [], ups := [], ids := 0, script := [], calls := 0, failed := 0 }
def StNew (B : Nat) (w : World) (e : Ending) (w' : World) : Prop :=
  ∃ p fp, e = .returned (.pointer (some ⟨p, 0, none⟩)) ∧ StoreAt B w' p St.empty fp [] ∧ Below w.heap.size w w' ∧ ∀ k ∈ fp, w.heap.size ≤ k
theorem new_any {B : Nat} {w : World} (hB : B ≤ w.heap.size) : Calls Tryz.prog 11 #[] w (StNew B w) := by
  have hmm := @run_makeMap Tryz.prog
  go_enter Tryz.func11, Tryz.ntmps11
  go_wp2
  go_ret
  have k1 : Keeps (fun _ => False) (w.alloc (.map #[] 0)) ((w.alloc (.map #[] 0)).alloc (.map #[] 0)) := (Keeps.refl _ _).alloc _
  have k2 : Keeps (fun _ => False) ((w.alloc (.map #[] 0)).alloc (.map #[] 0)) (((w.alloc (.map #[] 0)).alloc (.map #[] 0)).alloc (.cells (StoreCells w.heap.size (w.heap.size + 1) 0 (.slice none 0 0) 0 0) 135)) := (Keeps.refl _ _).alloc _
  have m0 : MapAt (((w.alloc (.map #[] 0)).alloc (.map #[] 0)).alloc (.cells (StoreCells w.heap.size (w.heap.size + 1) 0 (.slice none 0 0) 0 0) 135)) Value.string w.heap.size [] := ((MapAt.made w Value.string).keep k1 id).keep k2 id
  have m1 : MapAt (((w.alloc (.map #[] 0)).alloc (.map #[] 0)).alloc (.cells (StoreCells w.heap.size (w.heap.size + 1) 0 (.slice none 0 0) 0 0) 135)) (Value.int .i64) (w.heap.size + 1) [] := by
    have := (MapAt.made (w.alloc (.map #[] 0)) (Value.int .i64)).keep k2 id
    simpa using this
  have hc : (((w.alloc (.map #[] 0)).alloc (.map #[] 0)).alloc (.cells (StoreCells w.heap.size (w.heap.size + 1) 0 (.slice none 0 0) 0 0) 135)).heap[w.heap.size + 1 + 1]? = some (.cells (StoreCells w.heap.size (w.heap.size + 1) 0 (.slice none 0 0) 0 0) 135 (0, 0)) := by
    have := World.alloc_heap_new ((w.alloc (.map #[] 0)).alloc (.map #[] 0)) (.cells (StoreCells w.heap.size (w.heap.size + 1) 0 (.slice none 0 0) 0 0) 135)
    simpa using this
  have hin := (StIn.mk (p := w.heap.size + 1 + 1) (st := St.empty) (fp := [w.heap.size, w.heap.size + 1, w.heap.size + 1 + 1]) (dt := []) (es := []) (us := []) hc m0 trivial m1 trivial (ownV.nil _) (fun b hb => by cases hb) (by simp) (by simp) (fun e he => by cases he) (by simp))
  refine ⟨w.heap.size + 1 + 1, [w.heap.size, w.heap.size + 1, w.heap.size + 1 + 1], rfl, ⟨⟨w.heap.size, w.heap.size + 1, .slice none 0 0, [], [], hin⟩, by simp, (fun k _ h => by cases h), fun k hk => ?_, fun k hk => ?_⟩,
    (((Below.refl _ w).alloc (Nat.le_refl _) _).alloc (by simp) _).alloc (by simp; omega) _, fun k hk => ?_⟩
  · simp at hk; omega
  · simp at hk ⊢; omega
  · simp at hk; omega

theorem calls_any {B : Nat} {w : World} {p : Nat} {st : St} {fp dt : List Nat} (h : StoreAt B w p st fp dt) :
    Calls Tryz.prog 86 #[.pointer (some ⟨p, 0, none⟩)] w fun e w' => e = .returned (.int .i64 st.calls) ∧ w = w' := by
  obtain ⟨mo, mu, sv, es, us, hi⟩ := h.body
  have c4 : w.cell? ⟨p, 4, none⟩ = some (.int .i64 st.calls) := cell_at hi.cells rfl
  clear h hi
  go_enter Tryz.func86, Tryz.ntmps86
  go_wp2
  go_ret
  exact ⟨rfl, rfl⟩
theorem failed_any {B : Nat} {w : World} {p : Nat} {st : St} {fp dt : List Nat} (h : StoreAt B w p st fp dt) :
    Calls Tryz.prog 166 #[.pointer (some ⟨p, 0, none⟩)] w fun e w' => e = .returned (.int .i64 st.failed) ∧ w = w' := by
  obtain ⟨mo, mu, sv, es, us, hi⟩ := h.body
  have c5 : w.cell? ⟨p, 5, none⟩ = some (.int .i64 st.failed) := cell_at hi.cells rfl
  clear h hi
  go_enter Tryz.func166, Tryz.ntmps166
  go_wp2
  go_ret
  exact ⟨rfl, rfl⟩

theorem zero_bytes (w : World) : (zeroValue 64).run Tryz.prog w = .ok (.slice none 0 0) w := by kernel_rfl
def BytesPost (w : World) (o : Option (List UInt8)) (e : Ending) (w' : World) : Prop :=
  ∃ v', e = .returned (.tuple #[v', .bool o.isSome]) ∧ ownV w' v' (bytesL (o.getD [])) ∧ Below w.heap.size w w' ∧ ∀ b, blk v' = some b → w.heap.size ≤ b ∧ b < w'.heap.size
/-- Every object is short. -/
def St.small (st : St) : Prop := (∀ n b, (n, b) ∈ st.objs → b.length ≤ 1073741824) ∧ ∀ i u, (i, u) ∈ st.ups → ∀ k b, (k, b) ∈ u.parts → b.length ≤ 4194304
theorem bytes_any {B : Nat} {w : World} {p : Nat} {st : St} {fp dt : List Nat} (h : StoreAt B w p st fp dt) (hsm : st.small) (n : ByteArray) :
    Calls Tryz.prog 145 #[.pointer (some ⟨p, 0, none⟩), .string n] w (BytesPost w (aget st.objs n)) := by
  obtain ⟨mo, mu, sv, es, us, hi⟩ := h.body
  have c0 : w.cell? ⟨p, 0, none⟩ = some (.map (some mo)) := cell_at hi.cells rfl
  have hl := run_lookup_at strKind Tryz.underlying132 Tryz.underlying9 hi.mapO n (zero_bytes w) true
  simp only [if_true] at hl
  rcases hi.objs.get n with ⟨g1, g2⟩ | ⟨v, b, g1, g2, g3⟩
  · rw [g2]
    rw [g1] at hl
    simp only [Option.getD_none, Option.isSome_none] at hl
    clear h hi g1 g2
    go_enter Tryz.func145, Tryz.ntmps145
    go_wp2_with (go_at_call 94; refine (clone_bytes _ [] _ (seqV.nil _) (fun _ h => by cases h) (by simp)).mono ?_; rintro e w' ⟨v', rfl, hv, hb, hbk⟩)
    go_ret2
    exact ⟨v', rfl, hv, hb, hbk⟩
  · rw [g2]
    rw [g1] at hl
    simp only [Option.getD_some, Option.isSome_some] at hl
    have hlen : (bytesL b).length ≤ 1073741824 := by simpa [bytesL] using hsm.1 n b (aget_mem g2)
    have G3 := g3.1
    clear h hi g1 g2 g3 hsm
    go_enter Tryz.func145, Tryz.ntmps145
    go_wp2_with (go_at_call 94; refine (clone_bytes _ _ _ G3 (bytesL_one _) hlen).mono ?_; rintro e w' ⟨v', rfl, hv, hb, hbk⟩)
    go_ret2
    exact ⟨v', rfl, hv, hb, hbk⟩
end Go.Proofs.YtkogkokmcmallaaGreatDoor
namespace Go.Proofs.YtkogkokmcmallaaGreatDoor
set_option linter.all false
open Go.RowKit

/-- The store has turned to this, within its own blocks and new ones. -/
structure StTurned (B : Nat) (w : World) (p : Nat) (fp dt : List Nat) (st' : St) (w' : World) (fp' dt' : List Nat) : Prop where
  at_ : StoreAt B w' p st' fp' dt'
  keeps : Keeps (· ∈ fp) w w'
  fpNew : ∀ k ∈ fp', k ∈ fp ∨ w.heap.size ≤ k
  dtNew : ∀ k ∈ dt', k ∈ dt ∨ w.heap.size ≤ k
theorem StTurned.trans {B : Nat} {w w1 w2 : World} {p : Nat} {fp dt fp1 dt1 fp2 dt2 : List Nat} {st1 st2 : St} (h : StTurned B w p fp dt st1 w1 fp1 dt1) (k : StTurned B w1 p fp1 dt1 st2 w2 fp2 dt2) : StTurned B w p fp dt st2 w2 fp2 dt2 where
  at_ := k.at_
  keeps := h.keeps.trans' k.keeps fun i hi hg => (h.fpNew i hg).resolve_right (by omega)
  fpNew i hi := (k.fpNew i hi).elim (h.fpNew i) fun hs => .inr (Nat.le_trans h.keeps.size hs)
  dtNew i hi := (k.dtNew i hi).elim (h.dtNew i) fun hs => .inr (Nat.le_trans h.keeps.size hs)
theorem StTurned.below {B : Nat} {w w' : World} {p : Nat} {fp dt fp' dt' : List Nat} {st st' : St} (h : StTurned B w p fp dt st' w' fp' dt') (h0 : StoreAt B w p st fp dt) (hB : B ≤ w.heap.size) : Below B w w' :=
  h.keeps.below hB fun i hi hf => by have := h0.ge i hf; omega

def ScriptPost (B : Nat) (w : World) (p : Nat) (fp dt : List Nat) (st' : St) (e : Ending) (w' : World) : Prop :=
  e = .returned (.tuple #[]) ∧ ∃ fp', StTurned B w p fp dt st' w' fp' dt
theorem script_any {B : Nat} {w : World} {p : Nat} {st : St} {fp dt : List Nat} (h : StoreAt B w p st fp dt) {ov : Value} {outs : List Int} (ho : seqV w ov (intsL outs)) (hlen : st.script.length + outs.length ≤ 1073741824) :
    Calls Tryz.prog 20 #[.pointer (some ⟨p, 0, none⟩), ov] w (ScriptPost B w p fp dt { st with script := st.script ++ outs }) := by
  obtain ⟨mo, mu, sv, es, us, hi⟩ := h.body
  have c3 : w.cell? ⟨p, 3, none⟩ = some sv := cell_at hi.cells rfl
  have hsrc := src_of_seq (P := Tryz.prog) Tryz.underlying22 ho (intsL_one _)
  obtain ⟨i0, hi0, hz0, hz1, hz2⟩ := info_parts info_int
  have H := Lib.hid h
  have HI := Lib.hid hi
  have hown := hi.script
  clear h hi ho
  go_enter Tryz.func20, Tryz.ntmps20
  go_wp2_with (at_builtin; refine wpList_append_any rfl _ _ _ _ rfl Tryz.underlying22 hi0 hz0 hz1 rfl rfl rfl hown hsrc ?_ ?_ ?_)
  · rw [hz2]; simp [intsL]; omega
  · simp [intsL]; omega
  intro sv' w1 hv' hk hb _
  have hcells := hk.get HI.out.cells (fun e => (HI.out.scriptB _ e).2.1 rfl)
  have HK := Lib.hid hk
  have HB := Lib.hid hb
  clear hk hb hown hsrc c3
  go_wp2_with (refine wpList_storeCell rfl _ _ _ rfl p 3 sv' rfl rfl hcells (by kernel_rfl) (by simp [StoreCells]) ?_ ?_)
  · obtain ⟨a, n, c, rfl, _⟩ := hv'; rfl
  intro w2 h2 k2 s2
  go_wp2
  go_end0
  have hp := H.out.lt p (.inl H.out.self)
  have hBp := H.out.ge p H.out.self
  have hsv : ∀ b, blk sv' = some b → (b ∈ fp ∨ b = w.heap.size) ∧ b ≠ p ∧ b ≠ mo ∧ b ≠ mu ∧ ∀ e ∈ us, b ≠ e.2.2 := by
    intro b hb'
    have hold : blk sv = some b → (b ∈ fp ∨ b = w.heap.size) ∧ b ≠ p ∧ b ≠ mo ∧ b ≠ mu ∧ ∀ e ∈ us, b ≠ e.2.2 := fun q => ⟨.inl (HI.out.scriptB b q).1, (HI.out.scriptB b q).2⟩
    rcases HB.out with ⟨e1, _, _⟩ | ⟨e1, _⟩ | e1
    · rw [e1] at hb'; exact hold hb'
    · rw [e1] at hb'; exact hold hb'
    · rw [e1] at hb'
      cases hb'
      exact ⟨.inr rfl, by omega, Nat.ne_of_gt (HI.out.mapO.lt), Nat.ne_of_gt (HI.out.mapU.lt), fun e he => Nat.ne_of_gt (H.out.lt _ (.inl (HI.out.pmF e he)))⟩
  have hk1 : Keeps (· ∈ fp) w w1 := HK.out.mono fun i _ h => (HI.out.scriptB i h).1
  have hkk : Keeps (· ∈ fp) w w2 := hk1.trans' k2 fun i _ h => h ▸ H.out.self
  have hk3 : Keeps (fun k => blk sv = some k ∨ k = p) w w2 := (HK.out.mono fun i _ h => .inl h).trans' k2 fun i _ h => .inr h
  have hdt : ∀ b ∈ dt, ¬ (blk sv = some b ∨ b = p) := fun b hb e => e.elim (fun e => H.out.apart b (HI.out.scriptB b e).1 hb) (fun e => H.out.apart p H.out.self (e ▸ hb))
  refine ⟨rfl, fp ++ (blk sv').toList, ⟨⟨mo, mu, sv', es, us, ?_⟩, ?_, ?_, ?_, ?_⟩, hkk, ?_, fun k hk => .inl hk⟩
  · exact {
      cells := h2
      mapO := HI.out.mapO.keep hk3 fun e => e.elim (fun e => (HI.out.scriptB _ e).2.2.1 rfl) (HI.out.mapO.ne_cells HI.out.cells)
      objs := HI.out.objs.mono fun _ _ _ _ _ x => x.keep hk3 hdt fun _ h => h
      mapU := HI.out.mapU.keep hk3 fun e => e.elim (fun e => (HI.out.scriptB _ e).2.2.2.1 rfl) (HI.out.mapU.ne_cells HI.out.cells)
      ups := ups_keep HI.out.ups hk3 hdt (fun e he q => q.elim (fun q => (HI.out.scriptB _ q).2.2.2.2 e he rfl) (HI.out.pm_ne he)) fun _ h => h
      script := by
        have : ownV w2 sv' (intsL st.script ++ intsL outs) := hv'.keep k2 fun b hb e => (hsv b hb).2.1 e
        simpa [intsL] using this
      scriptB := fun b hb => ⟨by simp [hb], (hsv b hb).2⟩
      moF := by simp [HI.out.moF]
      muF := by simp [HI.out.muF]
      pmF := fun e he => by simp [HI.out.pmF e he]
      nodup := HI.out.nodup }
  · simp [H.out.self]
  · intro k hk hd
    simp only [List.mem_append, Option.mem_toList] at hk
    rcases hk with hk | hk
    · exact H.out.apart k hk hd
    · rcases (hsv k hk).1 with h | h
      · exact H.out.apart k h hd
      · have := H.out.lt k (.inr hd); omega
  · intro k hk
    simp only [List.mem_append, Option.mem_toList] at hk
    rcases hk with hk | hk
    · exact H.out.ge k hk
    · rcases (hsv k hk).1 with h | h
      · exact H.out.ge k h
      · omega
  · intro k hk
    have hz := hkk.size
    rcases hk with hk | hk
    · simp only [List.mem_append, Option.mem_toList] at hk
      rcases hk with hk | hk
      · have := H.out.lt k (.inl hk); omega
      · have := hv'.lt k hk; have := k2.size; omega
    · have := H.out.lt k (.inr hk); omega
  · intro k hk
    simp only [List.mem_append, Option.mem_toList] at hk
    rcases hk with hk | hk
    · exact .inl hk
    · rcases (hsv k hk).1 with h | h
      · exact .inl h
      · exact .inr (by omega)
end Go.Proofs.YtkogkokmcmallaaGreatDoor
namespace Go.Proofs.YtkogkokmcmallaaGreatDoor
set_option linter.all false
open Go.RowKit

/-- What comes of the next call. -/
def St.next (st : St) : Int := st.script.headD 0
/-- Behind what every call does first. -/
def St.begin (st : St) : St := { st with calls := st.calls + 1, script := st.script.tail, failed := st.failed + (if st.next = 1 ∨ st.next = 2 then 1 else 0) }

/-- The six cells have turned so: calls, script, failed. -/
theorem turned_cells {B : Nat} {w w' : World} {p : Nat} {st st' : St} {fp dt : List Nat} {mo mu : Nat} {sv sv' : Value} {es : List (ByteArray × Value)} {us : List (Int × Nat × Nat)} (H : StoreAt B w p st fp dt) (h : StIn w p st fp dt mo mu sv es us)
    (k : Keeps (· = p) w w') (hc : w'.heap[p]? = some (.cells (StoreCells mo mu st'.ids sv' st'.calls st'.failed) 135 (0, 0))) (ho : st'.objs = st.objs) (hu : st'.ups = st.ups) (hs : ownV w' sv' (intsL st'.script)) (hsb : blk sv' = blk sv) : StTurned B w p fp dt st' w' fp dt where
  at_ := ⟨⟨mo, mu, sv', es, us, h.turn k H.self H.apart hc ho hu hs (fun b hb => h.scriptB b (hsb ▸ hb))⟩, H.self, H.apart, H.ge, fun i hi => Nat.lt_of_lt_of_le (H.lt i hi) k.size⟩
  keeps := k.mono fun i _ e => e ▸ H.self
  fpNew _ h := .inl h
  dtNew _ h := .inl h

/-- The script's first outcome, and what is left behind it. -/
theorem script_head {w : World} {sv : Value} {l : List Int} {x : Int} {r : List Int} (h : ownV w sv (intsL l)) (hl : l = x :: r) :
    ∃ b off c cs E, sv = .slice (some ⟨b, off, none⟩) (r.length + 1) c ∧ 1 ≤ c ∧ w.heap[b]? = some (.cells cs E (0, 0)) ∧ cs[off]? = some (.int .i64 x) ∧
      ∀ w' : World, w'.heap[b]? = some (.cells cs E (0, 0)) → ownV w' (.slice (if c = 1 then some ⟨b, off, none⟩ else some ⟨b, off + 1, none⟩) r.length (c - 1)) (intsL r) := by
  subst hl
  obtain ⟨a, n, c, rfl, hn0, hnc, han, hrest⟩ := h
  have hn1 : n = r.length + 1 := by simpa [intsL] using hn0
  subst hn1
  rcases hrest with hrest | ⟨b, off, cs, E, rfl, hb, hcap, hcs⟩
  · omega
  · refine ⟨b, off, c, cs, E, rfl, by omega, hb, by simpa [intsL] using hcs 0 (by simp [intsL]), fun w' hb' => ?_⟩
    refine ⟨_, _, _, rfl, by simp [intsL], by omega, ⟨(fun q => by split at q <;> cases q), fun b' hb'' => ?_⟩, ?_⟩
    · have := lt_of_block hb'
      split at hb'' <;> (simp only [blk, Option.some.injEq] at hb''; omega)
    · by_cases hc1 : c = 1
      · exact .inl (by omega)
      · rw [if_neg hc1]
        refine .inr ⟨b, off + 1, cs, E, rfl, hb', by omega, fun i hi => ?_⟩
        have := hcs (i + 1) (by simp [intsL] at hi ⊢; omega)
        rw [show off + 1 + i = off + (i + 1) by omega, this]
        simp [intsL]

section
variable {L : List Nat} {ad : Nat → Addr} {B : Nat} {w : World} {p : Nat} {st : St} {fp dt : List Nat} {R : Ending → World → Prop} {f : FuncId} {cap : Array Value}

set_option maxRecDepth 100000 in
theorem call_none (hf : ∀ w, (callFunc f cap).run Tryz.prog w = .ok (.enter f cap) w) (h : StoreAt B w p st fp dt) (hB : B ≤ w.heap.size) (hn : st.script = []) (hcl : st.calls < 4611686018427387904)
    (hdo : ∀ w1, StTurned B w p fp dt st.begin w1 fp dt → Calls Tryz.prog f cap w1 fun e w2 => ∃ v, e = .returned v ∧ R (.returned v) w2) :
    Calls Tryz.prog 91 #[.pointer (some ⟨p, 0, none⟩), .func (.func f) #[] cap] w R := by
  obtain ⟨mo, mu, sv, es, us, hi⟩ := h.body
  have c4 : w.cell? ⟨p, 4, none⟩ = some (.int .i64 st.calls) := cell_at hi.cells rfl
  have hlen := hi.script.seq
  rw [hn] at hlen
  obtain ⟨a, n, c, rfl, hn0, hrest⟩ := hlen
  have hn0 : n = 0 := hn0
  subst hn0
  clear hn0 hrest
  have H := Lib.hid h
  have HI := Lib.hid hi
  have HN := Lib.hid hn
  have HD := Lib.hid hdo
  have HF := Lib.hid hf
  clear h hi hn hdo hf
  go_enter Tryz.func91, Tryz.ntmps91
  go_wp2_with (first
    | (refine wpList_storeCell rfl _ _ _ rfl p 4 (.int .i64 (st.calls + 1)) rfl rfl HI.out.cells (by kernel_rfl) (by simp [StoreCells]) rfl ?_; intro w1 h1 k1 _; have c3 : w1.cell? ⟨p, 3, none⟩ = some (.slice a 0 c) := cell_at h1 rfl; have H1 := Lib.hid h1; have K1 := Lib.hid k1; clear h1 k1 c4)
    | (refine wpList_callValue rfl _ _ rfl rfl HF.out (HD.out w1 (turned_cells (sv' := .slice a 0 c) H.out HI.out K1.out ?_ rfl rfl ?_ rfl)) ?_))
  · have := H1.out
    simpa [St.begin, St.next, HN.out, StoreCells] using this
  · have := HI.out.script.keep K1.out fun b hb => (HI.out.scriptB b hb).2.1
    simpa [St.begin, HN.out] using this
  intro v w2 hR
  have HR := Lib.hid hR
  clear hR c3
  go_wp2
  exact HR.out
set_option maxRecDepth 100000 in
theorem call_fails (hf : ∀ w, (callFunc f cap).run Tryz.prog w = .ok (.enter f cap) w) (h : StoreAt B w p st fp dt) (hE : Errs L ad B w) (hc111 : 111 ∈ L) (hB : B ≤ w.heap.size) {x : Int} {r : List Int} (hn : st.script = x :: r) (hx1 : x = 1) (hcl : st.calls < 4611686018427387904) (hfl : st.failed < 4611686018427387904)
    (hR : ∀ w1, StTurned B w p fp dt st.begin w1 fp dt → R (.returned (errV ad 111)) w1) :
    Calls Tryz.prog 91 #[.pointer (some ⟨p, 0, none⟩), .func (.func f) #[] cap] w R := by
  obtain ⟨mo, mu, sv, es, us, hi⟩ := h.body
  have c4 : w.cell? ⟨p, 4, none⟩ = some (.int .i64 st.calls) := cell_at hi.cells rfl
  obtain ⟨b, off, c, cs, E, rfl, hc1, hb, hx, htail⟩ := script_head hi.script hn
  have hbp := (hi.scriptB b rfl).2.1
  have hBp : ∀ i, i < B → ¬ i = p := fun i hi e => by have := h.ge p h.self; omega
  have H := Lib.hid h
  have HI := Lib.hid hi
  have HN := Lib.hid hn
  have HT := Lib.hid htail
  have HX := Lib.hid hx
  have Hb := Lib.hid hb
  have HF := Lib.hid hf
  have HE := Lib.hid hE
  have HRR := Lib.hid hR
  clear h hi hn htail hx hb hf hR hE
  subst hx1
  have hcc : c = 1 ∨ 1 < c := by omega
  rcases hcc with hcc | hcc
  · subst hcc
    clear hc1
    go_enter Tryz.func91, Tryz.ntmps91
    go_wp2_with (first
      | (refine wpList_storeCell rfl _ _ _ rfl p 4 (.int .i64 (st.calls + 1)) rfl rfl HI.out.cells (by kernel_rfl) (by simp [StoreCells]) rfl ?_; intro w1 h1 k1 _; have c3 : w1.cell? ⟨p, 3, none⟩ = some (.slice (some ⟨b, off, none⟩) (r.length + 1) 1) := cell_at h1 rfl; have cb : w1.cell? ⟨b, off, none⟩ = some (.int .i64 1) := cell_at (k1.get Hb.out hbp) HX.out; have H1 := Lib.hid h1; have K1 := Lib.hid k1; clear h1 k1 c4)
      | (refine wpList_storeCell rfl _ _ _ rfl p 3 (.slice (some ⟨b, off, none⟩) r.length 0) rfl rfl H1.out (by kernel_rfl) (by simp [StoreCells]) rfl ?_; intro w2 h2 k2 _; have c5 : w2.cell? ⟨p, 5, none⟩ = some (.int .i64 st.failed) := cell_at h2 rfl; have H2 := Lib.hid h2; have K2 := Lib.hid k2; clear h2 k2 c3 cb)
      | (refine wpList_storeCell rfl _ _ _ rfl p 5 (.int .i64 (st.failed + 1)) rfl rfl H2.out (by kernel_rfl) (by simp [StoreCells]) rfl ?_; intro w3 h3 k3 _; have cE : w3.cell? ⟨7, 0, none⟩ = some (errV ad 111) := (HE.out.keep ((K1.out.trans K2.out).trans k3) hB hBp).cell 111 hc111; have H3 := Lib.hid h3; have K3 := Lib.hid k3; clear h3 k3 c5))
    refine HRR.out w3 (turned_cells (sv' := .slice (some ⟨b, off, none⟩) r.length 0) H.out HI.out ((K1.out.trans K2.out).trans K3.out) ?_ rfl rfl ?_ rfl)
    · have := H3.out
      simpa [St.begin, St.next, HN.out, StoreCells] using this
    · have := HT.out w3 (((K1.out.trans K2.out).trans K3.out).get Hb.out hbp)
      simpa [St.begin, HN.out] using this
  · have hcn : ¬ c = 1 := by omega
    go_enter Tryz.func91, Tryz.ntmps91
    go_wp2_with (first
      | (refine wpList_storeCell rfl _ _ _ rfl p 4 (.int .i64 (st.calls + 1)) rfl rfl HI.out.cells (by kernel_rfl) (by simp [StoreCells]) rfl ?_; intro w1 h1 k1 _; have c3 : w1.cell? ⟨p, 3, none⟩ = some (.slice (some ⟨b, off, none⟩) (r.length + 1) c) := cell_at h1 rfl; have cb : w1.cell? ⟨b, off, none⟩ = some (.int .i64 1) := cell_at (k1.get Hb.out hbp) HX.out; have H1 := Lib.hid h1; have K1 := Lib.hid k1; clear h1 k1 c4)
      | (refine wpList_storeCell rfl _ _ _ rfl p 3 (.slice (some ⟨b, off + 1, none⟩) r.length (c - 1)) rfl rfl H1.out (by kernel_rfl) (by simp [StoreCells]) rfl ?_; intro w2 h2 k2 _; have c5 : w2.cell? ⟨p, 5, none⟩ = some (.int .i64 st.failed) := cell_at h2 rfl; have H2 := Lib.hid h2; have K2 := Lib.hid k2; clear h2 k2 c3 cb)
      | (refine wpList_storeCell rfl _ _ _ rfl p 5 (.int .i64 (st.failed + 1)) rfl rfl H2.out (by kernel_rfl) (by simp [StoreCells]) rfl ?_; intro w3 h3 k3 _; have cE : w3.cell? ⟨7, 0, none⟩ = some (errV ad 111) := (HE.out.keep ((K1.out.trans K2.out).trans k3) hB hBp).cell 111 hc111; have H3 := Lib.hid h3; have K3 := Lib.hid k3; clear h3 k3 c5))
    refine HRR.out w3 (turned_cells (sv' := .slice (some ⟨b, off + 1, none⟩) r.length (c - 1)) H.out HI.out ((K1.out.trans K2.out).trans K3.out) ?_ rfl rfl ?_ rfl)
    · have := H3.out
      simpa [St.begin, St.next, HN.out, StoreCells] using this
    · have := HT.out w3 (((K1.out.trans K2.out).trans K3.out).get Hb.out hbp)
      simpa [St.begin, HN.out, hcn] using this
set_option maxRecDepth 100000 in
theorem call_loses (hf : ∀ w, (callFunc f cap).run Tryz.prog w = .ok (.enter f cap) w) (h : StoreAt B w p st fp dt) (hE : Errs L ad B w) (hc111 : 111 ∈ L) (hB : B ≤ w.heap.size) {x : Int} {r : List Int} (hn : st.script = x :: r) (hx1 : x = 2) (hcl : st.calls < 4611686018427387904) (hfl : st.failed < 4611686018427387904)
    (hdo : ∀ w1, StTurned B w p fp dt st.begin w1 fp dt → Calls Tryz.prog f cap w1 fun e w2 => ∃ v, e = .returned v ∧ Below B w1 w2 ∧ R (.returned (errV ad 111)) w2) :
    Calls Tryz.prog 91 #[.pointer (some ⟨p, 0, none⟩), .func (.func f) #[] cap] w R := by
  obtain ⟨mo, mu, sv, es, us, hi⟩ := h.body
  have c4 : w.cell? ⟨p, 4, none⟩ = some (.int .i64 st.calls) := cell_at hi.cells rfl
  obtain ⟨b, off, c, cs, E, rfl, hc1, hb, hx, htail⟩ := script_head hi.script hn
  have hbp := (hi.scriptB b rfl).2.1
  have hBp : ∀ i, i < B → ¬ i = p := fun i hi e => by have := h.ge p h.self; omega
  have H := Lib.hid h
  have HI := Lib.hid hi
  have HN := Lib.hid hn
  have HT := Lib.hid htail
  have HX := Lib.hid hx
  have Hb := Lib.hid hb
  have HF := Lib.hid hf
  have HE := Lib.hid hE
  have HD := Lib.hid hdo
  clear h hi hn htail hx hb hf hdo hE
  subst hx1
  have hcc : c = 1 ∨ 1 < c := by omega
  rcases hcc with hcc | hcc
  · subst hcc
    clear hc1
    go_enter Tryz.func91, Tryz.ntmps91
    go_wp2_with (first
      | (refine wpList_storeCell rfl _ _ _ rfl p 4 (.int .i64 (st.calls + 1)) rfl rfl HI.out.cells (by kernel_rfl) (by simp [StoreCells]) rfl ?_; intro w1 h1 k1 _; have c3 : w1.cell? ⟨p, 3, none⟩ = some (.slice (some ⟨b, off, none⟩) (r.length + 1) 1) := cell_at h1 rfl; have cb : w1.cell? ⟨b, off, none⟩ = some (.int .i64 2) := cell_at (k1.get Hb.out hbp) HX.out; have H1 := Lib.hid h1; have K1 := Lib.hid k1; clear h1 k1 c4)
      | (refine wpList_storeCell rfl _ _ _ rfl p 3 (.slice (some ⟨b, off, none⟩) r.length 0) rfl rfl H1.out (by kernel_rfl) (by simp [StoreCells]) rfl ?_; intro w2 h2 k2 _; have c5 : w2.cell? ⟨p, 5, none⟩ = some (.int .i64 st.failed) := cell_at h2 rfl; have H2 := Lib.hid h2; have K2 := Lib.hid k2; clear h2 k2 c3 cb)
      | (refine wpList_storeCell rfl _ _ _ rfl p 5 (.int .i64 (st.failed + 1)) rfl rfl H2.out (by kernel_rfl) (by simp [StoreCells]) rfl ?_; intro w3 h3 k3 _; have H3 := Lib.hid h3; have K3 := Lib.hid k3; clear h3 k3 c5)
      | (refine wpList_callValue rfl _ _ rfl rfl HF.out (HD.out w3 (turned_cells (sv' := .slice (some ⟨b, off, none⟩) r.length 0) H.out HI.out ((K1.out.trans K2.out).trans K3.out) ?_ rfl rfl ?_ rfl)) ?_))
    · have := H3.out
      simpa [St.begin, St.next, HN.out, StoreCells] using this
    · have := HT.out w3 (((K1.out.trans K2.out).trans K3.out).get Hb.out hbp)
      simpa [St.begin, HN.out] using this
    intro v w4 hbe hR
    have cE : w4.cell? ⟨7, 0, none⟩ = some (errV ad 111) := ((HE.out.keep ((K1.out.trans K2.out).trans K3.out) hB hBp).below hbe).cell 111 hc111
    have HR := Lib.hid hR
    clear hR hbe
    go_wp2
    exact HR.out
  · have hcn : ¬ c = 1 := by omega
    go_enter Tryz.func91, Tryz.ntmps91
    go_wp2_with (first
      | (refine wpList_storeCell rfl _ _ _ rfl p 4 (.int .i64 (st.calls + 1)) rfl rfl HI.out.cells (by kernel_rfl) (by simp [StoreCells]) rfl ?_; intro w1 h1 k1 _; have c3 : w1.cell? ⟨p, 3, none⟩ = some (.slice (some ⟨b, off, none⟩) (r.length + 1) c) := cell_at h1 rfl; have cb : w1.cell? ⟨b, off, none⟩ = some (.int .i64 2) := cell_at (k1.get Hb.out hbp) HX.out; have H1 := Lib.hid h1; have K1 := Lib.hid k1; clear h1 k1 c4)
      | (refine wpList_storeCell rfl _ _ _ rfl p 3 (.slice (some ⟨b, off + 1, none⟩) r.length (c - 1)) rfl rfl H1.out (by kernel_rfl) (by simp [StoreCells]) rfl ?_; intro w2 h2 k2 _; have c5 : w2.cell? ⟨p, 5, none⟩ = some (.int .i64 st.failed) := cell_at h2 rfl; have H2 := Lib.hid h2; have K2 := Lib.hid k2; clear h2 k2 c3 cb)
      | (refine wpList_storeCell rfl _ _ _ rfl p 5 (.int .i64 (st.failed + 1)) rfl rfl H2.out (by kernel_rfl) (by simp [StoreCells]) rfl ?_; intro w3 h3 k3 _; have H3 := Lib.hid h3; have K3 := Lib.hid k3; clear h3 k3 c5)
      | (refine wpList_callValue rfl _ _ rfl rfl HF.out (HD.out w3 (turned_cells (sv' := .slice (some ⟨b, off + 1, none⟩) r.length (c - 1)) H.out HI.out ((K1.out.trans K2.out).trans K3.out) ?_ rfl rfl ?_ rfl)) ?_))
    · have := H3.out
      simpa [St.begin, St.next, HN.out, StoreCells] using this
    · have := HT.out w3 (((K1.out.trans K2.out).trans K3.out).get Hb.out hbp)
      simpa [St.begin, HN.out, hcn] using this
    intro v w4 hbe hR
    have cE : w4.cell? ⟨7, 0, none⟩ = some (errV ad 111) := ((HE.out.keep ((K1.out.trans K2.out).trans K3.out) hB hBp).below hbe).cell 111 hc111
    have HR := Lib.hid hR
    clear hR hbe
    go_wp2
    exact HR.out
set_option maxRecDepth 100000 in
theorem call_good (hf : ∀ w, (callFunc f cap).run Tryz.prog w = .ok (.enter f cap) w) (h : StoreAt B w p st fp dt) (hB : B ≤ w.heap.size) {x : Int} {r : List Int} (hn : st.script = x :: r) (hx1 : x ≠ 1) (hx2 : x ≠ 2) (hcl : st.calls < 4611686018427387904)
    (hdo : ∀ w1, StTurned B w p fp dt st.begin w1 fp dt → Calls Tryz.prog f cap w1 fun e w2 => ∃ v, e = .returned v ∧ R (.returned v) w2) :
    Calls Tryz.prog 91 #[.pointer (some ⟨p, 0, none⟩), .func (.func f) #[] cap] w R := by
  obtain ⟨mo, mu, sv, es, us, hi⟩ := h.body
  have c4 : w.cell? ⟨p, 4, none⟩ = some (.int .i64 st.calls) := cell_at hi.cells rfl
  obtain ⟨b, off, c, cs, E, rfl, hc1, hb, hx, htail⟩ := script_head hi.script hn
  have hbp := (hi.scriptB b rfl).2.1
  have H := Lib.hid h
  have HI := Lib.hid hi
  have HN := Lib.hid hn
  have HT := Lib.hid htail
  have HX := Lib.hid hx
  have Hb := Lib.hid hb
  have HF := Lib.hid hf
  have HD := Lib.hid hdo
  have e1 : (x == 1) = false := by simpa using hx1
  have e2 : (x == 2) = false := by simpa using hx2
  clear h hi hn htail hx hb hf hdo hx1 hx2
  have hcc : c = 1 ∨ 1 < c := by omega
  rcases hcc with hcc | hcc
  · subst hcc
    clear hc1
    go_enter Tryz.func91, Tryz.ntmps91
    go_wp2_with (first
      | (refine wpList_storeCell rfl _ _ _ rfl p 4 (.int .i64 (st.calls + 1)) rfl rfl HI.out.cells (by kernel_rfl) (by simp [StoreCells]) rfl ?_; intro w1 h1 k1 _; have c3 : w1.cell? ⟨p, 3, none⟩ = some (.slice (some ⟨b, off, none⟩) (r.length + 1) 1) := cell_at h1 rfl; have cb : w1.cell? ⟨b, off, none⟩ = some (.int .i64 x) := cell_at (k1.get Hb.out hbp) HX.out; have H1 := Lib.hid h1; have K1 := Lib.hid k1; clear h1 k1 c4)
      | (refine wpList_storeCell rfl _ _ _ rfl p 3 (.slice (some ⟨b, off, none⟩) r.length 0) rfl rfl H1.out (by kernel_rfl) (by simp [StoreCells]) rfl ?_; intro w2 h2 k2 _; have H2 := Lib.hid h2; have K2 := Lib.hid k2; clear h2 k2 c3 cb)
      | (refine wpList_callValue rfl _ _ rfl rfl HF.out (HD.out w2 (turned_cells (sv' := .slice (some ⟨b, off, none⟩) r.length 0) H.out HI.out (K1.out.trans K2.out) ?_ rfl rfl ?_ rfl)) ?_))
    · have ne1 : ¬ x = 1 := by simpa using e1
      have ne2 : ¬ x = 2 := by simpa using e2
      have := H2.out
      simpa [St.begin, St.next, HN.out, StoreCells, ne1, ne2] using this
    · have := HT.out w2 ((K1.out.trans K2.out).get Hb.out hbp)
      simpa [St.begin, HN.out] using this
    intro v w4 hR
    have HR := Lib.hid hR
    clear hR
    go_wp2
    exact HR.out
  · have hcn : ¬ c = 1 := by omega
    go_enter Tryz.func91, Tryz.ntmps91
    go_wp2_with (first
      | (refine wpList_storeCell rfl _ _ _ rfl p 4 (.int .i64 (st.calls + 1)) rfl rfl HI.out.cells (by kernel_rfl) (by simp [StoreCells]) rfl ?_; intro w1 h1 k1 _; have c3 : w1.cell? ⟨p, 3, none⟩ = some (.slice (some ⟨b, off, none⟩) (r.length + 1) c) := cell_at h1 rfl; have cb : w1.cell? ⟨b, off, none⟩ = some (.int .i64 x) := cell_at (k1.get Hb.out hbp) HX.out; have H1 := Lib.hid h1; have K1 := Lib.hid k1; clear h1 k1 c4)
      | (refine wpList_storeCell rfl _ _ _ rfl p 3 (.slice (some ⟨b, off + 1, none⟩) r.length (c - 1)) rfl rfl H1.out (by kernel_rfl) (by simp [StoreCells]) rfl ?_; intro w2 h2 k2 _; have H2 := Lib.hid h2; have K2 := Lib.hid k2; clear h2 k2 c3 cb)
      | (refine wpList_callValue rfl _ _ rfl rfl HF.out (HD.out w2 (turned_cells (sv' := .slice (some ⟨b, off + 1, none⟩) r.length (c - 1)) H.out HI.out (K1.out.trans K2.out) ?_ rfl rfl ?_ rfl)) ?_))
    · have ne1 : ¬ x = 1 := by simpa using e1
      have ne2 : ¬ x = 2 := by simpa using e2
      have := H2.out
      simpa [St.begin, St.next, HN.out, StoreCells, ne1, ne2] using this
    · have := HT.out w2 ((K1.out.trans K2.out).get Hb.out hbp)
      simpa [St.begin, HN.out, hcn] using this
    intro v w4 hR
    have HR := Lib.hid hR
    clear hR
    go_wp2
    exact HR.out
end
end Go.Proofs.YtkogkokmcmallaaGreatDoor
namespace Go.Proofs.YtkogkokmcmallaaGreatDoor
set_option linter.all false
open Go.RowKit

/-- What a call comes to: by what the script says. -/
def St.run (st : St) (good : St → Nat × St) : Nat × St :=
  if st.next = 1 then (111, st.begin) else (if st.next = 2 then 111 else (good st.begin).1, (good st.begin).2)
/-- A call's answer is an error alone. -/
def ErrPost (ad : Nat → Addr) (B : Nat) (w : World) (p : Nat) (fp dt : List Nat) (r : Nat × St) (e : Ending) (w' : World) : Prop :=
  e = .returned (errV ad r.1) ∧ ∃ fp' dt', StTurned B w p fp dt r.2 w' fp' dt'

section
variable {L : List Nat} {ad : Nat → Addr} {B : Nat} {w : World} {p : Nat} {st : St} {fp dt : List Nat} {R : Ending → World → Prop} {f : FuncId} {cap : Array Value}
theorem call_any (hf : ∀ w, (callFunc f cap).run Tryz.prog w = .ok (.enter f cap) w) (h : StoreAt B w p st fp dt) (hE : Errs L ad B w) (hc111 : 111 ∈ L) (hB : B ≤ w.heap.size) (hcl : st.calls < 4611686018427387904) (hfl : st.failed < 4611686018427387904)
    (hR : st.next = 1 → ∀ w1, StTurned B w p fp dt st.begin w1 fp dt → R (.returned (errV ad 111)) w1)
    (hdo : st.next ≠ 1 → ∀ w1, StTurned B w p fp dt st.begin w1 fp dt → Calls Tryz.prog f cap w1 fun e w2 => ∃ v, e = .returned v ∧ Below B w1 w2 ∧ R (.returned (if st.next = 2 then errV ad 111 else v)) w2) :
    Calls Tryz.prog 91 #[.pointer (some ⟨p, 0, none⟩), .func (.func f) #[] cap] w R := by
  cases hs : st.script with
  | nil =>
    have hn : st.next = 0 := by simp [St.next, hs]
    refine call_none hf h hB hs hcl fun w1 h1 => ?_
    refine (hdo (by omega) w1 h1).mono ?_
    rintro e w2 ⟨v, rfl, _, hR⟩
    exact ⟨v, rfl, by simpa [hn] using hR⟩
  | cons x r =>
    have hn : st.next = x := by simp [St.next, hs]
    by_cases h1 : x = 1
    · exact call_fails hf h hE hc111 hB hs h1 hcl hfl (hR (by omega))
    · by_cases h2 : x = 2
      · refine call_loses hf h hE hc111 hB hs h2 hcl hfl fun w1 hw1 => ?_
        refine (hdo (by omega) w1 hw1).mono ?_
        rintro e w2 ⟨v, rfl, hb, hR⟩
        exact ⟨v, rfl, hb, by rw [if_pos (by omega)] at hR; exact hR⟩
      · refine call_good hf h hB hs h1 h2 hcl fun w1 hw1 => ?_
        refine (hdo (by omega) w1 hw1).mono ?_
        rintro e w2 ⟨v, rfl, hb, hR⟩
        exact ⟨v, rfl, by rw [if_neg (by omega)] at hR; exact hR⟩
end

/-! ### Put -/
/-- The map of objects has been stored into, of new bytes. -/
theorem put_done {B : Nat} {w w1 w2 : World} {p : Nat} {st : St} {fp dt : List Nat} {mo mu : Nat} {sv v' : Value} {es : List (ByteArray × Value)} {us : List (Int × Nat × Nat)} {n : ByteArray} {b : List UInt8} (H : StoreAt B w p st fp dt) (h : StIn w p st fp dt mo mu sv es us)
    (hb : Keeps (fun _ => False) w w1) (hv' : ownV w1 v' (bytesL b)) (hbk : ∀ b, blk v' = some b → w.heap.size ≤ b ∧ b < w1.heap.size) (h2 : Keeps (· = mo) w1 w2) (hmo : MapAt w2 Value.string mo (aput es n v')) :
    StTurned B w p fp dt { st with objs := aput st.objs n b } w2 fp (dt ++ (blk v').toList) := by
  have hk : Keeps (· = mo) w w2 := (hb.mono fun _ _ h => h.elim).trans h2
  have hdt : ∀ x ∈ dt, ¬ x = mo := fun x hx e => H.apart mo h.moF (e ▸ hx)
  have hsub : ∀ x ∈ dt, x ∈ dt ++ (blk v').toList := fun x hx => List.mem_append.2 (.inl hx)
  have hnd := h.nodup
  simp only [List.nodup_cons, List.mem_cons, List.mem_map, not_or] at hnd
  have hin : StIn w2 p { st with objs := aput st.objs n b } fp (dt ++ (blk v').toList) mo mu sv (aput es n v') us := {
    cells := hk.get h.cells (Ne.symm (h.mapO.ne_cells h.cells))
    mapO := hmo
    objs := by
      refine ARel.put (h.objs.mono fun _ _ _ _ _ x => x.keep hk hdt hsub) n ⟨?_, fun x hx => by simp [hx]⟩
      exact (hv'.keep h2 fun x hx e => by have := (hbk x hx).1; have := h.mapO.lt; omega).seq
    mapU := h.mapU.keep hk fun e => hnd.1.1 e.symm
    ups := ups_keep h.ups hk hdt (fun e he q => hnd.1.2 ⟨e, he, q⟩) hsub
    script := h.script.keep hk fun x hx => (h.scriptB x hx).2.2.1
    scriptB := h.scriptB
    moF := h.moF
    muF := h.muF
    pmF := h.pmF
    nodup := h.nodup }
  refine ⟨⟨⟨mo, mu, sv, _, us, hin⟩, H.self, fun k hk hd => ?_, H.ge, fun k hk' => ?_⟩, hk.mono fun i _ e => e ▸ h.moF, fun _ h => .inl h, fun k hk => ?_⟩
  · rcases List.mem_append.1 hd with hd | hd
    · exact H.apart k hk hd
    · have := (hbk k (by simpa using hd)).1
      have := H.lt k (.inl hk)
      omega
  · have hz := hk.size
    have hz2 := h2.size
    rcases hk' with hk' | hk'
    · have := H.lt k (.inl hk'); omega
    · rcases List.mem_append.1 hk' with hd | hd
      · have := H.lt k (.inr hd); omega
      · have := (hbk k (by simpa using hd)).2; omega
  · rcases List.mem_append.1 hk with hd | hd
    · exact .inl hd
    · exact .inr (hbk k (by simpa using hd)).1

def St.put1 (n : ByteArray) (b : List UInt8) (st : St) : Nat × St := if validB n.data.toList then (0, { st with objs := aput st.objs n b }) else (106, st)

set_option maxHeartbeats 400000 in
set_option maxRecDepth 100000 in
theorem putC_any {L : List Nat} {ad : Nat → Addr} {B : Nat} {w : World} {p : Nat} {st : St} {fp dt : List Nat} (h : StoreAt B w p st fp dt) (hE : Errs L ad B w) (h106 : 106 ∈ L) (hB : B ≤ w.heap.size)
    {nb bb sb : Nat} {n : ByteArray} {bv : Value} {b : List UInt8} (cn : w.cell? ⟨nb, 0, none⟩ = some (.string n)) (cb : w.cell? ⟨bb, 0, none⟩ = some bv) (cs : w.cell? ⟨sb, 0, none⟩ = some (.pointer (some ⟨p, 0, none⟩))) (hbv : seqV w bv (bytesL b)) (hlen : b.length ≤ 1073741824) :
    Calls Tryz.prog 92 #[.pointer (some ⟨nb, 0, none⟩), .pointer (some ⟨bb, 0, none⟩), .pointer (some ⟨sb, 0, none⟩)] w (ErrPost ad B w p fp dt (st.put1 n b)) := by
  have H := Lib.hid h
  have HE := Lib.hid hE
  cases hv : validB n.data.toList
  · have cE : w.cell? ⟨1, 0, none⟩ = some (errV ad 106) := hE.cell 106 h106
    have HV := Lib.hid hv
    clear h hE hbv cb cs hv
    go_enter Tryz.func92, Tryz.ntmps92
    go_wp2_with (go_at_call 93; refine (valid_any _ _).mono ?_; rintro e w' ⟨rfl, rfl⟩; rw [HV.out])
    go_ret
    refine ⟨by simp [St.put1, HV.out], fp, dt, ?_⟩
    simp only [St.put1, HV.out, Bool.false_eq_true, if_false]
    exact ⟨H.out, Keeps.refl _ _, fun _ h => .inl h, fun _ h => .inl h⟩
  · obtain ⟨mo, mu, sv, es, us, hi⟩ := h.body
    have c0 : w.cell? ⟨p, 0, none⟩ = some (.map (some mo)) := cell_at hi.cells rfl
    have ln : nb < w.heap.size := World.block_lt_of_cell? w _ cn
    have lb : bb < w.heap.size := World.block_lt_of_cell? w _ cb
    have ls : sb < w.heap.size := World.block_lt_of_cell? w _ cs
    have lp : p < w.heap.size := World.block_lt_of_cell? w _ c0
    have hm := hi.mapO
    obtain ⟨arr, clock, hmb, _⟩ := id hm
    have nn : nb ≠ mo := ne_of_cell cn hmb
    have nb' : bb ≠ mo := ne_of_cell cb hmb
    have ns : sb ≠ mo := ne_of_cell cs hmb
    have np : p ≠ mo := ne_of_cell c0 hmb
    have HM := Lib.hid hm
    have HI := Lib.hid hi
    clear hm hmb
    have HV := Lib.hid hv
    have HBV := Lib.hid hbv
    have hl2 : (bytesL b).length ≤ 1073741824 := by simpa [bytesL] using hlen
    clear h hE hbv hi hv
    go_enter Tryz.func92, Tryz.ntmps92
    go_wp2_with (go_at_call 93; refine (valid_any _ _).mono ?_; rintro e w' ⟨rfl, rfl⟩; rw [HV.out])
    go_region_held3 (fun w' => w'.cell? ⟨sb, 0, none⟩ = some (.pointer (some ⟨p, 0, none⟩)) ∧ w'.cell? ⟨p, 0, none⟩ = some (.map (some mo)) ∧ w'.cell? ⟨nb, 0, none⟩ = some (.string n) ∧ w'.cell? ⟨bb, 0, none⟩ = some bv) (go_keep)
      (first | (go_at_call 94; refine (clone_bytes _ (bytesL b) _ HBV.out.drew (bytesL_one _) hl2).mono ?_; rintro e w1 ⟨v', rfl, hv', hb, hbk⟩; have q1 := hb.cell (p := ⟨sb, 0, none⟩) ls; have q2 := hb.cell (p := ⟨p, 0, none⟩) lp; have q3 := hb.cell (p := ⟨nb, 0, none⟩) ln; have q4 := hb.cell (p := ⟨bb, 0, none⟩) lb; have hm1 := HM.out.keep ((Keeps.refl (fun _ => False) w).drew.trans (Keeps.of_below hb _)) id; obtain ⟨o, hmu, hmo⟩ := run_update_at strKind Tryz.underlying132 Tryz.underlying9 hm1 n v'; have q5 := cell_putObj (w := w1) (r := mo) (o := o) (a := ⟨sb, 0, none⟩) ns; have q6 := cell_putObj (w := w1) (r := mo) (o := o) (a := ⟨p, 0, none⟩) np; have q7 := cell_putObj (w := w1) (r := mo) (o := o) (a := ⟨nb, 0, none⟩) nn; have q8 := cell_putObj (w := w1) (r := mo) (o := o) (a := ⟨bb, 0, none⟩) nb'))
    have HP := Lib.hid (put_done (b := b) (n := n) H.out HI.out ((Keeps.refl (fun _ => False) w).drew.trans (Keeps.of_below hb _)) hv' hbk ((Keeps.refl (· = mo) w1).putObj mo o fun _ => rfl) hmo)
    clear hb hv' hbk hm1 hmu hmo q1 q2 q3 q4 q5 q6 q7 q8
    go_wp2
    go_ret
    refine ⟨by simp [St.put1, HV.out, errV], fp, dt ++ (blk v').toList, ?_⟩
    simp only [St.put1, HV.out, if_true]
    exact HP.out

theorem putC_calls (cap : Array Value) (w : World) : (callFunc 92 cap).run Tryz.prog w = .ok (.enter 92 cap) w := by kernel_rfl

/-- New blocks ahead of what turns it. -/
theorem StTurned.from {B : Nat} {w w0 w' : World} {p : Nat} {fp dt fp' dt' : List Nat} {st' : St} (k0 : Keeps (fun _ => False) w w0) (h : StTurned B w0 p fp dt st' w' fp' dt') : StTurned B w p fp dt st' w' fp' dt' :=
  ⟨h.at_, (k0.mono fun _ _ h => h.elim).trans h.keeps, fun k hk => (h.fpNew k hk).imp id fun x => Nat.le_trans k0.size x, fun k hk => (h.dtNew k hk).imp id fun x => Nat.le_trans k0.size x⟩
/-- A call whose answer is an error alone: how its post comes of the closure's. -/
theorem errPost_run {ad : Nat → Addr} {B : Nat} {w w0 w1 : World} {p : Nat} {fp dt : List Nat} {st : St} {good : St → Nat × St} (k0 : Keeps (fun _ => False) w w0) (hB : B ≤ w.heap.size) (hn : st.next ≠ 1) (h1 : StTurned B w0 p fp dt st.begin w1 fp dt) {e : Ending} {w2 : World} (h : ErrPost ad B w1 p fp dt (good st.begin) e w2) :
    ∃ v, e = .returned v ∧ Below B w1 w2 ∧ ErrPost ad B w p fp dt (st.run good) (.returned (if st.next = 2 then errV ad 111 else v)) w2 := by
  obtain ⟨rfl, fp', dt', ht⟩ := h
  refine ⟨_, rfl, ht.below h1.at_ (Nat.le_trans hB (Nat.le_trans k0.size h1.keeps.size)), ?_, fp', dt', ?_⟩
  · by_cases h2 : st.next = 2 <;> simp [St.run, hn, h2]
  · have : (st.run good).2 = (good st.begin).2 := by simp [St.run, hn]
    rw [this]
    exact ((h1.from k0).trans ht)
theorem errPost_fails {ad : Nat → Addr} {B : Nat} {w w0 w1 : World} {p : Nat} {fp dt : List Nat} {st : St} {good : St → Nat × St} (k0 : Keeps (fun _ => False) w w0) (hn : st.next = 1) (h1 : StTurned B w0 p fp dt st.begin w1 fp dt) :
    ErrPost ad B w p fp dt (st.run good) (.returned (errV ad 111)) w1 :=
  ⟨by simp [St.run, hn], fp, dt, by simp only [St.run, hn, if_true]; exact h1.from k0⟩

set_option maxRecDepth 100000 in
theorem put_any {L : List Nat} {ad : Nat → Addr} {B : Nat} {w : World} {p : Nat} {st : St} {fp dt : List Nat} (h : StoreAt B w p st fp dt) (hE : Errs L ad B w) (h106 : 106 ∈ L) (h111 : 111 ∈ L) (hB : B ≤ w.heap.size) (hcl : st.calls < 4611686018427387904) (hfl : st.failed < 4611686018427387904)
    {n : ByteArray} {bv : Value} {b : List UInt8} (hbv : seqV w bv (bytesL b)) (hbb : ∀ x, blk bv = some x → x ∉ fp) (hlen : b.length ≤ 1073741824) :
    Calls Tryz.prog 14 #[.pointer (some ⟨p, 0, none⟩), .string n, bv] w (ErrPost ad B w p fp dt (st.run (St.put1 n b))) := by
  have H := Lib.hid h
  have HE := Lib.hid hE
  have HV := Lib.hid hbv
  obtain ⟨a, m, c, rfl, hrest⟩ := hbv
  clear h hE hrest
  go_enter Tryz.func14, Tryz.ntmps14
  go_wp2_with fail
  have k0 : Keeps (fun _ => False) w (((w.alloc (.cells #[.pointer (some ⟨p, 0, none⟩)] 26)).alloc (.cells #[.string n] 9)).alloc (.cells #[.slice a m c] 64)) := (((Keeps.refl _ _).alloc _).alloc _).alloc _
  have b0 : (((w.alloc (.cells #[.pointer (some ⟨p, 0, none⟩)] 26)).alloc (.cells #[.string n] 9)).alloc (.cells #[.slice a m c] 64)).heap[w.heap.size]? = some (.cells #[.pointer (some ⟨p, 0, none⟩)] 26 (0, 0)) := heap_alloc_old (heap_alloc_old (World.alloc_heap_new w _))
  have b1 : (((w.alloc (.cells #[.pointer (some ⟨p, 0, none⟩)] 26)).alloc (.cells #[.string n] 9)).alloc (.cells #[.slice a m c] 64)).heap[w.heap.size + 1]? = some (.cells #[.string n] 9 (0, 0)) := heap_alloc_old (by simpa using World.alloc_heap_new (w.alloc (.cells #[.pointer (some ⟨p, 0, none⟩)] 26)) (.cells #[.string n] 9))
  have b2 : (((w.alloc (.cells #[.pointer (some ⟨p, 0, none⟩)] 26)).alloc (.cells #[.string n] 9)).alloc (.cells #[.slice a m c] 64)).heap[w.heap.size + 1 + 1]? = some (.cells #[.slice a m c] 64 (0, 0)) := by simpa using World.alloc_heap_new ((w.alloc (.cells #[.pointer (some ⟨p, 0, none⟩)] 26)).alloc (.cells #[.string n] 9)) (.cells #[.slice a m c] 64)
  generalize (((w.alloc (.cells #[.pointer (some ⟨p, 0, none⟩)] 26)).alloc (.cells #[.string n] 9)).alloc (.cells #[.slice a m c] 64)) = w0 at *
  have e0 : Errs L ad B w0 := HE.out.keep k0 hB fun _ _ => id
  refine (call_any (R := ErrPost ad B w p fp dt (st.run (St.put1 n b))) (putC_calls _) (H.out.keep k0 fun _ _ => id) e0 h111 (Nat.le_trans hB k0.size) hcl hfl (fun hn w1 h1 => errPost_fails k0 hn h1) (fun hn w1 h1 => ?_)).mono ?_
  · have hw1 : ∀ x, x ∉ fp → ¬ x ∈ fp := fun _ h => h
    refine (putC_any (n := n) (b := b) h1.at_ (e0.keep h1.keeps (Nat.le_trans hB k0.size) fun i hi hf => by have := H.out.ge i hf; omega) h106 (Nat.le_trans hB (Nat.le_trans k0.size h1.keeps.size)) (cell_at (h1.keeps.get b1 ?_) rfl) (cell_at (h1.keeps.get b2 ?_) rfl) (cell_at (h1.keeps.get b0 ?_) rfl) ((HV.out.keep k0 fun _ _ => id).keep h1.keeps hbb) hlen).mono fun e w2 h => errPost_run k0 hB hn h1 h
    all_goals (intro hf; have := H.out.lt _ (.inl hf); omega)
  · rintro e w' ⟨rfl, ht⟩
    have HT := Lib.hid ht
    clear ht
    go_wp2
    go_ret
    exact ⟨rfl, HT.out⟩
end Go.Proofs.YtkogkokmcmallaaGreatDoor
namespace Go.Proofs.YtkogkokmcmallaaGreatDoor
set_option linter.all false
open Go.RowKit

/-- Bytes as a string. -/
def bstr (l : List UInt8) : ByteArray := ⟨l.toArray⟩
theorem foldl_push (l : List UInt8) : ∀ s : ByteArray, (l.map fun b => (b.toNat : Int)).foldl (fun (r : ByteArray) n => r.push (UInt8.ofNat n.toNat)) s = ⟨s.data ++ l.toArray⟩ := by
  induction l with
  | nil => intro s; simp
  | cons b l ih =>
    intro s
    simp only [List.map_cons, List.foldl_cons, ih]
    have : UInt8.ofNat (b.toNat : Int).toNat = b := by simp
    rw [this]
    simp [ByteArray.push]
theorem run_string_of {P : Program} {w : World} {src dst e : TypeId} (hs : P.underlying src = some (.slice e)) (he : P.underlying e = some (.int .u8)) (hd : P.underlying dst = some .string) {v : Value} {l : List UInt8} (h : seqV w v (bytesL l)) :
    (convert src dst v).run P w = .ok (.string (bstr l)) w := by
  obtain ⟨a, n, c, rfl, hn, hc, ha, hr⟩ := h
  have hn : n = l.length := by simpa [bytesL] using hn
  subst hn
  rw [run_convert_bytes_string w src dst e a l.length c hs he hd]
  cases a with
  | none =>
    have : c = 0 := ha rfl
    have : l = [] := List.eq_nil_of_length_eq_zero (by omega)
    subst this
    rfl
  | some a =>
    have hl : (loadCells a l.length).run P w = .ok ((l.map fun b => (b.toNat : Int)).map (Value.int .u8)).toArray w := by
      have h2 : (l.map fun b => (b.toNat : Int)).map (Value.int .u8) = bytesL l := by simp [bytesL, u8v, Function.comp_def]
      rw [h2]
      have := run_loadCells_list (P := P) w a (bytesL l) (fun j v hj => ?_)
      · simpa [bytesL] using this
      · have hjl := (List.getElem?_eq_some_iff.1 hj).1
        rcases hr with h | ⟨b, off, cs, E, fz, ha, hb, _, hcs⟩
        · simp [bytesL] at hjl; omega
        · obtain rfl := Option.some.inj ha
          rw [Addr.add_lit]
          exact cell_at hb (by rw [hcs j hjl, hj])
    rw [run_bytesToString w a l.length c _ hl, foldl_push]
    simp [bstr]

/-- A literal that has just been laid. -/
theorem seqV_lit (w : World) (E : TypeId) (l : List Value) (n : Nat) (fz : Nat × Nat) (hn : n = l.length) : seqV (w.alloc (.cells l.toArray E fz)) (.slice (some ⟨w.heap.size, 0, none⟩) n n) l := by
  subst hn
  exact ⟨_, _, _, rfl, rfl, Nat.le_refl _, (fun h => by cases h), .inr ⟨_, 0, _, _, _, rfl, World.alloc_heap_new w _, by simp, fun i hi => by simp⟩⟩
theorem seqV_litAt {w : World} {N : Nat} (hN : w.heap.size = N) (E : TypeId) (l : List Value) (n : Nat) (fz : Nat × Nat) (hn : n = l.length) : seqV (w.alloc (.cells l.toArray E fz)) (.slice (some ⟨N, 0, none⟩) n n) l := by
  subst hN
  exact seqV_lit w E l n fz hn
def sOne : St := { St.empty with script := [2] }
def sTwo : St := { objs := [(⟨#[97]⟩, [120])], ups := [], ids := 0, script := [], calls := 1, failed := 1 }
theorem first_run : sOne.run (St.put1 ⟨#[97]⟩ [120]) = (111, sTwo) := by kernel_rfl
theorem first_get : aget sTwo.objs ⟨#[97]⟩ = some [120] := by kernel_rfl

set_option maxRecDepth 100000 in
theorem first11_any {ad : Nat → Addr} {B : Nat} {w : World} (hE : Errs allCodes ad B w) (hB : B ≤ w.heap.size) : Calls Tryz.prog 42 #[] w (BoolNew true w) := by
  have HE := Lib.hid (hE.mono hB)
  have hs2 : St.small sTwo := ⟨fun n b h => by simp [sTwo] at h; obtain ⟨_, rfl⟩ := h; decide, fun i u h => by simp [sTwo] at h⟩
  have HS2 := Lib.hid hs2
  clear hs2
  obtain ⟨i0, hi0, hz0, hz1, hz2⟩ := info_parts info_int
  obtain ⟨i1, hi1, hy0, hy1, hy2⟩ := info_parts info_u8
  clear hE
  go_enter Tryz.func42, Tryz.ntmps42
  have hcb := fun (w : World) (C : Array Value) (n c : Nat) => Lib.run_convert_bytes_const (P := Tryz.prog) w 64 5 C n c Tryz.underlying64 Tryz.underlying5
  go_wp2_with (first
    | (go_at_call 11; refine (new_any (B := w.heap.size) (Nat.le_refl _)).mono ?_; rintro e w1 ⟨p, fp, rfl, hst, hb1, hfp⟩; have Hst := Lib.hid hst; have Hb1 := Lib.hid hb1; have Hfp := Lib.hid hfp; clear hst hb1 hfp)
    | (refine wpList_buildSeq rfl _ _ _ rfl Tryz.underlying22 hi0 hz0 hz1 (intsL [2]) rfl (fun u hu => by simp [intsL] at hu; subst hu; rfl) rfl (by decide) (by decide) ?_)
    | (go_at_call 20; refine (script_any (outs := [2]) (Hst.out.keep ((Keeps.refl (fun _ => False) w1).alloc _) (fun _ _ => id)) (seqV_lit w1 _ _ 1 (0, 0) rfl) (by decide)).mono ?_; rintro e w2 ⟨rfl, fp2, ht2⟩; have Ht2 := Lib.hid (StTurned.from ((Keeps.refl (fun _ => False) w1).alloc _) ht2); clear ht2)
    | (refine wpList_buildSeq rfl _ _ _ rfl Tryz.underlying64 hi1 hy0 hy1 (bytesL [120]) rfl (fun u hu => by simp [bytesL] at hu; subst hu; rfl) rfl (by decide) (by decide) ?_))
  have hB2 : w.heap.size ≤ w2.heap.size := Nat.le_trans Hb1.out.size Ht2.out.keeps.size
  have hbw2 : Below w.heap.size w w2 := Hb1.out.trans (Ht2.out.below Hst.out Hb1.out.size)
  have kw : Keeps (fun _ => False) w2 (w2.alloc (.cells (bytesL [120]).toArray 5 ((bytesL [120]).length, (bytesL [120]).length + 1))) := (Keeps.refl _ _).alloc _
  refine (put_any (B := w.heap.size) (st := sOne) (dt := []) (Ht2.out.at_.keep kw fun _ _ => id) ((HE.out.below hbw2).keep kw hB2 fun _ _ => id) (by decide) (by decide) (Nat.le_trans hB2 kw.size) (by decide) (by decide) (seqV_lit w2 _ (bytesL [120]) 1 _ rfl) (fun x hx hf => by have := Ht2.out.at_.lt x (.inl hf); simp only [blk, Option.some.injEq] at hx; omega) (by decide)).mono ?_
  rintro e w3 ⟨rfl, fp3, dt3, ht3⟩
  rw [first_run] at ht3
  have Ht3 := Lib.hid (ht3.from kw)
  have hbw3 : Below w.heap.size w w3 := hbw2.trans (Ht3.out.below Ht2.out.at_ hB2)
  have hE3 := HE.out.below hbw3
  have HE3 := Lib.hid hE3
  have hB3 : w.heap.size ≤ w3.heap.size := hbw3.size
  have Hbw3 := Lib.hid hbw3
  rw [first_run]
  clear ht3 kw hbw2 hbw3 hE3
  go_wp2_with (first
    | (go_at_call 145; refine (bytes_any Ht3.out.at_ HS2.out ⟨#[97]⟩).mono ?_; rw [first_get]; rintro e w4 ⟨v4, rfl, hv4, hb4, _⟩; have Hv4 := Lib.hid hv4; have Hb4 := Lib.hid hb4; clear hv4 hb4)
    | (go_at_call 23; refine (is_any (d := 111) (HE3.out.below (Hb4.out.mono hB3)) (Nat.le_trans hB3 Hb4.out.size) (by decide) 111).mono ?_; rintro e w5 ⟨rfl, hb5⟩; have Hb5 := Lib.hid hb5; have hcs := run_string_of (P := Tryz.prog) (w := w5) Tryz.underlying64 Tryz.underlying5 Tryz.underlying9 (l := [120]) (Hv4.out.seq.below hb5 Hv4.out.lt); clear hb5))
  go_ret
  exact ⟨ret_bool (by decide +kernel), Hbw3.out.trans ((Hb4.out.mono hB3).trans (Hb5.out.mono (Nat.le_trans hB3 Hb4.out.size)))⟩
end Go.Proofs.YtkogkokmcmallaaGreatDoor
