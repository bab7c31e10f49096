/- The store as plain data; where it lies in memory ('StoreAt': its footprint of blocks that it writes, the blocks that it only reads). -/
import Derived.Test.YtjiigajekminaaaDoorSee
namespace Go.Proofs.YtjiigajekminaaaDoor
set_option linter.all false
open Go.RowKit

/-- An upload: its name, its parts. -/
structure Up where
  name : ByteArray
  parts : List (Int × List UInt8)
/-- The store. -/
structure St where
  objs : List (ByteArray × List UInt8)
  ups : List (Int × Up)
  ids : Nat
  script : List Int
  calls : Nat
  failed : Nat

def bytesL (l : List UInt8) : List Value := l.map u8v
def intsL (l : List Int) : List Value := l.map (Value.int .i64)
theorem bytesL_one (l : List UInt8) : ∀ u ∈ bytesL l, u.oneCell' = true := by
  intro u hu; obtain ⟨x, _, rfl⟩ := List.mem_map.1 hu; rfl
theorem intsL_one (l : List Int) : ∀ u ∈ intsL l, u.oneCell' = true := by
  intro u hu; obtain ⟨x, _, rfl⟩ := List.mem_map.1 hu; rfl

/-- Bytes that are kept: read alone; their block is one of these. -/
def Kept (w : World) (dt : List Nat) (v : Value) (l : List UInt8) : Prop := seqV w v (bytesL l) ∧ ∀ b, blk v = some b → b ∈ dt
/-- An upload in memory (its block, the block of its map of parts). -/
def UpAt (w : World) (dt : List Nat) (e : Nat × Nat) (u : Up) : Prop :=
  e.1 ∈ dt ∧ w.heap[e.1]? = some (.cells #[.string u.name, .map (some e.2)] 120 (0, 0)) ∧ ∃ ps, MapAt w (Value.int .i64) e.2 ps ∧ ARel (Kept w dt) ps u.parts
def upPtr (e : Int × Nat × Nat) : Int × Value := (e.1, .pointer (some ⟨e.2.1, 0, none⟩))

/-- The six cells of a store. -/
def StoreCells (mo mu : Nat) (ids : Nat) (sv : Value) (calls failed : Nat) : Array Value :=
  #[.map (some mo), .map (some mu), .int .i64 ids, sv, .int .i64 calls, .int .i64 failed]

/-- The store's inside: the blocks of its two maps, its script's slice, the entries. -/
structure StIn (w : World) (p : Nat) (st : St) (fp dt : List Nat) (mo mu : Nat) (sv : Value) (es : List (ByteArray × Value)) (us : List (Int × Nat × Nat)) : Prop where
  cells : w.heap[p]? = some (.cells (StoreCells mo mu st.ids sv st.calls st.failed) 94 (0, 0))
  mapO : MapAt w Value.string mo es
  objs : ARel (Kept w dt) es st.objs
  mapU : MapAt w (Value.int .i64) mu (us.map upPtr)
  ups : ARel (UpAt w dt) us st.ups
  script : ownV w sv (intsL st.script)
  scriptB : ∀ b, blk sv = some b → b ∈ fp ∧ b ≠ p ∧ b ≠ mo ∧ b ≠ mu ∧ ∀ e ∈ us, b ≠ e.2.2
  moF : mo ∈ fp
  muF : mu ∈ fp
  pmF : ∀ e ∈ us, e.2.2 ∈ fp
  nodup : (mo :: mu :: us.map (·.2.2)).Nodup
/-- The store lies at block p. -/
structure StoreAt (B : Nat) (w : World) (p : Nat) (st : St) (fp dt : List Nat) : Prop where
  body : ∃ mo mu sv es us, StIn w p st fp dt mo mu sv es us
  self : p ∈ fp
  apart : ∀ k ∈ fp, k ∉ dt
  ge : ∀ k ∈ fp, B ≤ k
  lt : ∀ k, k ∈ fp ∨ k ∈ dt → k < w.heap.size

theorem Kept.keep {F : Nat → Prop} {w w' : World} {dt dt' : List Nat} {v : Value} {l : List UInt8} (h : Kept w dt v l) (k : Keeps F w w') (hF : ∀ b ∈ dt, ¬ F b) (hd : ∀ b ∈ dt, b ∈ dt') : Kept w' dt' v l :=
  ⟨h.1.keep k fun b hb => hF b (h.2 b hb), fun b hb => hd b (h.2 b hb)⟩
theorem UpAt.keep {F : Nat → Prop} {w w' : World} {dt dt' : List Nat} {e : Nat × Nat} {u : Up} (h : UpAt w dt e u) (k : Keeps F w w') (hF : ∀ b ∈ dt, ¬ F b) (hm : ¬ F e.2) (hd : ∀ b ∈ dt, b ∈ dt') : UpAt w' dt' e u := by
  obtain ⟨h1, h2, ps, h3, h4⟩ := h
  exact ⟨hd _ h1, k.get h2 (hF _ h1), ps, h3.keep k hm, h4.mono fun _ _ _ _ _ h => h.keep k hF hd⟩
theorem ups_keep {F : Nat → Prop} {w w' : World} {dt dt' : List Nat} {us : List (Int × Nat × Nat)} {ups : List (Int × Up)} (h : ARel (UpAt w dt) us ups) (k : Keeps F w w') (hF : ∀ b ∈ dt, ¬ F b) (hm : ∀ e ∈ us, ¬ F e.2.2) (hd : ∀ b ∈ dt, b ∈ dt') : ARel (UpAt w' dt') us ups :=
  h.mono fun _ _ _ ha _ h => h.keep k hF (hm _ ha) hd
theorem MapAt.ne_cells {κ : Type} {w : World} {enc : κ → Value} {m p : Nat} {es : List (κ × Value)} {cs : Array Value} {E : TypeId} {fz : Nat × Nat} (h : MapAt w enc m es) (hp : w.heap[p]? = some (.cells cs E fz)) : m ≠ p := by
  rintro rfl
  obtain ⟨arr, clock, hb, _⟩ := h
  rw [hb] at hp
  cases hp
theorem StIn.pm_ne {w : World} {p : Nat} {st : St} {fp dt : List Nat} {mo mu : Nat} {sv : Value} {es : List (ByteArray × Value)} {us : List (Int × Nat × Nat)} (h : StIn w p st fp dt mo mu sv es us) {e : Int × Nat × Nat} (he : e ∈ us) : e.2.2 ≠ p := by
  have := h.ups
  intro q
  have hm : ∃ ps, MapAt w (Value.int .i64) e.2.2 ps := by
    have key := arel_ind (R := UpAt w dt) (M := fun (us : List (Int × Nat × Nat)) (_ : List (Int × Up)) => ∀ e ∈ us, ∃ ps, MapAt w (Value.int .i64) e.2.2 ps) (fun _ h => by cases h)
      (fun k a b l m hr _ ih e he => by
        rcases List.mem_cons.1 he with rfl | he
        · obtain ⟨_, _, ps, h3, _⟩ := hr; exact ⟨ps, h3⟩
        · exact ih e he) us st.ups this
    exact key e he
  obtain ⟨ps, hm⟩ := hm
  exact hm.ne_cells h.cells q
/-- Nothing of the store has turned. -/
theorem StIn.keep {F : Nat → Prop} {w w' : World} {p : Nat} {st : St} {fp dt : List Nat} {mo mu : Nat} {sv : Value} {es : List (ByteArray × Value)} {us : List (Int × Nat × Nat)} (h : StIn w p st fp dt mo mu sv es us) (k : Keeps F w w')
    (hp : ¬ F p) (hf : ∀ b ∈ fp, ¬ F b) (hd : ∀ b ∈ dt, ¬ F b) : StIn w' p st fp dt mo mu sv es us where
  cells := k.get h.cells hp
  mapO := h.mapO.keep k (hf _ h.moF)
  objs := h.objs.mono fun _ _ _ _ _ x => x.keep k hd fun _ h => h
  mapU := h.mapU.keep k (hf _ h.muF)
  ups := ups_keep h.ups k hd (fun e he => hf _ (h.pmF e he)) fun _ h => h
  script := h.script.keep k fun _ hb => hf _ (h.scriptB _ hb).1
  scriptB := h.scriptB
  moF := h.moF
  muF := h.muF
  pmF := h.pmF
  nodup := h.nodup
theorem StoreAt.keep {F : Nat → Prop} {B : Nat} {w w' : World} {p : Nat} {st : St} {fp dt : List Nat} (h : StoreAt B w p st fp dt) (k : Keeps F w w') (hF : ∀ b, b ∈ fp ∨ b ∈ dt → ¬ F b) : StoreAt B w' p st fp dt where
  body := by obtain ⟨mo, mu, sv, es, us, hi⟩ := h.body; exact ⟨mo, mu, sv, es, us, hi.keep k (hF _ (.inl h.self)) (fun b hb => hF b (.inl hb)) (fun b hb => hF b (.inr hb))⟩
  self := h.self
  apart := h.apart
  ge := h.ge
  lt b hb := Nat.lt_of_lt_of_le (h.lt b hb) k.size
/-- Only the six cells have turned (counters, the script's slice). -/
theorem StIn.turn {w w' : World} {p : Nat} {st st' : St} {fp dt : List Nat} {mo mu : Nat} {sv sv' : Value} {es : List (ByteArray × Value)} {us : List (Int × Nat × Nat)} (h : StIn w p st fp dt mo mu sv es us) (k : Keeps (· = p) w w') (hpf : p ∈ fp) (hap : ∀ k ∈ fp, k ∉ dt)
    (hc : w'.heap[p]? = some (.cells (StoreCells mo mu st'.ids sv' st'.calls st'.failed) 94 (0, 0))) (ho : st'.objs = st.objs) (hu : st'.ups = st.ups) (hs : ownV w' sv' (intsL st'.script)) (hsb : ∀ b, blk sv' = some b → b ∈ fp ∧ b ≠ p ∧ b ≠ mo ∧ b ≠ mu ∧ ∀ e ∈ us, b ≠ e.2.2) :
    StIn w' p st' fp dt mo mu sv' es us where
  cells := hc
  mapO := h.mapO.keep k (h.mapO.ne_cells h.cells)
  objs := ho ▸ h.objs.mono fun _ _ _ _ _ x => x.keep k (fun _ hb e => hap p hpf (e ▸ hb)) fun _ h => h
  mapU := h.mapU.keep k (h.mapU.ne_cells h.cells)
  ups := hu ▸ ups_keep h.ups k (fun _ hb e => hap p hpf (e ▸ hb)) (fun _ he => h.pm_ne he) fun _ h => h
  script := hs
  scriptB := hsb
  moF := h.moF
  muF := h.muF
  pmF := h.pmF
  nodup := h.nodup
end Go.Proofs.YtjiigajekminaaaDoor
