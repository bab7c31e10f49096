/- The store as plain data; where it lies in memory ('StoreAt': its footprint of blocks that it writes, the blocks that it only reads). The store's walks, first part: New, Calls, Failed, Bytes, Script, call. The store's walks, second part: Script, call. The store's walks, third part: 'call': what comes of a call. The store's walks: Put. Chapter 11's statements: what they share: bytes as a string; the chapter's examples ('first'). part: parts, fair, Range. part: Range. Contracts of the elder shapes, over chunks; part.Make. The store, over chunks: what it is in memory; New, Calls, Failed, call. The store, over chunks: Bytes, Script, Delete, Head, Get. The store, over chunks: Start, Part, Abort. The client, over chunks: New, Asked, again. The store, over chunks: Complete. The client, over chunks: Put, Part, Delete, Abort, Start, Head, Complete. The client, over chunks: Put, Start, Head, Complete. StoreRanges: the walk. (Number: in G.) CallTwice: the walk. PartMakes: the walk. part.Step, over chunks. An upload's chunk. PartLost, PartAnew: the walks. Asking till there is an answer, in general. PartSteps: what each thing that Step does makes of the store, whatever is lost. What each thing that part.Step does makes of the store, whatever is lost; objects of any names. part.Step, whatever comes of the store's calls; objects of any names. -/
import Derived.Test.YthejaanobeonnaaGreatDoorGo5
import Derived.Test.YthejaanobeonnaaGreatDoorGo1
import Derived.Lib.SlBytesConst
import Derived.Deep.QuietTactic
import Derived.Test.YthejaanobeonnaaGreatDoorGo2
import Derived.Test.YthejaanobeonnaaGreatDoorGo3
set_option linter.all false
namespace Go.Proofs.YthejaanobeonnaaGreatDoor
section
open Go.RowKit
structure Up where
  name : ByteArray
  parts : List (Int × List UInt8)
structure St where
  objs : List (ByteArray × List UInt8)
  ups : List (Int × Up)
  ids : Nat
  script : List Int
  calls : Nat
  failed : Nat
def Kept (w : World) (dt : List Nat) (v : Value) (l : List UInt8) : Prop := zEs w v (zAn l) ∧ ∀ b, blk v = some b → b ∈ dt
def UpAt (w : World) (dt : List Nat) (e : Nat × Nat) (u : Up) : Prop :=
  e.1 ∈ dt ∧ w.heap[e.1]? = some (.cells #[.string u.name, .map (some e.2)] 280 (0, 0)) ∧ ∃ ps, zF2 w (Value.int .i64) e.2 ps ∧ ARel (Kept w dt) ps u.parts
def upPtr (e : Int × Nat × Nat) : Int × Value := (e.1, .pointer (some ⟨e.2.1, 0, none⟩))
def StoreCells (mo mu : Nat) (ids : Nat) (sv : Value) (calls failed : Nat) : Array Value :=
  #[.map (some mo), .map (some mu), .int .i64 ids, sv, .int .i64 calls, .int .i64 failed]
structure StIn (w : World) (p : Nat) (st : St) (fp dt : List Nat) (mo mu : Nat) (sv : Value) (es : List (ByteArray × Value)) (us : List (Int × Nat × Nat)) : Prop where
  cells : w.heap[p]? = some (.cells (StoreCells mo mu st.ids sv st.calls st.failed) 92 (0, 0))
  mapO : zF2 w Value.string mo es
  objs : ARel (Kept w dt) es st.objs
  mapU : zF2 w (Value.int .i64) mu (us.map upPtr)
  ups : ARel (UpAt w dt) us st.ups
  script : ownV w sv (zCz st.script)
  scriptB : ∀ b, blk sv = some b → b ∈ fp ∧ b ≠ p ∧ b ≠ mo ∧ b ≠ mu ∧ ∀ e ∈ us, b ≠ e.2.2
  moF : mo ∈ fp
  muF : mu ∈ fp
  pmF : ∀ e ∈ us, e.2.2 ∈ fp
  nodup : (mo :: mu :: us.map (·.2.2)).Nodup
structure StoreAt (B : Nat) (w : World) (p : Nat) (st : St) (fp dt : List Nat) : Prop where
  body : ∃ mo mu sv es us, StIn w p st fp dt mo mu sv es us
  self : p ∈ fp
  apart : ∀ k ∈ fp, k ∉ dt
  ge : ∀ k ∈ fp, B ≤ k
  lt : ∀ k, k ∈ fp ∨ k ∈ dt → k < w.heap.size
theorem Kept.keep {F : Nat → Prop} {w w' : World} {dt dt' : List Nat} {v : Value} {l : List UInt8} (h : Kept w dt v l) (k : Keeps F w w') (hF : ∀ b ∈ dt, ¬ F b) (hd : ∀ b ∈ dt, b ∈ dt') : Kept w' dt' v l :=
  ⟨h.1.keep k fun b hb => hF b (h.2 b hb), fun b hb => hd b (h.2 b hb)⟩
theorem UpAt.keep {F : Nat → Prop} {w w' : World} {dt dt' : List Nat} {e : Nat × Nat} {u : Up} (h : UpAt w dt e u) (k : Keeps F w w') (hF : ∀ b ∈ dt, ¬ F b) (hm : ¬ F e.2) (hd : ∀ b ∈ dt, b ∈ dt') : UpAt w' dt' e u := by
  obtain ⟨h1, h2, ps, h3, h4⟩ := h; exact ⟨hd _ h1, k.get h2 (hF _ h1), ps, h3.keep k hm, h4.mono fun _ _ _ _ _ h => h.keep k hF hd⟩
theorem ups_keep {F : Nat → Prop} {w w' : World} {dt dt' : List Nat} {us : List (Int × Nat × Nat)} {ups : List (Int × Up)} (h : ARel (UpAt w dt) us ups) (k : Keeps F w w') (hF : ∀ b ∈ dt, ¬ F b) (hm : ∀ e ∈ us, ¬ F e.2.2) (hd : ∀ b ∈ dt, b ∈ dt') : ARel (UpAt w' dt') us ups :=
  h.mono fun _ _ _ ha _ h => h.keep k hF (hm _ ha) hd
theorem zF2.ne_cells {κ : Type} {w : World} {enc : κ → Value} {m p : Nat} {es : List (κ × Value)} {cs : Array Value} {E : TypeId} {fz : Nat × Nat} (h : zF2 w enc m es) (hp : w.heap[p]? = some (.cells cs E fz)) : m ≠ p := by
  rintro rfl; obtain ⟨arr, clock, hb, _⟩ := h; rw [hb] at hp
  cases hp
theorem StIn.pm_ne {w : World} {p : Nat} {st : St} {fp dt : List Nat} {mo mu : Nat} {sv : Value} {es : List (ByteArray × Value)} {us : List (Int × Nat × Nat)} (h : StIn w p st fp dt mo mu sv es us) {e : Int × Nat × Nat} (he : e ∈ us) : e.2.2 ≠ p := by
  have := h.ups; intro q
  have hm : ∃ ps, zF2 w (Value.int .i64) e.2.2 ps := by
    have key := arel_ind (R := UpAt w dt) (M := fun (us : List (Int × Nat × Nat)) (_ : List (Int × Up)) => ∀ e ∈ us, ∃ ps, zF2 w (Value.int .i64) e.2.2 ps) (fun _ h => by cases h)
      (fun k a b l m hr _ ih e he => by
        rcases List.mem_cons.1 he with rfl | he
        · obtain ⟨_, _, ps, h3, _⟩ := hr; exact ⟨ps, h3⟩
        · exact ih e he) us st.ups this
    exact key e he
  obtain ⟨ps, hm⟩ := hm; exact hm.ne_cells h.cells q
theorem StIn.keep {F : Nat → Prop} {w w' : World} {p : Nat} {st : St} {fp dt : List Nat} {mo mu : Nat} {sv : Value} {es : List (ByteArray × Value)} {us : List (Int × Nat × Nat)} (h : StIn w p st fp dt mo mu sv es us) (k : Keeps F w w')
    (hp : ¬ F p) (hf : ∀ b ∈ fp, ¬ F b) (hd : ∀ b ∈ dt, ¬ F b) : StIn w' p st fp dt mo mu sv es us where
  cells := k.get h.cells hp
  mapO := h.mapO.keep k (hf _ h.moF)
  objs := h.objs.mono fun _ _ _ _ _ x => x.keep k hd fun _ h => h
  mapU := h.mapU.keep k (hf _ h.muF)
  ups := ups_keep h.ups k hd (fun e he => hf _ (h.pmF e he)) fun _ h => h
  script := h.script.keep k fun _ hb => hf _ (h.scriptB _ hb).1
  scriptB := h.scriptB
  moF := h.moF
  muF := h.muF
  pmF := h.pmF
  nodup := h.nodup
theorem StoreAt.keep {F : Nat → Prop} {B : Nat} {w w' : World} {p : Nat} {st : St} {fp dt : List Nat} (h : StoreAt B w p st fp dt) (k : Keeps F w w') (hF : ∀ b, b ∈ fp ∨ b ∈ dt → ¬ F b) : StoreAt B w' p st fp dt where
  body := by obtain ⟨mo, mu, sv, es, us, hi⟩ := h.body; exact ⟨mo, mu, sv, es, us, hi.keep k (hF _ (.inl h.self)) (fun b hb => hF b (.inl hb)) (fun b hb => hF b (.inr hb))⟩
  self := h.self
  apart := h.apart
  ge := h.ge
  lt b hb := Nat.lt_of_lt_of_le (h.lt b hb) k.size
theorem StIn.turn {w w' : World} {p : Nat} {st st' : St} {fp dt : List Nat} {mo mu : Nat} {sv sv' : Value} {es : List (ByteArray × Value)} {us : List (Int × Nat × Nat)} (h : StIn w p st fp dt mo mu sv es us) (k : Keeps (· = p) w w') (hpf : p ∈ fp) (hap : ∀ k ∈ fp, k ∉ dt)
    (hc : w'.heap[p]? = some (.cells (StoreCells mo mu st'.ids sv' st'.calls st'.failed) 92 (0, 0))) (ho : st'.objs = st.objs) (hu : st'.ups = st.ups) (hs : ownV w' sv' (zCz st'.script)) (hsb : ∀ b, blk sv' = some b → b ∈ fp ∧ b ≠ p ∧ b ≠ mo ∧ b ≠ mu ∧ ∀ e ∈ us, b ≠ e.2.2) :
    StIn w' p st' fp dt mo mu sv' es us where
  cells := hc
  mapO := h.mapO.keep k (h.mapO.ne_cells h.cells)
  objs := ho ▸ h.objs.mono fun _ _ _ _ _ x => x.keep k (fun _ hb e => hap p hpf (e ▸ hb)) fun _ h => h
  mapU := h.mapU.keep k (h.mapU.ne_cells h.cells)
  ups := hu ▸ ups_keep h.ups k (fun _ hb e => hap p hpf (e ▸ hb)) (fun _ he => h.pm_ne he) fun _ h => h
  script := hs
  scriptB := hsb
  moF := h.moF
  muF := h.muF
  pmF := h.pmF
  nodup := h.nodup
end
section
open Go.RowKit
def St.empty : St := { objs := [], ups := [], ids := 0, script := [], calls := 0, failed := 0 }
def StNew (B : Nat) (w : World) (e : Ending) (w' : World) : Prop :=
  ∃ p fp, e = .returned (.pointer (some ⟨p, 0, none⟩)) ∧ StoreAt B w' p St.empty fp [] ∧ Below w.heap.size w w' ∧ ∀ k ∈ fp, w.heap.size ≤ k
def BytesPost (w : World) (o : Option (List UInt8)) (e : Ending) (w' : World) : Prop :=
  ∃ v', e = .returned (.tuple #[v', .bool o.isSome]) ∧ ownV w' v' (zAn (o.getD [])) ∧ Below w.heap.size w w' ∧ ∀ b, blk v' = some b → w.heap.size ≤ b ∧ b < w'.heap.size
def St.small (st : St) : Prop := (∀ n b, (n, b) ∈ st.objs → b.length ≤ 1073741824) ∧ ∀ i u, (i, u) ∈ st.ups → ∀ k b, (k, b) ∈ u.parts → b.length ≤ 4194304
end
section
open Go.RowKit
structure StTurned (B : Nat) (w : World) (p : Nat) (fp dt : List Nat) (st' : St) (w' : World) (fp' dt' : List Nat) : Prop where
  at_ : StoreAt B w' p st' fp' dt'
  keeps : Keeps (· ∈ fp) w w'
  fpNew : ∀ k ∈ fp', k ∈ fp ∨ w.heap.size ≤ k
  dtNew : ∀ k ∈ dt', k ∈ dt ∨ w.heap.size ≤ k
theorem StTurned.trans {B : Nat} {w w1 w2 : World} {p : Nat} {fp dt fp1 dt1 fp2 dt2 : List Nat} {st1 st2 : St} (h : StTurned B w p fp dt st1 w1 fp1 dt1) (k : StTurned B w1 p fp1 dt1 st2 w2 fp2 dt2) : StTurned B w p fp dt st2 w2 fp2 dt2 where
  at_ := k.at_
  keeps := h.keeps.trans' k.keeps fun i hi hg => (h.fpNew i hg).resolve_right (by omega)
  fpNew i hi := (k.fpNew i hi).elim (h.fpNew i) fun hs => .inr (Nat.le_trans h.keeps.size hs)
  dtNew i hi := (k.dtNew i hi).elim (h.dtNew i) fun hs => .inr (Nat.le_trans h.keeps.size hs)
theorem StTurned.below {B : Nat} {w w' : World} {p : Nat} {fp dt fp' dt' : List Nat} {st st' : St} (h : StTurned B w p fp dt st' w' fp' dt') (h0 : StoreAt B w p st fp dt) (hB : B ≤ w.heap.size) : Below B w w' :=
  h.keeps.below hB fun i hi hf => by have := h0.ge i hf; omega
def ScriptPost (B : Nat) (w : World) (p : Nat) (fp dt : List Nat) (st' : St) (e : Ending) (w' : World) : Prop :=
  e = .returned (.tuple #[]) ∧ ∃ fp', StTurned B w p fp dt st' w' fp' dt
end
section
open Go.RowKit
def St.next (st : St) : Int := st.script.headD 0
def St.begin (st : St) : St := { st with calls := st.calls + 1, script := st.script.tail, failed := st.failed + (if st.next = 1 ∨ st.next = 2 then 1 else 0) }
section
variable {L : List Nat} {ad : Nat → Addr} {B : Nat} {w : World} {p : Nat} {st : St} {fp dt : List Nat} {R : Ending → World → Prop} {f : FuncId} {cap : Array Value}
end
end
section
open Go.RowKit
def St.run (st : St) (good : St → Nat × St) : Nat × St :=
  if st.next = 1 then (111, st.begin) else (if st.next = 2 then 111 else (good st.begin).1, (good st.begin).2)
def ErrPost (ad : Nat → Addr) (B : Nat) (w : World) (p : Nat) (fp dt : List Nat) (r : Nat × St) (e : Ending) (w' : World) : Prop :=
  e = .returned (zAk ad r.1) ∧ ∃ fp' dt', StTurned B w p fp dt r.2 w' fp' dt'
section
variable {L : List Nat} {ad : Nat → Addr} {B : Nat} {w : World} {p : Nat} {st : St} {fp dt : List Nat} {R : Ending → World → Prop} {f : FuncId} {cap : Array Value}
end
def St.put1 (n : ByteArray) (b : List UInt8) (st : St) : Nat × St := if zBy n.data.toList then (0, { st with objs := zC1 st.objs n b }) else (106, st)
end
section
open Go.RowKit
def bstr (l : List UInt8) : ByteArray := ⟨l.toArray⟩
def sOne : St := { St.empty with script := [2] }
def sTwo : St := { objs := [(⟨#[97]⟩, [120])], ups := [], ids := 0, script := [], calls := 1, failed := 1 }
end
section
open Go.RowKit
def zBb (size each : Nat) : Nat := (size + each - 1) / each
theorem partsN_eq {size each : Nat} (h1 : 1 ≤ each) : zBb size each = if 0 < size % each then size / each + 1 else size / each := by
  have hd := Nat.div_add_mod size each; have hm := Nat.mod_lt size (show each > 0 by omega)
  unfold zBb
  split
  · have e : size + each - 1 = each * (size / each + 1) + (size % each - 1) := by
      rw [Nat.mul_add]; omega
    rw [e, Nat.mul_add_div (by omega), Nat.div_eq_of_lt (show size % each - 1 < each by omega)]
  · have e : size + each - 1 = each * (size / each) + (each - 1) := by omega
    rw [e, Nat.mul_add_div (by omega), Nat.div_eq_of_lt (show each - 1 < each by omega)]
    all_goals rfl
theorem parts_any (size each : Nat) (h1 : 1 ≤ each) (h2 : each ≤ 1048576) (hs : size ≤ 1048576) (w : World) :
    Calls Tryz.prog 90 #[.int .i64 size, .int .i64 each] w fun e w' => e = .returned (.int .i64 (zBb size each : Nat)) ∧ w = w' := by
  have HP := Lib.hid (partsN_eq (size := size) h1)
  have hb0 : ((each : Int) == 0) = false := by simp; omega
  obtain ⟨q, hq⟩ : ∃ q, q = size / each := ⟨_, rfl⟩; obtain ⟨r, hr⟩ : ∃ r, r = size % each := ⟨_, rfl⟩
  have e1 : ((size : Int) / (each : Int)) = (q : Int) := by rw [hq]; exact (Int.natCast_ediv size each).symm
  have e2 : ((size : Int) % (each : Int)) = (r : Int) := by rw [hr]; exact (Int.natCast_emod size each).symm
  have hqb : q ≤ size := by rw [hq]; exact Nat.div_le_self _ _
  have HQ := Lib.hid (And.intro hq hr); clear hq hr
  by_cases hr0 : 0 < r
  · go_enter Tryz.func90, Tryz.ntmps90
    go_wp2
    go_ret
    refine ⟨ret_int ?_, rfl⟩; rw [HP.out, ← HQ.out.1, ← HQ.out.2, if_pos hr0]
    rfl
  · go_enter Tryz.func90, Tryz.ntmps90
    go_wp2
    go_ret
    refine ⟨ret_int ?_, rfl⟩; rw [HP.out, ← HQ.out.1, ← HQ.out.2, if_neg hr0]
theorem parts_same (size each : Nat) (h1 : 1 ≤ each) (h2 : each ≤ 1048576) (hs : size ≤ 1048576) (w : World) :
    Calls Tryz.prog 90 #[.int .i64 size, .int .i64 each] w fun e w' => e = .returned (.int .i64 (zBb size each : Nat)) ∧ w' = w :=
  (parts_any size each h1 h2 hs w).mono fun _ _ h => ⟨h.1, h.2.symm⟩
def zGm (name : ByteArray) (size : Nat) (sum : Nat) (each parts : Nat) : Array Value := #[.string name, .int .i64 size, .int .u32 (sum : Int), .int .i64 each, .int .i64 parts]
set_option maxRecDepth 100000 in
theorem fair_any {w : World} {name : ByteArray} {size sum each parts : Nat} (h1 : 1 ≤ each) (h2 : each ≤ 1048576) (hs : size ≤ 1048576) (hp : parts = zBb size each) (hm : parts ≤ 256) :
    Calls Tryz.prog 144 #[.agg (zGm name size sum each parts)] w fun e w' => e = .returned (.bool true) ∧ Below w.heap.size w w' := by
  have HP := Lib.hid hp; clear hp
  unfold zGm
  go_enter Tryz.func144, Tryz.ntmps144
  go_wp2_with fail
  have k0 : Keeps (fun _ => False) w (w.alloc (.cells #[.string name, .int .i64 size, .int .u32 (sum : Int), .int .i64 each, .int .i64 parts] 109)) := (Keeps.refl _ _).alloc _; have b0 : (w.alloc (.cells #[.string name, .int .i64 size, .int .u32 (sum : Int), .int .i64 each, .int .i64 parts] 109)).heap[w.heap.size]? = some (.cells #[.string name, .int .i64 size, .int .u32 (sum : Int), .int .i64 each, .int .i64 parts] 109 (0, 0)) := World.alloc_heap_new w _; generalize (w.alloc (.cells #[.string name, .int .i64 size, .int .u32 (sum : Int), .int .i64 each, .int .i64 parts] 109)) = w0 at *; have c1 : w0.cell? ⟨w.heap.size, 1, none⟩ = some (.int .i64 size) := zCc b0 rfl
  have c3 : w0.cell? ⟨w.heap.size, 3, none⟩ = some (.int .i64 each) := zCc b0 rfl; have c4 : w0.cell? ⟨w.heap.size, 4, none⟩ = some (.int .i64 parts) := zCc b0 rfl
  have q1 : (1 : Int) ≤ (each : Int) := by omega
  have q2 : (each : Int) ≤ 1048576 := by omega
  have q3 : (parts : Int) ≤ 256 := by omega
  have q4 : (0 : Int) ≤ (size : Int) := by omega
  have g1 : decide ((1 : Int) ≤ (each : Int)) = true := decide_eq_true q1; have g2 : decide ((each : Int) ≤ 1048576) = true := decide_eq_true q2; have g3 : decide ((parts : Int) ≤ 256) = true := decide_eq_true q3; have K0 := Lib.hid k0; clear k0 b0
  have g4 : ((parts : Int) == ((zBb size each : Nat) : Int)) = true := by rw [← HP.out]; simp
  go_quiet (first | (go_at_call 90; exact Calls.quiet_of_same (parts_same size each h1 h2 hs _)))
  go_wp2
  go_ret
  exact ⟨rfl, (K0.out.drewN nq).below (Nat.le_refl _) fun _ _ => id⟩
end
section
open Go.RowKit
def RangePost (w : World) (from_ to_ : Int) (is : Bool) (e : Ending) (w' : World) : Prop := e = .returned (.tuple #[.int .i64 from_, .int .i64 to_, .bool is]) ∧ Below w.heap.size w w'
set_option maxHeartbeats 800000 in
set_option maxRecDepth 100000 in
theorem range_in {w : World} {name : ByteArray} {size sum each parts n : Nat} (h1 : 1 ≤ each) (h2 : each ≤ 1048576) (hs : size ≤ 1048576) (hp : parts = zBb size each) (hm : parts ≤ 256) (hn : n < parts) :
    Calls Tryz.prog 146 #[.agg (zGm name size sum each parts), .int .i64 n] w (RangePost w ((n * each : Nat) : Int) ((min ((n + 1) * each) size : Nat) : Int) true) := by
  have HP := Lib.hid hp; clear hp; have hmul : n * each ≤ 268435456 := Nat.le_trans (Nat.mul_le_mul (show n ≤ 256 by omega) h2) (by decide); have hmul2 : (n + 1) * each ≤ 270532608 := Nat.le_trans (Nat.mul_le_mul (show n + 1 ≤ 257 by omega) h2) (by decide); have e1 : ((n : Int) * (each : Int)) = ((n * each : Nat) : Int) := (Int.natCast_mul n each).symm
  have e2 : (((n : Int) + 1) * (each : Int)) = (((n + 1) * each : Nat) : Int) := by rw [Int.natCast_mul]; rfl
  generalize n * each = m1 at *; generalize (n + 1) * each = m2 at *
  unfold zGm
  go_enter Tryz.func146, Tryz.ntmps146
  go_wp2_with (first | (go_at_call 144; refine (fair_any (name := name) (sum := sum) h1 h2 hs HP.out hm).mono ?_; rintro e w1 ⟨rfl, hb1⟩; have bx := World.alloc_heap_new w (.cells #[.string name, .int .i64 size, .int .u32 (sum : Int), .int .i64 each, .int .i64 parts] 109); have c1 : w1.cell? ⟨w.heap.size, 1, none⟩ = some (.int .i64 size) := (hb1.cell (p := ⟨w.heap.size, 1, none⟩) (lt_of_block bx)).trans (zCc bx rfl); have c3 : w1.cell? ⟨w.heap.size, 3, none⟩ = some (.int .i64 each) := (hb1.cell (p := ⟨w.heap.size, 3, none⟩) (lt_of_block bx)).trans (zCc bx rfl); have c4 : w1.cell? ⟨w.heap.size, 4, none⟩ = some (.int .i64 parts) := (hb1.cell (p := ⟨w.heap.size, 4, none⟩) (lt_of_block bx)).trans (zCc bx rfl); have Hb1 := Lib.hid ((((Keeps.refl (fun _ => False) w).alloc (.cells #[.string name, .int .i64 size, .int .u32 (sum : Int), .int .i64 each, .int .i64 parts] 109)).below (Nat.le_refl _) fun _ _ => id).trans (hb1.mono (by simp))); clear hb1 bx))
  have wr : ∀ z : Int, 0 ≤ z → z ≤ 1000000000 → IntKind.i64.wrap z = z := fun z h0 h1 => by
    have : z % 18446744073709551616 = z := Int.emod_eq_of_lt h0 (by omega)
    simp [IntKind.wrap, IntKind.bits, IntKind.signed, this]
    omega
  have v1 := wr m1 (by omega) (by omega); have v2 := wr ((n : Int) + 1) (by omega) (by omega); have v3 := wr m2 (by omega) (by omega); clear wr
  by_cases hmm : m2 ≤ size
  · rw [show min m2 size = m2 from Nat.min_eq_left hmm]
    have hz : (m2 : Int) ≤ (size : Int) := by omega
    go_region_held3 (fun w' => w'.cell? ⟨w.heap.size, 1, none⟩ = some (.int .i64 size) ∧ w'.cell? ⟨w.heap.size, 3, none⟩ = some (.int .i64 each) ∧ w'.cell? ⟨w.heap.size, 4, none⟩ = some (.int .i64 parts)) (go_keep) (first | (fail))
    go_wp2
    go_ret3
    first | exact ⟨rfl, Hb1.out.drew⟩ | (refine ⟨?_, Hb1.out.drew⟩; rw [show min m2 size = m2 from Nat.min_eq_left hmm, Int.min_eq_left hz]; rfl)
  · have hz : (size : Int) < (m2 : Int) := by omega
    have hz2 : ¬ (m2 : Int) < (size : Int) := by omega
    have hz3 : min (m2 : Int) (size : Int) = (size : Int) := Int.min_eq_right (by omega)
    go_region_held3 (fun w' => w'.cell? ⟨w.heap.size, 1, none⟩ = some (.int .i64 size) ∧ w'.cell? ⟨w.heap.size, 3, none⟩ = some (.int .i64 each) ∧ w'.cell? ⟨w.heap.size, 4, none⟩ = some (.int .i64 parts)) (go_keep) (first | (fail))
    go_wp2
    go_ret3
    refine ⟨?_, Hb1.out.drew⟩; rw [show min m2 size = size from Nat.min_eq_right (by omega)]
    rfl
theorem range_out {w : World} {name : ByteArray} {size sum each parts : Nat} {n : Int} (h1 : 1 ≤ each) (h2 : each ≤ 1048576) (hs : size ≤ 1048576) (hp : parts = zBb size each) (hm : parts ≤ 256) (hn : n < 0 ∨ (parts : Int) ≤ n) :
    Calls Tryz.prog 146 #[.agg (zGm name size sum each parts), .int .i64 n] w (RangePost w 0 0 false) := by
  have HP := Lib.hid hp; clear hp
  unfold zGm
  rcases hn with hn | hn
  · go_enter Tryz.func146, Tryz.ntmps146
    go_wp2_with (first | (go_at_call 144; refine (fair_any (name := name) (sum := sum) h1 h2 hs HP.out hm).mono ?_; rintro e w1 ⟨rfl, hb1⟩; have bx := World.alloc_heap_new w (.cells #[.string name, .int .i64 size, .int .u32 (sum : Int), .int .i64 each, .int .i64 parts] 109); have c1 : w1.cell? ⟨w.heap.size, 1, none⟩ = some (.int .i64 size) := (hb1.cell (p := ⟨w.heap.size, 1, none⟩) (lt_of_block bx)).trans (zCc bx rfl); have c3 : w1.cell? ⟨w.heap.size, 3, none⟩ = some (.int .i64 each) := (hb1.cell (p := ⟨w.heap.size, 3, none⟩) (lt_of_block bx)).trans (zCc bx rfl); have c4 : w1.cell? ⟨w.heap.size, 4, none⟩ = some (.int .i64 parts) := (hb1.cell (p := ⟨w.heap.size, 4, none⟩) (lt_of_block bx)).trans (zCc bx rfl); have Hb1 := Lib.hid ((((Keeps.refl (fun _ => False) w).alloc (.cells #[.string name, .int .i64 size, .int .u32 (sum : Int), .int .i64 each, .int .i64 parts] 109)).below (Nat.le_refl _) fun _ _ => id).trans (hb1.mono (by simp))); clear hb1 bx))
    go_ret3
    exact ⟨rfl, Hb1.out⟩
  · go_enter Tryz.func146, Tryz.ntmps146
    go_wp2_with (first | (go_at_call 144; refine (fair_any (name := name) (sum := sum) h1 h2 hs HP.out hm).mono ?_; rintro e w1 ⟨rfl, hb1⟩; have bx := World.alloc_heap_new w (.cells #[.string name, .int .i64 size, .int .u32 (sum : Int), .int .i64 each, .int .i64 parts] 109); have c1 : w1.cell? ⟨w.heap.size, 1, none⟩ = some (.int .i64 size) := (hb1.cell (p := ⟨w.heap.size, 1, none⟩) (lt_of_block bx)).trans (zCc bx rfl); have c3 : w1.cell? ⟨w.heap.size, 3, none⟩ = some (.int .i64 each) := (hb1.cell (p := ⟨w.heap.size, 3, none⟩) (lt_of_block bx)).trans (zCc bx rfl); have c4 : w1.cell? ⟨w.heap.size, 4, none⟩ = some (.int .i64 parts) := (hb1.cell (p := ⟨w.heap.size, 4, none⟩) (lt_of_block bx)).trans (zCc bx rfl); have Hb1 := Lib.hid ((((Keeps.refl (fun _ => False) w).alloc (.cells #[.string name, .int .i64 size, .int .u32 (sum : Int), .int .i64 each, .int .i64 parts] 109)).below (Nat.le_refl _) fun _ _ => id).trans (hb1.mono (by simp))); clear hb1 bx))
    go_ret3
    exact ⟨rfl, Hb1.out⟩
end
section
open Go.RowKit
attribute [local irreducible] zAk
variable {g w : World} {L : List HP} {ad : Nat → Addr}
theorem of_sl (hs : Mem g w L) {pv b : Value} {l : List UInt8} (hp : Rd g L pv [b]) (hb : Rd g L b (zAn l)) (hlen : l.length ≤ 1073741824) : Calls Tryz.prog 88 #[pv] w (Ret fun v w' => v = .int .u32 ((zC4 0 l : Nat) : Int) ∧ Mem g w' L) :=
  hs.calls (of_any0 (hp w hs) (hb w hs) hlen)
theorem resRow1 {n : Nat} {P : Program} {fn : Func} {R : Ending → World → Prop} {ρ : Env} {t u : Tmp} {T : TypeId} (h : fn.results = #[.cell t T, .tmp u]) {b : Nat} {cs : List Value} {T' : TypeId} {v : Value} {fs : Array Field} (hs : Mem g w L) (i : Nat) (hi : L[i]? = some (cells b cs T'))
    (hp : ρ t = .pointer (some ⟨b, 0, none⟩)) (hT : P.underlying T = some (.struct fs)) (hsz : (P.info? T).map (·.size) = some cs.length) (hv : ρ u = v) (hR : R (.returned (.tuple #[.agg cs.toArray, v])) w) : ResE (n := n) P fn R ρ w := fun a ha => by
  obtain ⟨F, h1, _⟩ := hs.read hi
  have hagg : (isAgg T).run P w = .ok true w := by simp [isAgg, run_underlying hT]
  have h3 := zEl (P := P) (T := T) (vs := cs.toArray) hagg (by simpa using hsz) h1; have k1 := ha.get t; have k2 := ha.get u; rw [hp, Array.getD_eq_getD_getElem?] at k1; rw [hv, Array.getD_eq_getD_getElem?] at k2; exact ⟨_, by simp [results, h, k1, k2, asAddr, h3], hR⟩
def planC (nm : ByteArray) (sz sm ea pa : Int) : List Value := [.string nm, .int .i64 sz, .int .u32 sm, .int .i64 ea, .int .i64 pa]
def mkR (name : ByteArray) (l : List UInt8) (each : Int) : Nat × ByteArray × Int × Int × Int × Int :=
  if zBy name.data.toList = false then (106, ByteArray.empty, 0, 0, 0, 0) else if each < 1 ∨ 1048576 < each then (105, ByteArray.empty, 0, 0, 0, 0) else if 256 < zBb l.length each.toNat then (104, ByteArray.empty, 0, 0, 0, 0)
  else (0, name, l.length, ((zC4 0 l : Nat) : Int), each, (zBb l.length each.toNat : Nat))
theorem pmake_sl (hE : ErrG ad g) (hs : Mem g w L) {name : ByteArray} {a : Option Addr} {n c : Nat} {l : List UInt8} {each : Int} (hb : Rd g L (.slice a n c) (zAn l)) (hn : n = l.length) (hlen : l.length ≤ 1048576) (heach : zDo each) :
    Calls Tryz.prog 48 #[.string name, .slice a n c, .int .i64 each] w (Ret fun v w' => ∃ c nm sz sm ea pa, mkR name l each = (c, nm, sz, sm, ea, pa) ∧ v = .tuple #[.agg (planC nm sz sm ea pa).toArray, zAk ad c] ∧ Mem g w' L) := by
  subst hn; obtain ⟨he1, he2⟩ := heach; refine zAh Tryz.func48 rfl rfl ?_
  refine zA4 (zA2 (zBj hs rfl ze109 ?_)); clear hs; intro b6 w hs
  try simp only [zzs, zzz] at hs
  refine J3 rfl (zA6 (zA4 (zA4 (zA2 (Je rfl (Qg en89 (zGb hs name) ?_)))))); clear hs; rintro _ w ⟨rfl, hs⟩; refine Jr rfl (zA6 (zB2 rfl ?_ ?_))
  ·
   intro h10; replace h10 := zFc h10; refine zA4 (zAq zBk hs.tail ?_); intro w tr hK; replace hs := tr _ hs; clear tr; refine Qb 0 rfl (fun w hs => zBw zEm ze109 pl109 rfl) hK (Qd 1 rfl zCq rfl (fun w hs => hE.cellW hs 106 (by decide) rfl) hK (zAc [2] ⟨⟨_, rfl, ?_⟩, trivial⟩)); refine zAr hs 0 rfl rfl rfl zGh rfl rfl ?_; clear hs; intro w hs
   try simp only [zzs, zzz] at hs
   clear hK; have hK := hs.tail; refine zA6 ⟨hK, ?_⟩; refine Q1 3 rfl rfl hK (zAs (by kernel_rfl) ?_); clear hK; refine zAe (resRow1 rfl hs 0 rfl rfl zEm zGh rfl ⟨_, rfl, 106, ByteArray.empty, 0, 0, 0, 0, ?_, rfl, hs.tail⟩)
   simp [mkR, h10]
  ·
   intro h10; replace h10 := zEr h10; refine zAd (zA4 (zA4 (zA2 (J0 rfl (Jn rfl rfl (J2 rfl (zB3 (t := _) (d := 16) rfl ?_ ?_)))))))
   ·
    intro h15; have g15 := of_decide_eq_true h15; refine Qe rfl rfl h15 (Qe rfl rfl h15 (Ja rfl h15 rfl (zA6 (zBc rfl rfl (zA4 (zAq zBk hs.tail ?_)))))); intro w tr hK; replace hs := tr _ hs; clear tr; refine Qb 0 rfl (fun w hs => zBw zEm ze109 pl109 rfl) hK (Qd 1 rfl zCq rfl (fun w hs => hE.cellW hs 105 (by decide) rfl) hK (zAc [2] ⟨⟨_, rfl, ?_⟩, trivial⟩)); refine zAr hs 0 rfl rfl rfl zGh rfl rfl ?_; clear hs; intro w hs
    try simp only [zzs, zzz] at hs
    clear hK; have hK := hs.tail; refine zA6 ⟨hK, ?_⟩; refine Q1 3 rfl rfl hK (zAs (by kernel_rfl) ?_); clear hK; refine zAe (resRow1 rfl hs 0 rfl rfl zEm zGh rfl ⟨_, rfl, 105, ByteArray.empty, 0, 0, 0, 0, ?_, rfl, hs.tail⟩)
    simp [mkR, h10, g15]
   ·
    intro h15; have g15 := of_decide_eq_false h15; obtain ⟨e, rfl⟩ : ∃ e : Nat, each = e := ⟨each.toNat, by omega⟩; refine zAl rfl rfl h15 (J0 rfl (zAl rfl rfl h15 (Jt rfl rfl (J9 rfl h15 rfl (zA6 (zB2 rfl ?_ ?_))))))
    ·
     intro h18; have g18 := of_decide_eq_true h18; refine zA4 (zAq zBk hs.tail ?_); intro w tr hK; replace hs := tr _ hs; clear tr; refine Qb 0 rfl (fun w hs => zBw zEm ze109 pl109 rfl) hK (Qd 1 rfl zCq rfl (fun w hs => hE.cellW hs 105 (by decide) rfl) hK (zAc [2] ⟨⟨_, rfl, ?_⟩, trivial⟩)); refine zAr hs 0 rfl rfl rfl zGh rfl rfl ?_; clear hs; intro w hs
     try simp only [zzs, zzz] at hs
     clear hK; have hK := hs.tail; refine zA6 ⟨hK, ?_⟩; refine Q1 3 rfl rfl hK (zAs (by kernel_rfl) ?_); clear hK; refine zAe (resRow1 rfl hs 0 rfl rfl zEm zGh rfl ⟨_, rfl, 105, ByteArray.empty, 0, 0, 0, 0, ?_, rfl, hs.tail⟩)
     unfold mkR; rw [if_neg (by simp [h10]), if_pos (by omega)]
    ·
     intro h18; have g18 := of_decide_eq_false h18; have hp := parts_any l.length e (by omega) (by omega) hlen; refine zAd (zA4 (zA2 (J7 rfl (Js zC6 rfl (J0 rfl (Qg en90 (hs.callsE (hp _)) ?_)))))); clear hs; rintro _ w ⟨rfl, hs⟩; refine J4 rfl (zA6 (zA4 (zA4 (zA2 (J0 rfl (Jt rfl rfl (zA6 (zB2 rfl ?_ ?_))))))))
     ·
      intro h27; have g27 := of_decide_eq_true h27; refine zA4 (zAq zBk hs.tail ?_); intro w tr hK; replace hs := tr _ hs; clear tr; refine Qb 0 rfl (fun w hs => zBw zEm ze109 pl109 rfl) hK (Qd 1 rfl zCq rfl (fun w hs => hE.cellW hs 104 (by decide) rfl) hK (zAc [2] ⟨⟨_, rfl, ?_⟩, trivial⟩)); refine zAr hs 0 rfl rfl rfl zGh rfl rfl ?_; clear hs; intro w hs
      try simp only [zzs, zzz] at hs
      clear hK; have hK := hs.tail; refine zA6 ⟨hK, ?_⟩; refine Q1 3 rfl rfl hK (zAs (by kernel_rfl) ?_); clear hK; refine zAe (resRow1 rfl hs 0 rfl rfl zEm zGh rfl ⟨_, rfl, 104, ByteArray.empty, 0, 0, 0, 0, ?_, rfl, hs.tail⟩)
      unfold mkR; rw [if_neg (by simp [h10]), if_neg (by omega), if_pos (by simp; omega)]
     ·
      intro h27; have g27 := of_decide_eq_false h27; refine zAd (zA4 (zA2 (Je rfl (J7 rfl (Js zC6 rfl (J7 rfl (zB4 hs rfl ([.slice a l.length c]) uz62 zs22 rfl (by simp [Value.cells]) rfl rfl rfl ?_))))))); clear hs; intro b34 w hs
      try simp only [zzs, zzz] at hs
      refine Qg en88 (of_sl hs (Rd.cells 0 rfl rfl) hb.cons.cons (by omega)) ?_; clear hs; rintro _ w ⟨rfl, hs⟩; refine J0 rfl (J0 rfl (Qa (zBg ([.string name, .int .i64 l.length, .int .u32 ((zC4 0 l : Nat) : Int), .int .i64 e, .int .i64 (zBb l.length e : Nat)]) zEm ze109 pl109 rfl (by simp [Value.cells]) rfl rfl) (zAr hs 1 rfl rfl rfl zGh rfl rfl ?_))); clear hs; intro w hs
      try simp only [zzs, zzz] at hs
      refine J3 rfl (zA6 (zAe (resRow1 rfl hs 1 rfl rfl zEm zGh rfl ⟨_, rfl, 0, name, l.length, ((zC4 0 l : Nat) : Int), e, (zBb l.length e : Nat), ?_, (by rw [zB]; rfl), hs.tail.tail⟩)))
      unfold mkR; rw [if_neg (by simp [h10]), if_neg (by omega), if_neg (by simp; omega)]; simp
theorem range_sl (hs : Mem g w L) {name : ByteArray} {size sum each parts : Nat} {n : Int} (h1 : 1 ≤ each) (h2 : each ≤ 1048576) (h3 : size ≤ 1048576) (hp : parts = zBb size each) (hm : parts ≤ 256) :
    Calls Tryz.prog 146 #[.agg (planC name size sum each parts).toArray, .int .i64 n] w (Ret fun v w' => ∃ f t : Int, (0 ≤ n → n < parts → f = ((n.toNat * each : Nat) : Int) ∧ t = ((min ((n.toNat + 1) * each) size : Nat) : Int)) ∧ v = .tuple #[.int .i64 f, .int .i64 t, .bool (decide (0 ≤ n ∧ n < parts))] ∧ Mem g w' L) := by
  by_cases h : 0 ≤ n ∧ n < parts
  · obtain ⟨k, rfl⟩ : ∃ k : Nat, n = k := ⟨n.toNat, by omega⟩
    refine (hs.calls (range_in (name := name) (sum := sum) h1 h2 h3 hp hm (n := k) (by omega))).mono ?_; rintro e w' ⟨v, rfl, rfl, hs⟩; exact ⟨_, rfl, _, _, fun _ _ => ⟨rfl, rfl⟩, by simp [h], hs⟩
  · refine (hs.calls (range_out (name := name) (sum := sum) h1 h2 h3 hp hm (n := n) (by omega))).mono ?_
    rintro e w' ⟨v, rfl, rfl, hs⟩; exact ⟨_, rfl, 0, 0, fun a b => absurd ⟨a, b⟩ h, by simp [h], hs⟩
end
section
open Go.RowKit
attribute [local irreducible] zAk
variable {g w : World} {L M : List HP} {ad : Nat → Addr} {p : Nat} {st : St}
abbrev rdB (v : Value) (b : List UInt8) : HP := rd v (zAn b)
abbrev objsC (es : List (ByteArray × Value)) (objs : List (ByteArray × List UInt8)) : HP := famC rdB es objs
abbrev partsC (ps : List (Int × Value)) (l : List (Int × List UInt8)) : HP := famC rdB ps l
abbrev smapS (m : Nat) (es : List (ByteArray × Value)) : HP := mapC Value.string m es
abbrev mapI (m : Nat) (es : List (Int × Value)) : HP := mapC (Value.int .i64) m es
def upC (e : Nat × Nat) (u : Up) : HP := ex fun ps : List (Int × Value) => stars [cells e.1 [.string u.name, .map (some e.2)] 280, mapI e.2 ps, partsC ps u.parts]
def storeL (mo mu : Nat) (ids : Nat) (sv : Value) (calls failed : Nat) : List Value := [.map (some mo), .map (some mu), .int .i64 ids, sv, .int .i64 calls, .int .i64 failed]
abbrev zD2 (p : Nat) (st : St) (mo mu : Nat) (sv : Value) (es : List (ByteArray × Value)) (us : List (Int × Nat × Nat)) : List HP :=
  [cells p (storeL mo mu st.ids sv st.calls st.failed) 92, smapS mo es, objsC es st.objs, mapI mu (us.map upPtr), famC upC us st.ups, own sv (zCz st.script)]
def zB8 (p : Nat) (st : St) : HP := ex fun x : Nat × Nat × Value × List (ByteArray × Value) × List (Int × Nat × Nat) => stars (zD2 p st x.1 x.2.1 x.2.2.1 x.2.2.2.1 x.2.2.2.2)
theorem own_slice {i : Nat} {v : Value} {l : List Value} (hs : Mem g w L) (hi : L[i]? = some (own v l)) : ∃ a n c, v = .slice a n c ∧ n = l.length := by
  obtain ⟨F, ⟨⟨a, n, c, h1, h2, _⟩, _⟩⟩ := hs.read hi; exact ⟨a, n, c, h1, h2⟩
theorem Mem.openS (hs : Mem g w (zB8 p st :: L)) : ∃ mo mu a n c es us, n = st.script.length ∧ Mem g w (zD2 p st mo mu (.slice a n c) es us ++ L) := by
  obtain ⟨⟨mo, mu, sv, es, us⟩, h⟩ := hs.unex; have h := h.unstars; obtain ⟨a, n, c, rfl, hn⟩ := own_slice h (i := 5) rfl; exact ⟨mo, mu, a, n, c, es, us, by simpa [zCz] using hn, h⟩
theorem Mem.closeS {mo mu : Nat} {sv : Value} {es : List (ByteArray × Value)} {us : List (Int × Nat × Nat)} (hs : Mem g w (zD2 p st mo mu sv es us ++ L)) : Mem g w (zB8 p st :: L) := Mem.ex (mo, mu, sv, es, us) hs.stars
theorem Mem.closeS1 {C : HP} {mo mu : Nat} {sv : Value} {es : List (ByteArray × Value)} {us : List (Int × Nat × Nat)} (hs : Mem g w (C :: (zD2 p st mo mu sv es us ++ L))) : Mem g w (C :: zB8 p st :: L) :=
  (Mem.closeS (L := C :: L) (hs.arr [1, 2, 3, 4, 5, 6, 0] 7 (by decide))).arr [1, 0] 2 (by decide)
theorem new_sl (hs : Mem g w L) : Calls Tryz.prog 11 #[] w (Ret fun v w' => ∃ p, v = .pointer (some ⟨p, 0, none⟩) ∧ Mem g w' (zB8 p St.empty :: L)) := by
  refine zAh Tryz.func11 rfl rfl ?_
  refine zA4 (zA2 (Jf rfl (zA6 (zA4 (zA2 (zFp Value.string hs rfl ?_)))))); clear hs; intro m1 w hs
  try simp only [zzs, zzz] at hs
  refine zFp (Value.int .i64) hs rfl ?_; clear hs; intro m2 w hs
  try simp only [zzs, zzz] at hs
  refine Qa (zBw (cs := [.map (some m1), .map (some m2), .int .i64 0, .slice none 0 0, .int .i64 0, .int .i64 0]) uz92 ze92 pl92 rfl) (zBp (v := .agg _) hs rfl rfl ?_); clear hs; intro b4 w hs; refine Jd rfl (zA6 (zAe (zBi (v := .pointer (some _)) rfl rfl ⟨_, rfl, b4, rfl, Mem.closeS (st := St.empty) (mo := m1) (mu := m2) (sv := .slice none 0 0) (es := []) (us := []) ?_⟩))); exact (((hs.addE (zDn _)).addE (famC_nil _)).addE (famC_nil _)).arr [3, 5, 0, 4, 1, 2] 6 (by decide)
section
variable {f : FuncId} {cap : Array Value}
theorem call_sl (hE : ErrG ad g) (hs : Mem g w (zB8 p st :: M)) (hcl : st.calls < 4611686018427387904) (hfl : st.failed < 4611686018427387904) {R : Nat → World → Prop} (hf : ∀ args w, (callFunc f args).run Tryz.prog w = .ok (.enter f args) w)
    (hR : st.next = 1 → ∀ w1, Mem g w1 (zB8 p st.begin :: M) → R 111 w1)
    (hdo : st.next ≠ 1 → ∀ w1, Mem g w1 (zB8 p st.begin :: M) → Calls Tryz.prog f cap w1 (Ret fun v w2 => ∃ c, v = zAk ad c ∧ Mem g w2 [] ∧ R (if st.next = 2 then 111 else c) w2)) :
    Calls Tryz.prog 206 #[.pointer (some ⟨p, 0, none⟩), .func (.func f) #[] cap] w (Ret fun v w' => ∃ c, v = zAk ad c ∧ R c w') := by
  obtain ⟨mo, mu, a, n, c, es, us, hn, hs⟩ := hs.openS
  have hb0 : st.script = [] → st.next = 0 ∧ st.begin = { st with calls := st.calls + 1 } := fun h => by simp [St.next, St.begin, h]
  have hb1 : ∀ x r, st.script = x :: r → st.next = x ∧ st.begin = { st with calls := st.calls + 1, script := r, failed := st.failed + (if x = 1 ∨ x = 2 then 1 else 0) } := fun x r h => by simp [St.next, St.begin, h]
  refine zAh Tryz.func206 rfl rfl ?_
  refine zA4 (zA2 (J3 rfl (zA6 (zA4 (zA2 (J1 rfl (Jx rfl (Jp (o' := 4) uz92 rfl sz3 rfl rfl rfl (Qc uz3 rfl hs 0 rfl rfl (Jo rfl rfl rfl (inI (by omega) (by omega)) (Jx rfl (Jp (o' := 4) uz92 rfl sz3 rfl rfl rfl (zB0 (v := .int .i64 _) hs 0 rfl sz3 rfl rfl rfl rfl ?_))))))))))))); clear hs; intro w hs
  try simp only [zzs, zzz] at hs
  refine zA6 (zA4 (zA2 (J4 rfl (zA6 (zA4 (zA4 (zA2 (J1 rfl (Jx rfl (Jp (o' := 3) uz92 rfl sz74 rfl rfl rfl (Qc uz74 rfl hs 0 rfl rfl (Js uz74 rfl (Jt rfl rfl ?_))))))))))))); refine zA6 (zB2 rfl ?_ ?_)
  ·
   intro h18; have g18 := of_decide_eq_true h18
   obtain ⟨x, r, hx⟩ : ∃ x r, st.script = x :: r := by cases h : st.script with | nil => rw [h] at hn; simp at hn; omega | cons x r => exact ⟨x, r, rfl⟩
   obtain ⟨hnx, hbe⟩ := hb1 x r hx
   have hnr : n = r.length + 1 := by rw [hn, hx]; rfl
   simp only [zD2, List.cons_append, List.nil_append, hx, zCz, List.map_cons] at hs; obtain ⟨b, off, rfl, hcell⟩ := hs.ownCells 5 rfl (by simp); refine zA4 (zA2 (J1 rfl (Jx rfl (Jp (o' := 3) uz92 rfl sz74 rfl rfl rfl (Qc uz74 rfl hs 0 rfl rfl (Qa (zB5 uz74 sz3 rfl rfl (i := 0) rfl (by omega) rfl) (Jq uz3 rfl rfl (hcell 0 _ rfl) (J4 rfl (zA6 (zA2 (J1 rfl ?_))))))))))); refine J1 rfl (Jx rfl ?_)
   refine Jp (o' := 3) uz92 rfl sz74 rfl rfl rfl (Qc uz74 rfl hs 0 rfl rfl (Qa (zD1 uz74 sz3 rfl rfl (lo := 1) rfl (by omega)) (Jx rfl (Jp (o' := 3) uz92 rfl sz74 rfl rfl rfl (zB0 (v := .slice _ _ _) hs 0 rfl sz74 rfl rfl rfl rfl ?_))))); clear hs; intro w hs
   try simp only [zzs, zzz] at hs
   refine zA6 ?_; replace hs := hs.cut 5 rfl (lo := 1) (hi := n) (by omega) (Nat.le_refl _); rw [List.take_of_length_le (by simp; omega)] at hs; refine zA4 (zA4 (zA2 (J0 rfl (zA6 (zAp (zA4 (zA2 (Jw rfl rfl (J5 rfl (zA6 (zB2 rfl ?_ ?_)))))))))))
   ·
    intro h35; have g35 := of_decide_eq_true h35; refine zA4 (zA2 (J1 rfl (Jx rfl (Jp (o' := 5) uz92 rfl sz3 rfl rfl rfl (Qc uz3 rfl hs 0 rfl rfl (Jo rfl rfl rfl (inI (by omega) (by omega)) (Jx rfl (Jp (o' := 5) uz92 rfl sz3 rfl rfl rfl (zB0 (v := .int .i64 _) hs 0 rfl sz3 rfl rfl rfl rfl ?_))))))))); clear hs; intro w hs
    try simp only [zzs, zzz] at hs
    exact zA6 (zA4 (zA2 (Jq zCq rfl rfl (hE.cellW hs 111 (by decide) rfl) (J6 rfl (zA6 (zAe (zBi (v := zAk ad _) rfl rfl ⟨_, rfl, 111, rfl, hR (by omega) _ (by rw [hbe, g35]; exact hs.closeS)⟩)))))))
   ·
    intro h35; have g35 := of_decide_eq_false h35; refine zA4 (zA2 (Jw rfl rfl (J5 rfl (zA6 (zB2 rfl ?_ ?_)))))
    ·
     intro h45; have g45 := of_decide_eq_true h45; refine zA4 (zA2 (J1 rfl (Jx rfl (Jp (o' := 5) uz92 rfl sz3 rfl rfl rfl (Qc uz3 rfl hs 0 rfl rfl (Jo rfl rfl rfl (inI (by omega) (by omega)) (Jx rfl (Jp (o' := 5) uz92 rfl sz3 rfl rfl rfl (zB0 (v := .int .i64 _) hs 0 rfl sz3 rfl rfl rfl rfl ?_))))))))); clear hs; intro w hs
     try simp only [zzs, zzz] at hs
     refine zA6 (zA4 (zA2 (Jm (v := .func _ _ _) rfl (zEq rfl hf rfl (hdo (by omega) w (by rw [hbe, g45]; exact hs.closeS)) ?_)))); clear hs; rintro _ w ⟨c1, rfl, hs, hR2⟩; refine zA6 (zA4 (zA2 (Jq zCq rfl rfl (hE.cellW hs 111 (by decide) rfl) (J6 rfl (zA6 (zAe (zBi (v := zAk ad _) rfl rfl ?_))))))); exact ⟨_, rfl, 111, rfl, by rw [if_pos (by omega)] at hR2; exact hR2⟩
    ·
     intro h45; have g45 := of_decide_eq_false h45; refine zAd (zA4 (zA2 (Jm (v := .func _ _ _) rfl (zEq rfl hf rfl (hdo (by omega) w (by rw [hbe, if_neg (by omega)]; exact hs.closeS)) ?_)))); clear hs; rintro _ w ⟨c1, rfl, hs, hR2⟩; refine J6 rfl (zA6 (zAe (zBi (v := zAk ad _) rfl rfl ?_))); exact ⟨_, rfl, c1, rfl, by rw [if_neg (by omega)] at hR2; exact hR2⟩
  ·
   intro h18; have g18 := of_decide_eq_false h18; obtain ⟨hnx, hbe⟩ := hb0 (List.eq_nil_of_length_eq_zero (by omega)); refine zAd (zA4 (zA4 (zA2 (J0 rfl (zA6 (zAp (zA4 (zA2 (Jw rfl rfl (J5 rfl (zA6 (zAz rfl (rfl) ?_)))))))))))); refine zA4 (zA2 (Jw rfl rfl (J5 rfl (zA6 (zAz rfl (rfl) (zAd (zA4 (zA2 (Jm (v := .func _ _ _) rfl (zEq rfl hf rfl (hdo (by omega) w (by rw [hbe]; exact hs.closeS)) ?_)))))))))); clear hs
   rintro _ w ⟨c1, rfl, hs, hR2⟩; refine J6 rfl (zA6 (zAe (zBi (v := zAk ad _) rfl rfl ?_))); exact ⟨_, rfl, c1, rfl, by rw [if_neg (by omega)] at hR2; exact hR2⟩
theorem call_err (hE : ErrG ad g) (hs : Mem g w (zB8 p st :: M)) (hcl : st.calls < 4611686018427387904) (hfl : st.failed < 4611686018427387904) (good : St → Nat × St) (hf : ∀ args w, (callFunc f args).run Tryz.prog w = .ok (.enter f args) w)
    (hdo : ∀ w1, Mem g w1 (zB8 p st.begin :: M) → Calls Tryz.prog f cap w1 (Ret fun v w2 => v = zAk ad (good st.begin).1 ∧ Mem g w2 (zB8 p (good st.begin).2 :: M))) :
    Calls Tryz.prog 206 #[.pointer (some ⟨p, 0, none⟩), .func (.func f) #[] cap] w (Ret fun v w' => v = zAk ad (st.run good).1 ∧ Mem g w' (zB8 p (st.run good).2 :: M)) := by
  refine (call_sl hE hs hcl hfl (R := fun c w' => c = (st.run good).1 ∧ Mem g w' (zB8 p (st.run good).2 :: M)) hf ?_ ?_).mono ?_
  · intro hn w1 h1
    simp only [St.run, hn, if_true]; exact ⟨trivial, h1⟩
  · intro hn w1 h1
    refine (hdo w1 h1).mono ?_; rintro e w2 ⟨v, rfl, rfl, h2⟩; refine ⟨_, rfl, _, rfl, h2.nil, ?_⟩; simp only [St.run, hn, if_false]; exact ⟨trivial, h2⟩
  · rintro e w2 ⟨v, rfl, c, rfl, rfl, h2⟩
    exact ⟨_, rfl, rfl, h2⟩
end
theorem Mem.ownRd (hs : Mem g w L) (i : Nat) {v : Value} {l : List Value} (hi : L[i]? = some (own v l)) : Mem g w (L.set i (rd v l)) := by
  obtain ⟨F, ⟨g1, g2⟩, g3⟩ := hs.turn hi; exact g3 w _ F ⟨g1.seq, g1.lt, g2⟩ (fun _ h => .inl h) (Keeps.refl _ _)
end
section
open Go.RowKit
attribute [local irreducible] zAk
variable {g w : World} {L M : List HP} {ad : Nat → Addr} {p : Nat} {st : St}
theorem zEs.form {v : Value} {l : List Value} (h : zEs w v l) : ∃ a c, v = .slice a l.length c := by
  obtain ⟨a, n, c, h1, h2, _⟩ := h; exact ⟨a, c, by rw [h1, h2]⟩
section
variable {κ : Type} [DecidableEq κ] {es : List (κ × Value)} {objs : List (κ × List UInt8)} {n : κ}
theorem Mem.bytesAt (hs : Mem g w L) (i : Nat) (hi : L[i]? = some (famC rdB es objs)) {b : List UInt8} (ho : zAx objs n = some b) : ∃ a c, zAx es n = some (.slice a b.length c) ∧ Rd g L (.slice a b.length c) (zAn b) := by
  obtain ⟨v, hv⟩ := fam_some (hs.famKeys i hi) ho
  have hr : Rd g L v (zAn b) := Ens.fam i hi hv ho fun _ _ h => h.1
  obtain ⟨a, c, rfl⟩ := (hr.seq hs).form
  have : (zAn b).length = b.length := by simp [zAn]
  rw [this] at hv hr; exact ⟨a, c, hv, hr⟩
theorem Mem.bytesNone (hs : Mem g w L) (i : Nat) (hi : L[i]? = some (famC rdB es objs)) (ho : zAx objs n = none) : zAx es n = none := fam_none (hs.famKeys i hi) ho
end
theorem bytes_sl (hs : Mem g w (zB8 p st :: L)) (hsm : st.small) (n : ByteArray) {o : Option (List UInt8)} (ho : zAx st.objs n = o) : Calls Tryz.prog 39 #[.pointer (some ⟨p, 0, none⟩), .string n] w
    (Ret fun v w' => ∃ a c, v = .tuple #[.slice a (o.getD []).length c, .bool o.isSome] ∧ Mem g w' (own (.slice a (o.getD []).length c) (zAn (o.getD [])) :: zB8 p st :: L)) := by
  obtain ⟨mo, mu, sa, sn, sc, es, us, hn, hs⟩ := hs.openS; simp only [zD2, List.cons_append, List.nil_append] at hs
  cases o with
  | none =>
    have he := hs.bytesNone 2 rfl ho; refine zAh Tryz.func39 rfl rfl ?_
    refine zA4 (zA2 (Jb rfl (J5 rfl (zA6 (zA4 (zA2 (J1 rfl (Jx rfl (Jp (o' := 0) uz92 rfl sz89 rfl rfl rfl (Qc uz89 rfl hs 0 rfl rfl (Je rfl (Qa (zE2 (hs.mapAt 1 rfl) zEf uz89 uz9 ze22 rfl rfl he) (Jc rfl ?_))))))))))))); refine Ju (v := .slice _ _ _) rfl rfl (Ju (v := .bool _) rfl rfl (Jb rfl (J5 rfl ?_)))
    refine zA6 (zA4 (zA2 (J7 rfl (Qg en49 (zCt hs (l := []) Rd.nil (by decide)) ?_)))); clear hs; rintro _ w ⟨a18, c18, rfl, hs⟩; exact J2 rfl (Jb rfl (J5 rfl (zA6 (zAe (zEd (v := .slice _ _ _) (v2 := .bool _) rfl rfl rfl ⟨_, rfl, a18, c18, rfl, hs.closeS1⟩)))))
  | some b =>
    obtain ⟨a, c, he, hr⟩ := hs.bytesAt 2 rfl ho; refine zAh Tryz.func39 rfl rfl ?_
    refine zA4 (zA2 (Jb rfl (J5 rfl (zA6 (zA4 (zA2 (J1 rfl (Jx rfl (Jp (o' := 0) uz92 rfl sz89 rfl rfl rfl (Qc uz89 rfl hs 0 rfl rfl (Je rfl (Qa (zE2 (hs.mapAt 1 rfl) zEf uz89 uz9 ze22 rfl rfl he) (Jc rfl ?_))))))))))))); refine Ju (v := .slice _ _ _) rfl rfl (Ju (v := .bool _) rfl rfl (Jb rfl (J5 rfl ?_)))
    refine zA6 (zA4 (zA2 (J7 rfl (Qg en49 (zCt hs (l := b) hr (hsm.1 n b (zCy ho))) ?_)))); clear hs; rintro _ w ⟨a18, c18, rfl, hs⟩; refine J2 rfl (Jb rfl (J5 rfl (zA6 (zAe (zEd (v := .slice _ _ _) (v2 := .bool _) rfl rfl rfl ?_))))); rw [zAw] at hs; exact ⟨_, rfl, a18, c18, by rw [zAw]; rfl, hs.closeS1⟩
theorem script_sl (hs : Mem g w (zB8 p st :: L)) {a : Option Addr} {m c : Nat} {outs : List Int} (ho : Rd g L (.slice a m c) (zCz outs)) (hlen : st.script.length + outs.length ≤ 1000000) : Calls Tryz.prog 33 #[.pointer (some ⟨p, 0, none⟩), .slice a m c] w
    (Ret fun v w' => v = .tuple #[] ∧ Mem g w' (zB8 p { st with script := st.script ++ outs } :: L)) := by
  obtain ⟨mo, mu, sa, sn, sc, es, us, hn, hs⟩ := hs.openS; simp only [zD2, List.cons_append, List.nil_append] at hs
  have hsrc := fun w (hs : Mem g w L) => zCr (P := Tryz.prog) uz74 (ho.seq hs) (intsL_one outs)
  refine zAh Tryz.func33 rfl rfl ?_
  refine zA2 (J1 rfl (J1 rfl (Jx rfl (Jp (o' := 3) uz92 rfl sz74 rfl rfl rfl (Qc uz74 rfl hs 0 rfl rfl (J7 rfl (zD3 hs rfl 5 rfl uz74 in3 rfl rfl rfl (hsrc _ (hs.suffix 6 rfl)) (by simp [zCz]; omega) (by simp [zCz]; omega) ?_))))))); clear hs; intro a10 c10 w hs; simp only [zzs, zzz] at hs; refine Jx rfl (Jp (o' := 3) uz92 rfl sz74 rfl rfl rfl (zB0 (v := .slice _ _ _) hs 0 rfl sz74 rfl rfl rfl rfl ?_)); clear hs
  intro w hs
  try simp only [zzs, zzz] at hs
  refine zA6 (res0  rfl ?_); rw [show zCz st.script ++ zCz outs = zCz (st.script ++ outs) by simp [zCz]] at hs; exact ⟨_, rfl, rfl, Mem.closeS (st := { st with script := st.script ++ outs }) (sv := .slice a10 ((zCz st.script).length + (zCz outs).length) c10) hs⟩
def St.del1 (n : ByteArray) (st : St) : Nat × St := if (zAx st.objs n).isSome then (0, { st with objs := zDe st.objs n }) else (107, st)
def St.head1 (n : ByteArray) (st : St) : Nat × Int × Int := match zAx st.objs n with
  | some b => (0, b.length, ((zC4 0 b : Nat) : Int))
  | none => (107, 0, 0)
theorem headC_sl (hE : ErrG ad g) (hsm : st.small) {nb sb lb ub : Nat} {n : ByteArray} (hs : Mem g w (zB8 p st :: cells ub [.int .u32 0] 64 :: cells lb [.int .i64 0] 3 :: cells nb [.string n] 9 :: cells sb [.pointer (some ⟨p, 0, none⟩)] 30 :: M)) :
    Calls Tryz.prog 217 #[.pointer (some ⟨sb, 0, none⟩), .pointer (some ⟨nb, 0, none⟩), .pointer (some ⟨lb, 0, none⟩), .pointer (some ⟨ub, 0, none⟩)] w
      (Ret fun v w' => v = zAk ad (st.head1 n).1 ∧ Mem g w' (zB8 p st :: cells ub [.int .u32 (st.head1 n).2.2] 64 :: cells lb [.int .i64 (st.head1 n).2.1] 3 :: cells nb [.string n] 9 :: cells sb [.pointer (some ⟨p, 0, none⟩)] 30 :: M)) := by
  obtain ⟨mo, mu, sa, sn, sc, es, us, hn, hs⟩ := hs.openS; simp only [zD2, List.cons_append, List.nil_append] at hs
  cases ho : zAx st.objs n with
  | none =>
    have he := hs.bytesNone 2 rfl ho
    have hp : st.head1 n = (107, 0, 0) := by simp [St.head1, ho]
    rw [hp]; refine zAh Tryz.func217 rfl rfl ?_
    refine zA4 (zA2 (J3 rfl (zA6 (zA4 (zAq zBk hs ?_))))); intro w tr hK; replace hs := tr _ hs; clear tr; refine Qd 0 rfl uz30 rfl (fun w hs => hs.cellAt 9 rfl rfl) hK (Q7 1 rfl rfl hK (Q6 2 rfl (o' := 0) uz92 rfl sz89 rfl rfl rfl hK (Qd 3 rfl uz89 rfl (fun w hs => hs.cellAt 0 rfl rfl) hK (Qd 4 rfl uz9 rfl (fun w hs => hs.cellAt 8 rfl rfl) hK (Qb 5 rfl (fun w hs => zE2 (hs.mapAt 1 rfl) zEf uz89 uz9 ze22 rfl rfl he) hK ?_)))))
    refine Q4 6 rfl (v := .tuple _) rfl hK (Q8 7 rfl (v := .slice _ _ _) rfl rfl hK (Q8 8 rfl (v := .bool _) rfl rfl hK (Q5 9 rfl (v := .slice _ _ _) rfl hK (Q5 10 rfl (v := .bool _) rfl hK (zAs (by kernel_rfl) ?_))))); clear hK; refine zA4 (zA4 (zA2 (J2 rfl (Jr rfl (zA6 (zBc rfl (zCs (rfl)) (zA4 (zA2 (Jq zCq rfl rfl (hE.cellW hs 107 (by decide) rfl) (J6 rfl (zA6 ?_)))))))))))
    exact zAe (zBi (v := zAk ad _) rfl rfl ⟨_, rfl, rfl, hs.closeS⟩)
  | some b =>
    obtain ⟨a, c, he, hr⟩ := hs.bytesAt 2 rfl ho
    have hp : st.head1 n = (0, (b.length : Int), ((zC4 0 b : Nat) : Int)) := by simp [St.head1, ho]
    have hl := hsm.1 n b (zCy ho); rw [hp]; refine zAh Tryz.func217 rfl rfl ?_
    refine zA4 (zA2 (J3 rfl (zA6 (zA4 (zAq zBk hs ?_))))); intro w tr hK; replace hs := tr _ hs; clear tr; refine Qd 0 rfl uz30 rfl (fun w hs => hs.cellAt 9 rfl rfl) hK (Q7 1 rfl rfl hK (Q6 2 rfl (o' := 0) uz92 rfl sz89 rfl rfl rfl hK (Qd 3 rfl uz89 rfl (fun w hs => hs.cellAt 0 rfl rfl) hK (Qd 4 rfl uz9 rfl (fun w hs => hs.cellAt 8 rfl rfl) hK (Qb 5 rfl (fun w hs => zE2 (hs.mapAt 1 rfl) zEf uz89 uz9 ze22 rfl rfl he) hK ?_)))))
    refine Q4 6 rfl (v := .tuple _) rfl hK (Q8 7 rfl (v := .slice _ _ _) rfl rfl hK (Q8 8 rfl (v := .bool _) rfl rfl hK (Q5 9 rfl (v := .slice _ _ _) rfl hK (Q5 10 rfl (v := .bool _) rfl hK (zAs (by kernel_rfl) ?_))))); clear hK; refine zA4 (zA4 (zA2 (J2 rfl (Jr rfl (zA6 (zAz rfl (zBt (rfl)) (zAd (zA4 (zA2 (J7 rfl (Js zC6 rfl ?_)))))))))))
    refine J7 rfl (zB4 hs rfl ([.slice a b.length c]) uz62 zs22 rfl (by simp [Value.cells]) rfl rfl rfl ?_); clear hs; intro b22 w hs
    try simp only [zzs, zzz] at hs
    refine Qg en88 (of_sl hs (Rd.cells 0 rfl rfl) hr.cons hl) ?_; clear hs; rintro _ w ⟨rfl, hs⟩; refine zB0 (v := .int .i64 _) hs 8 rfl sz3 rfl rfl rfl rfl ?_; clear hs; intro w hs
    try simp only [zzs, zzz] at hs
    refine zB0 (v := .int .u32 _) hs 7 rfl sz64 rfl rfl rfl rfl ?_; clear hs; intro w hs
    try simp only [zzs, zzz] at hs
    exact zA6 (zA4 (zA2 (J3 rfl (zA6 (zAe (zBi (v := .nilIface) rfl rfl ⟨_, rfl, (zB ad).symm, hs.tail.closeS⟩))))))
def St.headR (n : ByteArray) (st : St) : Int × Int × Nat × St :=
  if st.next = 1 ∨ st.next = 2 then (0, 0, 111, st.begin) else if (st.begin.head1 n).1 = 0 then ((st.begin.head1 n).2.1, (st.begin.head1 n).2.2, (st.begin.head1 n).1, st.begin) else (0, 0, (st.begin.head1 n).1, st.begin)
theorem head_sl (hE : ErrG ad g) (hsm : st.small) (hs : Mem g w (zB8 p st :: M)) (hcl : st.calls < 4611686018427387904) (hfl : st.failed < 4611686018427387904) (n : ByteArray) {x y : Int} {k : Nat} {st2 : St} (hk : st.headR n = (x, y, k, st2)) :
    Calls Tryz.prog 211 #[.pointer (some ⟨p, 0, none⟩), .string n] w
      (Ret fun v w' => v = .tuple #[.int .i64 x, .int .u32 y, zAk ad k] ∧ Mem g w' (zB8 p st2 :: M)) := by
  have hbs : st.begin.small := hsm
  have k1 : (st.headR n).1 = x := by rw [hk]
  have k2 : (st.headR n).2.1 = y := by rw [hk]
  have k3 : (st.headR n).2.2.1 = k := by rw [hk]
  have k4 : (st.headR n).2.2.2 = st2 := by rw [hk]
  subst k1 k2 k3 k4; refine zAh Tryz.func211 rfl rfl ?_
  refine zA4 (zA2 (zBp (v := .pointer (some _)) hs rfl rfl ?_)); clear hs; intro b2 w hs
  try simp only [zzs, zzz] at hs
  refine zBp (v := .string _) hs rfl rfl ?_; clear hs; intro b3 w hs
  try simp only [zzs, zzz] at hs
  refine J4 rfl (Jl (v := .int .u32 _) rfl (J3 rfl (zA6 (zA4 (zA2 (zBj hs rfl ze3 ?_)))))); clear hs; intro b7 w hs
  try simp only [zzs, zzz] at hs
  refine zBj hs rfl ze64 ?_; clear hs; intro b8 w hs
  try simp only [zzs, zzz] at hs
  refine zB0 (v := .int .i64 _) hs 1 rfl sz3 rfl rfl rfl rfl ?_; clear hs; intro w hs
  try simp only [zzs, zzz] at hs
  refine zB0 (v := .int .u32 _) hs 0 rfl sz64 rfl rfl rfl rfl ?_; clear hs; intro w hs
  try simp only [zzs, zzz] at hs
  refine zA6 (zA4 ?_); replace hs := hs.pick 4 rfl; simp only [List.eraseIdx_cons_succ, List.eraseIdx_cons_zero] at hs; refine zA2 (Qc uz30 rfl hs 4 rfl rfl (Qa (zC9) ?_))
  refine Qg en206 (call_sl (R := fun c w' => ∃ l u, (if c = 0 then (l, u, c, st.begin) else (0, 0, c, st.begin)) = st.headR n ∧ Mem g w' (zB8 p st.begin :: cells b8 [.int .u32 u] 64 :: cells b7 [.int .i64 l] 3 :: M)) (cap := #[.pointer (some ⟨b2, 0, none⟩), .pointer (some ⟨b3, 0, none⟩), .pointer (some ⟨b7, 0, none⟩), .pointer (some ⟨b8, 0, none⟩)]) hE hs hcl hfl en217 (fun h1 w1 hs => ⟨0, 0, by simp [St.headR, h1], (hs.drop 4).drop 3⟩) (fun h1 w1 hs => (headC_sl hE hbs hs).mono (by rintro e w2 ⟨v, rfl, rfl, hs⟩; refine ⟨_, rfl, _, rfl, hs.nil, _, _, ?_, (hs.drop 4).drop 3⟩; by_cases h2 : st.next = 2 <;> simp [St.headR, h1, h2]))) ?_; clear hs; rintro _ w ⟨c12, rfl, l12, u12, hh, hs⟩
  refine J6 rfl (zA6 (zA4 (zA4 (zA2 (J8 rfl (Jv (ad := ad) rfl (zA6 (zB2 rfl ?_ ?_))))))))
  ·
   intro h14; have g14 := zFj h14; refine zA4 (zA2 (J8 rfl (J4 rfl (Jl (v := .int .u32 _) rfl (J6 rfl (zA6 (zAe (res3 (v := .int .i64 _) (v2 := .int .u32 _) (v3 := zAk ad _) rfl rfl rfl rfl ?_)))))))); rw [if_neg g14] at hh; rw [← hh]; exact ⟨_, rfl, rfl, (hs.drop 1).drop 1⟩
  ·
   intro h14; have g14 := zFi h14; refine zAd (zA4 (zAq zBk hs ?_)); intro w tr hK; replace hs := tr _ hs; clear tr; refine Qd 0 rfl uz3 rfl (fun w hs => hs.cellAt 2 rfl rfl) hK (Qd 1 rfl uz64 rfl (fun w hs => hs.cellAt 1 rfl rfl) hK (Q5 2 rfl (v := .int .i64 _) rfl hK (Q5 3 rfl (v := .int .u32 _) rfl hK (Q5 4 rfl (v := .nilIface) rfl hK (zAs (by kernel_rfl) ?_))))); clear hK; refine zAe (res3 (v := .int .i64 _) (v2 := .int .u32 _) (v3 := .nilIface) rfl rfl rfl rfl ?_); rw [if_pos g14] at hh; rw [← hh]
   exact ⟨_, rfl, by show _ = Value.tuple #[.int .i64 l12, .int .u32 u12, zAk ad c12]; rw [g14, zB], (hs.drop 1).drop 1⟩
def St.get1 (n : ByteArray) (off m : Int) (st : St) : Nat × List UInt8 := match zAx st.objs n with
  | some b => if off < 0 ∨ m < 0 ∨ (b.length : Int) < off ∨ (b.length : Int) - off < m then (105, []) else (0, (b.take (off.toNat + m.toNat)).drop off.toNat)
  | none => (107, [])
def St.getR (n : ByteArray) (off m : Int) (st : St) : List UInt8 × Nat × St := if st.next = 1 ∨ st.next = 2 then ([], 111, st.begin) else ((st.begin.get1 n off m).2, (st.begin.get1 n off m).1, st.begin)
end
section
open Go.RowKit
attribute [local irreducible] zAk
variable {g w : World} {L M : List HP} {ad : Nat → Addr} {p : Nat} {st : St}
theorem Mem.openU {e : Nat × Nat} {u : Up} (hs : Mem g w (upC e u :: L)) : ∃ ps, Mem g w (cells e.1 [.string u.name, .map (some e.2)] 280 :: mapI e.2 ps :: partsC ps u.parts :: L) := by
  obtain ⟨ps, h⟩ := hs.unex; exact ⟨ps, h.unstars⟩
theorem Mem.closeU {ub pm : Nat} {u : Up} {ps : List (Int × Value)} (hs : Mem g w (cells ub [.string u.name, .map (some pm)] 280 :: mapI pm ps :: partsC ps u.parts :: L)) : Mem g w (upC (ub, pm) u :: L) :=
  Mem.ex (f := fun ps => Go.Proofs.YthejaanobeonnaaGreatDoor.stars [cells ub [.string u.name, .map (some pm)] 280, mapI pm ps, partsC ps u.parts]) ps (Mem.stars (M := [cells ub [.string u.name, .map (some pm)] 280, mapI pm ps, partsC ps u.parts]) hs)
theorem up_aget (us : List (Int × Nat × Nat)) (i : Int) : zAx (us.map upPtr) i = (zAx us i).map fun e => .pointer (some ⟨e.1, 0, none⟩) := by
  induction us with
  | nil => rfl
  | cons e us ih =>
    obtain ⟨k, e1, e2⟩ := e; simp only [List.map_cons, upPtr, zAx]
    split
    · rfl
    · exact ih
theorem up_aput (us : List (Int × Nat × Nat)) (i : Int) (e : Nat × Nat) : (zC1 us i e).map upPtr = zC1 (us.map upPtr) i (.pointer (some ⟨e.1, 0, none⟩)) := by
  induction us with
  | nil => rfl
  | cons x us ih =>
    obtain ⟨k, e1, e2⟩ := x; simp only [List.map_cons, upPtr, zC1]
    split
    · simp [upPtr]
    · simp only [List.map_cons, ih]; rfl
theorem up_adel (us : List (Int × Nat × Nat)) (i : Int) : (zDe us i).map upPtr = zDe (us.map upPtr) i := by
  induction us with
  | nil => rfl
  | cons x us ih =>
    obtain ⟨k, e1, e2⟩ := x; simp only [List.map_cons, upPtr, zDe]
    split
    · rfl
    · simp only [List.map_cons, ih]; rfl
theorem up_keys (us : List (Int × Nat × Nat)) : zAm (us.map upPtr) = zAm us := by simp [zAm, upPtr, List.map_map, Function.comp_def]
def St.start1 (n : ByteArray) (st : St) : Nat × Int × St := if zBy n.data.toList then (0, ((st.ids + 1 : Nat) : Int), { st with ids := st.ids + 1, ups := zC1 st.ups ((st.ids + 1 : Nat) : Int) ⟨n, []⟩ }) else (106, 0, st)
theorem startC_sl (hE : ErrG ad g) {nb sb ib : Nat} {n : ByteArray} (hid : st.ids < 4611686018427387904) (hs : Mem g w (zB8 p st :: cells ib [.int .i64 0] 3 :: cells nb [.string n] 9 :: cells sb [.pointer (some ⟨p, 0, none⟩)] 30 :: M)) :
    Calls Tryz.prog 207 #[.pointer (some ⟨nb, 0, none⟩), .pointer (some ⟨sb, 0, none⟩), .pointer (some ⟨ib, 0, none⟩)] w (Ret fun v w' => v = zAk ad (st.start1 n).1 ∧ Mem g w' (zB8 p (st.start1 n).2.2 :: cells ib [.int .i64 (st.start1 n).2.1] 3 :: cells nb [.string n] 9 :: cells sb [.pointer (some ⟨p, 0, none⟩)] 30 :: M)) := by
  obtain ⟨mo, mu, sa, sn, sc, es, us, hn, hs⟩ := hs.openS; simp only [zD2, List.cons_append, List.nil_append] at hs; refine zAh Tryz.func207 rfl rfl ?_
  refine zA4 (zA2 (J3 rfl (zA6 (zA4 (zA4 (zA2 (Qc uz9 rfl hs 7 rfl rfl (Qg en89 (zGb hs n) ?_)))))))); clear hs; rintro _ w ⟨rfl, hs⟩; refine Jr rfl (zA6 (zB2 rfl ?_ ?_))
  ·
   intro h5; replace h5 := zFc h5; refine zA4 (zA2 (Jq zCq rfl rfl (hE.cellW hs 106 (by decide) rfl) (J6 rfl (zA6 (zAe (zBi (v := zAk ad _) rfl rfl ?_))))))
   have hp : st.start1 n = (106, 0, st) := by simp [St.start1, h5]
   rw [hp]; exact ⟨_, rfl, rfl, hs.closeS⟩
  ·
   intro h5; replace h5 := zEr h5; refine zAd (zA4 (zA2 (Qc uz30 rfl hs 8 rfl rfl (Jx rfl (Jp (o' := 2) uz92 rfl sz3 rfl rfl rfl (Qc uz3 rfl hs 0 rfl rfl (Jo rfl rfl rfl (inI (by omega) (by omega)) (Jx rfl (Jp (o' := 2) uz92 rfl sz3 rfl rfl rfl (zB0 (v := .int .i64 _) hs 0 rfl sz3 rfl rfl rfl rfl ?_)))))))))); clear hs; intro w hs
   try simp only [zzs, zzz] at hs
   refine zA6 (zA4 (zA2 (Qc uz30 rfl hs 8 rfl rfl (Jx rfl (Jp (o' := 2) uz92 rfl sz3 rfl rfl rfl (Qc uz3 rfl hs 0 rfl rfl (zB0 (v := .int .i64 _) hs 6 rfl sz3 rfl rfl rfl rfl ?_))))))); clear hs; intro w hs
   try simp only [zzs, zzz] at hs
   refine zA6 (zA4 (zAq zBk (hs.drop 3) ?_)); intro w tr hK; replace hs := tr _ hs; clear tr; refine Qd 0 rfl uz30 rfl (fun w hs => hs.cellAt 7 rfl rfl) hK (Q7 1 rfl rfl hK (Q6 2 rfl (o' := 1) uz92 rfl sz90 rfl rfl rfl hK (Qd 3 rfl uz90 rfl (fun w hs => hs.cellAt 0 rfl rfl) hK (Qd 4 rfl uz3 rfl (fun w hs => hs.cellAt 5 rfl rfl) hK (Qd 5 rfl uz9 rfl (fun w hs => hs.cellAt 6 rfl rfl) hK (zAc [6] ⟨⟨_, rfl, ?_⟩, trivial⟩)))))); refine zFp (Value.int .i64) hs rfl ?_; clear hs; intro m25 w hs
   try simp only [zzs, zzz] at hs
   clear hK; have hK := hs.tail.drop 3; refine zA6 ⟨hK, ?_⟩; refine Qb 7 rfl (fun w hs => zBg ([.string n, .map (some m25)]) uz280 ze280 pl280 rfl (by simp [Value.cells]) rfl rfl) hK (zAc [8] ⟨⟨_, rfl, ?_⟩, trivial⟩); refine zBp (v := .agg _) hs rfl rfl ?_; clear hs; intro b27 w hs; clear hK; have hK := hs.tail.tail.drop 3; refine zA6 ⟨hK, ?_⟩; refine zAc [9] ⟨⟨_, rfl, ?_⟩, trivial⟩; refine zDq (v := .pointer (some _)) hs 5 rfl zE9 uz90 uz3 rfl rfl rfl ?_; clear hs; intro w hs
   try simp only [zzs, zzz] at hs
   clear hK; have hK := hs.tail.tail.drop 3; refine zA6 ⟨hK, ?_⟩; refine zAs (by kernel_rfl) ?_; clear hK; refine zA4 (zA2 (J3 rfl (zA6 (zAe (zBi (v := .nilIface) rfl rfl ?_)))))
   have hp : st.start1 n = (0, ((st.ids + 1 : Nat) : Int), { st with ids := st.ids + 1, ups := zC1 st.ups ((st.ids + 1 : Nat) : Int) ⟨n, []⟩ }) := by simp [St.start1, h5]
   rw [hp]; have hu := Mem.closeU (u := ⟨n, []⟩) ((hs.addE (famC_nil (R := rdB) (κ := Int) _)).arr [1, 2, 0] 3 (by decide)); have hf := Mem.famPut (R := upC) (k := ((st.ids + 1 : Nat) : Int)) hu 4 rfl (fun _ h => False.elim h); exact ⟨_, rfl, (zB ad).symm, Mem.closeS (st := { st with ids := st.ids + 1, ups := zC1 st.ups ((st.ids + 1 : Nat) : Int) ⟨n, []⟩ }) (mo := mo) (mu := mu) (sv := .slice sa sn sc) (es := es) (us := zC1 us ((st.ids + 1 : Nat) : Int) (b27, m25)) (by simp only [zD2]; rw [up_aput]; exact hf)⟩
def St.startR (n : ByteArray) (st : St) : Int × Nat × St :=
  if st.next = 1 then (0, 111, st.begin) else if st.next = 2 then (0, 111, (st.begin.start1 n).2.2) else ((st.begin.start1 n).2.1, (st.begin.start1 n).1, (st.begin.start1 n).2.2)
theorem start1_bad {n : ByteArray} {st : St} (h : (st.start1 n).1 ≠ 0) : (st.start1 n).2.1 = 0 := by
  unfold St.start1 at h ⊢
  split
  · rename_i hv; rw [if_pos hv] at h; exact absurd rfl h
  · rfl
theorem start_sl (hE : ErrG ad g) (hs : Mem g w (zB8 p st :: M)) (hid : st.ids < 4611686018427387904) (hcl : st.calls < 4611686018427387904) (hfl : st.failed < 4611686018427387904) {n : ByteArray} {x : Int} {k : Nat} {st2 : St} (hk : st.startR n = (x, k, st2)) :
    Calls Tryz.prog 185 #[.pointer (some ⟨p, 0, none⟩), .string n] w (Ret fun v w' => v = .tuple #[.int .i64 x, zAk ad k] ∧ Mem g w' (zB8 p st2 :: M)) := by
  refine zAh Tryz.func185 rfl rfl ?_
  refine zA4 (zA2 (zBp (v := .pointer (some _)) hs rfl rfl ?_)); clear hs; intro b2 w hs
  try simp only [zzs, zzz] at hs
  refine zBp (v := .string _) hs rfl rfl ?_; clear hs; intro b3 w hs
  try simp only [zzs, zzz] at hs
  refine J4 rfl (J3 rfl (zA6 (zA4 (zA2 (zBj hs rfl ze3 ?_))))); clear hs; intro b6 w hs
  try simp only [zzs, zzz] at hs
  refine zB0 (v := .int .i64 _) hs 0 rfl sz3 rfl rfl rfl rfl ?_; clear hs; intro w hs
  try simp only [zzs, zzz] at hs
  refine zA6 (zA4 ?_); replace hs := hs.pick 3 rfl; simp only [List.eraseIdx_cons_succ, List.eraseIdx_cons_zero] at hs; refine zA2 (Qc uz30 rfl hs 3 rfl rfl (Qa (zC9) ?_))
  refine Qg en206 (call_sl (R := fun c w' => ∃ i s2, (if c = 0 then (i, c, s2) else (0, c, s2)) = (x, k, st2) ∧ Mem g w' (zB8 p s2 :: cells b6 [.int .i64 i] 3 :: M)) (cap := #[.pointer (some ⟨b3, 0, none⟩), .pointer (some ⟨b2, 0, none⟩), .pointer (some ⟨b6, 0, none⟩)]) hE hs hcl hfl en207 (fun h1 w1 hs => ⟨0, st.begin, by rw [← hk]; simp [St.startR, h1], hs.arr [0, 1] 4 (by decide)⟩) (fun h1 w1 hs => (startC_sl (st := st.begin) (n := n) hE hid hs).mono (by rintro e w2 ⟨v, rfl, rfl, hs⟩; refine ⟨_, rfl, _, rfl, hs.nil, _, _, ?_, hs.arr [0, 1] 4 (by decide)⟩; rw [← hk]; by_cases h2 : st.next = 2 <;> simp only [St.startR, h1, h2, if_true, if_false] <;> (by_cases h3 : (st.begin.start1 n).1 = 0 <;> simp [h3]; try exact (start1_bad h3).symm)))) ?_
  clear hs; rintro _ w ⟨c10, rfl, i10, s10, hh, hs⟩; refine J6 rfl (zA6 (zA4 (zA4 (zA2 (J8 rfl (Jv (ad := ad) rfl (zA6 (zB2 rfl ?_ ?_))))))))
  ·
   intro h12; have g12 := zFj h12; refine zA4 (zA2 (J8 rfl (J4 rfl (J6 rfl (zA6 (zAe (zEd (v := .int .i64 _) (v2 := zAk ad _) rfl rfl rfl ?_))))))); rw [if_neg g12] at hh; simp only [Prod.mk.injEq] at hh; obtain ⟨rfl, rfl, rfl⟩ := hh; exact ⟨_, rfl, rfl, hs.drop 1⟩
  ·
   intro h12; have g12 := zFi h12; refine zAd (zA4 (zA2 (Qc uz3 rfl hs 1 rfl rfl (J4 rfl (J3 rfl (zA6 (zAe (zEd (v := .int .i64 _) (v2 := .nilIface) rfl rfl rfl ?_)))))))); rw [if_pos g12] at hh; simp only [Prod.mk.injEq] at hh; obtain ⟨rfl, rfl, rfl⟩ := hh; exact ⟨_, rfl, by rw [g12, zB], hs.drop 1⟩
def St.part1 (id k : Int) (b : List UInt8) (st : St) : Nat × St := match zAx st.ups id with
  | none => (107, st)
  | some u => if k < 0 ∨ 256 ≤ k then (105, st) else (0, { st with ups := zC1 st.ups id { u with parts := zC1 u.parts k b } })
theorem partC_sl (hE : ErrG ad g) {sb ib kb bb : Nat} {id k : Int} {b : List UInt8} {a : Option Addr} {m c : Nat} (hs : Mem g w (zB8 p st :: cells bb [.slice a m c] 22 :: cells kb [.int .i64 k] 3 :: cells ib [.int .i64 id] 3 :: cells sb [.pointer (some ⟨p, 0, none⟩)] 30 :: M)) (hr : Rd g M (.slice a m c) (zAn b)) (hlen : b.length ≤ 1073741824) :
    Calls Tryz.prog 208 #[.pointer (some ⟨sb, 0, none⟩), .pointer (some ⟨ib, 0, none⟩), .pointer (some ⟨kb, 0, none⟩), .pointer (some ⟨bb, 0, none⟩)] w (Ret fun v w' => v = zAk ad (st.part1 id k b).1 ∧ Mem g w' (zB8 p (st.part1 id k b).2 :: cells bb [.slice a m c] 22 :: cells kb [.int .i64 k] 3 :: cells ib [.int .i64 id] 3 :: cells sb [.pointer (some ⟨p, 0, none⟩)] 30 :: M)) := by
  obtain ⟨mo, mu, sa, sn, sc, es, us, hn, hs⟩ := hs.openS; simp only [zD2, List.cons_append, List.nil_append] at hs; have hky := hs.famKeys 4 rfl
  cases ho : zAx st.ups id with
  | none =>
    have he : zAx (us.map upPtr) id = none := by rw [up_aget, fam_none hky ho]; rfl
    have hp : st.part1 id k b = (107, st) := by simp [St.part1, ho]
    rw [hp]; refine zAh Tryz.func208 rfl rfl ?_
    refine zA4 (zA2 (J3 rfl (zA6 (zA4 (zAq zBk hs ?_))))); intro w tr hK; replace hs := tr _ hs; clear tr; refine Qd 0 rfl uz30 rfl (fun w hs => hs.cellAt 9 rfl rfl) hK (Q7 1 rfl rfl hK (Q6 2 rfl (o' := 1) uz92 rfl sz90 rfl rfl rfl hK (Qd 3 rfl uz90 rfl (fun w hs => hs.cellAt 0 rfl rfl) hK (Qd 4 rfl uz3 rfl (fun w hs => hs.cellAt 8 rfl rfl) hK (Qb 5 rfl (fun w hs => zDx (hs.mapAt 3 rfl) zE9 uz90 uz3 ze141 rfl rfl he) hK ?_)))))
    refine Q5 6 rfl (v := .pointer none) rfl hK (zAs (by kernel_rfl) ?_); clear hK; refine zA4 (zAp (zA4 (zA2 (Jm (v := .pointer none) rfl (Qa (zDj uz141 rfl rfl) (J5 rfl (zA6 (zBc rfl (rfl) (zA4 (zA2 (Jq zCq rfl rfl (hE.cellW hs 107 (by decide) rfl) (J6 rfl ?_)))))))))))); exact zA6 (zAe (zBi (v := zAk ad _) rfl rfl ⟨_, rfl, rfl, hs.closeS⟩))
  | some u =>
    obtain ⟨⟨ub, pm⟩, hu⟩ := fam_some hky ho
    have he : zAx (us.map upPtr) id = some (.pointer (some ⟨ub, 0, none⟩)) := by rw [up_aget, hu]; rfl
    have hbad : k < 0 ∨ 256 ≤ k → st.part1 id k b = (105, st) := fun h => by simp only [St.part1, ho]; rw [if_pos h]
    refine zAh Tryz.func208 rfl rfl ?_
    refine zA4 (zA2 (J3 rfl (zA6 (zA4 (zAq zBk hs ?_))))); intro w tr hK; replace hs := tr _ hs; clear tr; refine Qd 0 rfl uz30 rfl (fun w hs => hs.cellAt 9 rfl rfl) hK (Q7 1 rfl rfl hK (Q6 2 rfl (o' := 1) uz92 rfl sz90 rfl rfl rfl hK (Qd 3 rfl uz90 rfl (fun w hs => hs.cellAt 0 rfl rfl) hK (Qd 4 rfl uz3 rfl (fun w hs => hs.cellAt 8 rfl rfl) hK (Qb 5 rfl (fun w hs => zDx (hs.mapAt 3 rfl) zE9 uz90 uz3 ze141 rfl rfl he) hK ?_)))))
    refine Q5 6 rfl (v := .pointer (some _)) rfl hK (zAs (by kernel_rfl) ?_); clear hK; refine zA4 (zAp (zA4 (zA2 (J1 rfl (Qa (zDj uz141 rfl rfl) (J5 rfl (zA6 (zAz rfl rfl (zA4 (zA2 (Qc uz3 rfl hs 7 rfl rfl (Jn rfl rfl ?_)))))))))))); refine J2 rfl (zB3 (t := _) (d := 19) rfl ?_ ?_)
    ·
     intro h18; have g18 := of_decide_eq_true h18; refine Qe rfl rfl h18 (Qe rfl rfl h18 (Ja rfl h18 rfl (J5 rfl (zA6 (zBc rfl rfl (zA4 (zA2 (Jq zCq rfl rfl (hE.cellW hs 105 (by decide) rfl) (J6 rfl (zA6 (zAe ?_))))))))))); refine zBi (v := zAk ad _) rfl rfl ?_; rw [hbad (by omega)]; exact ⟨_, rfl, rfl, hs.closeS⟩
    ·
     intro h18; have g18 := of_decide_eq_false h18; refine zAl rfl rfl h18 (Qc uz3 rfl hs 7 rfl rfl (zAl rfl rfl h18 (Qa (zD5 rfl rfl) (J9 rfl h18 rfl (J5 rfl (zA6 (zB2 rfl ?_ ?_)))))))
     ·
      intro h21; have g21 := of_decide_eq_true h21; refine zA4 (zA2 (Jq zCq rfl rfl (hE.cellW hs 105 (by decide) rfl) (J6 rfl (zA6 (zAe (zBi (v := zAk ad _) rfl rfl ?_)))))); rw [hbad (by omega)]; exact ⟨_, rfl, rfl, hs.closeS⟩
     ·
      intro h21; have g21 := of_decide_eq_false h21; refine zAd (zA4 ?_); obtain ⟨ps, hs⟩ := (hs.famTake 4 rfl hu ho).openU; simp only [zzs, zzz] at hs; refine zAq zBk (hs.drop 1) ?_; intro w tr hK; replace hs := tr _ hs; clear tr; refine Q0 0 rfl rfl hK (Q7 1 rfl rfl hK (Q6 2 rfl (o' := 1) uz280 rfl sz278 rfl rfl rfl hK (Qd 3 rfl uz278 rfl (fun w hs => hs.cellAt 0 rfl rfl) hK (Qd 4 rfl uz3 rfl (fun w hs => hs.cellAt 9 rfl rfl) hK ?_))))
      refine Qd 5 rfl zC6 rfl (fun w hs => hs.cellAt 8 rfl rfl) hK (zAc [6] ⟨⟨_, rfl, ?_⟩, trivial⟩); refine Qg en49 (zCt hs (l := b) (fun w hs => hr w (hs.suffix 13 rfl)) hlen) ?_; clear hs; rintro _ w ⟨a30, c30, rfl, hs⟩; clear hK; have hK := hs.tail.drop 1; refine zA6 ⟨hK, ?_⟩; refine zAc [7] ⟨⟨_, rfl, ?_⟩, trivial⟩; refine zDq (v := .slice _ _ _) hs 2 rfl zE9 uz278 uz3 rfl rfl rfl ?_; clear hs; intro w hs
      try simp only [zzs, zzz] at hs
      clear hK; have hK := hs.tail.drop 1; refine zA6 ⟨hK, ?_⟩; refine zAs (by kernel_rfl) ?_; clear hK; refine zA4 (zA2 (J3 rfl (zA6 (zAe (zBi (v := .nilIface) rfl rfl ?_)))))
      have hp : st.part1 id k b = (0, { st with ups := zC1 st.ups id { u with parts := zC1 u.parts k b } }) := by simp only [St.part1, ho]; rw [if_neg (by omega)]
      rw [hp]; have h1 := Mem.famPut (R := rdB) (k := k) (b := b) (hs.ownRd 0 rfl) 2 rfl (fun _ h => False.elim h); have h2 := Mem.closeU (u := { u with parts := zC1 u.parts k b }) h1; have h3 := Mem.famPut (R := upC) (k := id) h2 4 rfl (fun _ h => h); rw [zDm hu] at h3; exact ⟨_, rfl, (zB ad).symm, Mem.closeS (st := { st with ups := zC1 st.ups id { u with parts := zC1 u.parts k b } }) (mo := mo) (mu := mu) (sv := .slice sa sn sc) (es := es) (us := us) h3⟩
theorem part_sl (hE : ErrG ad g) (hs : Mem g w (zB8 p st :: M)) (hcl : st.calls < 4611686018427387904) (hfl : st.failed < 4611686018427387904) {id k : Int} {b : List UInt8} {a : Option Addr} {m c : Nat} (hr : Rd g M (.slice a m c) (zAn b)) (hlen : b.length ≤ 1073741824) {x : Nat} {st2 : St} (hk : st.run (St.part1 id k b) = (x, st2)) :
    Calls Tryz.prog 187 #[.pointer (some ⟨p, 0, none⟩), .int .i64 id, .int .i64 k, .slice a m c] w (Ret fun v w' => v = zAk ad x ∧ Mem g w' (zB8 p st2 :: M)) := by
  have k1 : (st.run (St.part1 id k b)).1 = x := by rw [hk]
  have k2 : (st.run (St.part1 id k b)).2 = st2 := by rw [hk]
  subst k1 k2; refine zAh Tryz.func187 rfl rfl ?_
  refine zA4 (zA2 (zBp (v := .pointer (some _)) hs rfl rfl ?_)); clear hs; intro b4 w hs
  try simp only [zzs, zzz] at hs
  refine zBp (v := .int .i64 _) hs rfl rfl ?_; clear hs; intro b5 w hs
  try simp only [zzs, zzz] at hs
  refine zBp (v := .int .i64 _) hs rfl rfl ?_; clear hs; intro b6 w hs
  try simp only [zzs, zzz] at hs
  refine zBp (v := .slice _ _ _) hs rfl rfl ?_; clear hs; intro b7 w hs
  try simp only [zzs, zzz] at hs
  refine J3 rfl (zA6 (zA4 ?_)); replace hs := hs.pick 4 rfl; simp only [List.eraseIdx_cons_succ, List.eraseIdx_cons_zero] at hs; refine zA2 (Qc uz30 rfl hs 4 rfl rfl (Qa (zC9) (Qg en206 (call_err (cap := #[.pointer (some ⟨b4, 0, none⟩), .pointer (some ⟨b5, 0, none⟩), .pointer (some ⟨b6, 0, none⟩), .pointer (some ⟨b7, 0, none⟩)]) hE hs hcl hfl (St.part1 id k b) en208 (fun w1 h1 => partC_sl hE h1 hr hlen)) ?_))); clear hs; rintro _ w ⟨rfl, hs⟩; refine J6 rfl (zA6 (zAe (zBi (v := zAk ad _) rfl rfl ?_)))
  exact ⟨_, rfl, rfl, hs.arr [0] 5 (by decide)⟩
def St.abort1 (id : Int) (st : St) : Nat × St := if (zAx st.ups id).isSome then (0, { st with ups := zDe st.ups id }) else (107, st)
end
section
open Go.RowKit
attribute [local irreducible] zAk
variable {g w : World} {L M : List HP} {ad : Nat → Addr} {p q : Nat} {st : St}
abbrev zBh (q p : Nat) (t a : Int) : HP := cells q [.pointer (some ⟨p, 0, none⟩), .int .i64 t, .int .i64 a] 162
theorem clnew_sl (hE : ErrG ad g) (hs : Mem g w L) {t : Int} (h : 1 ≤ t ∧ t ≤ 8) : Calls Tryz.prog 41 #[.pointer (some ⟨p, 0, none⟩), .int .i64 t] w (Ret fun v w' => ∃ q, v = .tuple #[.pointer (some ⟨q, 0, none⟩), .nilIface] ∧ Mem g w' (zBh q p t 0 :: L)) := by
  refine zAh Tryz.func41 rfl rfl ?_
  refine zA4 (zA2 (Jf rfl (J3 rfl (zA6 (zA4 (zA4 (zA2 (J0 rfl (Jn rfl rfl (J2 rfl (zAl rfl rfl (decide_eq_false (by omega)) (J0 rfl ?_)))))))))))); refine zAl rfl rfl (decide_eq_false (by omega)) (Jt rfl rfl (J9 rfl (decide_eq_false (by omega)) rfl (zA6 (zAz rfl (decide_eq_false (by omega)) (zAd (zA4 (zA2 (J1 rfl ?_))))))))
  refine J0 rfl (Qa (zBw (cs := [.pointer (some ⟨p, 0, none⟩), .int .i64 t, .int .i64 0]) uz162 ze162 pl162 rfl) (zBp (v := .agg _) hs rfl rfl ?_)); clear hs; intro b16 w hs; exact Jd rfl (J3 rfl (zA6 (zAe (zEd (v := .pointer (some _)) (v2 := .nilIface) rfl rfl rfl ⟨_, rfl, b16, rfl, hs⟩))))
def zBo {σ : Type} (step : σ → Nat × σ) : Nat → σ → Bool × Nat × Nat × σ
  | 0, s => (false, 111, 0, s)
  | n + 1, s => if (step s).1 = 111 then (true, (zBo step n (step s).2).2.1, (zBo step n (step s).2).2.2.1 + 1, (zBo step n (step s).2).2.2.2) else (false, (step s).1, 1, (step s).2)
theorem again_sl {σ : Type} (X : σ → List HP) (step : σ → Nat × σ) (I : Nat → σ → Prop) (hE : ErrG ad g) {f : FuncId} {cap : Array Value} {s : σ} {t : Nat} {a : Int} (ha : 0 ≤ a ∧ a < 1000000000000) (ht : t ≤ 8) (hs : Mem g w (zBh q p t a :: X s)) (hI : I t s)
    (hstep : ∀ n s, I (n + 1) s → I n (step s).2) (hcode : ∀ n s, I (n + 1) s → (step s).1 = 0 ∨ (step s).1 ∈ zCb) (hf : ∀ args w, (callFunc f args).run Tryz.prog w = .ok (.enter f args) w)
    (hdo : ∀ n s a w1, I (n + 1) s → Mem g w1 (zBh q p t a :: X s) → Calls Tryz.prog f cap w1 (Ret fun v w2 => v = zAk ad (step s).1 ∧ Mem g w2 (zBh q p t a :: X (step s).2))) :
    Calls Tryz.prog 183 #[.pointer (some ⟨q, 0, none⟩), .func (.func f) #[] cap] w
      (Ret fun v w' => v = .tuple #[.bool (zBo step t s).1, zAk ad (zBo step t s).2.1] ∧ Mem g w' (zBh q p t (a + ((zBo step t s).2.2.1 : Nat)) :: X (zBo step t s).2.2.2)) := by
  refine zAh Tryz.func183 rfl rfl ?_
  refine zA4 (zA2 (J5 rfl (J3 rfl (zA6 (cw_scope (zA4 (zA2 (J5 rfl (zA6 (zA4 (zA2 (Jq zCq rfl rfl (hE.cellW hs 111 (by decide) rfl) (J6 rfl (zA6 ?_)))))))))))))); refine zA4 (cw_label (zA4 (zA4 (zA2 (J1 rfl (Jx rfl (Jp (o' := 1) uz162 rfl sz3 rfl rfl rfl (Qc uz3 rfl hs 0 rfl rfl (J0 rfl (zA6 ?_))))))))))
  refine zAp ?_; refine zBs (X := Nat × σ) [6, 7, 13, 14, 15, 16, 17, 18, 19, 20, 21, 22, 23, 24, 25, 26, 27, 28] (fun x => [(6, .bool (decide (0 < x.1))), (7, zAk ad 111), (13, .int .i64 (x.1 : Nat))]) (fun x w => x.1 ≤ t ∧ I (t - x.1) x.2 ∧ zBo step t s = (decide (0 < x.1) || (zBo step (t - x.1) x.2).1, (zBo step (t - x.1) x.2).2.1, x.1 + (zBo step (t - x.1) x.2).2.2.1, (zBo step (t - x.1) x.2).2.2.2) ∧ Mem g w (zBh q p t (a + (x.1 : Nat)) :: X x.2)) (fun x => t - x.1) ((0, s)) ?_ ?_ ?_
  · exact ⟨rfl, rfl, rfl, trivial⟩
  · exact ⟨Nat.zero_le _, hI, by simp, by simpa using hs⟩
  clear hs; rintro x ξ w hI; obtain ⟨k, s1⟩ := x; obtain ⟨hk, hI1, hq, hs⟩ := hI; simp only at hk hI1 hq hs; refine zA4 (zA2 (Jn rfl rfl (zA6 (zA4 (zB2 rfl ?_ ?_)))))
  ·
   intro h14; have g14 := of_decide_eq_true h14; obtain ⟨m, hm⟩ : ∃ m, t - k = m + 1 := ⟨t - k - 1, by omega⟩; rw [hm] at hI1 hq; refine zAd (zA4 (zAp (zA4 (zA2 (J1 rfl (Jx rfl (Jp (o' := 2) uz162 rfl sz3 rfl rfl rfl (Qc uz3 rfl hs 0 rfl rfl (Jo rfl rfl rfl (inI (by omega) (by omega)) (Jx rfl (Jp (o' := 2) uz162 rfl sz3 rfl rfl rfl ?_))))))))))); refine zB0 (v := .int .i64 _) hs 0 rfl sz3 rfl rfl rfl rfl ?_; clear hs; intro w hs
   try simp only [zzs, zzz] at hs
   refine zA6 (zA4 (zA4 (zA2 (Jm (v := .func _ _ _) rfl (zEq rfl hf rfl (hdo m s1 _ w hI1 hs) ?_))))); clear hs; rintro _ w ⟨rfl, hs⟩; refine J6 rfl (zA6 (zA4 (zA2 (J8 rfl (zA6 (zAp (zA4 (zA2 (Jq zCq rfl rfl (hE.cellW hs 111 (by decide) rfl) (Qa (zEj (hE.atW hs) (hcode m s1 hI1) (by decide) (c := (step s1).1) (d := 111) rfl rfl) (J5 rfl (zA6 (zB2 rfl ?_ ?_)))))))))))))
   ·
    intro h27; have g27 := of_decide_eq_true h27; refine zA4 (zA2 (J5 rfl (zA6 (zBm rfl (zA2 (Jo rfl rfl rfl (inI (by omega) (by omega)) (J0 rfl (zA6 ?_))))))))
    exact ⟨(k + 1, (step s1).2), by simp; omega, ⟨by simp; omega, by rw [show t - (k + 1, (step s1).2).1 = m by simp; omega]; exact hstep m s1 hI1, by rw [hq, show t - (k + 1, (step s1).2).1 = m by simp; omega]; simp only [zBo, g27, if_true]; simp; omega, by simpa [Int.add_assoc] using hs⟩, ⟨show Value.bool true = Value.bool (decide (0 < k + 1)) from zDr (by simp), show zAk ad (step s1).1 = zAk ad 111 from by rw [g27], rfl, trivial⟩, by repeat (first | exact Out.mix _ _ _ | refine Out.updo rfl ?_ | refine Out.upd rfl ?_ | refine Out.mixIn rfl ?_)⟩
   ·
    intro h27; have g27 := of_decide_eq_false h27; refine zAd (zBm rfl (zA4 (zA2 (J2 rfl (J8 rfl (J5 rfl (J6 rfl (zA6 (zAe (zEd (v := .bool _) (v2 := zAk ad _) rfl rfl rfl ?_)))))))))); rw [hq]; simp only [zBo, g27, if_false]; exact ⟨_, rfl, by simp, by simpa [Int.add_assoc] using hs⟩
  ·
   intro h14; have g14 := of_decide_eq_false h14; refine zBm rfl (zA4 (zA2 (J2 rfl (J8 rfl (J5 rfl (J6 rfl (zA6 (zAe (zEd (v := .bool _) (v2 := zAk ad _) rfl rfl rfl ?_)))))))))
   have e : t - k = 0 := by omega
   rw [e] at hq; rw [hq]; simp only [zBo]; exact ⟨_, rfl, by simp, by simpa using hs⟩
end
section
open Go.RowKit
attribute [local irreducible] zAk
variable {g w : World} {L M : List HP} {ad : Nat → Addr} {p : Nat} {st : St}
def outK (parts : List (Int × List UInt8)) (k : Nat) : List UInt8 := ((List.range k).map fun i => (zAx parts ((i : Nat) : Int)).getD []).flatten
theorem outK_succ {parts : List (Int × List UInt8)} {k : Nat} {b : List UInt8} (h : zAx parts ((k : Nat) : Int) = some b) : outK parts (k + 1) = outK parts k ++ b := by
  simp [outK, List.range_succ, h]
theorem outK_len {parts : List (Int × List UInt8)} {N : Nat} (h : ∀ k b, (k, b) ∈ parts → b.length ≤ N) : ∀ k, (outK parts k).length ≤ k * N
  | 0 => by simp [outK]
  | k + 1 => by
    have ih := outK_len h k
    have e : outK parts (k + 1) = outK parts k ++ (zAx parts ((k : Nat) : Int)).getD [] := by simp [outK, List.range_succ]
    have hb : ((zAx parts ((k : Nat) : Int)).getD []).length ≤ N := by
      cases ho : zAx parts ((k : Nat) : Int) with
      | none => simp
      | some b => exact h _ _ (zCy ho)
    rw [e, List.length_append, Nat.succ_mul]
    omega
def haveAll (parts : List (Int × List UInt8)) (K : Nat) : Bool := (List.range K).all fun i => (zAx parts ((i : Nat) : Int)).isSome
theorem haveAll_iff {parts : List (Int × List UInt8)} {K : Nat} : haveAll parts K = true ↔ ∀ i, i < K → (zAx parts ((i : Nat) : Int)).isSome = true := by simp [haveAll]
def St.complete1 (id k : Int) (st : St) : Nat × St := match zAx st.ups id with
  | none => (107, st)
  | some u => if k < 0 ∨ 256 < k then (105, st) else if haveAll u.parts k.toNat then (0, { st with objs := zC1 st.objs u.name (outK u.parts k.toNat), ups := zDe st.ups id }) else (105, st)
theorem completeC_sl (hE : ErrG ad g) (hsm : st.small) {sb ib kb : Nat} {id k : Int} (hs : Mem g w (zB8 p st :: cells kb [.int .i64 k] 3 :: cells ib [.int .i64 id] 3 :: cells sb [.pointer (some ⟨p, 0, none⟩)] 30 :: M)) :
    Calls Tryz.prog 209 #[.pointer (some ⟨sb, 0, none⟩), .pointer (some ⟨ib, 0, none⟩), .pointer (some ⟨kb, 0, none⟩)] w (Ret fun v w' => v = zAk ad (st.complete1 id k).1 ∧ Mem g w' (zB8 p (st.complete1 id k).2 :: cells kb [.int .i64 k] 3 :: cells ib [.int .i64 id] 3 :: cells sb [.pointer (some ⟨p, 0, none⟩)] 30 :: M)) := by
  obtain ⟨mo, mu, sa, sn, sc, es, us, hn, hs⟩ := hs.openS; simp only [zD2, List.cons_append, List.nil_append] at hs; have hky := hs.famKeys 4 rfl
  have hnd : (zAm us).Nodup := by rw [← up_keys]; exact (hs.mapAt 3 rfl).nodup
  cases ho : zAx st.ups id with
  | none =>
    have he : zAx (us.map upPtr) id = none := by rw [up_aget, fam_none hky ho]; rfl
    have hp : st.complete1 id k = (107, st) := by simp [St.complete1, ho]
    rw [hp]; refine zAh Tryz.func209 rfl rfl ?_
    refine zA4 (zA2 (J3 rfl (zA6 (zA4 (zAq zBk hs ?_))))); intro w tr hK; replace hs := tr _ hs; clear tr; refine Qd 0 rfl uz30 rfl (fun w hs => hs.cellAt 8 rfl rfl) hK (Q7 1 rfl rfl hK (Q6 2 rfl (o' := 1) uz92 rfl sz90 rfl rfl rfl hK (Qd 3 rfl uz90 rfl (fun w hs => hs.cellAt 0 rfl rfl) hK (Qd 4 rfl uz3 rfl (fun w hs => hs.cellAt 7 rfl rfl) hK (Qb 5 rfl (fun w hs => zDx (hs.mapAt 3 rfl) zE9 uz90 uz3 ze141 rfl rfl he) hK ?_)))))
    refine Q5 6 rfl (v := .pointer none) rfl hK (zAs (by kernel_rfl) ?_); clear hK; refine zA4 (zAp (zA4 (zA2 (Jm (v := .pointer none) rfl (Qa (zDj uz141 rfl rfl) (J5 rfl (zA6 (zBc rfl (rfl) (zA4 (zA2 (Jq zCq rfl rfl (hE.cellW hs 107 (by decide) rfl) (J6 rfl ?_)))))))))))); exact zA6 (zAe (zBi (v := zAk ad _) rfl rfl ⟨_, rfl, rfl, hs.closeS⟩))
  | some u =>
    obtain ⟨⟨ub, pm⟩, hu⟩ := fam_some hky ho
    have he : zAx (us.map upPtr) id = some (.pointer (some ⟨ub, 0, none⟩)) := by rw [up_aget, hu]; rfl
    have hbad : k < 0 ∨ 256 < k → st.complete1 id k = (105, st) := fun h => by simp only [St.complete1, ho]; rw [if_pos h]
    have hlen := outK_len (hsm.2 id u (zCy ho)); refine zAh Tryz.func209 rfl rfl ?_
    refine zA4 (zA2 (J3 rfl (zA6 (zA4 (zAq zBk hs ?_))))); intro w tr hK; replace hs := tr _ hs; clear tr; refine Qd 0 rfl uz30 rfl (fun w hs => hs.cellAt 8 rfl rfl) hK (Q7 1 rfl rfl hK (Q6 2 rfl (o' := 1) uz92 rfl sz90 rfl rfl rfl hK (Qd 3 rfl uz90 rfl (fun w hs => hs.cellAt 0 rfl rfl) hK (Qd 4 rfl uz3 rfl (fun w hs => hs.cellAt 7 rfl rfl) hK (Qb 5 rfl (fun w hs => zDx (hs.mapAt 3 rfl) zE9 uz90 uz3 ze141 rfl rfl he) hK ?_)))))
    refine Q5 6 rfl (v := .pointer (some _)) rfl hK (zAs (by kernel_rfl) ?_); clear hK; refine zA4 (zAp (zA4 (zA2 (J1 rfl (Qa (zDj uz141 rfl rfl) (J5 rfl (zA6 (zAz rfl rfl (zA4 (zA2 (Qc uz3 rfl hs 6 rfl rfl (Jn rfl rfl ?_)))))))))))); refine J2 rfl (zB3 (t := _) (d := 22) rfl ?_ ?_)
    ·
     intro h21; have g21 := of_decide_eq_true h21; refine Qe rfl rfl h21 (Qe rfl rfl h21 (Ja rfl h21 rfl (J5 rfl (zA6 (zBc rfl rfl (zA4 (zA2 (Jq zCq rfl rfl (hE.cellW hs 105 (by decide) rfl) (J6 rfl (zA6 (zAe ?_))))))))))); refine zBi (v := zAk ad _) rfl rfl ?_; rw [hbad (by omega)]; exact ⟨_, rfl, rfl, hs.closeS⟩
    ·
     intro h21; have g21 := of_decide_eq_false h21; refine zAl rfl rfl h21 (Qc uz3 rfl hs 6 rfl rfl (zAl rfl rfl h21 (Jt rfl rfl (J9 rfl h21 rfl (J5 rfl (zA6 (zB2 rfl ?_ ?_)))))))
     ·
      intro h24; have g24 := of_decide_eq_true h24; refine zA4 (zA2 (Jq zCq rfl rfl (hE.cellW hs 105 (by decide) rfl) (J6 rfl (zA6 (zAe (zBi (v := zAk ad _) rfl rfl ?_)))))); rw [hbad (by omega)]; exact ⟨_, rfl, rfl, hs.closeS⟩
     ·
      intro h24; have g24 := of_decide_eq_false h24; obtain ⟨K, rfl⟩ : ∃ K : Nat, k = K := ⟨k.toNat, by omega⟩; refine zAd (zA4 ?_); obtain ⟨ps, hs⟩ := (hs.famTake 4 rfl hu ho).openU; simp only [zzs, zzz] at hs; refine zA2 (Jb rfl (zA6 (zA4 (zA4 (zA2 (Qc uz3 rfl hs 9 rfl rfl (J0 rfl (zA6 (zAp ?_)))))))))
      refine zBs (X := Nat × Option Addr × Nat) [3, 5, 6, 7, 8, 28, 29, 30, 31, 32, 33, 34, 35, 36, 37, 38, 39, 40, 41, 42, 43, 44, 45, 46] (fun x => [(5, .slice x.2.1 (outK u.parts x.1).length x.2.2), (28, .int .i64 (x.1 : Nat))]) (fun x w => x.1 ≤ K ∧ (∀ i : Nat, i < x.1 → (zAx u.parts ((i : Nat) : Int)).isSome = true) ∧ Mem g w (own (.slice x.2.1 (outK u.parts x.1).length x.2.2) (zAn (outK u.parts x.1)) :: cells ub [.string u.name, .map (some pm)] 280 :: mapI pm ps :: partsC ps u.parts :: cells p (storeL mo mu st.ids (.slice sa sn sc) st.calls st.failed) 92 :: smapS mo es :: objsC es st.objs :: mapI mu (us.map upPtr) :: famX upC (· = id) us st.ups :: own (.slice sa sn sc) (zCz st.script) :: cells kb [.int .i64 (K : Nat)] 3 :: cells ib [.int .i64 id] 3 :: cells sb [.pointer (some ⟨p, 0, none⟩)] 30 :: M)) (fun x => K - x.1) ((0, none, 0)) ?_ ?_ ?_
      · exact ⟨rfl, rfl, trivial⟩
      · exact ⟨Nat.zero_le _, (fun _ h => absurd h (Nat.not_lt_zero _)), hs.addE (zDn _)⟩
      clear hs; rintro x ξ w hI; obtain ⟨j, a, c⟩ := x; obtain ⟨hj, hall, hs⟩ := hI; simp only at hj hall hs; refine zA4 (zA2 (Jn rfl rfl (zA6 (zA4 (zB2 rfl ?_ ?_)))))
      ·
       intro h29; have g29 := of_decide_eq_true h29; obtain ⟨o, hox⟩ : ∃ o, zAx ps ((j : Nat) : Int) = o := ⟨_, rfl⟩; have hkp := hs.famKeys 3 rfl; have hlj := hlen j
       have hjj : j < K := by simpa using g29
       refine zAd (zA4 (zAp (zA4 (zA2 (J0 rfl (J4 rfl (zA6 (zA4 (zA2 (J1 rfl (Jx rfl (Jp (o' := 1) uz280 rfl sz278 rfl rfl rfl (Qc uz278 rfl hs 1 rfl rfl ?_))))))))))))); refine J0 rfl (Qa (zE2 (hs.mapAt 2 rfl) zE9 uz278 uz3 ze22 rfl rfl hox) (Jc rfl (Ju (v := o.getD (.slice none 0 0)) rfl rfl (Ju (v := .bool _) rfl rfl ?_))))
       refine Jl (v := o.getD (.slice none 0 0)) rfl (J5 rfl (zA6 (zA4 (zA4 (zA2 (J2 rfl (Jr rfl (zA6 (zB2 rfl ?_ ?_)))))))))
       ·
        intro h39; replace h39 := zFc h39; refine zA4 (zA2 (Jq zCq rfl rfl (hE.cellW hs 105 (by decide) rfl) (J6 rfl (zA6 (zAe (zBi (v := zAk ad _) rfl rfl ?_))))))
        have hno : zAx ps ((j : Nat) : Int) = none := by cases o with | none => exact hox | some v => cases h39
        have hp : st.complete1 id K = (105, st) := by simp only [St.complete1, ho]; rw [if_neg (by omega), if_neg (fun h => by have := haveAll_iff.1 h j (by omega); rw [fam_none hkp.symm hno] at this; cases this)]
        rw [hp]; have h2 := Mem.closeU (u := u) hs.tail; have h3 := Mem.famPut (R := upC) (k := id) h2 4 rfl (fun _ h => h); rw [zDm hu, zDm ho] at h3; exact ⟨_, rfl, rfl, h3.closeS⟩
       ·
        intro h39; replace h39 := zEr h39; obtain ⟨v, rfl⟩ := Option.isSome_iff_exists.1 h39; obtain ⟨b, hb⟩ := fam_some hkp.symm hox; obtain ⟨a2, c2, he2, hr⟩ := hs.bytesAt 3 rfl hb; rw [hox] at he2
        cases he2
        have hbl := hsm.2 id u (zCy ho) _ b (zCy hb); have hsrc := zCr (P := Tryz.prog) zC6 (hr.seq hs) (zCd b); have hle : j * 4194304 ≤ 255 * 4194304 := Nat.mul_le_mul_right _ (by omega); refine zAd (zA2 (J7 rfl (J7 rfl (zD3 hs rfl 0 rfl zC6 in5 rfl rfl rfl hsrc (by simp only [zAw]; omega) (by simp only [zAw]; omega) ?_)))); clear hs; intro a45 c45 w hs; simp only [zzs, zzz] at hs; have e45 := outK_succ hb; rw [show zAn (outK u.parts j) ++ zAn b = zAn (outK u.parts (j + 1)) by rw [e45]; simp [zAn]] at hs
        have e46 : (zAn (outK u.parts j)).length + (zAn b).length = (outK u.parts (j + 1)).length := by rw [e45]; simp [zAn]
        rw [e46] at hs; refine Jb rfl (zA6 (zA2 (Jo rfl rfl rfl (inI (by omega) (by omega)) (J0 rfl (zA6 ?_))))); exact ⟨(j + 1, a45, c45), by simp only; omega, ⟨by simp only; omega, fun i hi => (Nat.lt_succ_iff_lt_or_eq.1 hi).elim (hall i) (fun e => by rw [e, hb]; rfl), hs⟩, ⟨show Value.slice a45 ((zAn (outK u.parts j)).length + (zAn b).length) c45 = Value.slice a45 (outK u.parts (j + 1)).length c45 from by rw [e46], rfl, trivial⟩, by repeat (first | exact Out.mix _ _ _ | refine Out.updo rfl ?_ | refine Out.upd rfl ?_ | refine Out.mixIn rfl ?_)⟩
      ·
       intro h29; have g29 := of_decide_eq_false h29
       have hjK : j = K := by (have := g29; simp only at this; omega)
       subst hjK; refine zBm rfl (zA4 (zAq zBk (hs.drop 5) ?_)); intro w tr hK; replace hs := tr _ hs; clear tr; refine Qd 0 rfl uz30 rfl (fun w hs => hs.cellAt 11 rfl rfl) hK (Q7 1 rfl rfl hK (Q6 2 rfl (o' := 0) uz92 rfl sz89 rfl rfl rfl hK (Qd 3 rfl uz89 rfl (fun w hs => hs.cellAt 4 rfl rfl) hK (Q0 4 rfl rfl hK (Q7 5 rfl rfl hK (Q6 6 rfl (o' := 0) uz280 rfl sz9 rfl rfl rfl hK ?_))))))
       refine Qd 7 rfl uz9 rfl (fun w hs => hs.cellAt 1 rfl rfl) hK (Q3 8 rfl rfl hK (zAc [9] ⟨⟨_, rfl, ?_⟩, trivial⟩)); refine zDq (v := .slice _ _ _) hs 5 rfl zEf uz89 uz9 rfl rfl rfl ?_; clear hs; intro w hs
       try simp only [zzs, zzz] at hs
       clear hK; have hK := hs.drop 5; refine zA6 ⟨hK, ?_⟩; refine zAs (by kernel_rfl) ?_; clear hK; refine zA4 (zAq zBk (hs.drop 7) ?_); intro w tr hK; replace hs := tr _ hs; clear tr; refine Qd 0 rfl uz30 rfl (fun w hs => hs.cellAt 11 rfl rfl) hK (Q7 1 rfl rfl hK (Q6 2 rfl (o' := 1) uz92 rfl sz90 rfl rfl rfl hK (Qd 3 rfl uz90 rfl (fun w hs => hs.cellAt 4 rfl rfl) hK (Qd 4 rfl uz3 rfl (fun w hs => hs.cellAt 10 rfl rfl) hK (zAc [5] ⟨⟨_, rfl, ?_⟩, trivial⟩))))); refine lw_delete hs rfl 7 rfl zE9 uz90 uz3 rfl rfl ?_; clear hs
       intro w hs
       try simp only [zzs, zzz] at hs
       clear hK; have hK := hs.drop 7; refine zA6 ⟨hK, ?_⟩; refine zAs (by kernel_rfl) ?_; clear hK; refine zA4 (zA2 (J3 rfl (zA6 (zAe (zBi (v := .nilIface) rfl rfl ?_)))))
       have hp : st.complete1 id j = (0, { st with objs := zC1 st.objs u.name (outK u.parts j), ups := zDe st.ups id }) := by simp only [St.complete1, ho]; rw [if_neg (by omega), if_pos (haveAll_iff.2 (fun i hi => hall i (by omega)))]; simp
       rw [hp]; have h1 := Mem.famPut (R := rdB) (k := u.name) (b := outK u.parts j) (hs.ownRd 0 rfl) 5 rfl (fun _ h => False.elim h); have h2 := Mem.famDel (R := upC) (k := id) h1 7 rfl hnd (fun _ h => h); exact ⟨_, rfl, (zB ad).symm, Mem.closeS (st := { st with objs := zC1 st.objs u.name (outK u.parts j), ups := zDe st.ups id }) (mo := mo) (mu := mu) (sv := .slice sa sn sc) (es := zC1 es u.name (.slice a (outK u.parts j).length c)) (us := zDe us id) (by simp only [zD2]; rw [up_adel]; exact h2.arr [3, 4, 5, 6, 7, 8] 9 (by decide))⟩
theorem complete_sl (hE : ErrG ad g) (hsm : st.small) (hs : Mem g w (zB8 p st :: M)) (hcl : st.calls < 4611686018427387904) (hfl : st.failed < 4611686018427387904) {id k : Int} {x : Nat} {st2 : St} (hk : st.run (St.complete1 id k) = (x, st2)) :
    Calls Tryz.prog 189 #[.pointer (some ⟨p, 0, none⟩), .int .i64 id, .int .i64 k] w (Ret fun v w' => v = zAk ad x ∧ Mem g w' (zB8 p st2 :: M)) := by
  have k1 : (st.run (St.complete1 id k)).1 = x := by rw [hk]
  have k2 : (st.run (St.complete1 id k)).2 = st2 := by rw [hk]
  subst k1 k2; have hbs : st.begin.small := hsm; refine zAh Tryz.func189 rfl rfl ?_
  refine zA4 (zA2 (zBp (v := .pointer (some _)) hs rfl rfl ?_)); clear hs; intro b3 w hs
  try simp only [zzs, zzz] at hs
  refine zBp (v := .int .i64 _) hs rfl rfl ?_; clear hs; intro b4 w hs
  try simp only [zzs, zzz] at hs
  refine zBp (v := .int .i64 _) hs rfl rfl ?_; clear hs; intro b5 w hs
  try simp only [zzs, zzz] at hs
  refine J3 rfl (zA6 (zA4 ?_)); replace hs := hs.pick 3 rfl; simp only [List.eraseIdx_cons_succ, List.eraseIdx_cons_zero] at hs; refine zA2 (Qc uz30 rfl hs 3 rfl rfl (Qa (zC9) (Qg en206 (call_err (cap := #[.pointer (some ⟨b3, 0, none⟩), .pointer (some ⟨b4, 0, none⟩), .pointer (some ⟨b5, 0, none⟩)]) hE hs hcl hfl (St.complete1 id k) en209 (fun w1 h1 => completeC_sl hE hbs h1)) ?_))); clear hs; rintro _ w ⟨rfl, hs⟩; exact J6 rfl (zA6 (zAe (zBi (v := zAk ad _) rfl rfl ⟨_, rfl, rfl, hs.arr [0] 4 (by decide)⟩)))
end
section
open Go.RowKit
attribute [local irreducible] zAk
variable {g w : World} {L M : List HP} {ad : Nat → Addr} {p q : Nat} {st : St}
theorem m111 : 111 ∈ zCb := by decide
theorem m107 : 107 ∈ zCb := by decide
theorem m106 : 106 ∈ zCb := by decide
theorem m105 : 105 ∈ zCb := by decide
theorem zFv {good : St → Nat × St} (hgc : ∀ st, (good st).2.calls = st.calls ∧ (good st).2.failed = st.failed) (st : St) : (st.run good).2.calls = st.calls + 1 ∧ (st.run good).2.failed ≤ st.failed + 1 := by
  unfold St.run
  split
  · exact ⟨rfl, by simp only [St.begin]; split <;> omega⟩
  · obtain ⟨h1, h2⟩ := hgc st.begin
    exact ⟨by rw [h1]; rfl, by rw [h2]; simp only [St.begin]; split <;> omega⟩
theorem runs_code {good : St → Nat × St} (hg : ∀ st, (good st).1 = 0 ∨ (good st).1 ∈ zCb) (st : St) : (st.run good).1 = 0 ∨ (st.run good).1 ∈ zCb := by
  unfold St.run
  split
  · exact .inr m111
  · split
    · exact .inr m111
    · exact hg _
theorem again_err (good : St → Nat × St) (P : St → Prop) (hE : ErrG ad g) {f : FuncId} {cap : Array Value} {t : Nat} {a : Int} (ha : 0 ≤ a ∧ a < 1000000000000) (ht : t ≤ 8) (hs : Mem g w (zBh q p t a :: zB8 p st :: M)) (hcl : st.calls + 8 < 4611686018427387904) (hfl : st.failed + 8 < 4611686018427387904) (hP : P st)
    (hPs : ∀ st, P st → P (st.run good).2) (hgc : ∀ st, (good st).2.calls = st.calls ∧ (good st).2.failed = st.failed) (hgd : ∀ st, (good st).1 = 0 ∨ (good st).1 ∈ zCb) (hf : ∀ args w, (callFunc f args).run Tryz.prog w = .ok (.enter f args) w)
    (hdo : ∀ st a w1, st.calls < 4611686018427387904 → st.failed < 4611686018427387904 → P st → Mem g w1 (zBh q p t a :: zB8 p st :: M) → Calls Tryz.prog f cap w1 (Ret fun v w2 => v = zAk ad (st.run good).1 ∧ Mem g w2 (zBh q p t a :: zB8 p (st.run good).2 :: M)))
    {lost : Bool} {x n : Nat} {st2 : St} (hk : zBo (fun s => s.run good) t st = (lost, x, n, st2)) :
    Calls Tryz.prog 183 #[.pointer (some ⟨q, 0, none⟩), .func (.func f) #[] cap] w (Ret fun v w' => v = .tuple #[.bool lost, zAk ad x] ∧ Mem g w' (zBh q p t (a + (n : Nat)) :: zB8 p st2 :: M)) := by
  have := again_sl (fun s => zB8 p s :: M) (fun s => s.run good) (fun n s => s.calls + n < 4611686018427387904 ∧ s.failed + n < 4611686018427387904 ∧ P s) hE ha ht hs ⟨by omega, by omega, hP⟩
    (fun n s h => ⟨by have := (zFv hgc s).1; omega, by have := (zFv hgc s).2; omega, hPs s h.2.2⟩) (fun n s _ => runs_code hgd s) hf (fun n s a w1 h hs => hdo s a w1 (by omega) (by omega) h.2.2 hs)
  rw [hk] at this; exact this
theorem again_code {good : St → Nat × St} (hgd : ∀ st, (good st).1 = 0 ∨ (good st).1 ∈ zCb) : ∀ (t : Nat) (st : St), (zBo (fun s => s.run good) t st).2.1 = 0 ∨ (zBo (fun s => s.run good) t st).2.1 ∈ zCb
  | 0, _ => .inr m111
  | t + 1, st => by
    simp only [zBo]
    split
    · exact again_code hgd t _
    · exact runs_code hgd st
theorem part1_counts (id k : Int) (b : List UInt8) (st : St) : (st.part1 id k b).2.calls = st.calls ∧ (st.part1 id k b).2.failed = st.failed := by
  unfold St.part1; split
  · exact ⟨rfl, rfl⟩
  · split <;> exact ⟨rfl, rfl⟩
theorem part1_code (id k : Int) (b : List UInt8) (st : St) : (st.part1 id k b).1 = 0 ∨ (st.part1 id k b).1 ∈ zCb := by
  unfold St.part1; split
  · exact .inr m107
  · split
    · exact .inr m105
    · exact .inl rfl
theorem clPartC_sl (hE : ErrG ad g) {t a : Int} {cb ib kb bb : Nat} {id k : Int} {b : List UInt8} {ba : Option Addr} {m c : Nat} (hcl : st.calls < 4611686018427387904) (hfl : st.failed < 4611686018427387904) (hs : Mem g w (zBh q p t a :: zB8 p st :: cells bb [.slice ba m c] 22 :: cells kb [.int .i64 k] 3 :: cells ib [.int .i64 id] 3 :: cells cb [.pointer (some ⟨q, 0, none⟩)] 33 :: M)) (hr : Rd g M (.slice ba m c) (zAn b)) (hlen : b.length ≤ 1073741824) :
    Calls Tryz.prog 186 #[.pointer (some ⟨cb, 0, none⟩), .pointer (some ⟨ib, 0, none⟩), .pointer (some ⟨kb, 0, none⟩), .pointer (some ⟨bb, 0, none⟩)] w (Ret fun v w' => v = zAk ad (st.run (St.part1 id k b)).1 ∧ Mem g w' (zBh q p t a :: zB8 p (st.run (St.part1 id k b)).2 :: cells bb [.slice ba m c] 22 :: cells kb [.int .i64 k] 3 :: cells ib [.int .i64 id] 3 :: cells cb [.pointer (some ⟨q, 0, none⟩)] 33 :: M)) := by
  refine zAh Tryz.func186 rfl rfl ?_
  refine zA4 (zA2 (J3 rfl (zA6 (zA4 (zAq zBk (hs.drop 1) ?_))))); intro w tr hK; replace hs := tr _ hs; clear tr; refine Qd 0 rfl uz33 rfl (fun w hs => hs.cellAt 4 rfl rfl) hK (Q7 1 rfl rfl hK (Q6 2 rfl (o' := 0) uz162 rfl sz30 rfl rfl rfl hK (Qd 3 rfl uz30 rfl (fun w hs => hs.cellAt 0 rfl rfl) hK (Qd 4 rfl uz3 rfl (fun w hs => hs.cellAt 3 rfl rfl) hK (Qd 5 rfl uz3 rfl (fun w hs => hs.cellAt 2 rfl rfl) hK ?_)))))
  refine Qd 6 rfl zC6 rfl (fun w hs => hs.cellAt 1 rfl rfl) hK (zAc [7] ⟨⟨_, rfl, ?_⟩, trivial⟩); refine Qg en187 (part_sl hE (hs.pick 1 rfl) hcl hfl (id := id) (k := k) (b := b) (fun w hs => hr w (hs.suffix 5 rfl)) hlen rfl) ?_; clear hs; rintro _ w ⟨rfl, hs⟩; clear hK; have hK := hs.tail; refine zA6 ⟨hK, ?_⟩; refine Q1 8 rfl rfl hK (zAs (by kernel_rfl) ?_); clear hK; exact zAe (zBi (v := zAk ad _) rfl rfl ⟨_, rfl, rfl, hs.arr [1, 0] 2 (by decide)⟩)
theorem clPart_sl (hE : ErrG ad g) {t : Nat} {a : Int} (ha : 0 ≤ a ∧ a < 1000000000000) (ht : t ≤ 8) (hs : Mem g w (zBh q p t a :: zB8 p st :: M)) (hcl : st.calls + 8 < 4611686018427387904) (hfl : st.failed + 8 < 4611686018427387904)
    {id k : Int} {b : List UInt8} {ba : Option Addr} {m c : Nat} (hr : Rd g M (.slice ba m c) (zAn b)) (hlen : b.length ≤ 1073741824) {lost : Bool} {x n : Nat} {st2 : St} (hk : zBo (fun s => s.run (St.part1 id k b)) t st = (lost, x, n, st2)) :
    Calls Tryz.prog 147 #[.pointer (some ⟨q, 0, none⟩), .int .i64 id, .int .i64 k, .slice ba m c] w (Ret fun v w' => v = zAk ad x ∧ Mem g w' (zBh q p t (a + (n : Nat)) :: zB8 p st2 :: M)) := by
  refine zAh Tryz.func147 rfl rfl ?_
  refine zA4 (zA2 (zBp (v := .pointer (some _)) hs rfl rfl ?_)); clear hs; intro b4 w hs
  try simp only [zzs, zzz] at hs
  refine zBp (v := .int .i64 _) hs rfl rfl ?_; clear hs; intro b5 w hs
  try simp only [zzs, zzz] at hs
  refine zBp (v := .int .i64 _) hs rfl rfl ?_; clear hs; intro b6 w hs
  try simp only [zzs, zzz] at hs
  refine zBp (v := .slice _ _ _) hs rfl rfl ?_; clear hs; intro b7 w hs
  try simp only [zzs, zzz] at hs
  refine J3 rfl (zA6 (zA4 ?_)); replace hs := hs.arr [4, 5, 0, 1, 2, 3] 6 (by decide); simp only [List.filterMap, List.getElem?_cons_succ, List.getElem?_cons_zero, List.drop_succ_cons, List.drop_zero, List.cons_append, List.nil_append] at hs; refine zA2 (Qc uz33 rfl hs 5 rfl rfl (Qa (zC9) ?_))
  refine Qg en183 (again_err (cap := #[.pointer (some ⟨b4, 0, none⟩), .pointer (some ⟨b5, 0, none⟩), .pointer (some ⟨b6, 0, none⟩), .pointer (some ⟨b7, 0, none⟩)]) (St.part1 id k b) (fun _ => True) hE ha ht hs hcl hfl trivial (fun _ _ => trivial) (part1_counts id k b) (part1_code id k b) en186 (fun s a w1 h1 h2 _ hs => clPartC_sl hE h1 h2 hs hr hlen) hk) ?_; clear hs; rintro _ w ⟨rfl, hs⟩; refine Jc rfl (Ju (v := .bool _) rfl rfl (Jg rfl rfl (J5 rfl (J6 rfl (zA6 (zA4 (zA2 (J8 rfl ?_))))))))
  exact J6 rfl (zA6 (zAe (zBi (v := zAk ad _) rfl rfl ⟨_, rfl, rfl, hs.arr [0, 1] 6 (by decide)⟩)))
end
section
open Go.RowKit
attribute [local irreducible] zAk
variable {g w : World} {L M : List HP} {ad : Nat → Addr} {p q : Nat} {st : St}
theorem run_neerr3 {ρ : Env} {w : World} {dst : Option Tmp} {ty : TypeId} {pos : String} {aft : Array Edge} {x y : Operand} {u : TypeId} {Lc : List Nat} {ad : Nat → Addr} {B : Nat} (h : Errs Lc ad B w) {c d : Nat} (hc : c = 0 ∨ c ∈ Lc) (hd : d ∈ Lc) (hx : ev ρ x = zAk ad c) (hy : ev ρ y = zAk ad d) : (execOp (ev ρ) ⟨dst, .binOp .neq 27 x y u, ty, pos, aft, none⟩).run Tryz.prog w = .ok (.value (.bool (!decide (c = d)))) w := by
  have hgd := guard_code ad .neq 27 x y (w := w) c (h.pos d hd); simp only [execOp, hx, hy, Sem.run_bind, hgd, binOp_errN, equal_err h hc hd, Result.andThen_ok, Sem.run_pure]
theorem again_codeS {σ : Type} {step : σ → Nat × σ} (h : ∀ s, (step s).1 = 0 ∨ (step s).1 ∈ zCb) : ∀ (t : Nat) (s : σ), (zBo step t s).2.1 = 0 ∨ (zBo step t s).2.1 ∈ zCb
  | 0, _ => .inr m111
  | t + 1, s => by
    simp only [zBo]
    split
    · exact again_codeS h t _
    · exact h _
theorem zFl (n : ByteArray) (st : St) : (st.startR n).2.2.calls = st.calls + 1 ∧ (st.startR n).2.2.failed ≤ st.failed + 1 ∧ (st.startR n).2.2.ids ≤ st.ids + 1 := by
  have h : ∀ s : St, (s.start1 n).2.2.calls = s.calls ∧ (s.start1 n).2.2.failed = s.failed ∧ (s.start1 n).2.2.ids ≤ s.ids + 1 := fun s => by unfold St.start1; split <;> exact ⟨rfl, rfl, by simp⟩
  have hb : st.begin.calls = st.calls + 1 ∧ st.begin.failed ≤ st.failed + 1 ∧ st.begin.ids = st.ids := ⟨rfl, by simp only [St.begin]; split <;> omega, rfl⟩; obtain ⟨h1, h2, h3⟩ := h st.begin
  unfold St.startR
  split
  · exact ⟨hb.1, hb.2.1, by rw [hb.2.2]; omega⟩
  · split <;> exact ⟨by rw [h1]; exact hb.1, by rw [h2]; exact hb.2.1, by rw [hb.2.2] at h3; exact h3⟩
theorem startR_code (n : ByteArray) (st : St) : (st.startR n).2.1 = 0 ∨ (st.startR n).2.1 ∈ zCb := by
  unfold St.startR St.start1
  split
  · exact .inr m111
  · split
    · exact .inr m111
    · split
      · exact .inl rfl
      · exact .inr m106
abbrev zBr (n : ByteArray) (s : St × Int) : Nat × St × Int := ((s.1.startR n).2.1, (s.1.startR n).2.2, (s.1.startR n).1)
theorem clStartC_sl (hE : ErrG ad g) {t a : Int} {cb nb ib : Nat} {n : ByteArray} {i : Int} (hid : st.ids < 4611686018427387904) (hcl : st.calls < 4611686018427387904) (hfl : st.failed < 4611686018427387904) (hs : Mem g w (zBh q p t a :: zB8 p st :: cells ib [.int .i64 i] 3 :: cells nb [.string n] 9 :: cells cb [.pointer (some ⟨q, 0, none⟩)] 33 :: M)) :
    Calls Tryz.prog 184 #[.pointer (some ⟨cb, 0, none⟩), .pointer (some ⟨nb, 0, none⟩), .pointer (some ⟨ib, 0, none⟩)] w (Ret fun v w' => v = zAk ad (st.startR n).2.1 ∧ Mem g w' (zBh q p t a :: zB8 p (st.startR n).2.2 :: cells ib [.int .i64 (st.startR n).1] 3 :: cells nb [.string n] 9 :: cells cb [.pointer (some ⟨q, 0, none⟩)] 33 :: M)) := by
  refine zAh Tryz.func184 rfl rfl ?_
  refine zA4 (zA2 (J3 rfl (zA6 (zA4 (zAq zBk ((hs.drop 1).drop 1) ?_))))); intro w tr hK; replace hs := tr _ hs; clear tr; refine Qd 0 rfl uz33 rfl (fun w hs => hs.cellAt 2 rfl rfl) hK (Q7 1 rfl rfl hK (Q6 2 rfl (o' := 0) uz162 rfl sz30 rfl rfl rfl hK (Qd 3 rfl uz30 rfl (fun w hs => hs.cellAt 0 rfl rfl) hK (Qd 4 rfl uz9 rfl (fun w hs => hs.cellAt 1 rfl rfl) hK (zAc [5] ⟨⟨_, rfl, ?_⟩, trivial⟩))))); refine Qg en185 (start_sl hE (hs.pick 1 rfl) hid hcl hfl (n := n) rfl) ?_
  clear hs; rintro _ w ⟨rfl, hs⟩; clear hK; have hK := hs.tail.drop 1; refine zA6 ⟨hK, ?_⟩; refine Q4 6 rfl (v := .tuple _) rfl hK (Q8 7 rfl (v := .int .i64 _) rfl rfl hK (Q8 8 rfl (v := zAk ad _) rfl rfl hK (zAc [9] ⟨⟨_, rfl, ?_⟩, trivial⟩))); refine zB0 (v := .int .i64 _) hs 2 rfl sz3 rfl rfl rfl rfl ?_; clear hs; intro w hs
  try simp only [zzs, zzz] at hs
  clear hK; have hK := hs.tail.drop 1; refine zA6 ⟨hK, ?_⟩; refine Q1 10 rfl rfl hK (zAs (by kernel_rfl) ?_); clear hK; exact zA4 (zA2 (J8 rfl (J6 rfl (zA6 (zAe (zBi (v := zAk ad _) rfl rfl ⟨_, rfl, rfl, hs.arr [1, 0] 2 (by decide)⟩))))))
theorem clStart_sl (hE : ErrG ad g) {t : Nat} {a : Int} (ha : 0 ≤ a ∧ a < 1000000000000) (ht : t ≤ 8) (hs : Mem g w (zBh q p t a :: zB8 p st :: M)) (hid : st.ids + 8 < 4611686018427387904) (hcl : st.calls + 8 < 4611686018427387904) (hfl : st.failed + 8 < 4611686018427387904)
    {nm : ByteArray} {lost : Bool} {x n : Nat} {st2 : St} {i : Int} (hk : zBo (zBr nm) t (st, 0) = (lost, x, n, st2, i)) :
    Calls Tryz.prog 145 #[.pointer (some ⟨q, 0, none⟩), .string nm] w (Ret fun v w' => v = .tuple #[.int .i64 i, zAk ad x] ∧ Mem g w' (zBh q p t (a + (n : Nat)) :: zB8 p st2 :: M)) := by
  refine zAh Tryz.func145 rfl rfl ?_
  refine zA4 (zA2 (zBp (v := .pointer (some _)) hs rfl rfl ?_)); clear hs; intro b2 w hs
  try simp only [zzs, zzz] at hs
  refine zBp (v := .string _) hs rfl rfl ?_; clear hs; intro b3 w hs
  try simp only [zzs, zzz] at hs
  refine J4 rfl (J3 rfl (zA6 (zA4 (zA2 (zBj hs rfl ze3 ?_))))); clear hs; intro b6 w hs
  try simp only [zzs, zzz] at hs
  refine zB0 (v := .int .i64 _) hs 0 rfl sz3 rfl rfl rfl rfl ?_; clear hs; intro w hs
  try simp only [zzs, zzz] at hs
  refine zA6 (zA4 ?_); replace hs := hs.arr [3, 4, 0, 1, 2] 5 (by decide); simp only [List.filterMap, List.getElem?_cons_succ, List.getElem?_cons_zero, List.drop_succ_cons, List.drop_zero, List.cons_append, List.nil_append] at hs; refine zA2 (Qc uz33 rfl hs 4 rfl rfl (Qa (zC9) ?_))
  refine Qg en183 (again_sl (cap := #[.pointer (some ⟨b2, 0, none⟩), .pointer (some ⟨b3, 0, none⟩), .pointer (some ⟨b6, 0, none⟩)]) (s := (st, (0 : Int))) (fun x : St × Int => zB8 p x.1 :: cells b6 [.int .i64 x.2] 3 :: cells b3 [.string nm] 9 :: cells b2 [.pointer (some ⟨q, 0, none⟩)] 33 :: M) (zBr nm) (fun n x => x.1.calls + n < 4611686018427387904 ∧ x.1.failed + n < 4611686018427387904 ∧ x.1.ids + n < 4611686018427387904) hE ha ht hs ⟨by simp only; omega, by simp only; omega, by simp only; omega⟩ (fun n s h => by have := zFl nm s.1; simp only [zBr]; omega) (fun n s _ => startR_code nm s.1) en184 (fun n s a w1 h hs => clStartC_sl hE (by omega) (by omega) (by omega) hs)) ?_; clear hs
  rintro _ w ⟨rfl, hs⟩; refine Jc rfl (Ju (v := .bool _) rfl rfl (Jg rfl rfl (J5 rfl (J6 rfl (zA6 ?_))))); rw [hk] at hs; refine zA4 (zA2 (Qc uz3 rfl hs 2 rfl rfl (J8 rfl (J4 rfl (J6 rfl (zA6 (zAe (zEd (v := .int .i64 _) (v2 := zAk ad _) rfl rfl rfl ?_)))))))); exact ⟨_, rfl, by rw [hk], hs.arr [0, 1] 5 (by decide)⟩
theorem zDp (n : ByteArray) (st : St) : (st.headR n).2.2.2 = st.begin := by unfold St.headR; split <;> (try split) <;> rfl
theorem begin_counts (st : St) : st.begin.calls = st.calls + 1 ∧ st.begin.failed ≤ st.failed + 1 := ⟨rfl, by simp only [St.begin]; split <;> omega⟩
theorem headR_code (n : ByteArray) (st : St) : (st.headR n).2.2.1 = 0 ∨ (st.headR n).2.2.1 ∈ zCb := by
  unfold St.headR St.head1
  split
  · exact .inr m111
  · cases zAx st.begin.objs n with
    | none => exact .inr m107
    | some b => exact .inl rfl
abbrev zC5 (n : ByteArray) (s : St × Int × Int) : Nat × St × Int × Int := ((s.1.headR n).2.2.1, (s.1.headR n).2.2.2, (s.1.headR n).1, (s.1.headR n).2.1)
theorem clHeadC_sl (hE : ErrG ad g) (hsm : st.small) {t a : Int} {cb nb lb ub : Nat} {n : ByteArray} {i j : Int} (hcl : st.calls < 4611686018427387904) (hfl : st.failed < 4611686018427387904) (hs : Mem g w (zBh q p t a :: zB8 p st :: cells ub [.int .u32 j] 64 :: cells lb [.int .i64 i] 3 :: cells nb [.string n] 9 :: cells cb [.pointer (some ⟨q, 0, none⟩)] 33 :: M)) :
    Calls Tryz.prog 210 #[.pointer (some ⟨cb, 0, none⟩), .pointer (some ⟨nb, 0, none⟩), .pointer (some ⟨lb, 0, none⟩), .pointer (some ⟨ub, 0, none⟩)] w (Ret fun v w' => v = zAk ad (st.headR n).2.2.1 ∧ Mem g w' (zBh q p t a :: zB8 p (st.headR n).2.2.2 :: cells ub [.int .u32 (st.headR n).2.1] 64 :: cells lb [.int .i64 (st.headR n).1] 3 :: cells nb [.string n] 9 :: cells cb [.pointer (some ⟨q, 0, none⟩)] 33 :: M)) := by
  refine zAh Tryz.func210 rfl rfl ?_
  refine zA4 (zA2 (J3 rfl (zA6 (zA4 (zAq zBk (((hs.drop 1).drop 1).drop 1) ?_))))); intro w tr hK; replace hs := tr _ hs; clear tr; refine Qd 0 rfl uz33 rfl (fun w hs => hs.cellAt 2 rfl rfl) hK (Q7 1 rfl rfl hK (Q6 2 rfl (o' := 0) uz162 rfl sz30 rfl rfl rfl hK (Qd 3 rfl uz30 rfl (fun w hs => hs.cellAt 0 rfl rfl) hK (Qd 4 rfl uz9 rfl (fun w hs => hs.cellAt 1 rfl rfl) hK (zAc [5] ⟨⟨_, rfl, ?_⟩, trivial⟩))))); refine Qg en211 (head_sl hE hsm (hs.pick 1 rfl) hcl hfl n rfl) ?_
  clear hs; rintro _ w ⟨rfl, hs⟩; clear hK; have hK := (hs.tail.drop 1).drop 1; refine zA6 ⟨hK, ?_⟩; refine Q4 6 rfl (v := .tuple _) rfl hK (Q8 7 rfl (v := .int .i64 _) rfl rfl hK (Q8 8 rfl (v := .int .u32 _) rfl rfl hK (Q8 9 rfl (v := zAk ad _) rfl rfl hK (zAc [10] ⟨⟨_, rfl, ?_⟩, trivial⟩)))); refine zB0 (v := .int .i64 _) hs 3 rfl sz3 rfl rfl rfl rfl ?_; clear hs; intro w hs
  try simp only [zzs, zzz] at hs
  clear hK; have hK := (hs.tail.drop 1).drop 1; refine zA6 ⟨hK, ?_⟩; refine zAc [11] ⟨⟨_, rfl, ?_⟩, trivial⟩; refine zB0 (v := .int .u32 _) hs 2 rfl sz64 rfl rfl rfl rfl ?_; clear hs; intro w hs
  try simp only [zzs, zzz] at hs
  clear hK; have hK := (hs.tail.drop 1).drop 1; refine zA6 ⟨hK, ?_⟩; refine Q1 12 rfl rfl hK (zAs (by kernel_rfl) ?_); clear hK; exact zA4 (zA2 (J8 rfl (J6 rfl (zA6 (zAe (zBi (v := zAk ad _) rfl rfl ⟨_, rfl, rfl, hs.arr [1, 0] 2 (by decide)⟩))))))
theorem clHead_sl (hE : ErrG ad g) (hsm : st.small) {t : Nat} {a : Int} (ha : 0 ≤ a ∧ a < 1000000000000) (ht : t ≤ 8) (hs : Mem g w (zBh q p t a :: zB8 p st :: M)) (hcl : st.calls + 8 < 4611686018427387904) (hfl : st.failed + 8 < 4611686018427387904)
    {nm : ByteArray} {lost : Bool} {x n : Nat} {st2 : St} {i j : Int} (hk : zBo (zC5 nm) t (st, 0, 0) = (lost, x, n, st2, i, j)) :
    Calls Tryz.prog 190 #[.pointer (some ⟨q, 0, none⟩), .string nm] w (Ret fun v w' => v = .tuple #[.int .i64 i, .int .u32 j, zAk ad x] ∧ Mem g w' (zBh q p t (a + (n : Nat)) :: zB8 p st2 :: M)) := by
  refine zAh Tryz.func190 rfl rfl ?_
  refine zA4 (zA2 (zBp (v := .pointer (some _)) hs rfl rfl ?_)); clear hs; intro b2 w hs
  try simp only [zzs, zzz] at hs
  refine zBp (v := .string _) hs rfl rfl ?_; clear hs; intro b3 w hs
  try simp only [zzs, zzz] at hs
  refine J4 rfl (Jl (v := .int .u32 _) rfl (J3 rfl (zA6 (zA4 (zA2 (zBj hs rfl ze3 ?_)))))); clear hs; intro b7 w hs
  try simp only [zzs, zzz] at hs
  refine zBj hs rfl ze64 ?_; clear hs; intro b8 w hs
  try simp only [zzs, zzz] at hs
  refine zB0 (v := .int .i64 _) hs 1 rfl sz3 rfl rfl rfl rfl ?_; clear hs; intro w hs
  try simp only [zzs, zzz] at hs
  refine zB0 (v := .int .u32 _) hs 0 rfl sz64 rfl rfl rfl rfl ?_; clear hs; intro w hs
  try simp only [zzs, zzz] at hs
  refine zA6 (zA4 ?_); replace hs := hs.arr [4, 5, 0, 1, 2, 3] 6 (by decide); simp only [List.filterMap, List.getElem?_cons_succ, List.getElem?_cons_zero, List.drop_succ_cons, List.drop_zero, List.cons_append, List.nil_append] at hs; refine zA2 (Qc uz33 rfl hs 5 rfl rfl (Qa (zC9) ?_))
  refine Qg en183 (again_sl (cap := #[.pointer (some ⟨b2, 0, none⟩), .pointer (some ⟨b3, 0, none⟩), .pointer (some ⟨b7, 0, none⟩), .pointer (some ⟨b8, 0, none⟩)]) (s := (st, (0 : Int), (0 : Int))) (fun x : St × Int × Int => zB8 p x.1 :: cells b8 [.int .u32 x.2.2] 64 :: cells b7 [.int .i64 x.2.1] 3 :: cells b3 [.string nm] 9 :: cells b2 [.pointer (some ⟨q, 0, none⟩)] 33 :: M) (zC5 nm) (fun n x => x.1.calls + n < 4611686018427387904 ∧ x.1.failed + n < 4611686018427387904 ∧ x.1.small) hE ha ht hs ⟨by simp only; omega, by simp only; omega, hsm⟩ (fun n s h => by have := begin_counts s.1; simp only [zC5, zDp]; exact ⟨by omega, by omega, h.2.2⟩) (fun n s _ => headR_code nm s.1) en210 (fun n s a w1 h hs => clHeadC_sl hE h.2.2 (by omega) (by omega) hs)) ?_
  clear hs; rintro _ w ⟨rfl, hs⟩; refine Jc rfl (Ju (v := .bool _) rfl rfl (Jg rfl rfl (J5 rfl (J6 rfl (zA6 ?_))))); rw [hk] at hs; refine zA4 (zAq zBk hs ?_); intro w tr hK; replace hs := tr _ hs; clear tr; refine Qd 0 rfl uz3 rfl (fun w hs => hs.cellAt 3 rfl rfl) hK (Qd 1 rfl uz64 rfl (fun w hs => hs.cellAt 2 rfl rfl) hK (Q4 2 rfl (v := zAk ad _) rfl hK (Q5 3 rfl (v := .int .i64 _) rfl hK ?_)))
  refine Q5 4 rfl (v := .int .u32 _) rfl hK (Q1 5 rfl rfl hK (zAs (by kernel_rfl) ?_)); clear hK; refine zAe (res3 (v := .int .i64 _) (v2 := .int .u32 _) (v3 := zAk ad _) rfl rfl rfl rfl ?_); exact ⟨_, rfl, by rw [hk], hs.arr [0, 1] 6 (by decide)⟩
theorem zFg (id k : Int) (st : St) : (st.complete1 id k).2.calls = st.calls ∧ (st.complete1 id k).2.failed = st.failed := by
  unfold St.complete1; split
  · exact ⟨rfl, rfl⟩
  · split
    · exact ⟨rfl, rfl⟩
    · split <;> exact ⟨rfl, rfl⟩
theorem zGc (id k : Int) (st : St) : (st.complete1 id k).1 = 0 ∨ (st.complete1 id k).1 ∈ zCb := by
  unfold St.complete1; split
  · exact .inr m107
  · split
    · exact .inr m105
    · split
      · exact .inl rfl
      · exact .inr m105
theorem aput_mem {κ α : Type} [DecidableEq κ] {l : List (κ × α)} {k k' : κ} {v v' : α} (h : (k', v') ∈ zC1 l k v) : (k', v') = (k, v) ∨ (k', v') ∈ l := by
  induction l with
  | nil => simp [zC1] at h; exact .inl (by rw [h.1, h.2])
  | cons x l ih =>
    obtain ⟨a, b⟩ := x; simp only [zC1] at h
    split at h
    · rcases List.mem_cons.1 h with h | h
      · exact .inl h
      · exact .inr (List.mem_cons_of_mem _ h)
    · rcases List.mem_cons.1 h with h | h
      · exact .inr (by rw [h]; exact List.mem_cons_self ..)
      · rcases ih h with h | h
        · exact .inl h
        · exact .inr (List.mem_cons_of_mem _ h)
theorem adel_mem {κ α : Type} [DecidableEq κ] {l : List (κ × α)} {k k' : κ} {v' : α} (h : (k', v') ∈ zDe l k) : (k', v') ∈ l := by
  induction l with
  | nil => simp [zDe] at h
  | cons x l ih =>
    obtain ⟨a, b⟩ := x; simp only [zDe] at h
    split at h
    · exact List.mem_cons_of_mem _ h
    · rcases List.mem_cons.1 h with h | h
      · rw [h]; exact List.mem_cons_self ..
      · exact List.mem_cons_of_mem _ (ih h)
theorem zEg {st : St} (h : st.small) (id k : Int) : (st.complete1 id k).2.small := by
  unfold St.complete1
  split
  · exact h
  · rename_i u hu
    split
    · exact h
    · rename_i hk
      split
      · refine ⟨fun n b hm => ?_, fun i u hm => h.2 i u (adel_mem hm)⟩
        rcases aput_mem hm with hm | hm
        · simp only [Prod.mk.injEq] at hm
          rw [hm.2]; have := outK_len (h.2 id u (zCy hu)) k.toNat; have h2 : k.toNat * 4194304 ≤ 256 * 4194304 := Nat.mul_le_mul_right _ (by omega)
          omega
        · exact h.1 n b hm
      · exact h
theorem run_small {good : St → Nat × St} (hg : ∀ st : St, st.small → (good st).2.small) {st : St} (h : st.small) : (st.run good).2.small := by
  have hb : st.begin.small := h
  unfold St.run
  split
  · exact hb
  · exact hg _ hb
theorem againR_run {good : St → Nat × St} (hgc : ∀ st, (good st).2.calls = st.calls ∧ (good st).2.failed = st.failed) (hgs : ∀ st : St, st.small → (good st).2.small) : ∀ (t : Nat) (st : St), st.small → (zBo (fun s => s.run good) t st).2.2.2.calls ≤ st.calls + t ∧ (zBo (fun s => s.run good) t st).2.2.2.failed ≤ st.failed + t ∧ (zBo (fun s => s.run good) t st).2.2.2.small ∧ (zBo (fun s => s.run good) t st).2.2.1 ≤ t
  | 0, st, h => ⟨Nat.le_refl _, Nat.le_refl _, h, Nat.le_refl _⟩
  | t + 1, st, h => by
    have h1 := zFv hgc st; have h2 := run_small hgs h; have ih := againR_run hgc hgs t _ h2; simp only [zBo]
    split
    · exact ⟨by simp only; omega, by simp only; omega, ih.2.2.1, by simp only; omega⟩
    · exact ⟨by simp only; omega, by simp only; omega, h2, by simp only; omega⟩
theorem clCompleteC_sl (hE : ErrG ad g) (hsm : st.small) {t a : Int} {cb ib kb : Nat} {id k : Int} (hcl : st.calls < 4611686018427387904) (hfl : st.failed < 4611686018427387904) (hs : Mem g w (zBh q p t a :: zB8 p st :: cells kb [.int .i64 k] 3 :: cells ib [.int .i64 id] 3 :: cells cb [.pointer (some ⟨q, 0, none⟩)] 33 :: M)) :
    Calls Tryz.prog 188 #[.pointer (some ⟨cb, 0, none⟩), .pointer (some ⟨ib, 0, none⟩), .pointer (some ⟨kb, 0, none⟩)] w (Ret fun v w' => v = zAk ad (st.run (St.complete1 id k)).1 ∧ Mem g w' (zBh q p t a :: zB8 p (st.run (St.complete1 id k)).2 :: cells kb [.int .i64 k] 3 :: cells ib [.int .i64 id] 3 :: cells cb [.pointer (some ⟨q, 0, none⟩)] 33 :: M)) := by
  refine zAh Tryz.func188 rfl rfl ?_
  refine zA4 (zA2 (J3 rfl (zA6 (zA4 (zAq zBk (hs.drop 1) ?_))))); intro w tr hK; replace hs := tr _ hs; clear tr; refine Qd 0 rfl uz33 rfl (fun w hs => hs.cellAt 3 rfl rfl) hK (Q7 1 rfl rfl hK (Q6 2 rfl (o' := 0) uz162 rfl sz30 rfl rfl rfl hK (Qd 3 rfl uz30 rfl (fun w hs => hs.cellAt 0 rfl rfl) hK (Qd 4 rfl uz3 rfl (fun w hs => hs.cellAt 2 rfl rfl) hK (Qd 5 rfl uz3 rfl (fun w hs => hs.cellAt 1 rfl rfl) hK (zAc [6] ⟨⟨_, rfl, ?_⟩, trivial⟩))))))
  refine Qg en189 (complete_sl hE hsm (hs.pick 1 rfl) hcl hfl (id := id) (k := k) rfl) ?_; clear hs; rintro _ w ⟨rfl, hs⟩; clear hK; have hK := hs.tail; refine zA6 ⟨hK, ?_⟩; refine Q1 7 rfl rfl hK (zAs (by kernel_rfl) ?_); clear hK; exact zAe (zBi (v := zAk ad _) rfl rfl ⟨_, rfl, rfl, hs.arr [1, 0] 2 (by decide)⟩)
theorem clComplete_sl (hE : ErrG ad g) (hsm : st.small) {t : Nat} {a : Int} (ha : 0 ≤ a ∧ a < 900000000000) (ht : t ≤ 8) (hs : Mem g w (zBh q p t a :: zB8 p st :: M)) (hcl : st.calls + 16 < 4611686018427387904) (hfl : st.failed + 16 < 4611686018427387904)
    {id k size sum : Int} {nm : ByteArray} {lost l2 : Bool} {x y n m : Nat} {st2 st3 : St} {i j : Int} (hk : zBo (fun s => s.run (St.complete1 id k)) t st = (lost, x, n, st2)) (hq : zBo (zC5 nm) t (st2, 0, 0) = (l2, y, m, st3, i, j)) :
    Calls Tryz.prog 148 #[.pointer (some ⟨q, 0, none⟩), .int .i64 id, .int .i64 k, .string nm, .int .i64 size, .int .u32 sum] w
      (Ret fun v w' => v = zAk ad (if lost = true ∧ x = 107 then (if y = 111 then 111 else if y = 0 ∧ i = size ∧ j = sum then 0 else 107) else x) ∧ Mem g w' (zBh q p t (a + (if lost = true ∧ x = 107 then n + m else n : Nat)) :: zB8 p (if lost = true ∧ x = 107 then st3 else st2) :: M)) := by
  have hx := again_code (good := St.complete1 id k) (zGc id k) t st; have hst := againR_run (zFg id k) (fun st h => zEg h id k) t st hsm; rw [hk] at hx hst; simp only at hx hst; have hy := again_codeS (step := zC5 nm) (fun s => headR_code nm s.1) t (st2, 0, 0); rw [hq] at hy; simp only at hy; refine zAh Tryz.func148 rfl rfl ?_
  refine zA4 (zA2 (zBp (v := .pointer (some _)) hs rfl rfl ?_)); clear hs; intro b6 w hs
  try simp only [zzs, zzz] at hs
  refine zBp (v := .int .i64 _) hs rfl rfl ?_; clear hs; intro b7 w hs
  try simp only [zzs, zzz] at hs
  refine zBp (v := .int .i64 _) hs rfl rfl ?_; clear hs; intro b8 w hs
  try simp only [zzs, zzz] at hs
  refine J3 rfl (zA6 (zA4 ?_)); replace hs := hs.arr [3, 4, 0, 1, 2] 5 (by decide); simp only [List.filterMap, List.getElem?_cons_succ, List.getElem?_cons_zero, List.drop_succ_cons, List.drop_zero, List.cons_append, List.nil_append] at hs; refine zA2 (Qc uz33 rfl hs 4 rfl rfl (Qa (zC9) ?_))
  refine Qg en183 (again_err (cap := #[.pointer (some ⟨b6, 0, none⟩), .pointer (some ⟨b7, 0, none⟩), .pointer (some ⟨b8, 0, none⟩)]) (St.complete1 id k) St.small hE ⟨ha.1, by omega⟩ ht hs (by omega) (by omega) hsm (fun _ h => run_small (fun st h => zEg h id k) h) (zFg id k) (zGc id k) en188 (fun s a w1 h1 h2 hsm hs => clCompleteC_sl hE hsm h1 h2 hs) hk) ?_; clear hs; rintro _ w ⟨rfl, hs⟩; refine Jc rfl (Ju (v := .bool _) rfl rfl (Jg rfl rfl (J5 rfl (J6 rfl (zA6 (zA4 (zA4 (zA2 ?_))))))))
  refine J2 rfl (Jr rfl (J2 rfl (zB3 (t := _) (d := 26) rfl ?_ ?_)))
  ·
   intro h22; replace h22 := zFc h22; refine Qe rfl rfl (zCs h22) (Qe rfl rfl (zCs h22) (Qe rfl rfl (zCs h22) (Ja rfl (zCs h22) rfl (zA6 (zBc rfl rfl (zA4 (zA2 (J8 rfl (J6 rfl (zA6 (zAe ?_))))))))))); refine zBi (v := zAk ad _) rfl rfl ?_
   have hc : ¬ (lost = true ∧ x = 107) := by simp [h22]
   simp only [if_neg hc]; exact ⟨_, rfl, rfl, hs.arr [0, 1] 5 (by decide)⟩
  ·
   intro h22; replace h22 := zEr h22; refine zAl rfl rfl (zBt h22) (J8 rfl (zAl rfl rfl (zBt h22) (Jq zCq rfl rfl (hE.cellW hs 107 (by decide) rfl) (zAl rfl rfl (zBt h22) (Qa (run_neerr3 (hE.atW hs) hx m107 (c := x) (d := 107) rfl rfl) (J9 rfl (zBt h22) rfl (zA6 (zB2 rfl ?_ ?_))))))))
   ·
    intro h29; have g29 := zFj h29; refine zA4 (zA2 (J8 rfl (J6 rfl (zA6 (zAe (zBi (v := zAk ad _) rfl rfl ?_))))))
    have hc : ¬ (lost = true ∧ x = 107) := fun h => g29 h.2
    simp only [if_neg hc]; exact ⟨_, rfl, rfl, hs.arr [0, 1] 5 (by decide)⟩
   ·
    intro h29; have g29 := zFi h29; refine zAd (zA4 (zA2 (Qc uz33 rfl hs 4 rfl rfl (Je rfl (Qg en190 (clHead_sl hE hst.2.2.1 ⟨by omega, by omega⟩ ht hs (by omega) (by omega) hq) ?_))))); clear hs; rintro _ w ⟨rfl, hs⟩; refine Jc rfl (Ju (v := .int .i64 _) rfl rfl (Ju (v := .int .u32 _) rfl rfl (Jg rfl rfl (J4 rfl (Jl (v := .int .u32 _) rfl (J6 rfl (zA6 (zA4 (zAp ?_)))))))))
    refine zA4 (zA2 (J8 rfl (Jq zCq rfl rfl (hE.cellW hs 111 (by decide) rfl) (Qa (zEj (hE.atW hs) hy m111 (c := y) (d := 111) rfl rfl) (J5 rfl (zA6 (zB2 rfl ?_ ?_)))))))
    ·
     intro h42; have g42 := of_decide_eq_true h42; refine zA4 (zA2 (J8 rfl (J6 rfl (zA6 (zAe (zBi (v := zAk ad _) rfl rfl ?_)))))); have hc : lost = true ∧ x = 107 := ⟨h22, g29⟩; simp only [if_pos hc, if_pos g42]; exact ⟨_, rfl, by rw [g42], by simpa [Int.add_assoc] using hs.arr [0, 1] 5 (by decide)⟩
    ·
     intro h42; have g42 := of_decide_eq_false h42; refine zA4 (zA2 (J8 rfl (Qa (zDl (ad := ad) rfl) (J2 rfl (zB3 (t := _) (d := 47) rfl ?_ ?_)))))
     ·
      intro h46; have g46 := of_decide_eq_true h46; refine zAl rfl rfl h46 (J0 rfl (zAl rfl rfl h46 (J0 rfl (zAl rfl rfl h46 (Jw rfl rfl (Ja rfl h46 rfl (J2 rfl (zB3 (t := _) (d := 52) rfl ?_ ?_))))))))
      ·
       intro h50; have g50 := of_decide_eq_true h50; refine zAl rfl rfl h50 (Jm (v := .int .u32 _) rfl (zAl rfl rfl h50 (Jm (v := .int .u32 _) rfl (zAl rfl rfl h50 (Jw rfl rfl (Ja rfl h50 rfl (J5 rfl (zA6 (zB2 rfl ?_ ?_)))))))))
       ·
        intro h55; have g55 := of_decide_eq_true h55; refine zA4 (zA2 (J3 rfl (zA6 (zAe (zBi (v := .nilIface) rfl rfl ?_))))); have hc : lost = true ∧ x = 107 := ⟨h22, g29⟩; simp only [if_pos hc, if_neg g42]; rw [if_pos (by omega)]; exact ⟨_, rfl, by rw [zB], by simpa [Int.add_assoc] using hs.arr [0, 1] 5 (by decide)⟩
       ·
        intro h55; have g55 := of_decide_eq_false h55; refine zAd (zA4 (zA2 (J8 rfl (J6 rfl (zA6 (zAe (zBi (v := zAk ad _) rfl rfl ?_))))))); have hc : lost = true ∧ x = 107 := ⟨h22, g29⟩; simp only [if_pos hc, if_neg g42]; rw [if_neg (by omega)]; exact ⟨_, rfl, by rw [g29], by simpa [Int.add_assoc] using hs.arr [0, 1] 5 (by decide)⟩
      ·
       intro h50; have g50 := of_decide_eq_false h50; refine Qe rfl rfl h50 (Qe rfl rfl h50 (Qe rfl rfl h50 (J9 rfl h50 rfl (J5 rfl (zA6 (zAz rfl rfl (zAd (zA4 (zA2 (J8 rfl (J6 rfl ?_))))))))))); refine zA6 (zAe (zBi (v := zAk ad _) rfl rfl ?_)); have hc : lost = true ∧ x = 107 := ⟨h22, g29⟩; simp only [if_pos hc, if_neg g42]; rw [if_neg (by omega)]; exact ⟨_, rfl, by rw [g29], by simpa [Int.add_assoc] using hs.arr [0, 1] 5 (by decide)⟩
     ·
      intro h46; have g46 := of_decide_eq_false h46; refine Qe rfl rfl h46 (Qe rfl rfl h46 (Qe rfl rfl h46 (J9 rfl h46 rfl (J2 rfl (Qe rfl rfl rfl (Qe rfl rfl rfl (Qe rfl rfl rfl (J9 rfl rfl rfl (J5 rfl (zA6 ?_)))))))))); refine zAz rfl rfl (zAd (zA4 (zA2 (J8 rfl (J6 rfl (zA6 (zAe (zBi (v := zAk ad _) rfl rfl ?_))))))))
      have hc : lost = true ∧ x = 107 := ⟨h22, g29⟩; simp only [if_pos hc, if_neg g42]; rw [if_neg (by omega)]; exact ⟨_, rfl, by rw [g29], by simpa [Int.add_assoc] using hs.arr [0, 1] 5 (by decide)⟩
end
section
open Go.RowKit
attribute [local irreducible] zAk
variable {g w : World} {L M : List HP} {ad : Nat → Addr} {p : Nat} {st : St}
def nX : ByteArray := ⟨#[120]⟩
def nY : ByteArray := ⟨#[121]⟩
def oneSt (n : ByteArray) (l : List UInt8) (k : Nat) : St := { objs := [(n, l)], ups := [], ids := 0, script := [], calls := k, failed := 0 }
end
section
end
section
open Go.RowKit
attribute [local irreducible] zAk
variable {g w : World} {L M : List HP} {ad : Nat → Addr} {p q : Nat} {st : St}
theorem clComplete_x (hE : ErrG ad g) (hsm : st.small) {t : Nat} {a : Int} (ha : 0 ≤ a ∧ a < 900000000000) (ht : t ≤ 8) (hs : Mem g w (zBh q p t a :: zB8 p st :: M)) (hcl : st.calls + 16 < 4611686018427387904) (hfl : st.failed + 16 < 4611686018427387904)
    {id k size sum : Int} {nm : ByteArray} {lost l2 : Bool} {x y n m : Nat} {st2 st3 : St} {i j : Int} (hk : zBo (fun s => s.run (St.complete1 id k)) t st = (lost, x, n, st2)) (hq : zBo (zC5 nm) t (st2, 0, 0) = (l2, y, m, st3, i, j))
    {r N : Nat} {st4 : St} (hr : (if lost = true ∧ x = 107 then (if y = 111 then 111 else if y = 0 ∧ i = size ∧ j = sum then 0 else 107) else x) = r) (hN : (if lost = true ∧ x = 107 then n + m else n) = N) (h4 : (if lost = true ∧ x = 107 then st3 else st2) = st4) :
    Calls Tryz.prog 148 #[.pointer (some ⟨q, 0, none⟩), .int .i64 id, .int .i64 k, .string nm, .int .i64 size, .int .u32 sum] w
      (Ret fun v w' => v = zAk ad r ∧ Mem g w' (zBh q p t (a + (N : Nat)) :: zB8 p st4 :: M)) := by subst hr hN h4; exact clComplete_sl hE hsm ha ht hs hcl hfl hk hq
def tw (o : List (ByteArray × List UInt8)) (u : List (Int × Up)) (s : List Int) (c f : Nat) : St := { objs := o, ups := u, ids := 1, script := s, calls := c, failed := f }
def twU (b : List UInt8) : List (Int × Up) := [(1, ⟨nY, [(0, b)]⟩)]
end
section
open Go.RowKit
attribute [local irreducible] zAk
variable {g w : World} {L : List HP} {ad : Nat → Addr}
theorem partsN_lt {size e k : Nat} (h1 : 1 ≤ e) (hk : k < zBb size e) : k * e < size := by
  unfold zBb at hk
  have h2 : (size + e - 1) / e * e ≤ size + e - 1 := Nat.div_mul_le_self _ _; have h3 : (k + 1) * e ≤ (size + e - 1) / e * e := Nat.mul_le_mul_right e (by omega); rw [Nat.succ_mul] at h3
  omega
theorem partsN_end {size e : Nat} (h1 : 1 ≤ e) : size ≤ zBb size e * e := by
  unfold zBb
  have h2 := Nat.div_add_mod (size + e - 1) e; have h3 := Nat.mod_lt (size + e - 1) (show e > 0 by omega); rw [Nat.mul_comm] at h2
  omega
end
section
open Go.RowKit
attribute [local irreducible] zAk
variable {g w : World} {L M : List HP} {ad : Nat → Addr} {p q : Nat} {st : St}
structure Fair (size each parts : Nat) : Prop where
  h1 : 1 ≤ each
  h2 : each ≤ 1048576
  h3 : size ≤ 1048576
  hp : parts = zBb size each
  hm : parts ≤ 256
theorem fair_sl (hs : Mem g w L) {name : ByteArray} {size sum each parts : Nat} (h : Fair size each parts) : Calls Tryz.prog 144 #[.agg (planC name size sum each parts).toArray] w (Ret fun v w' => v = .bool true ∧ Mem g w' L) := hs.calls (fair_any h.h1 h.h2 h.h3 h.hp h.hm)
theorem step_start (hE : ErrG ad g) {t : Nat} {a : Int} (ha : 0 ≤ a ∧ a < 900000000000) (ht : t ≤ 8) (hs : Mem g w (zBh q p t a :: zB8 p st :: M)) (hid : st.ids + 8 < 4611686018427387904) (hcl : st.calls + 8 < 4611686018427387904) (hfl : st.failed + 8 < 4611686018427387904)
    {name : ByteArray} {size sum each parts : Nat} (h : Fair size each parts) {done : Int} {ba : Option Addr} {c : Nat} (hd : 0 ≤ done ∧ done ≤ parts)
    {lost : Bool} {x n : Nat} {st2 : St} {i : Int} (hk : zBo (zBr name) t (st, 0) = (lost, x, n, st2, i)) :
    Calls Tryz.prog 99 #[.pointer (some ⟨q, 0, none⟩), .agg (planC name size sum each parts).toArray, .slice ba size c, .int .i64 0, .int .i64 done] w
      (Ret fun v w' => v = .tuple #[.int .i64 (if x = 0 then i else 0), .int .i64 (if x = 0 then 0 else done), .bool false, zAk ad x] ∧ Mem g w' (zBh q p t (a + (n : Nat)) :: zB8 p st2 :: M)) := by
  refine zAh Tryz.func99 rfl rfl ?_
  refine zA4 (zA2 (zBp (v := .agg _) hs rfl rfl ?_)); clear hs; intro b6 w hs
  try simp only [zzs, zzz] at hs
  refine J4 rfl (J4 rfl (J5 rfl (J3 rfl (zA6 (zA4 (zA4 (zA2 (Qa (zBd hs 0 rfl zEm zGh rfl) (Qg en144 (fair_sl hs h) ?_))))))))); clear hs; rintro _ w ⟨rfl, hs⟩; refine Jr rfl (J2 rfl (zAl rfl rfl (zBt (rfl)) (J7 rfl (zAl rfl rfl (zBt (rfl)) (Js zC6 rfl (zAl rfl rfl (zBt (rfl)) (Jp (o' := 1) zEm rfl sz3 rfl rfl rfl (zAl rfl rfl (zBt (rfl)) ?_))))))))
  refine Qc uz3 rfl hs 0 rfl rfl (zAl rfl rfl (zBt (rfl)) (Qa (zDy rfl rfl) (J9 rfl (zBt (rfl)) rfl (J2 rfl (zAl rfl rfl (zBt (decide_eq_true rfl)) (J0 rfl (zAl rfl rfl (zBt (decide_eq_true rfl)) (Jn rfl rfl (J9 rfl (zBt (decide_eq_true rfl)) rfl (J2 rfl ?_)))))))))); refine zAl rfl rfl (decide_eq_false (by omega)) (J0 rfl (zAl rfl rfl (decide_eq_false (by omega)) ?_))
  refine Jp (o' := 4) zEm rfl sz3 rfl rfl rfl (zAl rfl rfl (decide_eq_false (by omega)) (Qc uz3 rfl hs 0 rfl rfl (zAl rfl rfl (decide_eq_false (by omega)) (Jt rfl rfl (J9 rfl (decide_eq_false (by omega)) rfl (zA6 (zAz rfl (decide_eq_false (by omega)) (zAd (zA4 (zA4 (zA2 ?_))))))))))); refine J0 rfl (Jw rfl rfl (zA6 (zBc rfl (decide_eq_true rfl) (zA4 (zA2 (J1 rfl ?_))))))
  refine Jp (o' := 0) zEm rfl sz9 rfl rfl rfl (Qc uz9 rfl hs 0 rfl rfl (Qg en145 (clStart_sl hE ⟨ha.1, by omega⟩ ht hs.tail hid hcl hfl hk) ?_)); clear hs; rintro _ w ⟨rfl, hs⟩; refine Jc rfl (Ju (v := .int .i64 _) rfl rfl (Jg rfl rfl (J4 rfl (J6 rfl (zA6 (zA4 (zA4 (zA2 (J8 rfl (Jv (ad := ad) rfl (zA6 ?_))))))))))); refine zB2 rfl ?_ ?_
  ·
   intro h53; have g53 := zFj h53; refine zA4 (zA2 (J0 rfl (J0 rfl (J8 rfl (J4 rfl (J4 rfl (J5 rfl (J6 rfl (zA6 (zAe (res4 (v := .int .i64 _) (v2 := .int .i64 _) (v3 := .bool _) (v4 := zAk ad _) rfl rfl rfl rfl rfl ?_))))))))))); exact ⟨_, rfl, by rw [if_neg g53, if_neg g53], hs⟩
  ·
   intro h53; have g53 := zFi h53; refine zAd (zA4 (zA2 (J0 rfl (J4 rfl (J4 rfl (J5 rfl (J3 rfl (zA6 (zAe (res4 (v := .int .i64 _) (v2 := .int .i64 _) (v3 := .bool _) (v4 := .nilIface) rfl rfl rfl rfl rfl ?_)))))))))); exact ⟨_, rfl, by rw [if_pos g53, if_pos g53, g53, zB], hs⟩
theorem step_part (hE : ErrG ad g) {t : Nat} {a : Int} (ha : 0 ≤ a ∧ a < 900000000000) (ht : t ≤ 8) (hs : Mem g w (zBh q p t a :: zB8 p st :: M)) (hcl : st.calls + 8 < 4611686018427387904) (hfl : st.failed + 8 < 4611686018427387904)
    {name : ByteArray} {sum each parts : Nat} {l : List UInt8} (h : Fair l.length each parts) {id : Int} (hid : id ≠ 0) {k : Nat} (hd : k < parts) {ba : Option Addr} {c : Nat} (hr : Rd g M (.slice ba l.length c) (zAn l))
    {lost : Bool} {x n : Nat} {st2 : St} (hk : zBo (fun s => s.run (St.part1 id k ((l.take (min ((k + 1) * each) l.length)).drop (k * each)))) t st = (lost, x, n, st2)) :
    Calls Tryz.prog 99 #[.pointer (some ⟨q, 0, none⟩), .agg (planC name l.length sum each parts).toArray, .slice ba l.length c, .int .i64 id, .int .i64 k] w
      (Ret fun v w' => v = .tuple #[.int .i64 (if x = 107 then 0 else id), .int .i64 (if x = 107 then 0 else if x = 0 then k + 1 else k), .bool false, zAk ad (if x = 107 then 0 else x)] ∧ Mem g w' (zBh q p t (a + (n : Nat)) :: zB8 p st2 :: M)) := by
  have hx := again_code (good := St.part1 id k ((l.take (min ((k + 1) * each) l.length)).drop (k * each))) (part1_code id k _) t st; rw [hk] at hx; replace hx : x = 0 ∨ x ∈ zCb := hx; have hke := partsN_lt (size := l.length) (e := each) h.h1 (show k < zBb l.length each by rw [← h.hp]; exact hd); have hkm : (k + 1) * each = k * each + each := Nat.succ_mul _ _; have hh1 := h.h1; have hpm := h.hm; have hop := ((hr.cons.cons : Rd g (zBh q p t a :: zB8 p st :: M) _ _).seq hs).open; refine zAh Tryz.func99 rfl rfl ?_
  refine zA4 (zA2 (zBp (v := .agg _) hs rfl rfl ?_)); clear hs; intro b6 w hs
  try simp only [zzs, zzz] at hs
  refine J4 rfl (J4 rfl (J5 rfl (J3 rfl (zA6 (zA4 (zA4 (zA2 (Qa (zBd hs 0 rfl zEm zGh rfl) (Qg en144 (fair_sl hs h) ?_))))))))); clear hs; rintro _ w ⟨rfl, hs⟩; refine Jr rfl (J2 rfl (zAl rfl rfl (zBt (rfl)) (J7 rfl (zAl rfl rfl (zBt (rfl)) (Js zC6 rfl (zAl rfl rfl (zBt (rfl)) (Jp (o' := 1) zEm rfl sz3 rfl rfl rfl (zAl rfl rfl (zBt (rfl)) ?_))))))))
  refine Qc uz3 rfl hs 0 rfl rfl (zAl rfl rfl (zBt (rfl)) (Qa (zDy rfl rfl) (J9 rfl (zBt (rfl)) rfl (J2 rfl (zAl rfl rfl (zBt (decide_eq_true rfl)) (J0 rfl (zAl rfl rfl (zBt (decide_eq_true rfl)) (Jn rfl rfl (J9 rfl (zBt (decide_eq_true rfl)) rfl (J2 rfl ?_)))))))))); refine zAl rfl rfl (decide_eq_false (by omega)) (J0 rfl (zAl rfl rfl (decide_eq_false (by omega)) ?_))
  refine Jp (o' := 4) zEm rfl sz3 rfl rfl rfl (zAl rfl rfl (decide_eq_false (by omega)) (Qc uz3 rfl hs 0 rfl rfl (zAl rfl rfl (decide_eq_false (by omega)) (Jt rfl rfl (J9 rfl (decide_eq_false (by omega)) rfl (zA6 (zAz rfl (decide_eq_false (by omega)) (zAd (zA4 (zA4 (zA2 ?_))))))))))); refine J0 rfl (Jw rfl rfl (zA6 (zAz rfl (decide_eq_false hid) (zAd (zA4 (zA2 (J3 rfl (zA6 (zA4 (zA2 ?_))))))))))
  refine Qa (zBd hs 0 rfl zEm zGh rfl) (J0 rfl (Qg en146 (range_sl hs h.h1 h.h2 h.h3 h.hp h.hm) ?_)); clear hs; rintro _ w ⟨f1, t1, hft, rfl, hs⟩; obtain ⟨rfl, rfl⟩ := hft (by omega) (by omega); refine Jc rfl (Ju (v := .int .i64 _) rfl rfl (Ju (v := .int .i64 _) rfl rfl (Ju (v := .bool _) rfl rfl (J4 rfl (J4 rfl (J5 rfl (zA6 (zA4 (zA4 (zA2 (J2 rfl ?_))))))))))); refine zA6 ?_
  refine zBc rfl (decide_eq_true ⟨by omega, by omega⟩) (zA2 (J1 rfl (J0 rfl (J0 rfl (J7 rfl (J0 rfl (J0 rfl (Qa (run_slice zC6 sz5 rfl rfl rfl (lo := k * each) (hi := min ((k + 1) * each) l.length) rfl rfl (by omega) (by have := hop; omega)) ?_))))))))
  refine Qg en147 (clPart_sl (b := (l.take (min ((k + 1) * each) l.length)).drop (k * each)) hE ⟨ha.1, by omega⟩ ht hs.tail hcl hfl (hr.subB (by omega) (by omega)) (by simp; have := h.h3; omega) hk) ?_; clear hs; rintro _ w ⟨rfl, hs⟩; refine J6 rfl (zA6 (zA4 (zAp (zA4 (zA2 (J8 rfl (Jq zCq rfl rfl (hE.cellW hs 107 (by decide) rfl) (Qa (zEj (hE.atW hs) hx m107 (c := x) (d := 107) rfl rfl) (J5 rfl (zA6 (zB2 rfl ?_ ?_)))))))))))
  ·
   intro h88; have g88 := of_decide_eq_true h88; refine zA4 (zA2 (J4 rfl (J4 rfl (J5 rfl (J3 rfl (zA6 (zAe (res4 (v := .int .i64 _) (v2 := .int .i64 _) (v3 := .bool _) (v4 := .nilIface) rfl rfl rfl rfl rfl ?_)))))))); exact ⟨_, rfl, by simp only [if_pos g88, zB], hs⟩
  ·
   intro h88; have g88 := of_decide_eq_false h88; refine zA4 (zA2 (J8 rfl (Jv (ad := ad) rfl (J5 rfl (zA6 (zB2 rfl ?_ ?_))))))
   ·
    intro h91; have g91 := zFj h91; refine zA4 (zA2 (J0 rfl (J0 rfl (J8 rfl (J4 rfl (J4 rfl (J5 rfl (J6 rfl (zA6 (zAe (res4 (v := .int .i64 _) (v2 := .int .i64 _) (v3 := .bool _) (v4 := zAk ad _) rfl rfl rfl rfl rfl ?_))))))))))); exact ⟨_, rfl, by simp only [if_neg g88, if_neg g91], hs⟩
   ·
    intro h91; have g91 := zFi h91; refine zA4 (zA2 (J2 rfl (J5 rfl (zA6 (zBc rfl (decide_eq_true ⟨by omega, by omega⟩) (zA4 (zA2 (J0 rfl (J0 rfl (Jo rfl rfl rfl (inI (by omega) (by omega)) (J4 rfl (J4 rfl ?_)))))))))))); refine J5 rfl (J3 rfl (zA6 (zAe ?_)))
    refine res4 (v := .int .i64 _) (v2 := .int .i64 _) (v3 := .bool _) (v4 := .nilIface) rfl rfl rfl rfl rfl ?_; exact ⟨_, rfl, by simp only [if_neg g88, if_pos g91]; rw [g91, zB], hs⟩
theorem step_complete (hE : ErrG ad g) (hsm : st.small) {t : Nat} {a : Int} (ha : 0 ≤ a ∧ a < 900000000000) (ht : t ≤ 8) (hs : Mem g w (zBh q p t a :: zB8 p st :: M)) (hcl : st.calls + 16 < 4611686018427387904) (hfl : st.failed + 16 < 4611686018427387904)
    {name : ByteArray} {size sum each parts : Nat} (h : Fair size each parts) {id : Int} (hid : id ≠ 0) {ba : Option Addr} {c : Nat}
    {lost l2 : Bool} {x y n m : Nat} {st2 st3 : St} {i j : Int} (hk : zBo (fun s => s.run (St.complete1 id parts)) t st = (lost, x, n, st2)) (hq : zBo (zC5 name) t (st2, 0, 0) = (l2, y, m, st3, i, j))
    {r N : Nat} {st4 : St} (hr : (if lost = true ∧ x = 107 then (if y = 111 then 111 else if y = 0 ∧ i = size ∧ j = sum then 0 else 107) else x) = r) (hN : (if lost = true ∧ x = 107 then n + m else n) = N) (h4 : (if lost = true ∧ x = 107 then st3 else st2) = st4) :
    Calls Tryz.prog 99 #[.pointer (some ⟨q, 0, none⟩), .agg (planC name size sum each parts).toArray, .slice ba size c, .int .i64 id, .int .i64 (parts : Nat)] w
      (Ret fun v w' => v = .tuple #[.int .i64 (if r = 107 then 0 else id), .int .i64 (if r = 107 then 0 else parts), .bool (decide (r = 0)), zAk ad (if r = 107 then 0 else r)] ∧ Mem g w' (zBh q p t (a + (N : Nat)) :: zB8 p st4 :: M)) := by
  have hx := again_code (good := St.complete1 id parts) (zGc id parts) t st; rw [hk] at hx; replace hx : x = 0 ∨ x ∈ zCb := hx
  have hrc : r = 0 ∨ r ∈ zCb := by
    rw [← hr]
    split
    · split
      · exact .inr m111
      · split
        · exact .inl rfl
        · exact .inr m107
    · exact hx
  refine zAh Tryz.func99 rfl rfl ?_
  refine zA4 (zA2 (zBp (v := .agg _) hs rfl rfl ?_)); clear hs; intro b6 w hs
  try simp only [zzs, zzz] at hs
  refine J4 rfl (J4 rfl (J5 rfl (J3 rfl (zA6 (zA4 (zA4 (zA2 (Qa (zBd hs 0 rfl zEm zGh rfl) (Qg en144 (fair_sl hs h) ?_))))))))); clear hs; rintro _ w ⟨rfl, hs⟩; refine Jr rfl (J2 rfl (zAl rfl rfl (zBt (rfl)) (J7 rfl (zAl rfl rfl (zBt (rfl)) (Js zC6 rfl (zAl rfl rfl (zBt (rfl)) (Jp (o' := 1) zEm rfl sz3 rfl rfl rfl (zAl rfl rfl (zBt (rfl)) ?_))))))))
  refine Qc uz3 rfl hs 0 rfl rfl (zAl rfl rfl (zBt (rfl)) (Qa (zDy rfl rfl) (J9 rfl (zBt (rfl)) rfl (J2 rfl (zAl rfl rfl (zBt (decide_eq_true rfl)) (J0 rfl (zAl rfl rfl (zBt (decide_eq_true rfl)) (Jn rfl rfl (J9 rfl (zBt (decide_eq_true rfl)) rfl (J2 rfl ?_)))))))))); refine zAl rfl rfl (decide_eq_false (by omega)) (J0 rfl (zAl rfl rfl (decide_eq_false (by omega)) ?_))
  refine Jp (o' := 4) zEm rfl sz3 rfl rfl rfl (zAl rfl rfl (decide_eq_false (by omega)) (Qc uz3 rfl hs 0 rfl rfl (zAl rfl rfl (decide_eq_false (by omega)) (Jt rfl rfl (J9 rfl (decide_eq_false (by omega)) rfl (zA6 (zAz rfl (decide_eq_false (by omega)) (zAd (zA4 (zA4 (zA2 ?_))))))))))); refine J0 rfl (Jw rfl rfl (zA6 (zAz rfl (decide_eq_false hid) (zAd (zA4 (zA2 (J3 rfl (zA6 (zA4 (zA2 ?_))))))))))
  refine Qa (zBd hs 0 rfl zEm zGh rfl) (J0 rfl (Qg en146 (range_sl hs h.h1 h.h2 h.h3 h.hp h.hm) ?_)); clear hs; rintro _ w ⟨f1, t1, hft, rfl, hs⟩; refine Jc rfl (Ju (v := .int .i64 _) rfl rfl (Ju (v := .int .i64 _) rfl rfl (Ju (v := .bool _) rfl rfl (J4 rfl (J4 rfl (J5 rfl (zA6 (zA4 (zA4 (zA2 (J2 rfl ?_))))))))))); refine zA6 (zAz rfl (decide_eq_false (by omega)) ?_)
  refine zA2 (J1 rfl (J0 rfl (Jp (o' := 4) zEm rfl sz3 rfl rfl rfl (Qc uz3 rfl hs 0 rfl rfl (Jp (o' := 0) zEm rfl sz9 rfl rfl rfl (Qc uz9 rfl hs 0 rfl rfl (Jp (o' := 1) zEm rfl sz3 rfl rfl rfl (Qc uz3 rfl hs 0 rfl rfl (Jp (o' := 2) zEm rfl sz64 rfl rfl rfl (Qc uz64 rfl hs 0 rfl rfl ?_)))))))))); refine Qg en148 (clComplete_x hE hsm ha ht hs.tail hcl hfl hk hq hr hN h4) ?_; clear hs; rintro _ w ⟨rfl, hs⟩
  refine J6 rfl (zA6 (zA4 (zAp (zA4 (zA2 (J8 rfl (Jq zCq rfl rfl (hE.cellW hs 107 (by decide) rfl) (Qa (zEj (hE.atW hs) hrc m107 (c := r) (d := 107) rfl rfl) (J5 rfl (zA6 (zB2 rfl ?_ ?_)))))))))))
  ·
   intro h88; have g88 := of_decide_eq_true h88; refine zA4 (zA2 (J4 rfl (J4 rfl (J5 rfl (J3 rfl (zA6 (zAe (res4 (v := .int .i64 _) (v2 := .int .i64 _) (v3 := .bool _) (v4 := .nilIface) rfl rfl rfl rfl rfl ?_)))))))); exact ⟨_, rfl, by simp only [if_pos g88, zB]; rw [g88]; rfl, hs⟩
  ·
   intro h88; have g88 := of_decide_eq_false h88; refine zA4 (zA2 (J8 rfl (Jv (ad := ad) rfl (J5 rfl (zA6 (zB2 rfl ?_ ?_))))))
   ·
    intro h91; have g91 := zFj h91; refine zA4 (zA2 (J0 rfl (J0 rfl (J8 rfl (J4 rfl (J4 rfl (J5 rfl (J6 rfl (zA6 (zAe (res4 (v := .int .i64 _) (v2 := .int .i64 _) (v3 := .bool _) (v4 := zAk ad _) rfl rfl rfl rfl rfl ?_))))))))))); exact ⟨_, rfl, by simp only [if_neg g88]; rw [decide_eq_false g91], hs⟩
   ·
    intro h91; have g91 := zFi h91; refine zA4 (zA2 (J2 rfl (J5 rfl (zA6 (zAz rfl (decide_eq_false (by omega)) (zAd (zA4 (zA2 (J0 rfl (J0 rfl (J4 rfl (J4 rfl ?_)))))))))))); refine J5 rfl (J3 rfl (zA6 (zAe (res4 (v := .int .i64 _) (v2 := .int .i64 _) (v3 := .bool _) (v4 := .nilIface) rfl rfl rfl rfl rfl ?_))))
    exact ⟨_, rfl, by simp only [if_neg g88]; rw [decide_eq_true g91, g91, zB], hs⟩
end
section
open Go.RowKit
attribute [local irreducible] zAk eV
variable {g w : World} {L M : List HP} {ad : Nat → Addr} {p u : Nat}
structure UpT where
  d : Nat
  l : Nat
  c : Nat
  m : Mf
  s1 : SA
  s2 : SA
  each : Nat
  xs : List (List UInt8 × SA)
  s3 : SA
  s4 : SA
def bC (x : List UInt8 × SA) : HP := own (.slice x.2.1 x.1.length x.2.2) (zAn x.1)
def bV (x : List UInt8 × SA) : Value := .slice x.2.1 x.1.length x.2.2
def zEx (each : Nat) (o : Ob) (b : List UInt8) : List Value := planC o.1 b.length (zC4 0 b : Nat) each (zBb b.length each : Nat)
def zCo (each : Nat) (os : List Ob) (xs : List (List UInt8 × SA)) : List (List Value) := (os.zip xs).map fun p => zEx each p.1 p.2.1
abbrev upL (t : UpT) (a : S4) (ov : Bool) : List Value := [.pointer (some ⟨t.d, 0, none⟩), .pointer (some ⟨t.l, 0, none⟩), .pointer (some ⟨t.c, 0, none⟩), .int .i64 t.m.id, .int .i64 t.m.base, .int .i64 t.m.fin, .int .i64 t.m.time, .slice t.s1.1 t.m.eps.length t.s1.2, .slice t.s2.1 t.m.obs.length t.s2.2, .slice t.s3.1 t.xs.length t.s3.2, .slice t.s4.1 t.xs.length t.s4.2, .int .i64 a.1, .int .i64 a.2.1, .int .i64 a.2.2.1, .int .i64 a.2.2.2, .bool ov]
abbrev upP (u : Nat) (t : UpT) (a : S4) (ov : Bool) : HP := cells u (upL t a ov) 106
abbrev upR (t : UpT) : List HP := [zE0 2 (.slice t.s1.1 t.m.eps.length t.s1.2) (t.m.eps.map prL), zE0 3 (.slice t.s2.1 t.m.obs.length t.s2.2) (t.m.obs.map obL), own (.slice t.s3.1 t.xs.length t.s3.2) (t.xs.map bV), zE0 5 (.slice t.s4.1 t.xs.length t.s4.2) (zCo t.each t.m.obs t.xs), stars (t.xs.map bC)]
def UpC (u : Nat) (t : UpT) (a : S4) (ov : Bool) : HP := stars (upP u t a ov :: upR t)
theorem Mem.openUp {t : UpT} {a : S4} {ov : Bool} (hs : Mem g w (UpC u t a ov :: L)) : Mem g w (upP u t a ov :: zE0 2 (.slice t.s1.1 t.m.eps.length t.s1.2) (t.m.eps.map prL) :: zE0 3 (.slice t.s2.1 t.m.obs.length t.s2.2) (t.m.obs.map obL) :: own (.slice t.s3.1 t.xs.length t.s3.2) (t.xs.map bV) :: zE0 5 (.slice t.s4.1 t.xs.length t.s4.2) (zCo t.each t.m.obs t.xs) :: Go.Proofs.YthejaanobeonnaaGreatDoor.stars (t.xs.map bC) :: L) := hs.unstars
theorem Mem.closeUp {t : UpT} {a : S4} {ov : Bool} (hs : Mem g w (upP u t a ov :: zE0 2 (.slice t.s1.1 t.m.eps.length t.s1.2) (t.m.eps.map prL) :: zE0 3 (.slice t.s2.1 t.m.obs.length t.s2.2) (t.m.obs.map obL) :: own (.slice t.s3.1 t.xs.length t.s3.2) (t.xs.map bV) :: zE0 5 (.slice t.s4.1 t.xs.length t.s4.2) (zCo t.each t.m.obs t.xs) :: Go.Proofs.YthejaanobeonnaaGreatDoor.stars (t.xs.map bC) :: L)) : Mem g w (UpC u t a ov :: L) := Mem.stars (M := upP u t a ov :: upR t) hs
theorem Rd.blob {xs : List (List UInt8 × SA)} {x : List UInt8 × SA} (i : Nat) (hi : L[i]? = some (stars (xs.map bC))) {k : Nat} (hk : xs[k]? = some x) : Rd g L (.slice x.2.1 x.1.length x.2.2) (zAn x.1) := fun w hs => by
  have h1 := (hs.pick i hi).unstars; have hlt : k < xs.length := (List.getElem?_eq_some_iff.1 hk).1; exact (Rd.own (g := g) (L := xs.map bC ++ L.eraseIdx i) k (by rw [List.getElem?_append_left (by rw [List.length_map]; exact hlt), List.getElem?_map, hk]; rfl)).seq h1
theorem plansL_at {each k : Nat} {os : List Ob} {xs : List (List UInt8 × SA)} {o : Ob} {x : List UInt8 × SA} (h1 : os[k]? = some o) (h2 : xs[k]? = some x) : (zCo each os xs)[k]? = some (zEx each o x.1) := by
  unfold zCo
  rw [List.getElem?_map, List.getElem?_zip_eq_some (z := (o, x)).2 ⟨h1, h2⟩]
  rfl
abbrev ucO (u : Nat) (t : UpT) (a : S4) (ov : Bool) (L : List HP) : List HP := upP u t a ov :: zE0 2 (.slice t.s1.1 t.m.eps.length t.s1.2) (t.m.eps.map prL) :: zE0 3 (.slice t.s2.1 t.m.obs.length t.s2.2) (t.m.obs.map obL) :: own (.slice t.s3.1 t.xs.length t.s3.2) (t.xs.map bV) :: zE0 5 (.slice t.s4.1 t.xs.length t.s4.2) (zCo t.each t.m.obs t.xs) :: stars (t.xs.map bC) :: L
end
section
open Go.RowKit
attribute [local irreducible] zAk
variable {g w : World} {L M : List HP} {ad : Nat → Addr} {p q : Nat} {st : St}
def zE3 (l : List UInt8) (e k : Nat) : List UInt8 := (l.take (min ((k + 1) * e) l.length)).drop (k * e)
def pts (l : List UInt8) (e k : Nat) : List (Int × List UInt8) := (List.range k).map fun (i : Nat) => (((i : Nat) : Int), zE3 l e i)
theorem pts_succ (l : List UInt8) (e k : Nat) : pts l e (k + 1) = pts l e k ++ [((k : Int), zE3 l e k)] := by simp [pts, List.range_succ]
theorem aget_app {κ α : Type} [DecidableEq κ] {l : List (κ × α)} {k : κ} {v : α} (h : zAx l k = none) : zAx (l ++ [(k, v)]) k = some v := by
  induction l with
  | nil => simp [zAx]
  | cons x l ih =>
    obtain ⟨a, b⟩ := x; simp only [zAx] at h; simp only [List.cons_append, zAx]
    split
    · rename_i e; rw [if_pos e] at h; cases h
    · rename_i e; rw [if_neg e] at h; exact ih h
theorem aget_app1 {κ α : Type} [DecidableEq κ] {l : List (κ × α)} {k k' : κ} {v v' : α} (h : zAx l k = some v) : zAx (l ++ [(k', v')]) k = some v := by
  induction l with
  | nil => simp [zAx] at h
  | cons x l ih =>
    obtain ⟨a, b⟩ := x; simp only [zAx] at h; simp only [List.cons_append, zAx]
    split
    · rename_i e; rw [if_pos e] at h; exact h
    · rename_i e; rw [if_neg e] at h; exact ih h
theorem aget_app2 {κ α : Type} [DecidableEq κ] {l : List (κ × α)} {k k' : κ} {v' : α} (h : zAx l k = none) (hk : k' ≠ k) : zAx (l ++ [(k', v')]) k = none := by
  induction l with
  | nil => simp [zAx, hk]
  | cons x l ih =>
    obtain ⟨a, b⟩ := x; simp only [zAx] at h; simp only [List.cons_append, zAx]
    split
    · rename_i e; rw [if_pos e] at h; cases h
    · rename_i e; rw [if_neg e] at h; exact ih h
theorem aput_app {κ α : Type} [DecidableEq κ] {l : List (κ × α)} {k : κ} {v : α} (h : zAx l k = none) : zC1 l k v = l ++ [(k, v)] := by
  induction l with
  | nil => rfl
  | cons x l ih =>
    obtain ⟨a, b⟩ := x; simp only [zAx] at h; simp only [List.cons_append, zC1]
    split
    · rename_i e; rw [if_pos e] at h; cases h
    · rename_i e; rw [if_neg e] at h; rw [ih h]
theorem pts_none (l : List UInt8) (e : Nat) : ∀ (k i : Nat), k ≤ i → zAx (pts l e k) ((i : Nat) : Int) = none
  | 0, i, _ => rfl
  | k + 1, i, h => by rw [pts_succ]; exact aget_app2 (pts_none l e k i (by omega)) (by omega)
theorem pts_get (l : List UInt8) (e : Nat) : ∀ (k i : Nat), i < k → zAx (pts l e k) ((i : Nat) : Int) = some (zE3 l e i)
  | k + 1, i, h => by
    rw [pts_succ]
    by_cases hi : i = k
    · subst hi; exact aget_app (pts_none l e i i (Nat.le_refl _))
    · exact aget_app1 (pts_get l e k i (by omega))
theorem pts_put (l : List UInt8) (e k : Nat) : zC1 (pts l e k) ((k : Nat) : Int) (zE3 l e k) = pts l e (k + 1) := by rw [pts_succ]; exact aput_app (pts_none l e k k (Nat.le_refl _))
theorem pts_put2 (l : List UInt8) (e k : Nat) : zC1 (pts l e (k + 1)) ((k : Nat) : Int) (zE3 l e k) = pts l e (k + 1) := zDm (pts_get l e (k + 1) k (by omega))
theorem pts_all (l : List UInt8) (e k : Nat) : haveAll (pts l e k) k = true := haveAll_iff.2 fun i hi => by rw [pts_get l e k i hi]; rfl
theorem take_drop_app {l : List UInt8} {a c : Nat} (h : a ≤ c) : l.take a ++ (l.take c).drop a = l.take c := by
  have : l.take a = (l.take c).take a := by rw [List.take_take, Nat.min_eq_left h]
  rw [this, List.take_append_drop]
theorem pts_out (l : List UInt8) {e : Nat} (h1 : 1 ≤ e) : ∀ k, k ≤ zBb l.length e → ∀ K, k ≤ K → outK (pts l e K) k = l.take (min (k * e) l.length)
  | 0, _, K, _ => by simp [outK]
  | k + 1, h, K, hK => by
    have hke := partsN_lt (size := l.length) (e := e) h1 (show k < zBb l.length e by omega); have hkm : (k + 1) * e = k * e + e := Nat.succ_mul _ _; rw [outK_succ (pts_get l e K k (by omega)), pts_out l h1 k (by omega) K (by omega), zE3, Nat.min_eq_left (by omega : k * e ≤ l.length)]; exact take_drop_app (by omega)
theorem pts_whole (l : List UInt8) {e : Nat} (h1 : 1 ≤ e) : outK (pts l e (zBb l.length e)) (zBb l.length e) = l := by
  rw [pts_out l h1 _ (Nat.le_refl _) _ (Nat.le_refl _), Nat.min_eq_right (partsN_end h1), List.take_length]
theorem pts_mem {l : List UInt8} {e k : Nat} {i : Int} {b : List UInt8} (h : (i, b) ∈ pts l e k) : b.length ≤ l.length := by
  simp only [pts, List.mem_map, Prod.mk.injEq] at h; obtain ⟨j, _, _, rfl⟩ := h; simp only [zE3, List.length_drop, List.length_take]
  omega
theorem zDv {n e : Nat} (h1 : 1 ≤ e) : zBb n e ≤ n := by
  by_cases h : zBb n e = 0
  · omega
  · have := partsN_lt (size := n) (e := e) h1 (show zBb n e - 1 < zBb n e by omega)
    have h2 : (zBb n e - 1) * 1 ≤ (zBb n e - 1) * e := Nat.mul_le_mul_left _ h1
    omega
theorem fairN {l : List UInt8} {e : Nat} (h1 : 1 ≤ e) (h2 : e ≤ 1000) (h3 : l.length ≤ 256) : Fair l.length e (zBb l.length e) := ⟨h1, by omega, by omega, rfl, by have := zDv (n := l.length) h1; omega⟩
def nO : ByteArray := ⟨#[111]⟩
theorem nO_valid : zBy nO.data.toList = true := by decide +kernel
def upO (l : List UInt8) (e k : Nat) : List (Int × Up) := [(1, ⟨nO, pts l e k⟩)]
def plSt (l : List UInt8) (e : Nat) : Nat → St
  | 0 => St.empty
  | i + 1 => tw [] (upO l e i) [] (i + 1) 0
end
section
open Go.RowKit
section
variable {σ : Type} {step : σ → Nat × σ}
theorem again_ind (I : σ → Prop) (hI : ∀ s, I s → (step s).1 = 111 → I (step s).2) : ∀ (t : Nat) (s : σ), I s →
    ((zBo step t s).2.1 = 111 ∧ I (zBo step t s).2.2.2) ∨ ∃ s', I s' ∧ (step s').1 ≠ 111 ∧ (zBo step t s).2.1 = (step s').1 ∧ (zBo step t s).2.2.2 = (step s').2 ∧ ((zBo step t s).1 = true ∨ s' = s)
  | 0, s, h => .inl ⟨rfl, h⟩
  | t + 1, s, h => by
    by_cases h1 : (step s).1 = 111
    · simp only [zBo, if_pos h1]
      rcases again_ind I hI t _ (hI s h h1) with ⟨a, b⟩ | ⟨s', a, b, c, d, _⟩
      · exact .inl ⟨a, b⟩
      · exact .inr ⟨s', a, b, c, d, .inl trivial⟩
    · simp only [zBo, if_neg h1]
      exact .inr ⟨s, h, h1, rfl, rfl, .inr rfl⟩
theorem zF8 (f : σ → Nat) (hf : ∀ s, f (step s).2 ≤ f s + 1) : ∀ (t : Nat) (s : σ), f (zBo step t s).2.2.2 ≤ f s + t
  | 0, s => Nat.le_refl _
  | t + 1, s => by
    have h1 := hf s; have h2 := zF8 f hf t (step s).2; simp only [zBo]
    split <;> simp only <;> omega
theorem again_n : ∀ (t : Nat) (s : σ), (zBo step t s).2.2.1 ≤ t
  | 0, s => Nat.le_refl _
  | t + 1, s => by
    have h2 := again_n t (step s).2; simp only [zBo]
    split <;> simp only <;> omega
theorem again_less0 (f : σ → Nat) (hf : ∀ s, f (step s).2 ≤ f s - 1) : ∀ (t : Nat) (s : σ), f (zBo step t s).2.2.2 ≤ f s
  | 0, s => Nat.le_refl _
  | t + 1, s => by
    have h1 := hf s; have h2 := again_less0 f hf t (step s).2; simp only [zBo]
    split <;> simp only <;> omega
theorem again_less (f : σ → Nat) (hf : ∀ s, f (step s).2 ≤ f s - 1) (t : Nat) (s : σ) : f (zBo step (t + 1) s).2.2.2 ≤ f s - 1 := by
  have h1 := hf s; have h2 := again_less0 f hf t (step s).2; simp only [zBo]
  split <;> simp only <;> omega
theorem again_first {t : Nat} {s : σ} (h : (step s).1 ≠ 111) : zBo step (t + 1) s = (false, (step s).1, 1, (step s).2) := by simp only [zBo, if_neg h]
end
end
section
open Go.RowKit
structure PInv (l : List UInt8) (st : St) : Prop where
  small : st.small
  objs : st.objs = [] ∨ st.objs = [(nO, l)]
  nd : (zAm st.ups).Nodup
  rng : ∀ x ∈ zAm st.ups, 1 ≤ x ∧ x ≤ (st.ids : Nat)
  len : st.ups.length ≤ st.ids
theorem len_keys {κ α β : Type} {l : List (κ × α)} {m : List (κ × β)} (h : zAm l = zAm m) : l.length = m.length := by
  have := congrArg List.length h
  simpa [zAm] using this
variable {l : List UInt8} {st : St} {e k : Nat} {id : Int}
theorem PInv.begin (h : PInv l st) : PInv l st.begin := ⟨h.small, h.objs, h.nd, h.rng, h.len⟩
theorem PInv.empty (s : List Int) : PInv l { St.empty with script := s } := ⟨⟨fun _ _ h => by simp [St.empty] at h, fun _ _ h => by simp [St.empty] at h⟩, .inl rfl, by simp [St.empty, zAm], fun x hx => by simp [St.empty, zAm] at hx, by simp [St.empty]⟩
theorem start1_eq (st : St) : st.start1 nO = (0, ((st.ids + 1 : Nat) : Int), { st with ids := st.ids + 1, ups := zC1 st.ups ((st.ids + 1 : Nat) : Int) ⟨nO, []⟩ }) := by simp [St.start1, nO_valid]
theorem PInv.new (h : PInv l st) : zAx st.ups ((st.ids + 1 : Nat) : Int) = none := (zBe _ _).2 fun hm => by have := (h.rng _ hm).2; omega
theorem PInv.start (h : PInv l st) : PInv l (st.start1 nO).2.2 := by
  rw [start1_eq]; have hn := h.new
  have hk : zAm (zC1 st.ups ((st.ids + 1 : Nat) : Int) (⟨nO, []⟩ : Up)) = zAm st.ups ++ [((st.ids + 1 : Nat) : Int)] := by rw [zF4, if_neg ((zBe _ _).1 hn)]
  refine ⟨⟨h.small.1, fun i u hm => ?_⟩, h.objs, ?_, fun x hx => ?_, ?_⟩
  · rcases aput_mem hm with hm | hm
    · simp only [Prod.mk.injEq] at hm; rw [hm.2]; exact fun _ _ h => by simp at h
    · exact h.small.2 i u hm
  · simp only [hk, List.nodup_append, List.nodup_cons, List.not_mem_nil, not_false_eq_true, List.nodup_nil, and_self, true_and]
    refine ⟨h.nd, fun a ha b hb => ?_⟩; simp only [List.mem_cons, List.not_mem_nil, or_false] at hb; have := (h.rng a ha).2
    omega
  · simp only [hk, List.mem_append, List.mem_cons, List.not_mem_nil, or_false] at hx
    rcases hx with hx | rfl
    · have := h.rng x hx; simp only; omega
    · simp only; omega
  · rw [aput_app hn]; have := h.len; simp only [List.length_append, List.length_cons, List.length_nil]; omega
def Has (l : List UInt8) (e k : Nat) (id : Int) (st : St) : Prop := zAx st.ups id = some ⟨nO, pts l e k⟩
theorem part1_has (hk : k < 256) {j : Nat} (hj : j = k ∨ j = k + 1) (h : Has l e j id st) : st.part1 id k (zE3 l e k) = (0, { st with ups := zC1 st.ups id ⟨nO, pts l e (k + 1)⟩ }) := by
  unfold St.part1
  rw [h]
  simp only
  rw [if_neg (by omega)]
  rcases hj with rfl | rfl
  · rw [pts_put]
  · rw [pts_put2]
theorem keys_there {κ α : Type} [DecidableEq κ] {l : List (κ × α)} {k : κ} {v v' : α} (h : zAx l k = some v) : zAm (zC1 l k v') = zAm l := by
  rw [zF4, if_pos]
  exact Classical.byContradiction fun hn => by rw [(zBe _ _).2 hn] at h; cases h
theorem PInv.part (hl : l.length ≤ 256) (h : PInv l st) (hk : k < 256) {j : Nat} (hj : j = k ∨ j = k + 1) (hh : Has l e j id st) : PInv l (st.part1 id k (zE3 l e k)).2 ∧ Has l e (k + 1) id (st.part1 id k (zE3 l e k)).2 ∧ (st.part1 id k (zE3 l e k)).1 = 0 := by
  rw [part1_has hk hj hh]; have hk := keys_there (v' := (⟨nO, pts l e (k + 1)⟩ : Up)) hh; refine ⟨⟨⟨h.small.1, fun i u hm => ?_⟩, h.objs, by simp only [hk]; exact h.nd, fun x hx => ?_, ?_⟩, zB7 _ _ _, rfl⟩
  · rcases aput_mem hm with hm | hm
    · simp only [Prod.mk.injEq] at hm; rw [hm.2]; exact fun i b hb => by have := pts_mem hb; omega
    · exact h.small.2 i u hm
  · simp only [hk] at hx; exact h.rng x hx
  · simp only [len_keys hk]; exact h.len
def Gone (l : List UInt8) (id : Int) (st : St) : Prop := zAx st.ups id = none ∧ st.objs = [(nO, l)]
theorem complete1_gone (h : Gone l id st) (n : Int) : st.complete1 id n = (107, st) := by unfold St.complete1; rw [h.1]
theorem complete1_has (h1 : 1 ≤ e) (h3 : l.length ≤ 256) (h : Has l e (zBb l.length e) id st) : st.complete1 id (zBb l.length e : Nat) = (0, { st with objs := zC1 st.objs nO l, ups := zDe st.ups id }) := by
  have hp := zDv (n := l.length) h1
  unfold St.complete1
  rw [h]
  simp only
  rw [if_neg (by omega), Int.toNat_natCast, if_pos (pts_all l e _), pts_whole l h1]
theorem PInv.complete (h1 : 1 ≤ e) (h3 : l.length ≤ 256) (h : PInv l st) (hh : Has l e (zBb l.length e) id st ∨ Gone l id st) :
    PInv l (st.complete1 id (zBb l.length e : Nat)).2 ∧ Gone l id (st.complete1 id (zBb l.length e : Nat)).2 ∧ (Has l e (zBb l.length e) id st → (st.complete1 id (zBb l.length e : Nat)).1 = 0) ∧ (Gone l id st → (st.complete1 id (zBb l.length e : Nat)).1 = 107) := by
  rcases hh with hh | hh
  · have hc := zEg h.small id (zBb l.length e : Nat)
    rw [complete1_has h1 h3 hh] at hc ⊢; have hk := zF3 h.nd id
    have ho : zC1 st.objs nO l = [(nO, l)] := by rcases h.objs with h | h <;> simp [h, zC1]
    refine ⟨⟨hc, .inr ho, ?_, fun x hx => ?_, ?_⟩, ⟨zCw h.nd id, ho⟩, fun _ => rfl, fun hg => ?_⟩
    · simp only [hk]; exact h.nd.filter _
    · simp only [hk] at hx; exact h.rng x (List.mem_filter.1 hx).1
    · have h2 : (zAm (zDe st.ups id)).length ≤ (zAm st.ups).length := by rw [hk]; exact List.length_filter_le _ _
      simp only [zAm, List.length_map] at h2; have := h.len
      simp only
      omega
    · have := hg.1
      unfold Has at hh
      rw [hh] at this; cases this
  · rw [complete1_gone hh]
    refine ⟨h, hh, fun hg => ?_, fun _ => rfl⟩; have := hh.1
    unfold Has at hg
    rw [hg] at this; cases this
theorem run_111 {good : St → Nat × St} (h : (st.run good).1 = 111) (hg : (good st.begin).1 ≠ 111) : st.next = 1 ∧ (st.run good).2 = st.begin ∨ st.next = 2 ∧ (st.run good).2 = (good st.begin).2 := by
  unfold St.run at h ⊢
  by_cases h1 : st.next = 1
  · exact .inl ⟨h1, by rw [if_pos h1]⟩
  · rw [if_neg h1] at h ⊢
    by_cases h2 : st.next = 2
    · exact .inr ⟨h2, rfl⟩
    · rw [if_neg h2] at h; exact absurd h hg
theorem run_ans {good : St → Nat × St} (h : (st.run good).1 ≠ 111) : st.next ≠ 1 ∧ st.next ≠ 2 ∧ st.run good = good st.begin := by
  unfold St.run at h ⊢
  by_cases h1 : st.next = 1
  · rw [if_pos h1] at h; exact absurd rfl h
  · rw [if_neg h1] at h ⊢
    by_cases h2 : st.next = 2
    · rw [if_pos h2] at h; exact absurd rfl h
    · rw [if_neg h2]; exact ⟨h1, h2, rfl⟩
theorem run_script {good : St → Nat × St} (hg : ∀ s, (good s).2.script = s.script) (st : St) : (st.run good).2.script.length ≤ st.script.length - 1 := by
  unfold St.run
  split
  · simp [St.begin]
  · simp [hg, St.begin]
theorem again_keep {good : St → Nat × St} (I J : St → Prop) (hb : ∀ s, I s → I s.begin) (hg : ∀ s, I s → I (good s).2 ∧ (good s).1 ≠ 111) {t : Nat} (h : I st) {lost : Bool} {x n : Nat} {st2 : St} (hk : zBo (fun s => s.run good) t st = (lost, x, n, st2)) :
    (x = 111 ∧ I st2) ∨ ∃ s, I s ∧ x = (good s).1 ∧ st2 = (good s).2 ∧ (lost = true ∨ s = st.begin) := by
  have := again_ind (step := fun s : St => s.run good) I (fun s hs h1 => by
    rcases run_111 h1 (hg _ (hb _ hs)).2 with ⟨_, e⟩ | ⟨_, e⟩
    · simp only [e]; exact hb _ hs
    · simp only [e]; exact (hg _ (hb _ hs)).1) t st h
  rw [hk] at this
  rcases this with h | ⟨s, h1, h2, h3, h4, h5⟩
  · exact .inl h
  · obtain ⟨_, _, e⟩ := run_ans h2
    simp only [e] at h3 h4; exact .inr ⟨s.begin, hb _ h1, h3, h4, h5.imp id fun e => by rw [e]⟩
theorem begin_script (st : St) : st.begin.script.length ≤ st.script.length - 1 := by simp [St.begin]
theorem part1_script (id k : Int) (b : List UInt8) (st : St) : (st.part1 id k b).2.script = st.script := by
  unfold St.part1; split
  · rfl
  · split <;> rfl
theorem part1_ids (id k : Int) (b : List UInt8) (st : St) : (st.part1 id k b).2.ids = st.ids := by
  unfold St.part1; split
  · rfl
  · split <;> rfl
theorem complete1_script (id k : Int) (st : St) : (st.complete1 id k).2.script = st.script := by
  unfold St.complete1; split
  · rfl
  · split
    · rfl
    · split <;> rfl
theorem complete1_ids (id k : Int) (st : St) : (st.complete1 id k).2.ids = st.ids := by
  unfold St.complete1; split
  · rfl
  · split
    · rfl
    · split <;> rfl
theorem run_ids {good : St → Nat × St} (hg : ∀ s, (good s).2.ids = s.ids) (st : St) : (st.run good).2.ids = st.ids := by
  unfold St.run
  split
  · rfl
  · simp [hg, St.begin]
end
section
open Go.RowKit
attribute [local irreducible] zAk
variable {g w : World} {L M : List HP} {ad : Nat → Addr} {p q : Nat} {osb K : List (ByteArray × List UInt8)} {l : List UInt8} {st : St} {e k t : Nat} {id : Int} {nm : ByteArray}
structure OsF (osb : List (ByteArray × List UInt8)) : Prop where
  one : ∀ n b b', (n, b) ∈ osb → (n, b') ∈ osb → b = b'
  len : ∀ n b, (n, b) ∈ osb → b.length ≤ 256
  val : ∀ n b, (n, b) ∈ osb → zBy n.data.toList = true
structure PIn (osb K : List (ByteArray × List UInt8)) (st : St) : Prop where
  small : st.small
  objs : ∀ n b, zAx st.objs n = some b → (n, b) ∈ osb
  kept : ∀ x ∈ K, zAx st.objs x.1 = some x.2
  nd : (zAm st.ups).Nodup
  rng : ∀ x ∈ zAm st.ups, 1 ≤ x ∧ x ≤ (st.ids : Nat)
  len : st.ups.length ≤ st.ids
theorem PIn.begin (h : PIn osb K st) : PIn osb K st.begin := ⟨h.small, h.objs, h.kept, h.nd, h.rng, h.len⟩
theorem PIn.empty (s : List Int) : PIn osb [] { St.empty with script := s } := ⟨⟨fun _ _ h => by simp [St.empty] at h, fun _ _ h => by simp [St.empty] at h⟩, fun n b h => by simp [St.empty, zAx] at h, fun x hx => (by cases hx), by simp [St.empty, zAm], fun x hx => (by simp [St.empty, zAm] at hx), by simp [St.empty]⟩
theorem PIn.keep (h : PIn osb K st) {n : ByteArray} {b : List UInt8} (ho : zAx st.objs n = some b) : PIn osb (K ++ [(n, b)]) st := ⟨h.small, h.objs, fun x hx => by
  rcases List.mem_append.1 hx with hx | hx
  · exact h.kept x hx
  · simp only [List.mem_cons, List.not_mem_nil, or_false] at hx; subst hx; exact ho, h.nd, h.rng, h.len⟩
theorem zGj (hv : zBy nm.data.toList = true) (st : St) : st.start1 nm = (0, ((st.ids + 1 : Nat) : Int), { st with ids := st.ids + 1, ups := zC1 st.ups ((st.ids + 1 : Nat) : Int) ⟨nm, []⟩ }) := by simp [St.start1, hv]
theorem PIn.new (h : PIn osb K st) : zAx st.ups ((st.ids + 1 : Nat) : Int) = none := (zBe _ _).2 fun hm => by have := (h.rng _ hm).2; omega
theorem PIn.start (h : PIn osb K st) (hv : zBy nm.data.toList = true) : PIn osb K (st.start1 nm).2.2 := by
  rw [zGj hv]; have hn := h.new
  have hk : zAm (zC1 st.ups ((st.ids + 1 : Nat) : Int) (⟨nm, []⟩ : Up)) = zAm st.ups ++ [((st.ids + 1 : Nat) : Int)] := by rw [zF4, if_neg ((zBe _ _).1 hn)]
  refine ⟨⟨h.small.1, fun i u hm => ?_⟩, h.objs, h.kept, ?_, fun x hx => ?_, ?_⟩
  · rcases aput_mem hm with hm | hm
    · simp only [Prod.mk.injEq] at hm; rw [hm.2]; exact fun _ _ h => by simp at h
    · exact h.small.2 i u hm
  · simp only [hk, List.nodup_append, List.nodup_cons, List.not_mem_nil, not_false_eq_true, List.nodup_nil, and_self, true_and]
    refine ⟨h.nd, fun a ha b hb => ?_⟩; simp only [List.mem_cons, List.not_mem_nil, or_false] at hb; have := (h.rng a ha).2
    omega
  · simp only [hk, List.mem_append, List.mem_cons, List.not_mem_nil, or_false] at hx
    rcases hx with hx | rfl
    · have := h.rng x hx; simp only; omega
    · simp only; omega
  · rw [aput_app hn]; have := h.len; simp only [List.length_append, List.length_cons, List.length_nil]; omega
def HasG (nm : ByteArray) (l : List UInt8) (e k : Nat) (id : Int) (st : St) : Prop := zAx st.ups id = some ⟨nm, pts l e k⟩
theorem partG_has (hk : k < 256) {j : Nat} (hj : j = k ∨ j = k + 1) (h : HasG nm l e j id st) : st.part1 id k (zE3 l e k) = (0, { st with ups := zC1 st.ups id ⟨nm, pts l e (k + 1)⟩ }) := by
  unfold St.part1
  rw [h]
  simp only
  rw [if_neg (by omega)]
  rcases hj with rfl | rfl
  · rw [pts_put]
  · rw [pts_put2]
theorem PIn.part (hl : l.length ≤ 256) (h : PIn osb K st) (hk : k < 256) {j : Nat} (hj : j = k ∨ j = k + 1) (hh : HasG nm l e j id st) : PIn osb K (st.part1 id k (zE3 l e k)).2 ∧ HasG nm l e (k + 1) id (st.part1 id k (zE3 l e k)).2 ∧ (st.part1 id k (zE3 l e k)).1 = 0 := by
  rw [partG_has hk hj hh]; have hk := keys_there (v' := (⟨nm, pts l e (k + 1)⟩ : Up)) hh; refine ⟨⟨⟨h.small.1, fun i u hm => ?_⟩, h.objs, h.kept, by simp only [hk]; exact h.nd, fun x hx => ?_, ?_⟩, zB7 _ _ _, rfl⟩
  · rcases aput_mem hm with hm | hm
    · simp only [Prod.mk.injEq] at hm; rw [hm.2]; exact fun i b hb => by have := pts_mem hb; omega
    · exact h.small.2 i u hm
  · simp only [hk] at hx; exact h.rng x hx
  · simp only [len_keys hk]; exact h.len
def zGz (nm : ByteArray) (l : List UInt8) (id : Int) (st : St) : Prop := zAx st.ups id = none ∧ zAx st.objs nm = some l
theorem completeG_gone (h : zGz nm l id st) (n : Int) : st.complete1 id n = (107, st) := by unfold St.complete1; rw [h.1]
theorem completeG_has (h1 : 1 ≤ e) (h3 : l.length ≤ 256) (h : HasG nm l e (zBb l.length e) id st) : st.complete1 id (zBb l.length e : Nat) = (0, { st with objs := zC1 st.objs nm l, ups := zDe st.ups id }) := by
  have hp := zDv (n := l.length) h1
  unfold St.complete1
  rw [h]
  simp only
  rw [if_neg (by omega), Int.toNat_natCast, if_pos (pts_all l e _), pts_whole l h1]
theorem hasG_gone {k : Nat} (h : HasG nm l e k id st) (hg : zGz nm l id st) : False := by
  have := hg.1
  unfold HasG at h
  rw [h] at this
  cases this
theorem PIn.complete (hO : OsF osb) (hm : (nm, l) ∈ osb) (hKo : ∀ x ∈ K, x ∈ osb) (h1 : 1 ≤ e) (h3 : l.length ≤ 256) (h : PIn osb K st) (hh : HasG nm l e (zBb l.length e) id st ∨ zGz nm l id st) :
    PIn osb K (st.complete1 id (zBb l.length e : Nat)).2 ∧ zGz nm l id (st.complete1 id (zBb l.length e : Nat)).2 ∧ (HasG nm l e (zBb l.length e) id st → (st.complete1 id (zBb l.length e : Nat)).1 = 0) ∧ (zGz nm l id st → (st.complete1 id (zBb l.length e : Nat)).1 = 107) := by
  rcases hh with hh | hh
  · have hc := zEg h.small id (zBb l.length e : Nat)
    rw [completeG_has h1 h3 hh] at hc ⊢; have hk := zF3 h.nd id; refine ⟨⟨hc, fun n b hb => ?_, fun x hx => ?_, ?_, fun x hx => ?_, ?_⟩, ⟨zCw h.nd id, zB7 _ _ _⟩, fun _ => rfl, fun hg => (hasG_gone hh hg).elim⟩
    · by_cases e1 : n = nm
      · subst e1; have hb : zAx (zC1 st.objs n l) n = some b := hb; rw [zB7] at hb; cases hb; exact hm
      · have hb : zAx (zC1 st.objs nm l) n = some b := hb; rw [zB1 _ _ e1] at hb; exact h.objs n b hb
    · show zAx (zC1 st.objs nm l) x.1 = some x.2
      by_cases e1 : x.1 = nm
      · rw [e1, zB7]
        exact congrArg some (hO.one nm l x.2 hm (by rw [← e1]; exact hKo x hx))
      · rw [zB1 _ _ e1]; exact h.kept x hx
    · simp only [hk]; exact h.nd.filter _
    · simp only [hk] at hx; exact h.rng x (List.mem_filter.1 hx).1
    · have h2 : (zAm (zDe st.ups id)).length ≤ (zAm st.ups).length := by rw [hk]; exact List.length_filter_le _ _
      simp only [zAm, List.length_map] at h2; have := h.len
      simp only
      omega
  · rw [completeG_gone hh]
    exact ⟨h, hh, fun hg => (hasG_gone hg hh).elim, fun _ => rfl⟩
theorem zEw (hv : zBy nm.data.toList = true) (st : St) : st.startR nm = if st.next = 1 then (0, 111, st.begin) else if st.next = 2 then (0, 111, (st.begin.start1 nm).2.2) else (((st.ids + 1 : Nat) : Int), 0, (st.begin.start1 nm).2.2) := by
  unfold St.startR
  split
  · rfl
  · split
    · rfl
    · rw [zGj hv]; rfl
theorem startG_script (hv : zBy nm.data.toList = true) (s : St × Int) : (zBr nm s).2.1.script.length ≤ s.1.script.length - 1 := by
  simp only [zBr, zEw hv]
  split
  · exact begin_script _
  · split <;> (simp only [zGj hv]; exact begin_script _)
theorem startG_res (hv : zBy nm.data.toList = true) (h : PIn osb K st) {lost : Bool} {x n : Nat} {st2 : St} {i : Int} (hk : zBo (zBr nm) t (st, 0) = (lost, x, n, st2, i)) : PIn osb K st2 ∧ (x = 111 ∨ x = 0 ∧ 1 ≤ i ∧ i ≤ (st2.ids : Nat) ∧ HasG nm l e 0 i st2) ∧ (st.script = [] → 1 ≤ t → x ≠ 111) := by
  refine ⟨?_, ?_, ?_⟩
  · have := again_ind (step := zBr nm) (fun s => PIn osb K s.1) (fun s hs h1 => by
      simp only [zBr, zEw hv] at h1 ⊢
      split
      · exact hs.begin
      · split <;> exact hs.begin.start hv) t (st, 0) h
    rw [hk] at this
    rcases this with ⟨_, h⟩ | ⟨s, hs, _, _, h, _⟩
    · exact h
    · have e2 : st2 = (zBr nm s).2.1 := congrArg Prod.fst h
      rw [e2]; simp only [zBr, zEw hv]
      split
      · exact hs.begin
      · split <;> exact hs.begin.start hv
  · have := again_ind (step := zBr nm) (fun s => PIn osb K s.1) (fun s hs h1 => by
      simp only [zBr, zEw hv] at h1 ⊢
      split
      · exact hs.begin
      · split <;> exact hs.begin.start hv) t (st, 0) h
    rw [hk] at this
    rcases this with ⟨h, _⟩ | ⟨s, hs, h1, h2, h3, _⟩
    · exact .inl h
    · have e2 : st2 = (zBr nm s).2.1 := congrArg Prod.fst h3
      have e3 : i = (zBr nm s).2.2 := congrArg Prod.snd h3; simp only at h2; rw [e2, e3, h2]; simp only [zBr, zEw hv] at h1 ⊢
      by_cases n1 : s.1.next = 1
      · rw [if_pos n1] at h1; exact absurd rfl h1
      · rw [if_neg n1] at h1 ⊢
        by_cases n2 : s.1.next = 2
        · rw [if_pos n2] at h1; exact absurd rfl h1
        · rw [if_neg n2]
          refine .inr ⟨rfl, by simp only; omega, ?_, ?_⟩
          · rw [zGj hv]; exact Int.le_refl _
          · rw [zGj hv]
            exact zB7 _ _ _
  · intro hn ht
    have n0 : st.next = 0 := by simp [St.next, hn]
    have h0 : (zBr nm (st, 0)).1 ≠ 111 := by simp only [zBr, zEw hv]; rw [if_neg (by omega), if_neg (by omega)]; show (0 : Nat) ≠ 111; decide
    obtain ⟨t, rfl⟩ : ∃ t', t = t' + 1 := ⟨t - 1, by omega⟩; have := again_first (t := t) h0; rw [hk] at this
    have e1 : x = (zBr nm (st, 0)).1 := by have := congrArg (fun r => r.2.1) this; exact this
    rw [e1]; exact h0
theorem runG_first {good : St → Nat × St} (hn : st.script = []) (hg : ∀ s, st.begin = s → (good s).1 ≠ 111) {t : Nat} {lost : Bool} {x n : Nat} {st2 : St} (hk : zBo (fun s => s.run good) (t + 1) st = (lost, x, n, st2)) : lost = false ∧ x ≠ 111 := by
  have n0 : st.next = 0 := by simp [St.next, hn]
  have hr : st.run good = good st.begin := by unfold St.run; rw [if_neg (by omega)]; simp [n0]
  have h1 : ((fun s : St => s.run good) st).1 ≠ 111 := by simp only [hr]; exact hg _ rfl
  have := again_first (step := fun s : St => s.run good) (t := t) h1; rw [hk] at this; refine ⟨congrArg (fun r => r.1) this, ?_⟩; have e1 : x = (st.run good).1 := congrArg (fun r => r.2.1) this
  rw [e1]; exact h1
theorem runG_bud {good : St → Nat × St} (hgc : ∀ st, (good st).2.calls = st.calls ∧ (good st).2.failed = st.failed) (hgi : ∀ s, (good s).2.ids = s.ids) (hgs : ∀ s, (good s).2.script = s.script) {lost : Bool} {x n : Nat} {st2 : St} (hk : zBo (fun s => s.run good) (t + 1) st = (lost, x, n, st2)) :
    st2.calls ≤ st.calls + (t + 1) ∧ st2.failed ≤ st.failed + (t + 1) ∧ st2.ids = st.ids ∧ n ≤ t + 1 ∧ st2.script.length ≤ st.script.length - 1 := by
  have h1 := zF8 (step := fun s : St => s.run good) (fun s => s.calls) (fun s => Nat.le_of_eq (zFv hgc s).1) (t + 1) st; have h2 := zF8 (step := fun s : St => s.run good) (fun s => s.failed) (fun s => (zFv hgc s).2) (t + 1) st; have h3 := again_n (step := fun s : St => s.run good) (t + 1) st; have h4 := again_less (step := fun s : St => s.run good) (fun s => s.script.length) (fun s => run_script hgs s) t st
  have h5 : ∀ (t : Nat) (s : St), (zBo (fun s : St => s.run good) t s).2.2.2.ids = s.ids := by
    intro t
    induction t with
    | zero => intro s; rfl
    | succ t ih =>
      intro s; simp only [zBo]
      split
      · simp only [ih]; exact run_ids hgi s
      · exact run_ids hgi s
  have h5 := h5 (t + 1) st; rw [hk] at h1 h2 h3 h4 h5; exact ⟨h1, h2, h5, h3, h4⟩
theorem headG_res (h : PIn osb K st) (hg : zGz nm l id st) {lost : Bool} {x n : Nat} {st2 : St} {i j : Int} (hk : zBo (zC5 nm) t (st, 0, 0) = (lost, x, n, st2, i, j)) :
    PIn osb K st2 ∧ zGz nm l id st2 ∧ (x = 111 ∨ x = 0 ∧ i = (l.length : Nat) ∧ j = (zC4 0 l : Nat)) := by
  have hh : ∀ s : St, zGz nm l id s → s.headR nm = if s.next = 1 ∨ s.next = 2 then (0, 0, 111, s.begin) else (((l.length : Nat) : Int), ((zC4 0 l : Nat) : Int), 0, s.begin) := fun s hs => by
    have h0 : s.begin.head1 nm = (0, ((l.length : Nat) : Int), ((zC4 0 l : Nat) : Int)) := by
      have : zAx s.begin.objs nm = some l := hs.2
      simp [St.head1, this]
    unfold St.headR
    split
    · rfl
    · rw [h0]; simp
  have := again_ind (step := zC5 nm) (fun s => PIn osb K s.1 ∧ zGz nm l id s.1) (fun s hs h1 => by
      simp only [zC5, zDp]
      exact ⟨hs.1.begin, hs.2⟩) t (st, 0, 0) ⟨h, hg⟩
  rw [hk] at this
  rcases this with ⟨h, h1, h2⟩ | ⟨s, ⟨h0, hs⟩, h1, h2, h3, _⟩
  · exact ⟨h1, h2, .inl h⟩
  · have e2 : st2 = (zC5 nm s).2.1 := congrArg Prod.fst h3
    have e3 : i = (zC5 nm s).2.2.1 := congrArg (fun r => r.2.1) h3; have e4 : j = (zC5 nm s).2.2.2 := congrArg (fun r => r.2.2) h3; have e5 : x = (zC5 nm s).1 := h2; subst e2 e3 e4 e5; simp only [zC5] at h1 ⊢; rw [zDp]; refine ⟨h0.begin, hs, ?_⟩; rw [hh _ hs] at h1 ⊢
    split
    · exact .inl rfl
    · exact .inr ⟨rfl, rfl, rfl⟩
theorem headG_bud {lost : Bool} {x n : Nat} {st2 : St} {i j : Int} (hk : zBo (zC5 nm) t (st, 0, 0) = (lost, x, n, st2, i, j)) :
    st2.calls ≤ st.calls + t ∧ st2.failed ≤ st.failed + t ∧ st2.ids = st.ids ∧ n ≤ t ∧ st2.script.length ≤ st.script.length := by
  have h1 := zF8 (step := zC5 nm) (fun s => s.1.calls) (fun s => by have := begin_counts s.1; simp only [zC5, zDp]; omega) t (st, 0, 0); have h2 := zF8 (step := zC5 nm) (fun s => s.1.failed) (fun s => by have := begin_counts s.1; simp only [zC5, zDp]; omega) t (st, 0, 0); have h3 := again_n (step := zC5 nm) t (st, 0, 0); have h4 := again_less0 (step := zC5 nm) (fun s => s.1.script.length) (fun s => by simp only [zC5, zDp]; exact begin_script _) t (st, 0, 0)
  have h5 : ∀ (t : Nat) (s : St × Int × Int), (zBo (zC5 nm) t s).2.2.2.1.ids = s.1.ids := by
    intro t
    induction t with
    | zero => intro s; rfl
    | succ t ih =>
      intro s; simp only [zBo]
      split
      · simp only [ih]; simp only [zC5, zDp]; rfl
      · simp only [zC5, zDp]; rfl
  have h5 := h5 t (st, 0, 0); rw [hk] at h1 h2 h3 h4 h5; exact ⟨h1, h2, h5, h3, h4⟩
end
section
open Go.RowKit
attribute [local irreducible] zAk
variable {g w : World} {L M : List HP} {ad : Nat → Addr} {p q : Nat} {osb K : List (ByteArray × List UInt8)} {l : List UInt8} {st : St} {e k t : Nat} {id : Int} {nm : ByteArray}
def PhaseG (nm : ByteArray) (l : List UInt8) (e : Nat) (id : Int) (done : Nat) (st : St) (m : Nat) : Prop :=
  (id = 0 ∧ done = 0 ∧ m = zBb l.length e + 2) ∨
  (1 ≤ id ∧ id ≤ (st.ids : Nat) ∧ done ≤ zBb l.length e ∧ m = zBb l.length e - done + 1 ∧ (HasG nm l e done id st ∨ done < zBb l.length e ∧ HasG nm l e (done + 1) id st)) ∨
  (1 ≤ id ∧ id ≤ (st.ids : Nat) ∧ done = zBb l.length e ∧ m = zBb l.length e + 3 ∧ zGz nm l id st)
def CleanG (l : List UInt8) (e : Nat) (id : Int) (st : St) (m : Nat) : Prop := st.script = [] ∧ (∀ x ∈ zAm st.ups, x = id) ∧ m ≤ zBb l.length e + 2
def PResG (osb K : List (ByteArray × List UInt8)) (nm : ByteArray) (l : List UInt8) (e t : Nat) (id : Int) (done : Nat) (st : St) (m : Nat) (id' : Int) (done' : Nat) (is : Bool) (x : Nat) (st' : St) : Prop :=
  PIn osb K st' ∧ st'.calls ≤ st.calls + 2 * t ∧ st'.failed ≤ st.failed + 2 * t ∧ st'.ids ≤ st.ids + t ∧ st'.script.length ≤ st.script.length - 1 ∧
  (x = 111 ∧ is = false ∧ id' = id ∧ done' = done ∧ st.script ≠ [] ∧ (∃ m', PhaseG nm l e id' done' st' m') ∨
   x = 0 ∧ is = false ∧ (∃ m', PhaseG nm l e id' done' st' m' ∧ m' + 1 ≤ m ∧ (CleanG l e id st m → CleanG l e id' st' m' ∧ m' + 1 = m) ∧ ∃ m2, PhaseG nm l e id done st' m2) ∨
   x = 0 ∧ is = true ∧ zGz nm l id st' ∧ (CleanG l e id st m → m = 1 ∧ st'.ups = [] ∧ st'.script = []) ∧ ∃ m2, PhaseG nm l e id done st' m2)
theorem PhaseG.le (h : PhaseG nm l e id k st t) : t ≤ zBb l.length e + 3 ∧ 1 ≤ t ∧ k ≤ zBb l.length e ∧ 0 ≤ id := by
  rcases h with ⟨h1, h2, h3⟩ | ⟨h1, h2, h3, h4, _⟩ | ⟨h1, h2, h3, h4, _⟩
  · exact ⟨by omega, by omega, by omega, by omega⟩
  · exact ⟨by omega, by omega, by omega, by omega⟩
  · exact ⟨by omega, by omega, by omega, by omega⟩
theorem zFo {st st' : St} (h : st'.script.length ≤ st.script.length - 1) (hn : st.script = []) : st'.script = [] := by
  rw [hn] at h; exact List.eq_nil_of_length_eq_zero (by simpa using h)
theorem startG_all (hv : zBy nm.data.toList = true) (h : PIn osb K st) {lost : Bool} {x n : Nat} {st2 : St} {i : Int} (hk : zBo (zBr nm) (t + 1) (st, 0) = (lost, x, n, st2, i)) :
    PResG osb K nm l e (t + 1) 0 0 st (zBb l.length e + 2) (if x = 0 then i else 0) 0 false x st2 ∧ n ≤ t + 1 := by
  obtain ⟨r1, r2, r3⟩ := startG_res (l := l) (e := e) hv h hk; have c1 := zF8 (step := zBr nm) (fun s => s.1.calls) (fun s => by have := zFl nm s.1; simp only [zBr]; omega) (t + 1) (st, 0); have c2 := zF8 (step := zBr nm) (fun s => s.1.failed) (fun s => by have := zFl nm s.1; simp only [zBr]; omega) (t + 1) (st, 0); have c3 := zF8 (step := zBr nm) (fun s => s.1.ids) (fun s => by have := zFl nm s.1; simp only [zBr]; omega) (t + 1) (st, 0); have c4 := again_n (step := zBr nm) (t + 1) (st, 0); have c5 := again_less (step := zBr nm) (fun s => s.1.script.length) (startG_script hv) t (st, 0)
  have hcl : st.script = [] → i = ((st.ids + 1 : Nat) : Int) ∧ st2 = (st.begin.start1 nm).2.2 := fun hn => by
    have n0 : st.next = 0 := by simp [St.next, hn]
    have e1 : st.startR nm = (((st.ids + 1 : Nat) : Int), 0, (st.begin.start1 nm).2.2) := by rw [zEw hv, if_neg (by omega), if_neg (by omega)]
    have h0 : (zBr nm (st, 0)).1 ≠ 111 := by simp only [zBr, e1]; decide
    have h1 := again_first (t := t) h0; rw [hk] at h1; simp only [zBr, e1, Prod.mk.injEq] at h1; exact ⟨h1.2.2.2.2, h1.2.2.2.1⟩
  rw [hk] at c1 c2 c3 c4 c5; simp only at c1 c2 c3 c4 c5; refine ⟨⟨r1, by omega, by omega, c3, c5, ?_⟩, c4⟩
  rcases r2 with rfl | ⟨rfl, hi1, hi2, hh⟩
  · exact .inl ⟨rfl, rfl, by rw [if_neg (by decide)], rfl, fun hn => r3 hn (by omega) rfl, _, .inl ⟨by rw [if_neg (by decide)], rfl, rfl⟩⟩
  · rw [if_pos rfl]
    refine .inr (.inl ⟨rfl, rfl, zBb l.length e + 1, .inr (.inl ⟨hi1, hi2, Nat.zero_le _, rfl, .inl hh⟩), by omega, fun hc => ⟨⟨zFo c5 hc.1, fun y hy => ?_, by omega⟩, by omega⟩, _, .inl ⟨rfl, rfl, rfl⟩⟩); obtain ⟨e1, e2⟩ := hcl hc.1
    have hups : st.ups = [] := by
      cases hu : st.ups with
      | nil => rfl
      | cons z zs =>
        have hz : z.1 ∈ zAm st.ups := by rw [hu]; exact List.mem_cons_self ..
        have h1 := hc.2.1 z.1 hz; have h2 := h.rng z.1 hz
        omega
    rw [e2, zGj hv] at hy; have hy : y ∈ zAm (zC1 st.ups ((st.ids + 1 : Nat) : Int) (⟨nm, []⟩ : Up)) := hy; rw [hups] at hy; simp only [zC1, zAm, List.map_cons, List.map_nil, List.mem_cons, List.not_mem_nil, or_false] at hy; rw [hy, e1]
theorem part_all (h : PIn osb K st) (he : 1 ≤ e) (hl : l.length ≤ 256) (hi : 1 ≤ id) (hi2 : id ≤ (st.ids : Nat)) (hd : k < zBb l.length e) (hh : HasG nm l e k id st ∨ HasG nm l e (k + 1) id st) {lost : Bool} {x n : Nat} {st2 : St} (hk : zBo (fun s => s.run (St.part1 id k (zE3 l e k))) (t + 1) st = (lost, x, n, st2)) :
    PResG osb K nm l e (t + 1) id k st (zBb l.length e - k + 1) id (if x = 0 then k + 1 else k) false x st2 ∧ n ≤ t + 1 ∧ x ≠ 107 := by
  have hP := zDv (n := l.length) he; obtain ⟨c1, c2, c3, c4, c5⟩ := runG_bud (part1_counts id k (zE3 l e k)) (part1_ids id k _) (part1_script id k _) hk
  have hg : ∀ s : St, (PIn osb K s ∧ (HasG nm l e k id s ∨ HasG nm l e (k + 1) id s)) → PIn osb K (s.part1 id k (zE3 l e k)).2 ∧ HasG nm l e (k + 1) id (s.part1 id k (zE3 l e k)).2 ∧ (s.part1 id k (zE3 l e k)).1 = 0 := fun s ⟨k1, k2⟩ =>
    k2.elim (k1.part hl (by omega) (.inl rfl)) (k1.part hl (by omega) (.inr rfl))
  have hkeys : ∀ s : St, (HasG nm l e k id s ∨ HasG nm l e (k + 1) id s) → zAm (s.part1 id k (zE3 l e k)).2.ups = zAm s.ups := fun s k2 => by
    rcases k2 with k2 | k2
    · rw [partG_has (by omega) (.inl rfl) k2]; exact keys_there k2
    · rw [partG_has (by omega) (.inr rfl) k2]; exact keys_there k2
  have hx := again_keep (good := St.part1 id k (zE3 l e k)) (fun s => PIn osb K s ∧ (HasG nm l e k id s ∨ HasG nm l e (k + 1) id s) ∧ zAm s.ups = zAm st.ups) (fun _ => True) (fun s k => ⟨k.1.begin, k.2⟩) (fun s k => by have := hg s ⟨k.1, k.2.1⟩; exact ⟨⟨this.1, .inr this.2.1, (hkeys s k.2.1).trans k.2.2⟩, by rw [this.2.2]; decide⟩) ⟨h, hh, rfl⟩ hk
  rcases hx with ⟨rfl, k1, k2, k3⟩ | ⟨s, ⟨k1, k0, k4⟩, k2, k3, _⟩
  · refine ⟨⟨k1, by omega, by omega, by omega, c5, .inl ⟨rfl, rfl, rfl, by rw [if_neg (by decide)], fun hn => ?_, zBb l.length e - k + 1, .inr (.inl ⟨hi, by omega, by rw [if_neg (by decide)]; omega, by rw [if_neg (by decide)], ?_⟩)⟩⟩, c4, by decide⟩
    · exact absurd rfl (runG_first hn (fun s hs => by have := hg s (hs ▸ ⟨h.begin, hh⟩); rw [this.2.2]; decide) hk).2
    · rw [if_neg (by decide)]; exact k2.imp _root_.id fun h => ⟨hd, h⟩
  · obtain ⟨g1, g2, g3⟩ := hg s ⟨k1, k0⟩
    rw [g3] at k2; subst k2 k3; rw [if_pos rfl]; exact ⟨⟨g1, by omega, by omega, by omega, c5, .inr (.inl ⟨rfl, rfl, zBb l.length e - (k + 1) + 1, .inr (.inl ⟨hi, by omega, by omega, rfl, .inl g2⟩), by omega, fun hc => ⟨⟨zFo c5 hc.1, fun y hy => hc.2.1 y (by rw [hkeys s k0, k4] at hy; exact hy), by omega⟩, by omega⟩, _, .inr (.inl ⟨hi, by omega, by omega, rfl, .inr ⟨hd, g2⟩⟩)⟩)⟩, c4, by decide⟩
set_option maxHeartbeats 800000 in
theorem ps_gen (hE : ErrG ad g) (hO : OsF osb) (hm : (nm, l) ∈ osb) (hKo : ∀ x ∈ K, x ∈ osb) (h1 : 1 ≤ e) (h2 : e ≤ 1000) (ht : t + 1 ≤ 8) {done a m : Nat} (hv : PIn osb K st) (hph : PhaseG nm l e id done st m) (hcl : st.calls ≤ 1000000) (hfl : st.failed ≤ 1000000) (hid : st.ids ≤ 1000000) (ha : a ≤ 1000000) (hs : Mem g w (zBh q p ((t + 1 : Nat) : Int) (a : Nat) :: zB8 p st :: M)) {ba : Option Addr} {c : Nat} (hr : Rd g M (.slice ba l.length c) (zAn l)) :
    Calls Tryz.prog 99 #[.pointer (some ⟨q, 0, none⟩), .agg (planC nm l.length (zC4 0 l : Nat) e (zBb l.length e : Nat)).toArray, .slice ba l.length c, .int .i64 id, .int .i64 (done : Nat)] w
      (Ret fun v w' => ∃ (id' : Int) (done' : Nat) (is : Bool) (x : Nat) (st' : St) (a' : Nat), v = .tuple #[.int .i64 id', .int .i64 (done' : Nat), .bool is, zAk ad x] ∧ a' ≤ a + 2 * (t + 1) ∧ PResG osb K nm l e (t + 1) id done st m id' done' is x st' ∧ Mem g w' (zBh q p ((t + 1 : Nat) : Int) (a' : Nat) :: zB8 p st' :: M)) := by
  have hl := hO.len nm l hm; have hva := hO.val nm l hm; have hP := zDv (n := l.length) h1; have hF : Fair l.length e (zBb l.length e) := fairN h1 h2 hl
  by_cases hz : id = 0
  · subst hz
    have hd : done = 0 ∧ m = zBb l.length e + 2 := by rcases hph with h | h | h <;> first | exact h.2 | (exfalso; omega)
    obtain ⟨rfl, rfl⟩ := hd; obtain ⟨lost, x, n, st2, i2, hk⟩ : ∃ lost x n st2 i2, zBo (zBr nm) (t + 1) (st, 0) = (lost, x, n, st2, i2) := ⟨_, _, _, _, _, rfl⟩; obtain ⟨r1, r2⟩ := startG_all (l := l) (e := e) hva hv hk; refine (step_start (t := t + 1) hE ⟨by omega, by omega⟩ ht hs (by omega) (by omega) (by omega) hF (done := ((0 : Nat) : Int)) ⟨by omega, by omega⟩ hk).mono ?_; rintro _ w' ⟨v, rfl, rfl, hs⟩; refine ⟨_, rfl, (if x = 0 then i2 else 0), 0, false, x, st2, a + n, ?_, by omega, r1, hs⟩
    split <;> rfl
  · by_cases hd : done < zBb l.length e
    · have hm' : 1 ≤ id ∧ id ≤ (st.ids : Nat) ∧ m = zBb l.length e - done + 1 ∧ (HasG nm l e done id st ∨ HasG nm l e (done + 1) id st) := by
        rcases hph with h | ⟨k1, k0, k2, k3, k4⟩ | h
        · exact absurd h.1 hz
        · exact ⟨k1, k0, k3, k4.imp (fun h => h) fun h => h.2⟩
        · omega
      obtain ⟨hi1, hi2, rfl, hh⟩ := hm'; obtain ⟨lost, x, n, st2, hk⟩ : ∃ lost x n st2, zBo (fun s => s.run (St.part1 id done (zE3 l e done))) (t + 1) st = (lost, x, n, st2) := ⟨_, _, _, _, rfl⟩; obtain ⟨r1, r2, r3⟩ := part_all hv h1 hl hi1 hi2 hd hh hk; refine (step_part (t := t + 1) (l := l) hE ⟨by omega, by omega⟩ ht hs (by omega) (by omega) hF hz hd hr hk).mono ?_; rintro _ w' ⟨v, rfl, rfl, hs⟩; refine ⟨_, rfl, id, (if x = 0 then done + 1 else done), false, x, st2, a + n, ?_, by omega, r1, hs⟩; rw [if_neg r3, if_neg r3, if_neg r3]
      split <;> rfl
    · have hm' : done = zBb l.length e ∧ 1 ≤ id ∧ id ≤ (st.ids : Nat) ∧ ((m = 1 ∧ HasG nm l e (zBb l.length e) id st) ∨ (m = zBb l.length e + 3 ∧ zGz nm l id st)) := by
        rcases hph with h | ⟨k1, k0, k2, k3, k4⟩ | ⟨k1, k0, k2, k3, k4⟩
        · exact absurd h.1 hz
        · have : done = zBb l.length e := by omega
          subst this; refine ⟨rfl, k1, k0, .inl ⟨by omega, ?_⟩⟩
          rcases k4 with k4 | k4
          · exact k4
          · omega
        · exact ⟨k2, k1, k0, .inr ⟨k3, k4⟩⟩
      obtain ⟨rfl, hi1, hi2, hh⟩ := hm'; obtain ⟨lost, x, n, st2, hk⟩ : ∃ lost x n st2, zBo (fun s => s.run (St.complete1 id (zBb l.length e : Nat))) (t + 1) st = (lost, x, n, st2) := ⟨_, _, _, _, rfl⟩; obtain ⟨l2, y, n2, st3, i3, j3, hq⟩ : ∃ l2 y n2 st3 i3 j3, zBo (zC5 nm) (t + 1) (st2, 0, 0) = (l2, y, n2, st3, i3, j3) := ⟨_, _, _, _, _, _, rfl⟩; obtain ⟨c1, c2, c3, c4, c5⟩ := runG_bud (zFg id (zBb l.length e : Nat)) (complete1_ids id _) (complete1_script id _) hk; obtain ⟨d1, d2, d3, d4, d5⟩ := headG_bud hq
      have hI : HasG nm l e (zBb l.length e) id st ∨ zGz nm l id st := hh.imp (fun h => h.2) fun h => h.2
      have hg : ∀ s : St, (PIn osb K s ∧ (HasG nm l e (zBb l.length e) id s ∨ zGz nm l id s)) → PIn osb K (s.complete1 id (zBb l.length e : Nat)).2 ∧ zGz nm l id (s.complete1 id (zBb l.length e : Nat)).2 ∧ (HasG nm l e (zBb l.length e) id s → (s.complete1 id (zBb l.length e : Nat)).1 = 0) ∧ (zGz nm l id s → (s.complete1 id (zBb l.length e : Nat)).1 = 107) := fun s ⟨k1, k2⟩ => k1.complete hO hm hKo h1 hl k2
      have hg1 : ∀ s : St, (PIn osb K s ∧ (HasG nm l e (zBb l.length e) id s ∨ zGz nm l id s)) → (s.complete1 id (zBb l.length e : Nat)).1 ≠ 111 := fun s k => by
        have := hg s k
        rcases k.2 with k | k
        · rw [this.2.2.1 k]; decide
        · rw [this.2.2.2 k]; decide
      have hx := again_keep (good := St.complete1 id (zBb l.length e : Nat)) (fun s => PIn osb K s ∧ (HasG nm l e (zBb l.length e) id s ∨ zGz nm l id s)) (fun _ => True) (fun s k => ⟨k.1.begin, k.2⟩) (fun s k => ⟨⟨(hg s k).1, .inr (hg s k).2.1⟩, hg1 s k⟩) ⟨hv, hI⟩ hk
      have hfirst : st.script = [] → lost = false ∧ x ≠ 111 := fun hn => runG_first hn (fun s hs => hg1 s (hs ▸ ⟨hv.begin, hI⟩)) hk
      refine (step_complete (t := t + 1) (id := id) hE hv.small ⟨by omega, by omega⟩ ht hs (by omega) (by omega) hF hz hk hq rfl rfl rfl).mono ?_; rintro _ w' ⟨v, rfl, rfl, hs⟩
      rcases hx with ⟨rfl, k1, k2⟩ | ⟨s, k1, k2, k3, k4⟩
      · have hc : ¬ (lost = true ∧ (111 : Nat) = 107) := fun h => absurd h.2 (by decide)
        simp only [if_neg hc] at hs ⊢
        have hns : st.script ≠ [] := fun hn => (hfirst hn).2 rfl
        refine ⟨_, rfl, id, zBb l.length e, false, 111, st2, a + n, rfl, by omega, ⟨k1, by omega, by omega, by omega, c5, .inl ⟨rfl, rfl, rfl, rfl, hns, ?_⟩⟩, hs⟩
        rcases k2 with k2 | k2
        · exact ⟨_, .inr (.inl ⟨hi1, by omega, Nat.le_refl _, rfl, .inl k2⟩)⟩
        · exact ⟨_, .inr (.inr ⟨hi1, by omega, rfl, rfl, k2⟩)⟩
      · obtain ⟨g1, g2, g3, g4⟩ := hg s k1
        rcases k1.2 with hs1 | hs1
        · rw [g3 hs1] at k2
          subst k2 k3
          have hc : ¬ (lost = true ∧ (0 : Nat) = 107) := fun h => absurd h.2 (by decide)
          simp only [if_neg hc] at hs ⊢; refine ⟨_, rfl, id, zBb l.length e, true, 0, _, a + n, rfl, by omega, ⟨g1, by omega, by omega, by omega, c5, .inr (.inr ⟨rfl, rfl, g2, fun hcl => ?_, _, .inr (.inr ⟨hi1, by omega, rfl, rfl, g2⟩)⟩)⟩, hs⟩
          have hsb : s = st.begin := by
            rcases k4 with h | h
            · have := (hfirst hcl.1).1; rw [h] at this; cases this
            · exact h
          have hm1 : m = 1 := by
            rcases hh with h | h
            · exact h.1
            · have := hcl.2.2; omega
          refine ⟨hm1, ?_, zFo c5 hcl.1⟩; rw [hsb] at hs1 ⊢; rw [completeG_has h1 hl hs1]
          show zDe st.ups id = []
          have hkk := zF3 hv.nd id
          cases hu : zDe st.ups id with
          | nil => rfl
          | cons z zs =>
            have hz1 : z.1 ∈ zAm (zDe st.ups id) := by rw [hu]; exact List.mem_cons_self ..
            rw [hkk, List.mem_filter] at hz1; have h5 := hcl.2.1 z.1 hz1.1; have h6 := hz1.2; rw [h5] at h6
            simp at h6
        · rw [g4 hs1] at k2
          subst k2; subst k3
          cases lost with
          | true =>
            obtain ⟨e1, e2, e3⟩ := headG_res g1 g2 hq
            have hns : st.script ≠ [] := fun hn => absurd (hfirst hn).1 (by decide)
            simp only [and_self, if_true] at hs ⊢
            rcases e3 with rfl | ⟨rfl, rfl, rfl⟩
            · simp only [if_true] at hs ⊢
              exact ⟨_, rfl, id, zBb l.length e, false, 111, st3, a + (n + n2), rfl, by omega, ⟨e1, by omega, by omega, by omega, by omega, .inl ⟨rfl, rfl, rfl, rfl, hns, _, .inr (.inr ⟨hi1, by omega, rfl, rfl, e2⟩)⟩⟩, hs⟩
            · exact ⟨_, rfl, id, zBb l.length e, true, 0, st3, a + (n + n2), by simp, by omega, ⟨e1, by omega, by omega, by omega, by omega, .inr (.inr ⟨rfl, rfl, e2, fun hcl => absurd hcl.1 hns, _, .inr (.inr ⟨hi1, by omega, rfl, rfl, e2⟩)⟩)⟩, hs⟩
          | false =>
            have hc : ¬ (false = true ∧ (107 : Nat) = 107) := fun h => absurd h.1 (by decide)
            simp only [if_neg hc] at hs ⊢
            have hsb : s = st.begin := by rcases k4 with h | h; cases h; exact h
            have hgs : zGz nm l id st := by rw [hsb] at hs1; exact hs1
            have hm2 : m = zBb l.length e + 3 := by rcases hh with ⟨_, h⟩ | ⟨h, _⟩; exact (hasG_gone h hgs).elim; exact h
            subst hm2; exact ⟨_, rfl, 0, 0, false, 0, _, a + n, rfl, by omega, ⟨g1, by omega, by omega, by omega, c5, .inr (.inl ⟨rfl, rfl, _, .inl ⟨rfl, rfl, rfl⟩, by omega, fun hcl => (by have := hcl.2.2; omega), _, .inr (.inr ⟨hi1, by omega, rfl, rfl, g2⟩)⟩)⟩, hs⟩
end
end Go.Proofs.YthejaanobeonnaaGreatDoor
