/- The client: 'again', Put, New, Asked. -/
import Derived.Test.YtjiigajekminaaaDoorLawA
import Derived.WalkMore
namespace Go.Proofs.YtjiigajekminaaaDoor
open Go.RowKit

/-- The client's cells. -/
def ClientCells (p : Nat) (tries asked : Int) : Array Value := #[.pointer (some ⟨p, 0, none⟩), .int .i64 tries, .int .i64 asked]
structure ClAt (B : Nat) (w : World) (q p : Nat) (tries asked : Int) (st : St) (fp dt : List Nat) : Prop where
  store : StoreAt B w p st fp dt
  cells : w.heap[q]? = some (.cells (ClientCells p tries asked) 104 (0, 0))
  qF : q ∉ fp
  qD : q ∉ dt
  ge : B ≤ q
theorem ClAt.lt {B : Nat} {w : World} {q p : Nat} {tries asked : Int} {st : St} {fp dt : List Nat} (h : ClAt B w q p tries asked st fp dt) : q < w.heap.size := lt_of_block h.cells
structure ClTurned (B : Nat) (w : World) (q p : Nat) (fp dt : List Nat) (tries asked : Int) (st' : St) (w' : World) (fp' dt' : List Nat) : Prop where
  at_ : ClAt B w' q p tries asked st' fp' dt'
  keeps : Keeps (fun i => i ∈ fp ∨ i = q) w w'
  fpNew : ∀ k ∈ fp', k ∈ fp ∨ w.heap.size ≤ k
  dtNew : ∀ k ∈ dt', k ∈ dt ∨ w.heap.size ≤ k
theorem ClAt.keep {F : Nat → Prop} {B : Nat} {w w' : World} {q p : Nat} {tries asked : Int} {st : St} {fp dt : List Nat} (h : ClAt B w q p tries asked st fp dt) (k : Keeps F w w') (hF : ∀ b, b ∈ fp ∨ b ∈ dt → ¬ F b) (hq : ¬ F q) : ClAt B w' q p tries asked st fp dt :=
  ⟨h.store.keep k hF, k.get h.cells hq, h.qF, h.qD, h.ge⟩
theorem ClTurned.refl {B : Nat} {w : World} {q p : Nat} {tries asked : Int} {st : St} {fp dt : List Nat} (h : ClAt B w q p tries asked st fp dt) : ClTurned B w q p fp dt tries asked st w fp dt := ⟨h, Keeps.refl _ _, fun _ h => .inl h, fun _ h => .inl h⟩
theorem ClTurned.trans {B : Nat} {w w1 w2 : World} {q p : Nat} {fp dt fp1 dt1 fp2 dt2 : List Nat} {t a1 a2 : Int} {st1 st2 : St} (h : ClTurned B w q p fp dt t a1 st1 w1 fp1 dt1) (k : ClTurned B w1 q p fp1 dt1 t a2 st2 w2 fp2 dt2) : ClTurned B w q p fp dt t a2 st2 w2 fp2 dt2 where
  at_ := k.at_
  keeps := h.keeps.trans' k.keeps fun i hi hg => hg.elim (fun hg => .inl ((h.fpNew i hg).resolve_right (by omega))) .inr
  fpNew i hi := (k.fpNew i hi).elim (h.fpNew i) fun hs => .inr (Nat.le_trans h.keeps.size hs)
  dtNew i hi := (k.dtNew i hi).elim (h.dtNew i) fun hs => .inr (Nat.le_trans h.keeps.size hs)
theorem ClTurned.below {B : Nat} {w w' : World} {q p : Nat} {fp dt fp' dt' : List Nat} {t a a' : Int} {st st' : St} (h : ClTurned B w q p fp dt t a' st' w' fp' dt') (h0 : ClAt B w q p t a st fp dt) (hB : B ≤ w.heap.size) : Below B w w' :=
  h.keeps.below hB fun i hi hf => hf.elim (fun hf => by have := h0.store.ge i hf; omega) (fun e => by have := h0.ge; omega)
theorem ClTurned.from {B : Nat} {w w0 w' : World} {q p : Nat} {fp dt fp' dt' : List Nat} {t a : Int} {st' : St} (k0 : Keeps (fun _ => False) w w0) (h : ClTurned B w0 q p fp dt t a st' w' fp' dt') : ClTurned B w q p fp dt t a st' w' fp' dt' :=
  ⟨h.at_, (k0.mono fun _ _ h => h.elim).trans h.keeps, fun k hk => (h.fpNew k hk).imp id fun x => Nat.le_trans k0.size x, fun k hk => (h.dtNew k hk).imp id fun x => Nat.le_trans k0.size x⟩
/-- What turned the store alone. -/
theorem ClAt.turned {B : Nat} {w w' : World} {q p : Nat} {fp dt fp' dt' : List Nat} {t a : Int} {st st' : St} (h : ClAt B w q p t a st fp dt) (k : StTurned B w p fp dt st' w' fp' dt') : ClTurned B w q p fp dt t a st' w' fp' dt' where
  at_ := ⟨k.at_, k.keeps.get h.cells h.qF, fun hf => (k.fpNew q hf).elim h.qF fun x => by have := h.lt; omega, fun hf => (k.dtNew q hf).elim h.qD fun x => by have := h.lt; omega, h.ge⟩
  keeps := k.keeps.mono fun _ _ h => .inl h
  fpNew := k.fpNew
  dtNew := k.dtNew
/-- What turned the client's cells alone. -/
theorem ClAt.counted {B : Nat} {w w' : World} {q p : Nat} {fp dt : List Nat} {t a a' : Int} {st : St} (h : ClAt B w q p t a st fp dt) (k : Keeps (· = q) w w') (hc : w'.heap[q]? = some (.cells (ClientCells p t a') 104 (0, 0))) : ClTurned B w q p fp dt t a' st w' fp dt where
  at_ := ⟨h.store.keep k fun b hb e => by subst e; exact hb.elim h.qF h.qD, hc, h.qF, h.qD, h.ge⟩
  keeps := k.mono fun _ _ e => .inr e
  fpNew _ h := .inl h
  dtNew _ h := .inl h

/-- '==' between an error of ours and a sentinel. -/
theorem run_eql_code {L : List Nat} {ad : Nat → Addr} {B : Nat} {w : World} (h : Errs L ad B w) {c d : Nat} (hc : c = 0 ∨ c ∈ L) (hd : d ∈ L) :
    (binOp .eql 29 (errV ad c) (errV ad d)).run Tryd.prog w = .ok (.bool (c == d)) w := by
  rcases hc with rfl | hc
  · have hd0 := h.pos d hd
    rw [errV_zero, errV_pos ad hd0]
    have : (0 == d) = false := by simpa using (Ne.symm hd0)
    rw [this]
    have hq : (Op.equal 29 .nilIface (.iface 174 (.pointer (some (ad d))))).run Tryd.prog w = .ok false w := by
      show (Op.equalIn 10000 _ _ _).run Tryd.prog w = _
      rw [Op.equalIn]
      simp [run_underlying Tryd.underlying29]
    simp only [binOp]
    simp [hq]
  · rw [errV_pos ad (h.pos c hc), errV_pos ad (h.pos d hd)]
    exact run_eql_errs h hc hd
theorem run_guard_code (ad : Nat → Addr) (op : BinOp) (t : TypeId) (x y : Operand) {w : World} (c : Nat) {d : Nat} (hd : d ≠ 0) : (eqGuard op t x y (errV ad c) (errV ad d)).run Tryd.prog w = .ok () w := by
  rw [errV_pos ad hd]
  by_cases h : c = 0
  · subst h; rw [errV_zero]; cases op <;> rfl
  · rw [errV_pos ad h]; cases op <;> rfl

theorem client_size : (Tryd.prog.info? 3).map (·.size) = some 1 := by kernel_rfl

section
variable {L : List Nat} {ad : Nat → Addr} {B : Nat} {w : World} {q p : Nat} {tries : Nat} {a0 : Int} {f : FuncId} {cap : Array Value} {J J' : Nat → World → Prop} {R : Ending → World → Prop}
set_option maxRecDepth 100000 in
theorem again_any (hcf : ∀ w, (callFunc f cap).run Tryd.prog w = .ok (.enter f cap) w) (h111 : 111 ∈ L) (hlt : tries ≤ 8) (ha0 : 0 ≤ a0 ∧ a0 < 1000000000000)
    (hJc : ∀ k w, J k w → w.heap[q]? = some (.cells (ClientCells p tries (a0 + k)) 104 (0, 0)) ∧ Errs L ad B w)
    (hset : ∀ k w w1, k < tries → J k w → Keeps (· = q) w w1 → w1.heap[q]? = some (.cells (ClientCells p tries (a0 + k + 1)) 104 (0, 0)) → J' k w1)
    (hdo : ∀ k w1, k < tries → J' k w1 → Calls Tryd.prog f cap w1 fun e w2 => ∃ v, e = .returned v ∧ ∃ c, v = errV ad c ∧ (c = 0 ∨ c ∈ L) ∧ Errs L ad B w2 ∧ (c = 111 → J (k + 1) w2) ∧ (c ≠ 111 → R (.returned (.tuple #[.bool (decide (0 < k)), errV ad c])) w2))
    (hlost : ∀ w1, J tries w1 → R (.returned (.tuple #[.bool (decide (0 < tries)), errV ad 111])) w1)
    (h0 : J 0 w) :
    Calls Tryd.prog 76 #[.pointer (some ⟨q, 0, none⟩), .func (.func f) #[] cap] w R := by
  have cE : w.cell? ⟨4, 0, none⟩ = some (errV ad 111) := (hJc 0 w h0).2.cell 111 h111
  have cT : w.cell? ⟨q, 1, none⟩ = some (.int .i64 (tries : Int)) := cell_at (hJc 0 w h0).1 rfl
  have HCF := Lib.hid hcf
  have HJ := Lib.hid hJc
  have HS := Lib.hid hset
  have HD := Lib.hid hdo
  have HL := Lib.hid hlost
  have H0 := Lib.hid h0
  clear hcf hJc hset hdo hlost h0
  go_enter Tryd.func76, Tryd.ntmps76
  go_wp2
  go_step3
  go_wp2
  go_step3
  go_wp2
  go_loopw [6, 7, 13] (fun lost err i wr => ∃ k : Nat, k ≤ tries ∧ i = .int .i64 k ∧ lost = .bool (decide (0 < k)) ∧ err = errV ad 111 ∧ J k wr) (fun _ _ i _ => tries - (intOf i).toNat)
  case atStart => exact ⟨0, Nat.zero_le _, rfl, rfl, rfl, H0.out⟩
  case round =>
    obtain ⟨k, hk, rfl, rfl, rfl, hj⟩ := hrel
    have HJk := Lib.hid hj
    have Hq := Lib.hid (HJ.out k wr hj).1
    have c2 : wr.cell? ⟨q, 2, none⟩ = some (.int .i64 (a0 + k)) := cell_at (HJ.out k wr hj).1 rfl
    clear hj
    by_cases hkt : k < tries
    · go_wp2_with (first
        | (refine wpList_callValue rfl _ _ rfl rfl HCF.out (HD.out k w1 hkt H1.out) ?_)
        | (refine wpList_storeCell rfl _ _ _ rfl q 2 (.int .i64 (a0 + k + 1)) rfl rfl Hq.out client_size (by simp [ClientCells]) rfl ?_; intro w1 h1 k1 _; have H1 := Lib.hid (HS.out k _ w1 hkt HJk.out k1 h1); clear h1 k1 c2))
      intro v w2 c hv hc hE2 hj hr
      subst hv
      have hgd := fun x y => run_guard_code (w := w2) ad .eql 29 x y c (d := 111) (by decide)
      have hcmp := run_eql_code hE2 hc h111
      have cE2 := hE2.cell 111 h111
      simp only [gidx] at cE2
      have HE2 := Lib.hid hE2
      have HJ2 := Lib.hid hj
      have HR2 := Lib.hid hr
      clear hE2 hj hr hc
      by_cases h1 : c = 111
      · subst h1
        have hcmp' : (binOp .eql 29 (errV ad 111) (errV ad 111)).run Tryd.prog w2 = .ok (.bool true) w2 := by rw [hcmp]; rfl
        clear hcmp
        go_wp2
        go_roundw
        case rel => exact ⟨k + 1, by omega, by go_num, by simp, rfl, HJ2.out rfl⟩
        case measure => simp [intOf]; omega
      · have hcmp' : (binOp .eql 29 (errV ad c) (errV ad 111)).run Tryd.prog w2 = .ok (.bool false) w2 := by
          rw [hcmp]
          have : (c == 111) = false := by simpa using h1
          rw [this]
        clear hcmp
        go_wp2
        exact HR2.out h1
    · have hk' : k = tries := by omega
      subst hk'
      clear c2 hkt
      have hl := HL.out wr HJk.out
      have HLL := Lib.hid hl
      clear hl
      go_wp2
      exact HLL.out
end

/-- What a client's asking comes to: whether an answer was lost; the error; how often it asked; the store. -/
def St.again (good : St → Nat × St) : Nat → St → Bool × Nat × Nat × St
  | 0, st => (false, 111, 0, st)
  | n + 1, st => if (st.run good).1 = 111 then (true, (St.again good n (st.run good).2).2.1, (St.again good n (st.run good).2).2.2.1 + 1, (St.again good n (st.run good).2).2.2.2) else (false, (st.run good).1, 1, (st.run good).2)
def AgainPost (ad : Nat → Addr) (B : Nat) (w : World) (q p : Nat) (fp dt : List Nat) (tries : Nat) (a0 : Int) (x : Bool × Nat × Nat × St) (e : Ending) (w' : World) : Prop :=
  e = .returned (.tuple #[.bool x.1, errV ad x.2.1]) ∧ ∃ fp' dt', ClTurned B w q p fp dt tries (a0 + x.2.2.1) x.2.2.2 w' fp' dt'
/-- What a round of asking keeps. -/
structure AgAt (good : St → Nat × St) (B : Nat) (w : World) (q p : Nat) (fp dt : List Nat) (tries : Nat) (a0 : Int) (st : St) (k : Nat) (a : Int) (w1 : World) : Prop where
  body : ∃ st1 fp1 dt1, ClTurned B w q p fp dt tries a st1 w1 fp1 dt1 ∧ st1.calls = st.calls + k ∧ st1.failed ≤ st.failed + k ∧
    st.again good tries = (decide (0 < k) || (st1.again good (tries - k)).1, (st1.again good (tries - k)).2.1, k + (st1.again good (tries - k)).2.2.1, (st1.again good (tries - k)).2.2.2)
theorem run_counts {good : St → Nat × St} (hgc : ∀ st, (good st).2.calls = st.calls ∧ (good st).2.failed = st.failed) (st : St) : (st.run good).2.calls = st.calls + 1 ∧ (st.run good).2.failed ≤ st.failed + 1 := by
  unfold St.run
  split
  · exact ⟨rfl, by simp only [St.begin]; split <;> omega⟩
  · obtain ⟨h1, h2⟩ := hgc st.begin
    exact ⟨by rw [h1]; rfl, by rw [h2]; simp only [St.begin]; split <;> omega⟩
theorem run_code {L : List Nat} {good : St → Nat × St} (h111 : 111 ∈ L) (hg : ∀ st, (good st).1 = 0 ∨ (good st).1 ∈ L) (st : St) : (st.run good).1 = 0 ∨ (st.run good).1 ∈ L := by
  unfold St.run
  split
  · exact .inr h111
  · split
    · exact .inr h111
    · exact hg _

theorem client_again {L : List Nat} {ad : Nat → Addr} {B : Nat} {w : World} {q p : Nat} {tries : Nat} {a0 : Int} {st : St} {fp dt : List Nat} {f : FuncId} {cap : Array Value} {good : St → Nat × St}
    (hcf : ∀ w, (callFunc f cap).run Tryd.prog w = .ok (.enter f cap) w) (h111 : 111 ∈ L) (hlt : tries ≤ 8) (ha0 : 0 ≤ a0 ∧ a0 < 1000000000000) (hE : Errs L ad B w) (hB : B ≤ w.heap.size)
    (hcl : st.calls + 8 < 4611686018427387904) (hfl : st.failed + 8 < 4611686018427387904) (h : ClAt B w q p tries a0 st fp dt)
    (hg : ∀ st, (good st).1 = 0 ∨ (good st).1 ∈ L) (hgc : ∀ st, (good st).2.calls = st.calls ∧ (good st).2.failed = st.failed)
    (hdo : ∀ w1 st1 fp1 dt1 a1, ClTurned B w q p fp dt tries a1 st1 w1 fp1 dt1 → st1.calls < 4611686018427387904 → st1.failed < 4611686018427387904 → Errs L ad B w1 → B ≤ w1.heap.size →
      Calls Tryd.prog f cap w1 (ErrPost ad B w1 p fp1 dt1 (st1.run good))) :
    Calls Tryd.prog 76 #[.pointer (some ⟨q, 0, none⟩), .func (.func f) #[] cap] w (AgainPost ad B w q p fp dt tries a0 (st.again good tries)) := by
  refine again_any (L := L) (ad := ad) (B := B) (p := p) (a0 := a0) (tries := tries) (J := fun k w1 => AgAt good B w q p fp dt tries a0 st k (a0 + k) w1) (J' := fun k w1 => AgAt good B w q p fp dt tries a0 st k (a0 + k + 1) w1) hcf h111 hlt ha0
    (fun k w1 ⟨st1, fp1, dt1, ht, _⟩ => ⟨ht.at_.cells, hE.below (ht.below h hB)⟩) ?_ ?_ ?_ ⟨st, fp, dt, by simpa using ClTurned.refl h, rfl, Nat.le_refl _, by simp⟩
  · rintro k w1 w2 hk ⟨st1, fp1, dt1, ht, h1, h2, h3⟩ kq hc
    exact ⟨st1, fp1, dt1, ht.trans (ht.at_.counted kq hc), h1, h2, h3⟩
  · rintro k w1 hk ⟨st1, fp1, dt1, ht, h1, h2, h3⟩
    have hB1 : B ≤ w1.heap.size := Nat.le_trans hB ht.keeps.size
    refine (hdo w1 st1 fp1 dt1 _ ht (by omega) (by omega) (hE.below (ht.below h hB)) hB1).mono ?_
    rintro e w2 ⟨rfl, fp2, dt2, ht2⟩
    have ht3 := ht.trans (ht.at_.turned ht2)
    obtain ⟨n, hn⟩ : ∃ n, tries - k = n + 1 := ⟨tries - k - 1, by omega⟩
    have hn' : tries - (k + 1) = n := by omega
    refine ⟨_, rfl, (st1.run good).1, rfl, run_code h111 hg st1, hE.below (ht3.below h hB), fun h111' => ⟨(st1.run good).2, fp2, dt2, ?_, ?_, ?_, ?_⟩, fun hne => ?_⟩
    · have : (a0 + ((k + 1 : Nat) : Int)) = a0 + k + 1 := by omega
      rw [this]; exact ht3
    · have := (run_counts hgc st1).1; omega
    · have := (run_counts hgc st1).2; omega
    · rw [h3, hn, hn']
      simp only [St.again, h111', if_true]
      simp
      omega
    · rw [hn] at h3
      simp only [St.again, hne, if_false] at h3
      rw [h3]
      refine ⟨by simp, fp2, dt2, ?_⟩
      have : (a0 + ((k + 1 : Nat) : Int)) = a0 + k + 1 := by omega
      simp only []
      rw [this]; exact ht3
  · rintro w1 ⟨st1, fp1, dt1, ht, h1, h2, h3⟩
    have hn : tries - tries = 0 := by omega
    rw [hn] at h3
    simp only [St.again] at h3
    rw [h3]
    exact ⟨by simp, fp1, dt1, by simpa using ht⟩

theorem Keeps.cell {F : Nat → Prop} {w w' : World} (h : Keeps F w w') {a : Addr} (ha : a.block < w.heap.size) (hF : ¬ F a.block) : w'.cell? a = w.cell? a := by
  simp only [World.cell?, h.block a.block ha hF]
/-! ### Put -/
theorem clPutC_calls (cap : Array Value) (w : World) : (callFunc 77 cap).run Tryd.prog w = .ok (.enter 77 cap) w := by kernel_rfl

set_option maxRecDepth 100000 in
theorem clPutC_any {L : List Nat} {ad : Nat → Addr} {B : Nat} {w : World} {q p : Nat} {tries asked : Int} {st : St} {fp dt : List Nat} (h : ClAt B w q p tries asked st fp dt) (hE : Errs L ad B w) (h106 : 106 ∈ L) (h111 : 111 ∈ L) (hB : B ≤ w.heap.size) (hcl : st.calls < 4611686018427387904) (hfl : st.failed < 4611686018427387904)
    {cb nb bb : Nat} {n : ByteArray} {bv : Value} {b : List UInt8} (cc : w.cell? ⟨cb, 0, none⟩ = some (.pointer (some ⟨q, 0, none⟩))) (cn : w.cell? ⟨nb, 0, none⟩ = some (.string n)) (cbv : w.cell? ⟨bb, 0, none⟩ = some bv)
    (hbv : seqV w bv (bytesL b)) (hbb : ∀ x, blk bv = some x → x ∉ fp) (hlen : b.length ≤ 1073741824) (fc : cb ∉ fp) (fn : nb ∉ fp) (fb : bb ∉ fp) :
    Calls Tryd.prog 77 #[.pointer (some ⟨cb, 0, none⟩), .pointer (some ⟨nb, 0, none⟩), .pointer (some ⟨bb, 0, none⟩)] w (ErrPost ad B w p fp dt (st.run (St.put1 n b))) := by
  have cs : w.cell? ⟨q, 0, none⟩ = some (.pointer (some ⟨p, 0, none⟩)) := cell_at h.cells rfl
  obtain ⟨a, m, c, rfl, hrest⟩ := id hbv
  have H := Lib.hid h
  have HE := Lib.hid hE
  have HV := Lib.hid hbv
  have HBB := Lib.hid hbb
  have lc : cb < w.heap.size := World.block_lt_of_cell? w _ cc
  have ln : nb < w.heap.size := World.block_lt_of_cell? w _ cn
  have lb : bb < w.heap.size := World.block_lt_of_cell? w _ cbv
  have lq : q < w.heap.size := h.lt
  have fq : q ∉ fp := h.qF
  clear h hE hbv hrest hbb
  go_enter Tryd.func77, Tryd.ntmps77
  go_wp2
  go_region_held3 (fun w' => w'.cell? ⟨cb, 0, none⟩ = some (.pointer (some ⟨q, 0, none⟩)) ∧ w'.cell? ⟨q, 0, none⟩ = some (.pointer (some ⟨p, 0, none⟩)) ∧ w'.cell? ⟨nb, 0, none⟩ = some (.string n) ∧ w'.cell? ⟨bb, 0, none⟩ = some (.slice a m c)) (go_keep)
    (first | (go_at_call 23; refine (put_any (n := n) (b := b) (H.out.store.keep ((Keeps.refl (fun _ => False) w).drew) fun _ _ => id) (HE.out.keep ((Keeps.refl (fun _ => False) w).drew) hB fun _ _ => id) h106 h111 hB hcl hfl HV.out.drew HBB.out hlen).mono ?_; rintro e w1 ⟨rfl, fp1, dt1, ht⟩; have k1 := ht.keeps; have q1 := k1.cell (a := ⟨cb, 0, none⟩) lc fc; have q2 := k1.cell (a := ⟨q, 0, none⟩) lq fq; have q3 := k1.cell (a := ⟨nb, 0, none⟩) ln fn; have q4 := k1.cell (a := ⟨bb, 0, none⟩) lb fb))
  have HT := Lib.hid (StTurned.from ((Keeps.refl (fun _ => False) w).drew) ht)
  clear ht k1 q1 q2 q3 q4
  go_wp2
  go_ret
  exact ⟨rfl, fp1, dt1, HT.out⟩

/-- What Put of a client comes to. -/
def ClErrPost (ad : Nat → Addr) (B : Nat) (w : World) (q p : Nat) (fp dt : List Nat) (tries : Nat) (a0 : Int) (x : Bool × Nat × Nat × St) (e : Ending) (w' : World) : Prop :=
  e = .returned (errV ad x.2.1) ∧ ∃ fp' dt', ClTurned B w q p fp dt tries (a0 + x.2.2.1) x.2.2.2 w' fp' dt'
theorem put1_code (n : ByteArray) (b : List UInt8) {L : List Nat} (h106 : 106 ∈ L) (st : St) : (St.put1 n b st).1 = 0 ∨ (St.put1 n b st).1 ∈ L := by
  unfold St.put1; split
  · exact .inl rfl
  · exact .inr h106
theorem put1_counts (n : ByteArray) (b : List UInt8) (st : St) : (St.put1 n b st).2.calls = st.calls ∧ (St.put1 n b st).2.failed = st.failed := by
  unfold St.put1; split <;> exact ⟨rfl, rfl⟩
set_option maxRecDepth 100000 in
theorem clPut_any {L : List Nat} {ad : Nat → Addr} {B : Nat} {w : World} {q p : Nat} {tries : Nat} {a0 : Int} {st : St} {fp dt : List Nat} (h : ClAt B w q p tries a0 st fp dt) (hE : Errs L ad B w) (h106 : 106 ∈ L) (h111 : 111 ∈ L) (hB : B ≤ w.heap.size)
    (hlt : tries ≤ 8) (ha0 : 0 ≤ a0 ∧ a0 < 1000000000000) (hcl : st.calls + 8 < 4611686018427387904) (hfl : st.failed + 8 < 4611686018427387904)
    {n : ByteArray} {bv : Value} {b : List UInt8} (hbv : seqV w bv (bytesL b)) (hbb : ∀ x, blk bv = some x → x ∉ fp ∧ x ≠ q ∧ x < w.heap.size) (hlen : b.length ≤ 1073741824) :
    Calls Tryd.prog 36 #[.pointer (some ⟨q, 0, none⟩), .string n, bv] w (ClErrPost ad B w q p fp dt tries a0 (st.again (St.put1 n b) tries)) := by
  have H := Lib.hid h
  have HE := Lib.hid hE
  have HV := Lib.hid hbv
  have HBB := Lib.hid hbb
  obtain ⟨a, m, c, rfl, hrest⟩ := hbv
  clear h hE hrest hbb
  go_enter Tryd.func36, Tryd.ntmps36
  go_wp2_with fail
  have k0 : Keeps (fun _ => False) w (((w.alloc (.cells #[.pointer (some ⟨q, 0, none⟩)] 47)).alloc (.cells #[.string n] 9)).alloc (.cells #[.slice a m c] 27)) := (((Keeps.refl _ _).alloc _).alloc _).alloc _
  have b0 : (((w.alloc (.cells #[.pointer (some ⟨q, 0, none⟩)] 47)).alloc (.cells #[.string n] 9)).alloc (.cells #[.slice a m c] 27)).heap[w.heap.size]? = some (.cells #[.pointer (some ⟨q, 0, none⟩)] 47 (0, 0)) := heap_alloc_old (heap_alloc_old (World.alloc_heap_new w _))
  have b1 : (((w.alloc (.cells #[.pointer (some ⟨q, 0, none⟩)] 47)).alloc (.cells #[.string n] 9)).alloc (.cells #[.slice a m c] 27)).heap[w.heap.size + 1]? = some (.cells #[.string n] 9 (0, 0)) := heap_alloc_old (by simpa using World.alloc_heap_new (w.alloc (.cells #[.pointer (some ⟨q, 0, none⟩)] 47)) (.cells #[.string n] 9))
  have b2 : (((w.alloc (.cells #[.pointer (some ⟨q, 0, none⟩)] 47)).alloc (.cells #[.string n] 9)).alloc (.cells #[.slice a m c] 27)).heap[w.heap.size + 1 + 1]? = some (.cells #[.slice a m c] 27 (0, 0)) := by simpa using World.alloc_heap_new ((w.alloc (.cells #[.pointer (some ⟨q, 0, none⟩)] 47)).alloc (.cells #[.string n] 9)) (.cells #[.slice a m c] 27)
  have hz : w.heap.size + 1 + 1 < (((w.alloc (.cells #[.pointer (some ⟨q, 0, none⟩)] 47)).alloc (.cells #[.string n] 9)).alloc (.cells #[.slice a m c] 27)).heap.size := lt_of_block b2
  generalize (((w.alloc (.cells #[.pointer (some ⟨q, 0, none⟩)] 47)).alloc (.cells #[.string n] 9)).alloc (.cells #[.slice a m c] 27)) = w0 at *
  have e0 : Errs L ad B w0 := HE.out.keep k0 hB fun _ _ => id
  have hB0 : B ≤ w0.heap.size := Nat.le_trans hB k0.size
  have h0 : ClAt B w0 q p tries a0 st fp dt := H.out.keep k0 (fun _ _ => id) id
  have lq := H.out.lt
  refine (client_again (good := St.put1 n b) (clPutC_calls _) h111 hlt ha0 e0 hB0 hcl hfl h0 (put1_code n b h106) (put1_counts n b) fun w1 st1 fp1 dt1 a1 ht hc1 hf1 hE1 hB1 => ?_).mono ?_
  · have hnew : ∀ x, x ∉ fp → x < w0.heap.size → x ∉ fp1 := fun x hx hl hf => (ht.fpNew x hf).elim hx fun hs => by omega
    have hcell : ∀ x, x ∉ fp → x ≠ q → ¬ (x ∈ fp ∨ x = q) := fun x h1 h2 h3 => h3.elim h1 h2
    have hge : ∀ x, w.heap.size ≤ x → x ∉ fp := fun x hx hf => by have := H.out.store.lt x (.inl hf); omega
    exact clPutC_any (n := n) (b := b) ht.at_ hE1 h106 h111 hB1 hc1 hf1
      (cell_at (ht.keeps.get b0 (hcell _ (hge _ (Nat.le_refl _)) (by omega))) rfl) (cell_at (ht.keeps.get b1 (hcell _ (hge _ (by omega)) (by omega))) rfl) (cell_at (ht.keeps.get b2 (hcell _ (hge _ (by omega)) (by omega))) rfl)
      ((HV.out.keep k0 fun _ _ => id).keep ht.keeps fun x hx => hcell x (HBB.out x hx).1 (HBB.out x hx).2.1) (fun x hx => hnew x (HBB.out x hx).1 (by have := (HBB.out x hx).2.2; omega)) hlen
      (hnew _ (hge _ (Nat.le_refl _)) (by omega)) (hnew _ (hge _ (by omega)) (by omega)) (hnew _ (hge _ (by omega)) (by omega))
  · rintro e w' ⟨rfl, fp1, dt1, ht⟩
    have HT := Lib.hid (ht.from k0)
    clear ht
    go_wp2
    go_ret
    exact ⟨rfl, fp1, dt1, HT.out⟩
end Go.Proofs.YtjiigajekminaaaDoor
