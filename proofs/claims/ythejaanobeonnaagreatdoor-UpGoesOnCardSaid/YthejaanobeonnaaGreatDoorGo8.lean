/- The journal is removed, whatever the power does. A step of an upload, whatever the power does. A step of an upload, whatever the power does: what it leaves. A log and a client anew, an upload taken up. Ways that meet again, told by slots. Closed facts on the program's head, that each row of this seat asks for. -/
import Derived.Test.YthejaanobeonnaaGreatDoorGo7
import Derived.Test.YthejaanobeonnaaGreatDoorGo5
import Derived.Test.YthejaanobeonnaaGreatDoorGo2
import Derived.Test.YthejaanobeonnaaGreatDoorRows
import Derived.JoinedOf
import Derived.ProofKit
set_option linter.all false
namespace Go.Proofs.YthejaanobeonnaaGreatDoor
section
open Go.RowKit
variable {d e : Dk} {N : List ByteArray} {B : Nat} {f : ByteArray → Option (List UInt8)}
theorem clrF_none (h : f nUp = none) : clrF f nUp = f := by
  funext n
  by_cases e1 : n = nUp
  · subst e1; rw [clrF_same, h]
  · exact zF1 e1
theorem RawI.goneNames (h : RawI N B f d) (he : e.ok) (hu : e.down = false) (hn : e.names = zDe d.names nUp) (hk : e.kept = e.names) (hc : e.changes = []) (hf : ∀ i F, zAx d.fs i = some F → F.syn = F.b.length → zAx e.fs i = some F) (hl : ∀ i F, zAx e.fs i = some F → F.b.length ≤ B) : RawI N B (clrF f nUp) e := by
  have hs1 : zAx e.names nUp = none := by rw [hn]; exact zCw h.ok.nnd nUp
  have ho : ∀ n, n ≠ nUp → zAx e.names n = zAx d.names n := fun n hne => by rw [hn]; exact zFx hne
  refine ⟨he, hu, hk.symm, hc, fun n hnN => ?_, fun n hnN m hm j g1 g2 => ?_, fun n hkn => ?_, hl⟩
  · by_cases e1 : n = nUp
    · subst e1; rw [clrF_same]; exact hs1
    · rw [zF1 e1]; exact (h.st.under n hnN).same (ho n e1) fun j F _ hF hw => hf j F hF hw
  · have e1 : n ≠ nUp := fun e1 => by rw [e1, hs1] at g1; cases g1
    have e2 : m ≠ nUp := fun e1 => by rw [e1, hs1] at g2; cases g2
    rw [ho n e1] at g1; rw [ho m e2] at g2; exact h.st.apart n hnN m hm j g1 g2
  · obtain ⟨v, hv⟩ := zC8 hkn
    rw [hn] at hv; exact h.st.keys n (List.mem_map_of_mem (f := Prod.fst) (adel_in (zCy hv)))
theorem RawI.sameNames (h : RawI N B f d) (he : e.ok) (hu : e.down = false) (hn : e.names = d.names) (hk : e.kept = e.names) (hc : e.changes = []) (hf : ∀ i F, zAx d.fs i = some F → F.syn = F.b.length → zAx e.fs i = some F) (hl : ∀ i F, zAx e.fs i = some F → F.b.length ≤ B) : RawI N B f e :=
  ⟨he, hu, hk.symm, hc, fun n hnN => (h.st.under n hnN).same (by rw [hn]) fun j F _ hF hw => hf j F hF hw, by rw [hn]; exact h.st.apart, by rw [hn]; exact h.st.keys, hl⟩
theorem syncDir_arm (hu : d.down = false) : d.syncDir = if d.armed = 1 then (110, { d with armed := 0, down := true }) else (0, { d with armed := d.armed - 1, kept := d.names, changes := [], calls := d.calls + 1 }) := by
  obtain ⟨room, names, kept, changes, files, a, down, calls, fs⟩ := d; simp only at hu; subst hu
  by_cases h0 : a = 0
  · subst h0; simp [Dk.syncDir, Dk.begin]
  · by_cases h1 : a = 1
    · subst h1; simp [Dk.syncDir, Dk.begin]
    · simp [Dk.syncDir, Dk.begin, h0, h1]
theorem find_none_arm (hu : d.down = false) {n : ByteArray} (hn : zAx d.names n = none) : d.find n = if d.armed = 1 then (110, none, { d with armed := 0, down := true }) else (107, none, { d with armed := d.armed - 1 }) := by
  obtain ⟨room, names, kept, changes, files, a, down, calls, fs⟩ := d; simp only at hu hn; subst hu
  by_cases h0 : a = 0
  · subst h0; simp [Dk.find, Dk.begin, Dk.file, hn]
  · by_cases h1 : a = 1
    · subst h1; simp [Dk.find, Dk.begin]
    · simp [Dk.find, Dk.begin, Dk.file, hn, h0, h1]
theorem RawI.jgoneP (h : RawI N B f d) (hs : nUp ∈ N) : ∃ k e, d.jremove = (k, e) ∧ e.room = d.room ∧ e.calls ≤ d.calls + 2 ∧ (k = 0 ∧ e.down = false ∧ (d.armed = 0 → e.armed = 0) ∧ (e.ok → RawI N B (clrF f nUp) e) ∨ k = 110 ∧ e.down = true ∧ d.armed ≠ 0 ∧ (e.ok → ∀ picks, RawI N B f (e.crash picks) ∨ RawI N B (clrF f nUp) (e.crash picks))) := by
  have hu := h.up
  have hbar : ∀ e : Dk, e.fs = d.fs → ∀ i F, zAx d.fs i = some F → F.syn = F.b.length → zAx e.fs i = some F := fun e he i F hF _ => by rw [he]; exact hF
  have hlen : ∀ e : Dk, e.fs = d.fs → ∀ i F, zAx e.fs i = some F → F.b.length ≤ B := fun e he i F hF => h.st.len i F (by rw [← he]; exact hF)
  cases hn : zAx d.names nUp with
  | none =>
    have hf : f nUp = none := by
      have h1 := h.st.under nUp hs
      cases hv : f nUp with
      | none => rfl
      | some v => rw [hv] at h1; obtain ⟨i, q, k1, _⟩ := h1; rw [hn] at k1; cases k1
    rw [clrF_none hf]
    have hr : d.remove nUp = if d.armed = 1 then (110, { d with armed := 0, down := true }) else (107, { d with armed := d.armed - 1 }) := by
      simp only [Dk.remove, find_none_arm hu hn]
      by_cases h1 : d.armed = 1
      · simp [h1]
      · simp [h1]
    by_cases h1 : d.armed = 1
    · rw [if_pos h1] at hr
      have hj : d.jremove = (110, { d with armed := 0, down := true }) := by simp [Dk.jremove, hr]
      exact ⟨_, _, hj, rfl, Nat.le_add_right _ _, .inr ⟨rfl, rfl, by omega, fun ho picks => .inl (RawS.crash (d := { d with armed := 0, down := true }) (h.st.same rfl rfl rfl rfl) ho picks)⟩⟩
    · rw [if_neg h1] at hr
      have hj : d.jremove = ({ d with armed := d.armed - 1 } : Dk).syncDir := by simp [Dk.jremove, hr]
      rw [hj, syncDir_arm (d := { d with armed := d.armed - 1 }) hu]
      by_cases h2 : d.armed - 1 = 1
      · rw [if_pos h2]
        exact ⟨_, _, rfl, rfl, Nat.le_add_right _ _, .inr ⟨rfl, rfl, by omega, fun ho picks => .inl (RawS.crash (d := { d with armed := 0, down := true }) (h.st.same rfl rfl rfl rfl) ho picks)⟩⟩
      · rw [if_neg h2]
        exact ⟨_, _, rfl, rfl, by show d.calls + 1 ≤ d.calls + 2; omega, .inl ⟨rfl, hu, fun ha => by show d.armed - 1 - 1 = 0; omega, fun ho => h.sameNames ho hu rfl rfl rfl (hbar _ rfl) (hlen _ rfl)⟩⟩
  | some i =>
    have hr : d.remove nUp = if d.armed = 1 then (110, { d with armed := 0, down := true }) else (0, ({ d with armed := d.armed - 1 } : Dk).change ⟨ByteArray.empty, nUp, none⟩) := by
      simp only [Dk.remove, Dk.find_arm hu hn]
      by_cases h1 : d.armed = 1
      · simp [h1]
      · simp [h1]
    by_cases h1 : d.armed = 1
    · rw [if_pos h1] at hr
      have hj : d.jremove = (110, { d with armed := 0, down := true }) := by simp [Dk.jremove, hr]
      exact ⟨_, _, hj, rfl, Nat.le_add_right _ _, .inr ⟨rfl, rfl, by omega, fun ho picks => .inl (RawS.crash (d := { d with armed := 0, down := true }) (h.st.same rfl rfl rfl rfl) ho picks)⟩⟩
    · rw [if_neg h1] at hr
      obtain ⟨e1, he1⟩ : ∃ e1, e1 = ({ d with armed := d.armed - 1 } : Dk).change ⟨ByteArray.empty, nUp, none⟩ := ⟨_, rfl⟩; rw [← he1] at hr
      have hj : d.jremove = e1.syncDir := by simp [Dk.jremove, hr]
      have hnm : e1.names = zDe d.names nUp := by
        rw [he1]; simp only [Dk.change, Chg.app]; rw [if_neg (by decide)]
      have hkp : e1.kept = d.kept := by rw [he1]; rfl
      have hch : e1.changes = [⟨ByteArray.empty, nUp, none⟩] := by rw [he1]; simp only [Dk.change, h.st.still]; rfl
      have hfs : e1.fs = d.fs := by rw [he1]; rfl
      have hdn : e1.down = false := by rw [he1]; exact hu
      have harm : e1.armed = d.armed - 1 := by rw [he1]; rfl
      have hrm : e1.room = d.room := by rw [he1]; rfl
      have hcl : e1.calls ≤ d.calls + 1 := by rw [he1]; simp only [Dk.change]; omega
      rw [hj, syncDir_arm hdn]
      by_cases h2 : e1.armed = 1
      · rw [if_pos h2]
        refine ⟨_, _, rfl, hrm, by show e1.calls ≤ _; omega, .inr ⟨rfl, rfl, by omega, fun ho picks => ?_⟩⟩
        have hw : ∀ i F, zAx d.fs i = some F → F.syn = F.b.length → zAx ((({ e1 with armed := 0, down := true } : Dk).crash picks)).fs i = some F := fun i F hF hw => zCv hw _ _ _ (by rw [hfs]; exact hF)
        have hlc := crash_len ho (B := B) (fun i F hF => h.st.len i F (by rw [← hfs]; exact hF)) picks
        have hnc : ((({ e1 with armed := 0, down := true } : Dk).crash picks)).names = zC2 d.names ([⟨ByteArray.empty, nUp, none⟩].take (zEc picks 0 1)) := by
          show zC2 e1.kept (e1.changes.take (zEc picks 0 e1.changes.length)) = _
          rw [hkp, hch, ← h.st.kept]
          rfl
        cases hp : zEc picks 0 1 with
        | zero =>
          rw [hp] at hnc; exact .inl (h.sameNames (ho.crash picks) rfl hnc rfl rfl hw hlc)
        | succ k =>
          rw [hp] at hnc; refine .inr (h.goneNames (ho.crash picks) rfl (hnc.trans ?_) rfl rfl hw hlc); rw [List.take_of_length_le (by simp)]; simp only [zC2, List.foldl_cons, List.foldl_nil, Chg.app]; rw [if_neg (by decide)]
      · rw [if_neg h2]
        exact ⟨_, _, rfl, hrm, by show e1.calls + 1 ≤ _; omega, .inl ⟨rfl, hdn, fun ha => by show e1.armed - 1 = 0; omega, fun ho => h.goneNames ho hdn hnm rfl rfl (hbar _ hfs) (hlen _ hfs)⟩⟩
end
section
open Go.RowKit
attribute [local irreducible] zAk eV
variable {g w : World} {L M : List HP} {ad : Nat → Addr} {p u n q c d l : Nat} {dk : Dk} {st : St} {t : UpT} {a : S4} {V : Vw} {osb : List (ByteArray × List UInt8)} {f : ByteArray → Option (List UInt8)} {B : Nat} {m : Mf}
def esU (m : Mf) : Nat → List En
  | 0 => []
  | 1 => [(1, m)]
  | _ => [(1, m), (2, m)]
def vwU (m : Mf) (s : Nat) : Vw := vAt [] [(m.id, ⟨1, m⟩)] [(m.id, ⟨2, m⟩)] s
theorem vwU_state (m : Mf) {s : Nat} (hs : s ≤ 2) : Vw.state (vwU m s) m.id = s := by
  rcases (show s = 0 ∨ s = 1 ∨ s = 2 by omega) with rfl | rfl | rfl <;> simp [vwU, vAt, Vw.state, zAx]
theorem vwU_app (hm : (mfF m).1 = 0) {s : Nat} (hs : s ≤ 1) : Vw.apply (vwU m s) ((s + 1 : Nat) : Int) m = ((0, none), vwU m (s + 1)) := by
  rcases (show s = 0 ∨ s = 1 by omega) with rfl | rfl
  · exact Vw.apply_first (V := []) hm rfl (by decide)
  · exact Vw.apply_last (V := []) (s := 1) (k := 2) hm rfl rfl
theorem esU_len (m : Mf) {s : Nat} (hs : s ≤ 2) : (esU m s).length = s := by
  rcases (show s = 0 ∨ s = 1 ∨ s = 2 by omega) with rfl | rfl | rfl <;> rfl
theorem esU_ok (hm : mfF m = (0, none)) (hsu : ∀ o ∈ m.obs, o.2.2 < 4294967296) {s : Nat} (hs : s ≤ 2) : ∀ e ∈ esU m s, EnOk e := fun e he => by
  have h1 : EnOk ((1 : Int), m) := ⟨hm, (show (1 : Int) ≤ 1 by decide), (show (1 : Int) ≤ 4 by decide), hsu⟩; have h2 : EnOk ((2 : Int), m) := ⟨hm, (show (1 : Int) ≤ 2 by decide), (show (2 : Int) ≤ 4 by decide), hsu⟩
  rcases (show s = 0 ∨ s = 1 ∨ s = 2 by omega) with rfl | rfl | rfl
  · cases he
  · simp only [esU, List.mem_cons, List.not_mem_nil, or_false] at he
    rw [he]; exact h1
  · simp only [esU, List.mem_cons, List.not_mem_nil, or_false] at he
    rcases he with rfl | rfl
    · exact h1
    · exact h2
theorem esU_run (hm : (mfF m).1 = 0) {s : Nat} (hs : s ≤ 2) : runs [] (esU m s) = some (vwU m s) := by
  have a1 := vwU_app hm (s := 0) (by decide); have a2 := vwU_app hm (s := 1) (by decide)
  rcases (show s = 0 ∨ s = 1 ∨ s = 2 by omega) with rfl | rfl | rfl
  · rfl
  · have a1 : Vw.apply [] 1 m = ((0, none), vwU m 1) := a1
    simp only [esU, runs, a1, if_true]
  · have a1 : Vw.apply [] 1 m = ((0, none), vwU m 1) := a1
    have a2 : Vw.apply (vwU m 1) 2 m = ((0, none), vwU m 2) := a2; simp only [esU, runs, a1, a2, if_true]
theorem esU_frames (m : Mf) {s : Nat} (hs : s ≤ 1) : frames 0 (esU m s) ++ frame (s + 1) (((s + 1 : Nat) : Int), m) = frames 0 (esU m (s + 1)) := by
  rcases (show s = 0 ∨ s = 1 by omega) with rfl | rfl <;> simp [esU, frames]
theorem esU_flen (m : Mf) {s : Nat} (hs : s ≤ 2) : (frames 0 (esU m s)).length = s * ((mfB m).length + 17) := by
  rcases (show s = 0 ∨ s = 1 ∨ s = 2 by omega) with rfl | rfl | rfl <;> simp [esU, frames, zF7] <;> omega
def TornI (m : Mf) (s : Nat) (f : ByteArray → Option (List UInt8)) : Prop := f snN = none ∧ ∃ tail, f mtN = some (frames 0 (esU m s) ++ tail) ∧ (tail = [] ∨ ErdC tail none) ∧ tail.length ≤ 6021
theorem TornI.ent (hm : mfF m = (0, none)) (hsu : ∀ o ∈ m.obs, o.2.2 < 4294967296) {s : Nat} (hs : s ≤ 2) (hF : (mfB m).length + 17 ≤ 6021) {tail : List UInt8} (ht : tail = [] ∨ ErdC tail none) (hl : tail.length ≤ 6021) : Ent [] 0 (frames 0 (esU m s) ++ tail) (vwU m s) s s (frames 0 (esU m s)).length := by
  have h1 := esU_flen m hs; have h2 : s * ((mfB m).length + 17) ≤ 2 * 6021 := Nat.mul_le_mul hs hF; have h := Ent.frames (tail := tail) (W := vwU m s) (r := 0 + (esU m s).length) (c := 0) (n := 0) (q := 0) (esU_run (by rw [hm]) hs) (esU_ok hm hsu hs) (by rw [List.length_append]; omega) (by rw [esU_len m hs]; omega) (.none ht); rw [esU_len m hs] at h
  simpa using h
theorem TornI.app {j : Nat} (hm : mfF m = (0, none)) (hsu : ∀ o ∈ m.obs, o.2.2 < 4294967296) {s : Nat} (hs : s ≤ 1) (hn : f snN = none) (hf : f mtN = some (frames 0 (esU m s) ++ (frame (s + 1) (((s + 1 : Nat) : Int), m)).take j)) : TornI m s f ∨ TornI m (s + 1) f := by
  have hk : EnOk (((s + 1 : Nat) : Int), m) := ⟨hm, by show (1 : Int) ≤ ((s + 1 : Nat) : Int); omega, by show ((s + 1 : Nat) : Int) ≤ 4; omega, hsu⟩; have hfl := frame_le (q := s + 1) hk
  by_cases hj : j < (frame (s + 1) (((s + 1 : Nat) : Int), m)).length
  · exact .inl ⟨hn, _, hf, .inr (erd_cut hk hj), by rw [List.length_take]; omega⟩
  · rw [List.take_of_length_le (by omega), esU_frames m hs] at hf
    exact .inr ⟨hn, [], by rw [List.append_nil]; exact hf, .inl rfl, Nat.zero_le _⟩
def JrI (id : Int) (f : ByteArray → Option (List UInt8)) (a : S4) : Prop := f nUp = none ∧ a = (id, 0, 0, 0) ∨ f nUp = some (zC0 (zFe (s4L a))) ∧ (s4L a).all inR = true
def DskI (osb : List (ByteArray × List UInt8)) (t : UpT) (st : St) (f : ByteArray → Option (List UInt8)) : Prop := ∃ s, s ≤ 2 ∧ TornI t.m s f ∧ PIn osb [] st ∧
  (s = 0 ∧ f nUp = none ∨ s = 1 ∧ (∃ a M, JrI t.m.id f a ∧ ObI osb [] (osU t) t.each t.m.id false a st M) ∨ s = 2 ∧ ∀ o ∈ osU t, zAx st.objs o.1 = some o.2)
def DnI (osb : List (ByteArray × List UInt8)) (t : UpT) (st : St) (dk : Dk) : Prop := dk.down = true ∧ ∀ picks, ∃ f, RawI UpN 20000 f (dk.crash picks) ∧ DskI osb t st f
def GoI (osb : List (ByteArray × List UInt8)) (t : UpT) (s : Nat) (a : S4) (V : Vw) (q c n : Nat) (dk : Dk) (st : St) (M : Nat) : Prop :=
  V = vwU t.m s ∧ q = s ∧ c = s ∧ n = (frames 0 (esU t.m s)).length ∧ dk.room = 262144 ∧ ∃ f, RawI UpN 20000 f dk ∧ f snN = none ∧ f mtN = some (frames 0 (esU t.m s)) ∧
  (s = 0 ∧ a = (t.m.id, 0, 0, 0) ∧ f nUp = none ∧ PIn osb [] st ∧ M = restM t.each (osU t) + 2 ∨ s = 1 ∧ JrI t.m.id f a ∧ ∃ M0, ObI osb [] (osU t) t.each t.m.id false a st M0 ∧ M = M0 + 1)
theorem ObI.pin {K os : List (ByteArray × List UInt8)} {e M : Nat} {i : Int} {cl : Bool} (h : ObI osb K os e i cl a st M) : PIn osb K st := by
  rcases h with ⟨k, o, uid, done, m, _, _, hp, _⟩ | ⟨_, hp, _⟩
  · exact ⟨hp.small, hp.objs, fun x hx => hp.kept x (List.mem_append_left _ hx), hp.nd, hp.rng, hp.len⟩
  · exact ⟨hp.small, hp.objs, fun x hx => hp.kept x (List.mem_append_left _ hx), hp.nd, hp.rng, hp.len⟩
end
section
open Go.RowKit
attribute [local irreducible] zAk eV
variable {g w : World} {L M : List HP} {ad : Nat → Addr} {p u n q c d l : Nat} {dk : Dk} {st : St} {t : UpT} {a : S4} {V : Vw} {osb : List (ByteArray × List UInt8)} {f : ByteArray → Option (List UInt8)} {B : Nat} {m : Mf}
theorem JrI.other {id : Int} {v : List UInt8} {s : ByteArray} (h : JrI id f a) (hs : nUp ≠ s) : JrI id (zF9 f s v) a := by
  rcases h with ⟨h1, h2⟩ | ⟨h1, h2⟩
  · exact .inl ⟨by rw [zCa _ _ hs]; exact h1, h2⟩
  · exact .inr ⟨by rw [zCa _ _ hs]; exact h1, h2⟩
theorem TornI.whole (hn : f snN = none) {s : Nat} (hf : f mtN = some (frames 0 (esU m s))) : TornI m s f := ⟨hn, [], by rw [List.append_nil]; exact hf, .inl rfl, Nat.zero_le _⟩
def GoR (osb : List (ByteArray × List UInt8)) (ad : Nat → Addr) (g : World) (u p tr cb : Nat) (t : UpT) (s : Nat) (dk : Dk) (st : St) (M0 : Nat) (L : List HP) (v : Value) (w' : World) : Prop :=
  ∃ (is : Bool) (y : Nat) (dk' : Dk) (st' : St) (ak' : Nat), v = .tuple #[.bool is, zAk ad y] ∧ Bnd (cb + 50) ak' st' dk' ∧
    ((is = false ∧ (y = 0 ∨ y = 111) ∧ ∃ s' a' V' q' c' n' M', GoI osb t s' a' V' q' c' n' dk' st' M' ∧ uLeft s' st' M' < uLeft s st M0 ∧ st'.script.length ≤ st.script.length ∧ (dk.armed = 0 → dk'.armed = 0) ∧ Mem g w' (UpC u t a' false :: zBh t.c p ((tr + 1 : Nat) : Int) (ak' : Nat) :: zB8 p st' :: zDs t.l t.d 3 V' q' c' n' :: zB9 t.d dk' :: L)) ∨
     (is = true ∧ y = 0 ∧ PIn osb [] st' ∧ (∀ o ∈ osU t, zAx st'.objs o.1 = some o.2) ∧ Mem g w' (zB8 p st' :: L)) ∨
     (is = false ∧ DnI osb t st' dk' ∧ (dk'.room = 262144 ∧ st'.script.length ≤ st.script.length ∧ dk.armed ≠ 0) ∧ Mem g w' (zB8 p st' :: zB9 t.d dk' :: L)))
set_option maxHeartbeats 2000000 in
theorem goStep (hE : ErrU ad g) (hU : UpOk osb t) (hm : mfF t.m = (0, none)) (hsu : ∀ o ∈ t.m.obs, o.2.2 < 4294967296) (hob : t.m.obs.length ≤ 1000000) (hF : (mfB t.m).length + 17 ≤ 6021) {s tr ak cb M0 : Nat} (hI : GoI osb t s a V q c n dk st M0) (hB : Bnd cb ak st dk) (hcb : cb ≤ 500000) (htr : tr + 1 ≤ 8)
    (hs : Mem g w (UpC u t a false :: zBh t.c p ((tr + 1 : Nat) : Int) (ak : Nat) :: zB8 p st :: zDs t.l t.d 3 V q c n :: zB9 t.d dk :: L)) :
    Calls Tryz.prog 16 #[.pointer (some ⟨u, 0, none⟩)] w (Ret (GoR osb ad g u p tr cb t s dk st M0 L)) := by
  obtain ⟨b1, b2, b3, b4, b5⟩ := hB; obtain ⟨hV, hq, hc, hn, hr, f, hRI, hfn, hfm, hI⟩ := hI; have hol := osU_len hU; have htwo := hU.two
  have hm0 : (mfF t.m).1 = 0 := by rw [hm]
  have h3 : 2 * UpN.length * 20000 + 20000 ≤ dk.room := by rw [hr]; decide
  have hap : ∀ {k : Int}, k = ((s + 1 : Nat) : Int) → s ≤ 1 → ∀ {w : World} {M : List HP}, Mem g w (zDs t.l t.d 3 V q c n :: zB9 t.d dk :: M) → MfR g M t.m t.s1 t.s2 → Calls Tryz.prog 52 #[.pointer (some ⟨t.l, 0, none⟩), .agg (.int .i64 k :: mfL t.m t.s1 t.s2).toArray] w (Ret fun v w' => ∃ kr dk2 V' q' c' n', v = zAk ad kr ∧ AppN UpN 20000 f dk (vwU t.m s) (vwU t.m (s + 1)) s s (frames 0 (esU t.m s)) (frame (s + 1) (((s + 1 : Nat) : Int), t.m)) kr dk2 V' q' c' n' ∧ Mem g w' (zDs t.l t.d 3 V' q' c' n' :: zB9 t.d dk2 :: M)) := by
    intro k hk hs1 w M hs hmr; subst hk; rw [hV, hq, hc, hn] at hs; have hfl := esU_flen t.m (show s ≤ 2 by omega); have h2 : s * ((mfB t.m).length + 17) ≤ 1 * 6021 := Nat.mul_le_mul hs1 hF; have e1 := vwU_app hm0 hs1; have := appN_sl (k := ((s + 1 : Nat) : Int)) (x := t.m) hE.uM hs hRI up_mt (by decide) hfm rfl (by omega) h3 (by omega) (by omega) (by decide) (by rw [zF7]; simp only; omega) hmr hob hsu (by rw [e1]); rw [e1] at this; exact this
  rcases hI with ⟨rfl, rfl, hj, hp, rfl⟩ | ⟨rfl, hj, M1, hOb, rfl⟩
  · -- the first entry
    have hst : V.state t.m.id = 0 := by rw [hV]; exact vwU_state t.m (by decide)
    refine (step_first (R := AppN UpN 20000 f dk (vwU t.m 0) (vwU t.m 1) 0 0 (frames 0 (esU t.m 0)) (frame 1 (((1 : Nat) : Int), t.m))) hst (fun hs hm => hap rfl (by decide) hs hm) (hs.arr [0, 3, 4, 1, 2] 5 (by decide))).mono ?_; rintro _ w' ⟨v, rfl, kr, dk2, V', q', c', n', rfl, ⟨r1, r2, ⟨rfl, r3, r4, rfl, rfl, rfl, rfl, r5⟩ | ⟨rfl, r3, r4, _, _, _, _, r5⟩⟩, hs⟩
    · refine ⟨_, rfl, false, 0, dk2, st, ak, rfl, ⟨by omega, by omega, by omega, by omega, by omega⟩, .inl ⟨rfl, .inl rfl, 1, _, _, _, _, _, restM t.each (osU t) + 1, ⟨rfl, rfl, rfl, ?_, by rw [r1, hr], _, r5, by rw [zCa _ _ (Ne.symm mt_sn)]; exact hfn, ?_, .inr ⟨rfl, .inl ⟨by rw [zCa _ _ mt_up.symm]; exact hj, rfl⟩, _, ObI.at (k := 0) (by rw [List.take_zero, List.append_nil]; exact hp) (Nat.zero_le _) (fun h => by cases h), rfl⟩⟩, ?_, Nat.le_refl _, r4, hs.arr [0, 3, 4, 1, 2] 5 (by decide)⟩⟩
      · rw [← List.length_append]; exact congrArg List.length (esU_frames t.m (s := 0) (by decide))
      · rw [zD4]; exact congrArg some (esU_frames t.m (s := 0) (by decide))
      · rw [uLeft0, uLeft1]; simp only [Nat.add_sub_cancel]; omega
    · refine ⟨_, rfl, false, 110, dk2, st, ak, rfl, ⟨by omega, by omega, by omega, by omega, by omega⟩, .inr (.inr ⟨rfl, ⟨r3, fun picks => ?_⟩, ⟨by rw [r1, hr], Nat.le_refl _, r4⟩, hs.arr [4, 2] 5 (by decide)⟩)⟩
      obtain ⟨j, h⟩ := r5 picks
      have hn' : (zF9 f mtN (frames 0 (esU t.m 0) ++ (frame 1 (((1 : Nat) : Int), t.m)).take j)) snN = none := by rw [zCa _ _ (Ne.symm mt_sn)]; exact hfn
      have hj' : (zF9 f mtN (frames 0 (esU t.m 0) ++ (frame 1 (((1 : Nat) : Int), t.m)).take j)) nUp = none := by rw [zCa _ _ mt_up.symm]; exact hj
      refine ⟨_, h, ?_⟩
      rcases TornI.app (s := 0) hm hsu (by decide) hn' (zD4 _ _ _) with h1 | h1
      · exact ⟨0, by decide, h1, hp, .inl ⟨rfl, hj'⟩⟩
      · exact ⟨1, by decide, h1, hp, .inr (.inl ⟨rfl, _, _, .inl ⟨hj', rfl⟩, ObI.at (k := 0) (by rw [List.take_zero, List.append_nil]; exact hp) (Nat.zero_le _) (fun h => by cases h)⟩)⟩
  · have hst : V.state t.m.id ≠ 0 := by rw [hV, vwU_state t.m (by decide)]; decide
    have hM1 := hOb.le hU.each.1 hU.small (by omega); have hpin := hOb.pin
    by_cases hk : a.2.1 < (t.xs.length : Nat)
    · obtain ⟨k, done, uid, rfl, f1, f2, f3, f4⟩ := hOb.form hU.each.1 hU.small
      have hk : (k : Int) < (t.xs.length : Nat) := hk; obtain ⟨o, mm, ho, hp, hph, hnx⟩ := ObI.next (t := tr + 1) hU.each.1 hU.small (by omega) hOb (by omega); obtain ⟨yo, x, hy, hx, rfl⟩ := osU_at ho; have hom := List.mem_of_getElem? ho
      have hKk : ∀ z ∈ [] ++ (osU t).take k, z ∈ osb := fun z hz => by
        rcases List.mem_append.1 hz with h | h
        · cases h
        · exact hU.sub z (List.mem_of_mem_take h)
      refine (step_obj (Q := fun kk w' => ∃ (dk' : Dk) (st' : St) (ak' : Nat), Bnd (cb + 50) ak' st' dk' ∧
        (((kk = 0 ∨ kk = 111) ∧ ∃ a' M', GoI osb t 1 a' V q c n dk' st' (M' + 1) ∧ tLeft st' M' < tLeft st M1 ∧ (st'.script.length ≤ st.script.length ∧ (dk.armed = 0 → dk'.armed = 0)) ∧ Mem g w' (UpC u t a' false :: zBh t.c p ((tr + 1 : Nat) : Int) (ak' : Nat) :: zB8 p st' :: zDs t.l t.d 3 V q c n :: zB9 t.d dk' :: L)) ∨
         (DnI osb t st' dk' ∧ (dk'.room = 262144 ∧ st'.script.length ≤ st.script.length ∧ dk.armed ≠ 0) ∧ Mem g w' (zB8 p st' :: zB9 t.d dk' :: L)))) (ev := 3) hE hst hk (fun w hs => ?_) (hs.arr [0, 3, 1, 2, 4] 5 (by decide))).mono ?_
      · refine (object_sl (p := p) (st := st) (dk := dk) (tr := tr + 1) (ak := ak) (J := fun s j e => e.room = 262144 ∧ e.calls ≤ dk.calls + 40 ∧ (j = 0 ∧ (dk.armed = 0 → e.armed = 0) ∧ (e.ok → RawI UpN 20000 (zF9 f nUp (zC0 (zFe (s4L s)))) e) ∨ j = 110 ∧ e.down = true ∧ dk.armed ≠ 0 ∧ (e.ok → ∀ picks, RawI UpN 20000 f (e.crash picks) ∨ RawI UpN 20000 (zF9 f nUp (zC0 (zFe (s4L s)))) (e.crash picks)))) (R := fun id' done' is y st' a' => a' ≤ ak + 2 * (tr + 1) ∧ PResG osb ([] ++ (osU t).take k) yo.1 x.1 t.each (tr + 1) uid done st mm id' done' is y st') hE hx hy (fun hs hr => (ps_gen hE.uG hU.osf (hU.sub _ hom) hKk hU.each.1 hU.each.2 htr hp hph (by omega) (by omega) (by omega) (by omega) hs hr).mono ?_) ?_ hU.idr (by omega) (by omega) (fun s4 hs4 => ?_) (hs.arr [0, 2, 3, 4, 1] 5 (by decide))).mono ?_
        · rintro _ w' ⟨v, rfl, id', done', is, z, st', a', e1, e2, e3, hs⟩
          exact ⟨v, rfl, id', done', is, z, st', a', e1, ⟨e2, e3⟩, hs⟩
        · rintro id' done' is z st' a' ⟨_, hr⟩
          obtain ⟨r1, r2, r3, r4, r5, r6⟩ := hr
          rcases r6 with ⟨rfl, rfl, rfl, rfl, _⟩ | ⟨rfl, rfl, m', hm', _⟩ | ⟨rfl, rfl, _⟩
          · exact ⟨.inr rfl, fun _ => ⟨f2, by omega, by omega⟩⟩
          · have h1 := hm'.le
            have h2 := zDv (n := x.1.length) hU.each.1; have h3 := hU.small _ hom; simp only at h3; refine ⟨.inl rfl, fun _ => ⟨h1.2.2.2, ?_, by omega⟩⟩
            rcases hm' with h | h | h
            · omega
            · have := h.2.1; omega
            · have := h.2.1; omega
          · exact ⟨.inl rfl, fun h => by cases h⟩
        · obtain ⟨k2, e, h5, h6, h7, ⟨rfl, _, h10, h9⟩ | ⟨rfl, h8, h10, h9⟩⟩ := hRI.jput up_up upN_new hs4 (by decide) h3
          · exact ⟨0, e, h5, .inl rfl, by rw [h6, hr], by omega, .inl ⟨rfl, h10, h9⟩⟩
          · exact ⟨110, e, h5, .inr rfl, by rw [h6, hr], by omega, .inr ⟨rfl, h8, h10, h9⟩⟩
        · rintro _ w' ⟨v, rfl, id', done', is, z, st', a', ⟨ha', hr'⟩, hs⟩
          obtain ⟨r1, r2, r3, r4, r5, r6⟩ := id hr'
          rcases hs with ⟨hz, rfl, hs⟩ | ⟨rfl, s4, j, e, hs4, ⟨hjr, hjc, hjj⟩, hjw, hin, rfl, hs⟩
          · rcases hnx id' done' is z st' hr' with ⟨rfl, hn0, M', hM', hlt⟩ | ⟨rfl, _⟩
            · exact ⟨_, rfl, 111, rfl, dk, st', a', ⟨by omega, by omega, by omega, by omega, by omega⟩, .inl ⟨.inr rfl, _, M', ⟨hV, hq, hc, hn, hr, f, hRI, hfn, hfm, .inr ⟨rfl, hj, _, hM', rfl⟩⟩, hlt, ⟨Nat.le_trans r5 (Nat.sub_le _ _), id⟩, hs.arr [0, 1, 2, 4, 3] 5 (by decide)⟩⟩
            · exact absurd rfl hz
          · rcases hnx id' done' is 0 st' hr' with ⟨h, _⟩ | ⟨_, M', hM', hlt, _, M2, hM2⟩
            · cases h
            · rw [← hs4] at hM'
              have hok := ((hs.arr [3] 4 (by decide)).openD).1
              rcases hjj with ⟨rfl, h10, h9⟩ | ⟨rfl, h8, h10, h9⟩
              · rw [if_pos rfl] at hs
                exact ⟨_, rfl, 0, rfl, e, st', a', ⟨by omega, by omega, by omega, by omega, by omega⟩, .inl ⟨.inl rfl, s4, M', ⟨hV, hq, hc, hn, hjr, _, h9 hok, by rw [zCa _ _ sn_up]; exact hfn, by rw [zCa _ _ mt_up]; exact hfm, .inr ⟨rfl, .inr ⟨zD4 _ _ _, hin⟩, _, hM', rfl⟩⟩, hlt, ⟨Nat.le_trans r5 (Nat.sub_le _ _), h10⟩, hs.arr [0, 1, 2, 4, 3] 5 (by decide)⟩⟩
              · refine ⟨_, rfl, 110, rfl, e, st', a', ⟨by omega, by omega, by omega, by omega, by omega⟩, .inr ⟨⟨h8, fun picks => ?_⟩, ⟨hjr, Nat.le_trans r5 (Nat.sub_le _ _), h10⟩, hs.arr [2, 3] 5 (by decide)⟩⟩
                rcases h9 hok picks with h | h
                · exact ⟨f, h, 1, by decide, TornI.whole hfn hfm, hM'.pin, .inr (.inl ⟨rfl, _, _, hj, hM2⟩)⟩
                · exact ⟨_, h, 1, by decide, TornI.whole (by rw [zCa _ _ sn_up]; exact hfn) (by rw [zCa _ _ mt_up]; exact hfm), hM'.pin, .inr (.inl ⟨rfl, _, _, .inr ⟨zD4 _ _ _, hin⟩, hM'⟩)⟩
      · rintro _ w' ⟨v, rfl, kk, rfl, dk', st', ak', hb', hcase⟩
        rcases hcase with ⟨hkk, a', M', hG, hlt, ⟨hsl, har⟩, hs⟩ | ⟨hD, hrm, hs⟩
        · exact ⟨_, rfl, false, kk, dk', st', ak', rfl, hb', .inl ⟨rfl, hkk, 1, a', V, q, c, n, M' + 1, hG, by rw [uLeft1, uLeft1]; simp only [Nat.add_sub_cancel]; omega, hsl, har, hs⟩⟩
        · exact ⟨_, rfl, false, kk, dk', st', ak', rfl, hb', .inr (.inr ⟨rfl, hD, hrm, hs⟩)⟩
    · obtain ⟨hae, hp2, hobs, rfl, _⟩ := hOb.end_ (by rw [hol]; exact hk)
      refine (step_last (R := AppN UpN 20000 f dk (vwU t.m 1) (vwU t.m 2) 1 1 (frames 0 (esU t.m 1)) (frame 2 (((2 : Nat) : Int), t.m))) hE hst hk (fun hs hm => hap rfl (by decide) hs hm) (fun h => by have := h.2.1; omega) (hs.arr [0, 3, 4, 1, 2] 5 (by decide))).mono ?_; rintro _ w' ⟨v, rfl, kr, dk2, V', q', c', n', ⟨r1, r2, hr5⟩, hs⟩
      rcases hs with ⟨hk0, rfl, hs⟩ | ⟨rfl, j, e, hjr, rfl, hs⟩
      · obtain ⟨rfl, r3, r4, _, _, _, _, r5⟩ := hr5.resolve_left (fun h => hk0 h.1)
        refine ⟨_, rfl, false, 110, dk2, st, ak, rfl, ⟨by omega, by omega, by omega, by omega, by omega⟩, .inr (.inr ⟨rfl, ⟨r3, fun picks => ?_⟩, ⟨by rw [r1, hr], Nat.le_refl _, r4⟩, hs.arr [4, 2] 5 (by decide)⟩)⟩; obtain ⟨j, h⟩ := r5 picks
        have hn' : (zF9 f mtN (frames 0 (esU t.m 1) ++ (frame 2 (((2 : Nat) : Int), t.m)).take j)) snN = none := by rw [zCa _ _ (Ne.symm mt_sn)]; exact hfn
        refine ⟨_, h, ?_⟩
        rcases TornI.app (s := 1) hm hsu (by decide) hn' (zD4 _ _ _) with h1 | h1
        · exact ⟨1, by decide, h1, hpin, .inr (.inl ⟨rfl, a, _, hj.other mt_up.symm, hOb⟩)⟩
        · exact ⟨2, by decide, h1, hpin, .inr (.inr ⟨rfl, hobs⟩)⟩
      · obtain ⟨_, r3, r4, rfl, rfl, rfl, rfl, r5⟩ := hr5.resolve_right (fun h => by cases h.1)
        have hn' : (zF9 f mtN (frames 0 (esU t.m 1) ++ frame 2 (((2 : Nat) : Int), t.m))) snN = none := by rw [zCa _ _ (Ne.symm mt_sn)]; exact hfn
        have hf' : (zF9 f mtN (frames 0 (esU t.m 1) ++ frame 2 (((2 : Nat) : Int), t.m))) mtN = some (frames 0 (esU t.m 2)) := by rw [zD4]; exact congrArg some (esU_frames t.m (s := 1) (by decide))
        obtain ⟨k, e', h1, h2, h4, h5⟩ := r5.jgoneP up_up; rw [h1] at hjr
        cases hjr
        rcases h5 with ⟨rfl, _⟩ | ⟨rfl, h6, h8, h7⟩
        · exact ⟨_, rfl, true, 0, e, st, ak, rfl, ⟨by omega, by omega, by omega, by omega, by omega⟩, .inr (.inl ⟨rfl, rfl, hpin, hobs, hs.arr [4] 5 (by decide)⟩)⟩
        · have hok := ((hs.arr [2] 3 (by decide)).openD).1
          refine ⟨_, rfl, false, 110, e, st, ak, rfl, ⟨by omega, by omega, by omega, by omega, by omega⟩, .inr (.inr ⟨rfl, ⟨h6, fun picks => ?_⟩, ⟨by rw [h2, r1, hr], Nat.le_refl _, fun ha => h8 (r4 ha)⟩, hs.arr [4, 2] 5 (by decide)⟩)⟩
          rcases h7 hok picks with h | h
          · exact ⟨_, h, 2, by decide, TornI.whole hn' hf', hpin, .inr (.inr ⟨rfl, hobs⟩)⟩
          · exact ⟨_, h, 2, by decide, TornI.whole (by rw [zF1 sn_up]; exact hn') (by rw [zF1 mt_up]; exact hf'), hpin, .inr (.inr ⟨rfl, hobs⟩)⟩
end
section
open Go.RowKit
attribute [local irreducible] zAk eV
variable {g w : World} {L M : List HP} {ad : Nat → Addr} {p u n q c d l : Nat} {dk : Dk} {st : St} {t : UpT} {a : S4} {V : Vw} {osb : List (ByteArray × List UInt8)} {f : ByteArray → Option (List UInt8)} {B : Nat} {m : Mf} {N : List ByteArray} {mb : List UInt8}
theorem openedR_sl (hM : ErrM ad g) (hG : ErrG ad g) (hs : Mem g w (zB9 p dk :: L)) {sp : Nat} (hI : RawI N B f dk) (hmt : mtN ∈ N) (hsn : snN ∈ N) (ha : dk.armed = 0) (hcl : dk.calls < 800000) (hfn : f snN = none) (hf : f mtN = some mb) (hml : mb.length ≤ 1000000) (hent : Ent [] 0 mb V q c n) (hq : q < 4611686018427387904) {tr : Int} (htr : 1 ≤ tr ∧ tr ≤ 8) :
    Calls Tryz.prog 12 #[.pointer (some ⟨p, 0, none⟩), .pointer (some ⟨sp, 0, none⟩), .int .i64 tr] w (Ret fun v w' => ∃ l c0 dk2, v = .tuple #[.pointer (some ⟨l, 0, none⟩), .pointer (some ⟨c0, 0, none⟩)] ∧ dk2.armed = 0 ∧ dk2.room = dk.room ∧ dk2.calls ≤ dk.calls + 4 ∧ RawI N B (zF9 f mtN (mb.take n)) dk2 ∧ Mem g w' (zBh c0 sp tr 0 :: zDs l p 3 V q c n :: zB9 p dk2 :: L)) := by
  refine zAh Tryz.func12 rfl rfl ?_
  refine zA4 (zA2 (Jf rfl (Jf rfl (zA6 (zA4 (zA2 (J1 rfl (Qg en40 (openR_sl (ev := 3) hM hs hI hmt hsn ha hcl (by decide) hfn hf hml hent hq) ?_)))))))); clear hs; rintro _ w ⟨l, dk2, rfl, k1, k2, k3, k4, hs⟩; refine Jc rfl (Ju (v := .pointer (some _)) rfl rfl (Jk rfl rfl (Jd rfl (J3 rfl (zA6 (zA4 (zA2 (J1 rfl ?_))))))))
  refine J0 rfl (Qg en41 (clnew_sl hG hs htr) ?_); clear hs; rintro _ w ⟨c0, rfl, hs⟩; refine Jc rfl (Ju (v := .pointer (some _)) rfl rfl (Jk rfl rfl (Jd rfl (J3 rfl (zA6 (zA4 (zA4 (zA2 (J1 rfl (Qa (zDj uz32 rfl rfl) (J2 rfl ?_))))))))))); refine zAl rfl rfl (rfl) (J1 rfl (zAl rfl rfl (rfl) ?_))
  refine Qa (zDj uz33 rfl rfl) (J9 rfl (rfl) rfl (J2 rfl (zAl rfl rfl (rfl) (Jj rfl (zAl rfl rfl (rfl) (Jz rfl (J9 rfl (rfl) rfl (J2 rfl (zAl rfl rfl (rfl) (Jj rfl ?_)))))))))); refine zAl rfl rfl (rfl) (Jz rfl (J9 rfl (rfl) rfl (zA6 (zAz rfl (rfl) (zAd (zA4 (zA2 (J1 rfl ?_))))))))
  exact J1 rfl (Jd rfl (Jd rfl (zA6 (zAe (zEd (v := .pointer (some _)) (v2 := .pointer (some _)) rfl rfl rfl ⟨_, rfl, l, c0, dk2, rfl, k1, k2, k3, k4, hs⟩)))))
def DskO (osb : List (ByteArray × List UInt8)) (m : Mf) (e : Nat) (os : List (ByteArray × List UInt8)) (st : St) (f : ByteArray → Option (List UInt8)) : Prop := ∃ s, s ≤ 2 ∧ TornI m s f ∧ PIn osb [] st ∧
  (s = 0 ∧ f nUp = none ∨ s = 1 ∧ (∃ a M, JrI m.id f a ∧ ObI osb [] os e m.id false a st M) ∨ s = 2 ∧ ∀ o ∈ os, zAx st.objs o.1 = some o.2)
def OpI (osb : List (ByteArray × List UInt8)) (m : Mf) (e : Nat) (os : List (ByteArray × List UInt8)) (st : St) (dk : Dk) (s n : Nat) (f : ByteArray → Option (List UInt8)) : Prop :=
  s ≤ 2 ∧ n = (frames 0 (esU m s)).length ∧ RawI UpN 20000 f dk ∧ dk.armed = 0 ∧ dk.room = 262144 ∧ f snN = none ∧ f mtN = some (frames 0 (esU m s)) ∧ PIn osb [] st ∧
  (s = 0 ∧ f nUp = none ∨ s = 1 ∧ (∃ a M, JrI m.id f a ∧ ObI osb [] os e m.id false a st M) ∨ s = 2 ∧ ∀ o ∈ os, zAx st.objs o.1 = some o.2)
theorem openD_sl (hM : ErrM ad g) (hG : ErrG ad g) (hm : mfF m = (0, none)) (hsu : ∀ o ∈ m.obs, o.2.2 < 4294967296) (hF : (mfB m).length + 17 ≤ 6021) {e : Nat} {os : List (ByteArray × List UInt8)} (hs : Mem g w (zB9 p dk :: L)) {sp : Nat} (hI : RawI UpN 20000 f dk) (ha : dk.armed = 0) (hr : dk.room = 262144) (hcl : dk.calls < 800000) (hD : (f = (fun _ => none) ∧ PIn osb [] st) ∨ DskO osb m e os st f) {tr : Int} (htr : 1 ≤ tr ∧ tr ≤ 8) :
    Calls Tryz.prog 12 #[.pointer (some ⟨p, 0, none⟩), .pointer (some ⟨sp, 0, none⟩), .int .i64 tr] w (Ret fun v w' => ∃ l c0 dk2 s n f', v = .tuple #[.pointer (some ⟨l, 0, none⟩), .pointer (some ⟨c0, 0, none⟩)] ∧ dk2.calls ≤ dk.calls + 4 ∧ OpI osb m e os st dk2 s n f' ∧ Mem g w' (zBh c0 sp tr 0 :: zDs l p 3 (vwU m s) s s n :: zB9 p dk2 :: L)) := by
  rcases hD with ⟨rfl, hp⟩ | ⟨s, hs2, ⟨hfn, tail, hfm, ht, htl⟩, hp, hcase⟩
  · refine (opened_sl hM hG hs hI up_mt up_sn ha hcl rfl rfl htr).mono ?_
    rintro _ w' ⟨v, rfl, l, c0, dk2, rfl, k1, k2, k3, k4, hs⟩; exact ⟨_, rfl, l, c0, dk2, 0, 0, _, rfl, by omega, ⟨by omega, rfl, k4, k1, by rw [k2, hr], zCa _ _ (Ne.symm mt_sn), zD4 _ _ _, hp, .inl ⟨rfl, zCa _ _ mt_up.symm⟩⟩, hs⟩
  · have hfl := esU_flen m hs2
    have h2 : s * ((mfB m).length + 17) ≤ 2 * 6021 := Nat.mul_le_mul hs2 hF; have hent := TornI.ent hm hsu hs2 hF ht htl; refine (openedR_sl hM hG hs hI up_mt up_sn ha hcl hfn hfm (by rw [List.length_append]; omega) hent (by omega) htr).mono ?_; rintro _ w' ⟨v, rfl, l, c0, dk2, rfl, k1, k2, k3, k4, hs⟩; rw [List.take_left] at k4; refine ⟨_, rfl, l, c0, dk2, s, _, _, rfl, k3, ⟨hs2, rfl, k4, k1, by rw [k2, hr], by rw [zCa _ _ (Ne.symm mt_sn)]; exact hfn, zD4 _ _ _, hp, ?_⟩, hs⟩
    rcases hcase with ⟨h1, h2⟩ | ⟨h1, a, M, hj, ho⟩ | h
    · exact .inl ⟨h1, by rw [zCa _ _ mt_up.symm]; exact h2⟩
    · exact .inr (.inl ⟨h1, a, M, hj.other mt_up.symm, ho⟩)
    · exact .inr (.inr h)
theorem ObI.fits {e M : Nat} {i : Int} {bs : List (List UInt8)} {os : List (ByteArray × List UInt8)} (h : ObI osb [] os e i false a st M) (hb : os.map (·.2) = bs) : fitsB e bs a = true := by
  have hl : bs.length = os.length := by rw [← hb, List.length_map]
  rcases h with ⟨k, o, uid, done, mm, ho, rfl, _, hph, _⟩ | ⟨rfl, _⟩
  · have hk := (List.getElem?_eq_some_iff.1 ho).1
    have h1 := hph.le.2.2.1; rw [fitsB, if_neg (by rw [hl]; simp only; omega)]
    have hbk : bs[k]? = some o.2 := by rw [← hb, List.getElem?_map, ho]; rfl
    simp only [Int.toNat_natCast, hbk, Option.getD_some]; exact decide_eq_true (by omega)
  · rw [fitsB, if_pos (by rw [hl]; simp)]
    simp [hl]
theorem NewR.go {each : Int} {bs : List (List UInt8)} {is : Bool} {z : S4} {R : List HP} {v : Value} {w' : World} {c0 s : Nat} (h : NewR ad g each m bs (vwU m s) d l c0 is z R v w') (h0 : (upF each m bs).1 = 0) (hs1 : s ≤ 1) {f : ByteArray → Option (List UInt8)}
    (hj : jst (dk.pread nUp) = (0, is, z.1, z.2.1, z.2.2.1, z.2.2.2)) (hI : RawI UpN B f dk) {os : List (ByteArray × List UInt8)} (hb : os.map (·.2) = bs)
    (hc : s = 0 ∧ f nUp = none ∨ s = 1 ∧ (∃ a M, JrI m.id f a ∧ ObI osb [] os each.toNat m.id false a st M)) :
    ∃ u s1 s2 xs s3 s4 a, v = .tuple #[.pointer (some ⟨u, 0, none⟩), .nilIface] ∧ xs.map (·.1) = bs ∧ (s = 0 ∧ a = (m.id, 0, 0, 0) ∧ f nUp = none ∨ s = 1 ∧ JrI m.id f a ∧ ∃ M, ObI osb [] os each.toNat m.id false a st M) ∧ Mem g w' (UpC u ⟨d, l, c0, m, s1, s2, each.toNat, xs, s3, s4⟩ a false :: R) := by
  have hst := vwU_state m (show s ≤ 2 by omega)
  rcases h with ⟨h, _⟩ | ⟨_, h, _⟩ | ⟨_, _, u, s1, s2, xs, s3, s4, h3, h4, hs⟩
  · exact absurd h0 h
  · rw [hst] at h; omega
  · rcases hc with ⟨rfl, hn⟩ | ⟨rfl, a, M, ⟨hn, rfl⟩ | ⟨hn, hin⟩, hO⟩
    · rw [if_neg (by rintro ⟨_, _, h5, _⟩; rw [hst] at h5; cases h5)] at hs
      exact ⟨u, s1, s2, xs, s3, s4, _, h3, h4, .inl ⟨rfl, rfl, hn⟩, hs⟩
    · have h5 := (hI.jnone up_up hn).symm.trans hj
      rw [if_neg (by rintro ⟨h6, _⟩; rw [h6] at h5; simp only [zS, Prod.mk.injEq] at h5; exact absurd h5.2.1 (by decide))] at hs; exact ⟨u, s1, s2, xs, s3, s4, _, h3, h4, .inr ⟨rfl, .inl ⟨hn, rfl⟩, M, hO⟩, hs⟩
    · have h5 := (hI.jthere up_up hn hin).symm.trans hj
      simp only [Prod.mk.injEq, true_and] at h5; obtain ⟨rfl, e1, e2, e3, e4⟩ := h5
      have hz : z = a := by rw [Prod.ext_iff, Prod.ext_iff, Prod.ext_iff]; exact ⟨e1.symm, e2.symm, e3.symm, e4.symm⟩
      subst hz
      have hid : z.1 = m.id := by rcases hO with ⟨_, _, _, _, _, _, h, _⟩ | ⟨h, _⟩ <;> rw [h]
      rw [if_pos ⟨rfl, hid, hst, hO.fits hb⟩] at hs; exact ⟨u, s1, s2, xs, s3, s4, z, h3, h4, .inr ⟨rfl, .inr ⟨hn, hin⟩, M, hO⟩, hs⟩
end
section
variable {P : Program} {n : Nat} {N R : Post} {B : List (Nat × Post)} {ρ : Env} {w : World}
theorem cw_mid {c1 c2 : Code} {X : Type} (W : List Nat) (slots : X → List (Nat × Value)) (I : X → World → Prop) (h1 : cw P n c1 (fun ρ' w' => ∃ x, I x w' ∧ AllS ρ' (slots x) ∧ Out W ρ' ρ) B R ρ w)
    (h2 : ∀ x ξ w, I x w → cw P n c2 N B R (updL (mix W ξ ρ) (slots x)) w) : cw P n (.seq c1 c2) N B R ρ w :=
  cw_join _ h1 fun ρ' w' ⟨x, hI, hS, hO⟩ => by
    have := h2 x ρ' w' hI
    rwa [← funext (env_head hO _ hS)] at this
end
section
set_option maxRecDepth 100000
theorem headMay : Tryz.prog.mayEnter = true := by kernel_rfl
theorem headLifts : (Rows.upTwoRow.lifted == Tryz.prog.liftsFinal) = true := by kernel_rfl
theorem headMake : (Tryz.prog.make == some Rows.upTwoRow.make) = true := by kernel_rfl
theorem both_true {a b : Bool} (ha : a = true) (hb : b = true) : (a && b) = true := by rw [ha, hb]; rfl
end
end Go.Proofs.YthejaanobeonnaaGreatDoor
