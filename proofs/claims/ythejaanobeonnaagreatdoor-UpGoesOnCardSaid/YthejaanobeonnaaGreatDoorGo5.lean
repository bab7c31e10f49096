/- The disk, over chunks: SyncDir, Crash. The disk, over chunks: Crash. Chapter 4: the examples; what a test of an error tells. The law DiskKeeps: what was synced, under a name that was synced, is there behind any crash. The law DiskCuts: what is cut is cut, synced at once. The law DiskDown: while the power is gone nothing is changed or told. The law DiskRooms: all files together have at most the room. What a Write of what is kept aside leaves, in plain words; whatever the power does. Names with what is kept under each, in plain words: Writes, crashes. Names with what stands under each, byte by byte: Writes, bytes laid behind, cuts, crashes. What is kept aside: Write, Read, over chunks. The remote log: its chunk; what it has when it is opened. The remote log where it is new or small: Open on a disk without its files, Append without a snapshot; whatever the power does. point.Nums, ReadNums, over chunks. The journal, over chunks. Chapter 20: the example, and what the statements ask of a journal. What a row's condition on the sentinels gives a walk: 'Errs'; what its condition on a slice gives: 'seqV'. Slices of slices, of structs, that came in. States of a journal. The journal beside the log's files. -/
import Derived.Test.YthejaanobeonnaaGreatDoorGo4
import Derived.Test.YthejaanobeonnaaGreatDoorGo1
import Derived.Test.YthejaanobeonnaaGreatDoorGo3
import Derived.Test.YthejaanobeonnaaGreatDoorGo2
import Derived.Test.YthejaanobeonnaaGreatDoorRows
import Derived.LaidMore
import Derived.LaidHandle
import Derived.LaidLaws
import Derived.MakeChecks
import Derived.OpenShut
import Derived.Carry
import Derived.Deep.Slices
set_option linter.all false
namespace Go.Proofs.YthejaanobeonnaaGreatDoor
section
open Go.RowKit
attribute [local irreducible] zAk
variable {g w : World} {L M : List HP} {ad : Nat → Addr} {p mn mk sc : Nat} {sa : Option Addr} {d : Dk} {ptr : List (Nat × Nat)}
section
variable {P : Program} {ρ : Env} {dst : Option Tmp} {ty : TypeId} {pos : String} {aft : Array Edge}
theorem run_eqpp {x y : Operand} {t e u : TypeId} {a b q : Nat} (ht : P.underlying t = some (.pointer e)) (hsz : (P.info? e).map (·.size) = some q) (hq : q ≠ 0) (hx : ev ρ x = .pointer (some ⟨a, 0, none⟩)) (hy : ev ρ y = .pointer (some ⟨b, 0, none⟩))
    {ca cb : Array Value} {ta tb : TypeId} (ha : w.heap[a]? = some (.cells ca ta (0, 0))) (hb : w.heap[b]? = some (.cells cb tb (0, 0))) :
    (execOp (ev ρ) ⟨dst, .binOp .eql t x y u, ty, pos, aft, none⟩).run P w = .ok (.value (.bool (decide (a = b)))) w := by
  obtain ⟨inf, hinf, hz⟩ := Option.map_eq_some_iff.1 hsz
  have hs : (sizeOf e).run P w = .ok q w := by simp [sizeOf, typeInfo, hinf, hz]
  have he : (Op.equal t (.pointer (some ⟨a, 0, none⟩)) (.pointer (some ⟨b, 0, none⟩))).run P w = .ok (decide (a = b)) w := by
    show (Op.equalIn 10000 _ _ _).run P w = _
    rw [Op.equalIn]
    by_cases h : a = b
    · subst h
      simp [run_underlying ht, hs, hq, run_sameAddr_same]
    · have hne : (⟨a, 0, none⟩ : Addr) ≠ ⟨b, 0, none⟩ := fun e => h (by cases e; rfl)
      have hq2 := run_sameAddr_other (P := P) w hne ha hb
      simp [run_underlying ht, hs, hq, h, hq2]
  simp only [execOp, hx, hy, binOp_eqp]
  simp [guard_ptr, he]
end
theorem Mem.rowForm (hs : Mem g w L) (i : Nat) {k m c : Nat} {a : Option Addr} {rows : List (List Value)} (hi : L[i]? = some (zE0 k (.slice a m c) rows)) : m = rows.length ∧ m ≤ c ∧ (c = 0 ∨ ∃ b off, a = some ⟨b, off, none⟩) := by
  obtain ⟨F, ⟨⟨a', n, c', hv, hn, hc, ha, hr, h⟩, _⟩⟩ := hs.read hi; simp only [Value.slice.injEq] at hv; obtain ⟨rfl, rfl, rfl⟩ := hv; refine ⟨hn, hc, ?_⟩
  rcases h with h | ⟨b, off, cs, E, rfl, hb, r⟩
  · exact .inl h
  · exact .inr ⟨b, off, rfl⟩
def hold (b o : Nat) (v : Value) : HP where
  ok F w := w.cell? ⟨b, o, none⟩ = some v ∧ b < w.heap.size ∧ ∀ x, F x ↔ x = b
  loc := fun {F w w'} ⟨h1, h2, h3⟩ k => by
    have hk := k b ((h3 b).2 rfl); refine ⟨?_, lt_keep h2 hk, h3⟩; simp only [World.cell?] at h1 ⊢
    rw [hk]; exact h1
  lt := fun ⟨_, h2, h3⟩ hb => by rw [(h3 _).1 hb]; exact h2
theorem Mem.hold2 {b : Nat} {x y z : Value} {T : TypeId} (hs : Mem g w (cells b [x, y, z] T :: L)) : Mem g w (hold b 2 z :: L) := by
  have h1 := hs.cellAt 0 rfl (o := 2) rfl; obtain ⟨F, ⟨g1, g2⟩, g3⟩ := hs.turn (i := 0) rfl; exact g3 w _ F ⟨h1, lt_of_block g1, g2⟩ (fun _ h => .inl h) (Keeps.refl _ _)
theorem Mem.holdAt (hs : Mem g w L) (i : Nat) {b o : Nat} {v : Value} (hi : L[i]? = some (hold b o v)) : w.cell? ⟨b, o, none⟩ = some v := by
  obtain ⟨F, h, _⟩ := hs.read hi; exact h
theorem Mem.flBlock (hs : Mem g w L) (k : Nat) {fs : List (Nat × Fl)} (hk : L[k]? = some (famC fiC ptr fs)) {i b : Nat} {f : Fl} (hb : zAx ptr i = some b) (hf : zAx fs i = some f) : ∃ cs T, w.heap[b]? = some (.cells cs T (0, 0)) := by
  have h1 := hs.famTake (R := fiC) k hk hb hf; obtain ⟨a, c, h2⟩ := h1.openF; obtain ⟨F, h3, _⟩ := h2.read (i := 0) rfl; exact ⟨_, _, h3⟩
theorem Mem.fl_inj (hs : Mem g w L) (k : Nat) {fs : List (Nat × Fl)} (hk : L[k]? = some (famC fiC ptr fs)) {i j b : Nat} (hi : zAx ptr i = some b) (hj : zAx ptr j = some b) : i = j := fam_inj (d := { Dk.empty 0 with fs := fs }) hs k hk hi hj
theorem picked_sl (hs : Mem g w L) {a : Option Addr} {m c : Nat} {picks : List Int} (hr : Rd g L (.slice a m c) (zCz picks)) (hm : m = picks.length) (k n : Nat) (hn : n ≤ 1000000000000) : Calls Tryz.prog 68 #[.slice a m c, .int .i64 k, .int .i64 n] w (Ret fun v w' => v = .int .i64 (zEc picks k n) ∧ Mem g w' L) := by
  subst hm
  by_cases h : picks.length ≤ k
  · have e : zEc picks k n = 0 := by simp [zEc, List.getElem?_eq_none h]
    refine zAh Tryz.func68 rfl rfl ?_
    refine zA4 (zA2 (J4 rfl (zA6 (zA4 (zA4 (zA2 (J0 rfl (J7 rfl (Js uz74 rfl (Qa (zD5 rfl rfl) (zA6 (zBc rfl (decide_eq_true (by omega)) ?_)))))))))))); refine zA4 (zA2 (J4 rfl (zA6 (zAe (zBi (v := .int .i64 _) rfl rfl ?_))))); exact ⟨_, rfl, by rw [e]; rfl, hs⟩
  · obtain ⟨x, hx⟩ : ∃ x, picks[k]? = some x := ⟨_, List.getElem?_eq_getElem (by omega)⟩
    have h1 := Int.tmod_lt_of_pos x (b := (n : Int) + 1) (by omega)
    have h2 : -((n : Int) + 1) < x.tmod (n + 1) := by have h3 := Int.natAbs_tmod x ((n : Int) + 1); have h4 := Nat.mod_lt x.natAbs (y := ((n : Int) + 1).natAbs) (by omega); omega
    have h5 : (x.tmod (n + 1) + n + 1).tmod (n + 1) = x % ((n : Int) + 1) := by
      rw [Int.tmod_eq_emod_of_nonneg (by omega), show x.tmod (n + 1) + n + 1 = x.tmod (n + 1) + (n + 1) * 1 by omega, Int.add_mul_emod_self_left]
      conv => rhs; rw [← Int.tmod_add_mul_tdiv x ((n : Int) + 1)]
      rw [Int.add_mul_emod_self_left]
    have h6 := Int.emod_nonneg x (b := (n : Int) + 1) (by omega)
    have e : ((zEc picks k n : Nat) : Int) = x % ((n : Int) + 1) := by simp only [zEc, hx]; omega
    obtain ⟨b, off, rfl, _⟩ := hr.cells' hs (by rw [zG]; omega); refine zAh Tryz.func68 rfl rfl ?_
    refine zA4 (zA2 (J4 rfl (zA6 (zA4 (zA4 (zA2 (J0 rfl (J7 rfl (Js uz74 rfl (Qa (zD5 rfl rfl) (zA6 (zAz rfl (decide_eq_false (by omega)) ?_)))))))))))); refine zAd (zA4 (zA2 (J7 rfl (J0 rfl (Qa (zB5 uz74 sz3 rfl rfl rfl (by omega) rfl) (Jq uz3 rfl rfl (hr.cellAt hs (zFn hx)) (J0 rfl ?_)))))))
    refine Jo rfl rfl rfl (inI (by omega) (by omega)) (Qa (run_rem rfl rfl (by omega)) (J0 rfl (Jo rfl rfl rfl (inI (by omega) (by omega)) (Jo rfl rfl rfl (inI (by omega) (by omega)) (J0 rfl (Jo rfl rfl rfl (inI (by omega) (by omega)) (Qa (run_rem rfl rfl (by omega)) (J4 rfl (zA6 (zAe ?_)))))))))); refine zBi (v := .int .i64 _) rfl rfl ?_; exact ⟨_, rfl, by rw [e, ← h5], hs⟩
theorem index_sl (ho : d.okB) {fs : List (Nat × Fl)} (hs : Mem g w L) (k : Nat) (hk : L[k]? = some (famC fiC ptr fs)) {a : Option Addr} {n c : Nat} {ids : List Nat} (hr : Rd g L (.slice a n c) (ids.map (fptr ptr))) (hn : n = ids.length) (hil : ids.length ≤ 1000000000) (hid : ∀ x ∈ ids, x ∈ zAm fs) {i b : Nat} (hi : i ∈ zAm fs) (hb : zAx ptr i = some b) :
    Calls Tryz.prog 109 #[.slice a n c, .pointer (some ⟨b, 0, none⟩)] w (Ret fun v w' => ∃ z : Int, v = .int .i64 z ∧ (0 ≤ z ↔ i ∈ ids) ∧ Mem g w' L) := by
  subst hn
  have hptr : ∀ j ∈ zAm fs, ∃ bj fj, zAx ptr j = some bj ∧ zAx fs j = some fj := fun j hj => by
    obtain ⟨fj, hfj⟩ := zC8 hj; obtain ⟨bj, hbj⟩ := zC8 ((hs.famKeys k hk) ▸ hj : j ∈ zAm ptr); exact ⟨bj, fj, hbj, hfj⟩
  refine zAh Tryz.func109 rfl rfl ?_
  refine zA4 (zA2 (J4 rfl (zA6 (zA4 (zA4 (zA2 (J7 rfl (Js uz150 rfl (J0 rfl (zA6 (zAp (zBs (X := Nat) [4, 5, 8, 9, 10, 11, 12, 13, 14, 15, 16, 17, 18] (fun q => [(8, .int .i64 (q : Nat))]) (fun q w => q ≤ ids.length ∧ i ∉ ids.take q ∧ Mem g w L) (fun q => ids.length - q) (0) ?_ ?_ ?_))))))))))))
  · exact ⟨rfl, trivial⟩
  · exact ⟨Nat.zero_le _, by simp, hs⟩
  clear hs; rintro x ξ w hI; obtain ⟨hq, hni, hs⟩ := hI; refine zA4 (zA2 (Jn rfl rfl (zA6 (zA4 (zB2 rfl ?_ ?_)))))
  ·
   intro h9; have g9 := of_decide_eq_true h9; obtain ⟨xi, hxi⟩ : ∃ xi, ids[x]? = some xi := ⟨_, List.getElem?_eq_getElem (by omega)⟩; obtain ⟨bj, fj, hbj, hfj⟩ := hptr xi (hid xi (List.mem_of_getElem? hxi)); obtain ⟨_, fi, _, hfi⟩ := hptr i hi; obtain ⟨b1, o1, rfl, _⟩ := hr.cells' hs (by rw [List.length_map]; omega); obtain ⟨c1, T1, hc1⟩ := hs.flBlock k hk hb hfi; obtain ⟨c2, T2, hc2⟩ := hs.flBlock k hk hbj hfj; refine zAd (zA4 (zAp (zA4 (zA2 (J0 rfl (J4 rfl (zA6 (zA4 (zA2 (J1 rfl ?_))))))))))
   refine J7 rfl (J0 rfl (Qa (zB5 uz150 sz146 rfl rfl rfl (by omega) rfl) (Jq (v := .pointer (some ⟨bj, 0, none⟩)) uz146 rfl rfl (hr.cellAt hs (by rw [List.getElem?_map, hxi, Option.map_some, zFa hbj])) ?_))); refine Qa (run_eqpp uz146 sz154 (by decide) rfl rfl hc1 hc2) (zA6 (zB2 rfl ?_ ?_))
   ·
    intro h16; refine zA4 (zA2 (J0 rfl (J4 rfl (zA6 (zAe (zBi (v := .int .i64 _) rfl rfl ?_)))))); have e := of_decide_eq_true h16; subst e; have e2 := hs.fl_inj k hk hb hbj; subst e2; exact ⟨_, rfl, _, rfl, ⟨fun _ => List.mem_of_getElem? hxi, fun _ => by omega⟩, hs⟩
   ·
    intro h16; refine zAd (zA2 (Jo rfl rfl rfl (inI (by omega) (by omega)) (J0 rfl (zA6 ?_)))); refine ⟨x + 1, by omega, ⟨by omega, ?_, hs⟩, ⟨rfl, trivial⟩, by repeat (first | exact Out.mix _ _ _ | refine Out.updo rfl ?_ | refine Out.upd rfl ?_ | refine Out.mixIn rfl ?_)⟩; rw [List.take_add_one, hxi]; simp only [Option.toList_some, List.mem_append, List.mem_cons, List.not_mem_nil, or_false, not_or]; exact ⟨hni, fun e => (of_decide_eq_false h16) (by subst e; rw [hb] at hbj; cases hbj; rfl)⟩
  ·
   intro h9; have g9 := of_decide_eq_false h9; refine zBm rfl (zA4 (zA2 (J4 rfl (zA6 (zAe (zBi (v := .int .i64 _) rfl rfl ?_))))))
   have e : x = ids.length := by omega
   subst e; rw [List.take_of_length_le (Nat.le_refl _)] at hni; exact ⟨_, rfl, _, rfl, ⟨fun h => absurd h (by omega), fun h => absurd h hni⟩, hs⟩
theorem contains_sl (ho : d.okB) {fs : List (Nat × Fl)} (hs : Mem g w L) (k : Nat) (hk : L[k]? = some (famC fiC ptr fs)) {a : Option Addr} {n c : Nat} {ids : List Nat} (hr : Rd g L (.slice a n c) (ids.map (fptr ptr))) (hn : n = ids.length) (hil : ids.length ≤ 1000000000) (hid : ∀ x ∈ ids, x ∈ zAm fs) {i b : Nat} (hi : i ∈ zAm fs) (hb : zAx ptr i = some b) :
    Calls Tryz.prog 70 #[.slice a n c, .pointer (some ⟨b, 0, none⟩)] w (Ret fun v w' => v = .bool (decide (i ∈ ids)) ∧ Mem g w' L) := by
  refine zAh Tryz.func70 rfl rfl ?_
  refine zA4 (zA2 (J5 rfl (zA6 (zA4 (zA2 (J7 rfl (J1 rfl (Qg en109 (index_sl ho hs k hk hr hn hil hid hi hb) ?_)))))))); clear hs; rintro _ w ⟨z, rfl, hz, hs⟩; refine Qa (zD5 rfl rfl) (J5 rfl (zA6 (zAe (zBi (v := .bool _) rfl rfl ⟨_, rfl, zDr ?_, hs⟩))))
  by_cases hm : i ∈ ids
  · rw [decide_eq_true hm]; exact decide_eq_true (hz.2 hm)
  · rw [decide_eq_false hm]; exact decide_eq_false (fun h => hm (hz.1 h))
theorem syncDir_sl (hE : ErrK ad g) (hs : Mem g w (zB9 p d :: L)) (hcl : d.calls < 1000000) {k : Nat} {d2 : Dk} (hk : d.syncDir = (k, d2)) : Calls Tryz.prog 78 #[.pointer (some ⟨p, 0, none⟩)] w (Ret fun v w' => v = zAk ad k ∧ Mem g w' (zB9 p d2 :: L)) := by
  obtain ⟨ho, mn, mk, sa, sc, ptr, hs⟩ := hs.openD; have hb := d.begin_same; have hbc := d.begin_code; have ho1 := ho.begin; refine zAh Tryz.func78 rfl rfl ?_
  refine zA4 (zA2 (J3 rfl (zA6 (zA4 (zA4 (zA2 (J1 rfl (Qg en119 (begin_sl hE ho hs) ?_)))))))); clear hs; rintro _ w ⟨rfl, hs⟩; refine J6 rfl (zA6 (zA4 (zA2 (J8 rfl (Jv (ad := ad) rfl (zA6 (zB2 rfl ?_ ?_)))))))
  ·
   intro h7; have g7 := zFj h7; refine zA4 (zA2 (J8 rfl (J6 rfl (zA6 (zAe (zBi (v := zAk ad _) rfl rfl ?_))))))
   have hb1 : d.begin.1 ≠ 0 := by simpa using h7
   have e : d.syncDir = (110, d.begin.2) := by simp [Dk.syncDir, hb1]
   rw [e] at hk
   cases hk
   rw [show d.begin.1 = 110 by omega]; exact ⟨_, rfl, rfl, Mem.closeD ho1 hs⟩
  ·
   intro h7; have g7 := zFi h7; refine zAd (zA4 (zA2 (J1 rfl (J1 rfl (J1 rfl (Jx rfl (Jp (o' := 1) zG1 rfl sz85 rfl rfl rfl (Qc uz85 rfl hs 0 rfl rfl (Qg en73 (mclone_sl hs 1 rfl) ?_))))))))); clear hs; rintro _ w ⟨m15, rfl, hs⟩; refine Jx rfl (Jp (o' := 2) zG1 rfl sz85 rfl rfl rfl (zB0 (v := .map _) hs 1 rfl sz85 rfl rfl rfl rfl ?_)); clear hs; intro w hs
   try simp only [zzs, zzz] at hs
   refine Jx rfl (Jp (o' := 3) zG1 rfl sz86 rfl rfl rfl (zB0 (v := .slice _ _ _) hs 1 rfl sz86 rfl rfl rfl rfl ?_)); clear hs; intro w hs
   try simp only [zzs, zzz] at hs
   refine zA6 (zA4 (zA2 (J1 rfl (Jx rfl (Jp (o' := 7) zG1 rfl sz3 rfl rfl rfl (Qc uz3 rfl hs 1 rfl rfl (Jo rfl rfl rfl (inI (by omega) (by omega)) (Jx rfl (Jp (o' := 7) zG1 rfl sz3 rfl rfl rfl (zB0 (v := .int .i64 _) hs 1 rfl sz3 rfl rfl rfl rfl ?_)))))))))); clear hs; intro w hs
   try simp only [zzs, zzz] at hs
   refine zA6 (zA4 (zA2 (J3 rfl (zA6 (zAe (zBi (v := .nilIface) rfl rfl ?_))))))
   have hb1 : d.begin.1 = 0 := by simpa using h7
   have e : d.syncDir = (0, { d.begin.2 with kept := d.begin.2.names, changes := [], calls := d.begin.2.calls + 1 }) := by simp [Dk.syncDir, hb1]
   rw [e] at hk
   cases hk
   exact ⟨_, rfl, (zB ad).symm, Mem.closeD (mn := mn) (mk := m15) (sa := none) (sc := 0) (ptr := ptr) ho1.syncDir ((hs.addE (rows_nil _)).arr [2, 3, 1, 0, 6] 7 (by decide))⟩
end
section
open Go.RowKit
attribute [local irreducible] zAk
variable {g w : World} {L M : List HP} {ad : Nat → Addr} {p mn mk sc : Nat} {sa : Option Addr} {d : Dk} {ptr : List (Nat × Nat)}
theorem nmV_nil {l : List (ByteArray × Nat)} (h : nmV ptr l = []) : l = [] := by
  cases l with
  | nil => rfl
  | cons x l => simp [nmV] at h
theorem adel_has {κ α : Type} [DecidableEq κ] : ∀ {l : List (κ × α)} {k : κ} {v : α} {y : κ × α}, zAx l k = some v → y ∈ l → y ∈ zDe l k ∨ y.2 = v
  | (a, b) :: l, k, v, y, h, hy => by
    simp only [zAx] at h; simp only [zDe]
    split at h
    · rename_i e
      rw [if_pos e]
      cases h
      rcases List.mem_cons.1 hy with rfl | hy
      · exact .inr rfl
      · exact .inl hy
    · rename_i e
      rw [if_neg e]
      rcases List.mem_cons.1 hy with rfl | hy
      · exact .inl (List.mem_cons_self ..)
      · rcases adel_has h hy with h | h
        · exact .inl (List.mem_cons_of_mem _ h)
        · exact .inr h
theorem Dk.ok.ids_len (ho : d.ok) {ids : List Nat} (hn : ids.Nodup) (hid : ∀ x ∈ ids, x ∈ zAm d.fs) : ids.length ≤ d.calls := by
  have h1 : ids.length ≤ ((List.range d.files).map (· + 1)).length := hn.length_le_of_subset fun x hx => by
    have := ho.key (hid x hx); exact List.mem_map.2 ⟨x - 1, List.mem_range.2 (by omega), by omega⟩
  have h2 := ho.fcl
  simp at h1
  omega
theorem crash_sl (hs : Mem g w (zB9 p d :: L)) (hcl : d.calls < 1000000) {a : Option Addr} {m c : Nat} {picks : List Int} (hr : Rd g L (.slice a m c) (zCz picks)) (hm : m = picks.length) (hpl : picks.length ≤ 1000000000) : Calls Tryz.prog 38 #[.pointer (some ⟨p, 0, none⟩), .slice a m c] w (Ret fun v w' => v = .tuple #[] ∧ Mem g w' (zB9 p (d.crash picks) :: L)) := by
  obtain ⟨ho, mn, mk, sa, sc, ptr, hs⟩ := hs.openD; have hkl := ho.kl; have hfc := ho.fcl; obtain ⟨q, hq⟩ : ∃ q, q = zEc picks 0 d.changes.length := ⟨_, rfl⟩; have hqle : q ≤ d.changes.length := hq ▸ pickN_le _ _ _; obtain ⟨kept, hkept⟩ : ∃ kept, kept = zC2 d.kept (d.changes.take q) := ⟨_, rfl⟩
  have hprops := applyAll_props (cs := d.changes.take q) (l := d.kept) (S := fun i => i ∈ zAm d.fs) ho.knd ho.kin fun c hc i hi => ho.cin c (List.mem_of_mem_take hc) i hi
  rw [← hkept] at hprops
  have hptr : ∀ j ∈ zAm d.fs, ∃ bj, zAx ptr j = some bj ∧ fptr ptr j = .pointer (some ⟨bj, 0, none⟩) ∧ zAx d.fs j = some (d.fl j) := fun j hj => ho.ptrOf hs 4 rfl hj
  have hfid := ho.fid; obtain ⟨hrn, hrc, hra⟩ := hs.rowForm 3 rfl; refine zAh Tryz.func38 rfl rfl ?_
  refine zA4 (zA4 (zAq zBk hs ?_)); intro w tr hK; replace hs := tr _ hs; clear tr; refine Q0 0 rfl rfl hK (Q7 1 rfl rfl hK (Q6 2 rfl (o' := 3) zG1 rfl sz86 rfl rfl rfl hK (Qd 3 rfl uz86 rfl (fun w hs => hs.cellAt 0 rfl rfl) hK (Q3 4 rfl rfl hK (Q0 5 rfl rfl hK (Q7 6 rfl rfl hK (Q6 7 rfl (o' := 3) zG1 rfl sz86 rfl rfl rfl hK ?_)))))))
  refine Qd 8 rfl uz86 rfl (fun w hs => hs.cellAt 0 rfl rfl) hK (Qb 9 rfl (fun w hs => zAu uz86 rfl) hK (Q2 13 rfl rfl hK (zAc [10] ⟨⟨_, rfl, ?_⟩, trivial⟩))); refine Qg en68 (picked_sl hs (((((hr.cons).cons).cons).cons).cons) hm 0 d.changes.length (by omega)) ?_; clear hs; rintro _ w ⟨rfl, hs⟩; rw [← hq]; clear hK; have hK := hs; refine zA6 ⟨hK, ?_⟩; refine Qb 11 rfl (fun w hs => run_sliceToK uz86 sz148 rfl rfl (hi := q) rfl (by omega) hra) hK (Qb 12 rfl (fun w hs => zAu uz86 rfl) hK (zAs (by kernel_rfl) ?_)); clear hK; refine zAp ?_
  refine zBs (X := Nat) [5, 24, 25, 26, 27, 28, 29, 30, 31, 32, 33, 34] (fun k => [(24, .int .i64 (k : Nat))]) (fun k w => k ≤ q ∧ Mem g w (cells p (diskL mn mk d sa sc) 88 :: mapS mn (nmV ptr d.names) :: mapS mk (nmV ptr (zC2 d.kept (d.changes.take k))) :: zE0 3 (.slice sa d.changes.length sc) (d.changes.map (chgV ptr)) :: famC fiC ptr d.fs :: L)) (fun k => q - k) (0) ?_ ?_ ?_
  · exact ⟨rfl, trivial⟩
  · exact ⟨Nat.zero_le _, hs⟩
  clear hs; rintro x ξ w hI; obtain ⟨hk, hs⟩ := hI; refine zA4 (zA2 (Jn rfl rfl (zA6 (zA4 (zB2 rfl ?_ ?_)))))
  ·
   intro h25; have g25 := of_decide_eq_true h25; obtain ⟨ch, hch⟩ : ∃ ch, d.changes[x]? = some ch := ⟨_, List.getElem?_eq_getElem (by omega)⟩
   have hpc : ∀ i, ch.f = some i → ∃ b, zAx ptr i = some b := fun i hi => by obtain ⟨b, hb, _⟩ := hptr i (ho.cin ch (List.mem_of_getElem? hch) i hi); exact ⟨b, hb⟩
   obtain ⟨PP, hrow, hPP⟩ := row_form hpc; obtain ⟨rb, ro, rfl⟩ : ∃ rb ro, sa = some ⟨rb, ro, none⟩ := hra.elim (fun h => by omega) (fun ⟨b, o, h⟩ => ⟨b, o, h⟩); refine zAd (zA4 (zAp (zA4 (zA2 (Qa (zAy uz86 sz148 rfl rfl rfl (by omega) rfl) (Qa (zDa (cs := [.string ch.name, .string ch.gone, PP]) zG3 sz148 rfl (hs.rowAt 3 rfl (q := x) (by rw [List.getElem?_map, hch, Option.map_some, hrow]))) ?_)))))); refine zBj hs rfl ze148 ?_; clear hs; intro b5 w hs
   try simp only [zzs, zzz] at hs
   refine zAr (vs := [.string ch.name, .string ch.gone, PP]) hs 0 rfl rfl rfl sz148 rfl (by simp only [List.all_cons, List.all_nil, hPP]; rfl) ?_; clear hs; intro w hs; simp only [zzs, zzz] at hs; refine zA6 (zAq zBk (hs.drop 3) ?_); intro w tr hK; replace hs := tr _ hs; clear tr; refine Q0 0 rfl rfl hK (Q7 1 rfl rfl hK (Q6 2 rfl (o' := 2) zG1 rfl sz85 rfl rfl rfl hK (Qd 3 rfl uz85 rfl (fun w hs => hs.cellAt 1 rfl rfl) hK (Qb 4 rfl (fun w hs => zBd hs 0 rfl zG3 sz148 rfl) hK (zAc [5] ?_)))))
   refine ⟨⟨_, rfl, ?_⟩, trivial⟩; refine Qg en69 (dapply_sl (l := zC2 d.kept (d.changes.take x)) (hs.arr [3, 0, 1, 2, 4, 5] 6 (by decide)) ch hpc hrow) ?_; clear hs; rintro _ w ⟨rfl, hs⟩; clear hK; have hK := hs.tail; refine zA6 ⟨hK, ?_⟩; refine zAs (by kernel_rfl) ?_; clear hK; refine zA2 (Jo rfl rfl rfl (inI (by omega) (by omega)) (J0 rfl (zA6 ?_))); exact ⟨x + 1, by omega, ⟨by omega, by rw [applyAll_take hch]; exact hs.arr [2, 3, 0, 4, 5] 6 (by decide)⟩, ⟨rfl, trivial⟩, by repeat (first | exact Out.mix _ _ _ | refine Out.updo rfl ?_ | refine Out.upd rfl ?_ | refine Out.mixIn rfl ?_)⟩
  ·
   intro h25; have g25 := of_decide_eq_false h25
   obtain rfl : x = q := by omega
   rw [← hkept] at hs; refine zBm rfl (zA4 (zA2 (Jb rfl (zA6 (zA4 (zA4 (zA2 (J1 rfl (Jx rfl (Jp (o' := 2) zG1 rfl sz85 rfl rfl rfl (Qc uz85 rfl hs 0 rfl rfl (lw_rangeM hs rfl 2 rfl uz85 rfl ?_)))))))))))); clear hs; intro r39 w hs
   try simp only [zzs, zzz] at hs
   refine zA6 (zAp ?_)
   refine zBs (X := List Nat × List (ByteArray × Nat) × Option (ByteArray × Value) × Option Addr × Nat) [6, 8, 40, 41, 42, 43, 44, 45, 46, 47, 48, 49, 50, 51] (fun x => [(6, .slice x.2.2.2.1 x.1.length x.2.2.2.2)]) (fun x w => x.1.Nodup ∧ (∀ y ∈ kept, y ∈ x.2.1 ∨ y.2 ∈ x.1) ∧ (∀ i ∈ x.1, ∃ y ∈ kept, y.2 = i) ∧ (∀ y ∈ x.2.1, y ∈ kept) ∧ Mem g w (own (.slice x.2.2.2.1 x.1.length x.2.2.2.2) (x.1.map (fptr ptr)) :: cells p (diskL mn mk d sa sc) 88 :: mapS mn (nmV ptr d.names) :: rngC Value.string r39 mk (nmV ptr kept) (nmV ptr x.2.1) x.2.2.1 :: zE0 3 (.slice sa d.changes.length sc) (d.changes.map (chgV ptr)) :: famC fiC ptr d.fs :: L)) (fun x => x.2.1.length) (([], kept, none, none, 0)) ?_ ?_ ?_
   · exact ⟨rfl, trivial⟩
   · exact ⟨List.nodup_nil, fun y hy => .inl hy, fun i hi => by simp at hi, fun y hy => hy, hs.addE (zDn _)⟩
   clear hs; rintro x ξ w hI; obtain ⟨ids, lo, cur, la, lc⟩ := x; obtain ⟨hnd, hall, hfrom, hlo, hs⟩ := hI; simp only at hnd hall hfrom hlo hs
   have hik : ∀ i ∈ ids, i ∈ zAm d.fs := fun i hi => by obtain ⟨y, hy, rfl⟩ := hfrom i hi; exact hprops.2.1 y hy
   have hil := ho.ids_len hnd hik
   show cw _ _ _ _ _ _ (updL (mix _ ξ _) [(6, .slice la ids.length lc)]) w
   refine zA4 (zA2 (lw_nextM hs rfl 3 rfl zEf.inj rfl ?_ ?_))
   ·
    intro hl40; obtain rfl := nmV_nil hl40; replace hs := hs.rngd 3 rfl
    have hmem : ∀ i, i ∈ ids ↔ i ∈ kept.map (·.2) := fun i => ⟨fun h => by obtain ⟨y, hy, rfl⟩ := hfrom i h; exact List.mem_map_of_mem hy, fun h => by obtain ⟨y, hy, rfl⟩ := List.mem_map.1 h; exact (hall y hy).elim (fun h => by simp at h) id⟩
    refine Ju (v := .bool _) rfl rfl (zA6 (zA4 (zAz rfl rfl (zBm rfl (zA4 (zA2 (J7 rfl (Qg en71 (sortf_sl ho.tookB (hs.arr [0, 5, 1, 2, 3, 4] 6 (by decide)) hik (by omega) (by omega)) ?_)))))))); clear hs; rintro _ w ⟨rfl, ids', hperm, hrise, hs⟩; have hids := ids_eq ho.tookB hprops.2.1 hperm hrise hnd hmem; have hnd' : ids'.Nodup := hperm.symm.nodup hnd
    have hik' : ∀ i ∈ ids', i ∈ zAm d.fs := fun i hi => hik i (hperm.mem_iff.1 hi)
    have hlen' := hperm.length_eq; refine zA6 (zA4 (zA4 (zA2 (J7 rfl (Js uz150 rfl (J0 rfl (zA6 (zAp ?_))))))))
    refine zBs (X := Nat) [9, 10, 56, 57, 58, 59, 60, 61, 62, 63, 64, 65, 66, 67, 68, 69, 70, 71, 72, 73, 74, 75, 76, 77, 78, 79, 80, 81, 82, 83, 84, 85, 86, 87, 88, 89, 90, 91, 92, 93, 94, 95, 96, 97] (fun k => [(56, .int .i64 (k : Nat))]) (fun k w => k ≤ ids'.length ∧ Mem g w (own (.slice la ids.length lc) (ids'.map (fptr ptr)) :: famC fiC ptr (zD0 picks 0 (ids'.take k) d.fs) :: cells p (diskL mn mk d sa sc) 88 :: mapS mn (nmV ptr d.names) :: mapS mk (nmV ptr kept) :: zE0 3 (.slice sa d.changes.length sc) (d.changes.map (chgV ptr)) :: L)) (fun k => ids'.length - k) (0) ?_ ?_ ?_
    · exact ⟨rfl, trivial⟩
    · exact ⟨Nat.zero_le _, hs⟩
    clear hs; rintro x ξ w hI; obtain ⟨hk3, hs⟩ := hI; refine zA4 (zA2 (Jn rfl rfl (zA6 (zA4 (zB2 rfl ?_ ?_)))))
    ·
     intro h57; have g57 := of_decide_eq_true h57; obtain ⟨i, hi⟩ : ∃ i, ids'[x]? = some i := ⟨_, List.getElem?_eq_getElem (by omega)⟩; obtain ⟨b, hb, hp, hf⟩ := hptr i (hik' i (List.mem_of_getElem? hi)); have hfl := hfid i _ hf; obtain ⟨lb, lo2, rfl, _⟩ := hs.ownCells 0 rfl (by rw [List.length_map]; omega)
     have hni : i ∉ ids'.take x := fun hm => by obtain ⟨j, hj, e⟩ := List.mem_iff_getElem.1 hm; simp only [List.length_take] at hj; rw [List.getElem_take] at e; have h1 := List.getElem?_eq_some_iff.1 hi; exact absurd ((List.getElem_inj hnd').1 (e.trans h1.2.symm)) (by omega)
     have hf2 : zAx (zD0 picks 0 (ids'.take x) d.fs) i = some (d.fl i) := by rw [zGx _ _ _ hni]; exact hf
     refine zAd (zA4 (zAp (zA4 (zA2 (J0 rfl (Qa (zB5 uz150 sz146 rfl rfl rfl (by omega) rfl) (Jq (v := .pointer (some ⟨b, 0, none⟩)) uz146 rfl rfl (hs.ownAt 0 rfl (by rw [List.getElem?_map, hi, Option.map_some, hp])) ?_))))))); refine J4 rfl (Jd rfl (zA6 (zA4 ?_))); replace hs := hs.famTake (R := fiC) 1 rfl hb hf2; obtain ⟨fa, fc, hs⟩ := hs.openF; have hfc2 := (hs.ownForm 1 rfl).2.1; have hpk := pickN_le picks (x + 1) ((d.fl i).b.length - (d.fl i).syn); refine zAq zBk hs.hold2 ?_; intro w tr hK
     replace hs := tr _ hs; clear tr; refine Q0 0 rfl rfl hK (Q0 1 rfl rfl hK (Q7 2 rfl rfl hK (Q6 3 rfl (o' := 1) zFt rfl sz22 rfl rfl rfl hK (Q0 5 rfl rfl hK (Q7 6 rfl rfl hK (Q6 7 rfl (o' := 2) zFt rfl sz3 rfl rfl rfl hK (Qd 8 rfl uz3 rfl (fun w hs => hs.holdAt 0 rfl) hK (Q3 9 rfl rfl hK ?_))))))))
     refine Q2 10 rfl rfl hK (Qb 11 rfl (fun w hs => zAo rfl rfl rfl (inI (by omega) (by omega))) hK (Q0 12 rfl rfl hK (Q7 13 rfl rfl hK (Q6 14 rfl (o' := 1) zFt rfl sz22 rfl rfl rfl hK (Q0 17 rfl rfl hK (Q7 18 rfl rfl hK (Q6 19 rfl (o' := 2) zFt rfl sz3 rfl rfl rfl hK (Qd 20 rfl uz3 rfl (fun w hs => hs.holdAt 0 rfl) hK (zAc [4, 15] ?_)))))))))
     refine ⟨⟨_, rfl, ?_⟩, ⟨_, rfl, ?_⟩, trivial⟩; refine Qc zC6 rfl hs 0 rfl rfl ?_; clear hK; have hK := hs.hold2; refine zA6 ⟨hK, ?_⟩; refine zAc [15] ⟨⟨_, rfl, ?_⟩, trivial⟩; refine Qc zC6 rfl hs 0 rfl rfl ?_; clear hK; have hK := hs.hold2; refine zA6 ⟨hK, ?_⟩; refine Qb 16 rfl (fun w hs => zAu zC6 rfl) hK (Qb 21 rfl (fun w hs => zCx rfl rfl (c := (((d.fl i).b.length - (d.fl i).syn : Nat) : Int)) (by omega) (inI (by omega) (by omega))) hK (zAc [22] ⟨⟨_, rfl, ?_⟩, trivial⟩))
     refine Qg en68 (picked_sl hs ((((((((hr.cons).cons).cons).cons).cons).cons).cons).cons) hm (x + 1) ((d.fl i).b.length - (d.fl i).syn) (by omega)) ?_; clear hs; rintro _ w ⟨rfl, hs⟩; clear hK; have hK := hs.hold2; refine zA6 ⟨hK, ?_⟩; refine Qb 23 rfl (fun w hs => zAo rfl rfl (c := (((d.fl i).syn + zEc picks (x + 1) ((d.fl i).b.length - (d.fl i).syn) : Nat) : Int)) (by omega) (inI (by omega) (by omega))) hK ?_
     rotate_left
     refine Qc zC6 rfl hs 0 rfl rfl ?_; clear hK; have hK := hs.hold2; refine zA6 ⟨hK, ?_⟩; refine Qb 16 rfl (fun w hs => zAu zC6 rfl) hK (Qb 21 rfl (fun w hs => zCx rfl rfl (c := (((d.fl i).b.length - (d.fl i).syn : Nat) : Int)) (by omega) (inI (by omega) (by omega))) hK (zAc [4, 22] ⟨⟨_, rfl, ?_⟩, ⟨_, rfl, ?_⟩, trivial⟩)); refine Qc zC6 rfl hs 0 rfl rfl ?_; clear hK; have hK := hs.hold2; refine zA6 ⟨hK, ?_⟩; refine zAc [22] ⟨⟨_, rfl, ?_⟩, trivial⟩
     refine Qg en68 (picked_sl hs ((((((((hr.cons).cons).cons).cons).cons).cons).cons).cons) hm (x + 1) ((d.fl i).b.length - (d.fl i).syn) (by omega)) ?_; clear hs; rintro _ w ⟨rfl, hs⟩; clear hK; have hK := hs.hold2; refine zA6 ⟨hK, ?_⟩; refine Qb 23 rfl (fun w hs => zAo rfl rfl (c := (((d.fl i).syn + zEc picks (x + 1) ((d.fl i).b.length - (d.fl i).syn) : Nat) : Int)) (by omega) (inI (by omega) (by omega))) hK ?_
     rotate_left
     refine Qg en68 (picked_sl hs ((((((((hr.cons).cons).cons).cons).cons).cons).cons).cons) hm (x + 1) ((d.fl i).b.length - (d.fl i).syn) (by omega)) ?_; clear hs; rintro _ w ⟨rfl, hs⟩; clear hK; have hK := hs.hold2; refine zA6 ⟨hK, ?_⟩; refine Qb 23 rfl (fun w hs => zAo rfl rfl (c := (((d.fl i).syn + zEc picks (x + 1) ((d.fl i).b.length - (d.fl i).syn) : Nat) : Int)) (by omega) (inI (by omega) (by omega))) hK (zAc [4] ⟨⟨_, rfl, ?_⟩, trivial⟩); refine Qc zC6 rfl hs 0 rfl rfl ?_; clear hK; have hK := hs.hold2; refine zA6 ⟨hK, ?_⟩
     rotate_left
     all_goals
      refine Qb 24 rfl (fun w hs => zFw zC6 sz5 rfl rfl (hi := (d.fl i).syn + zEc picks (x + 1) ((d.fl i).b.length - (d.fl i).syn)) rfl (by omega)) hK (zAc [25] ⟨⟨_, rfl, ?_⟩, trivial⟩); refine Qg en49 (zCt hs (l := ((d.fl i).b.take ((d.fl i).syn + zEc picks (x + 1) ((d.fl i).b.length - (d.fl i).syn))).drop 0) ((hs.rdOwn 1 rfl).subB (by omega) (by omega)) (by simp; omega)) ?_; clear hs; rintro _ w ⟨a86, c86, rfl, hs⟩; clear hK; have hK := hs.tail.hold2; refine zA6 ⟨hK, ?_⟩; refine Q7 26 rfl rfl hK (Q6 27 rfl (o' := 1) zFt rfl sz22 rfl rfl rfl hK (zAc [28] ⟨⟨_, rfl, ?_⟩, trivial⟩))
      refine zB0 (v := .slice _ _ _) hs 1 rfl sz22 rfl rfl rfl rfl ?_; clear hs; intro w hs
      try simp only [zzs, zzz] at hs
      clear hK; have hK := hs.tail.hold2; refine zA6 ⟨hK, ?_⟩; refine zAs (by kernel_rfl) ?_; clear hK; refine zA2 (J1 rfl (J1 rfl (Jx rfl (Jp (o' := 1) zFt rfl sz22 rfl rfl rfl (Qc zC6 rfl hs 1 rfl rfl (Js zC6 rfl (Jx rfl (Jp (o' := 2) zFt rfl sz3 rfl rfl rfl (zB0 (v := .int .i64 _) hs 1 rfl sz3 rfl rfl rfl rfl ?_))))))))); clear hs; intro w hs
      try simp only [zzs, zzz] at hs
      refine zA6 (zA2 (Jo rfl rfl rfl (inI (by omega) (by omega)) (J0 rfl (zA6 ?_)))); rw [zAw] at hs; have h1 := Mem.closeF2 (f := (d.fl i).crashed picks x) (L := own (.slice (some ⟨lb, lo2, none⟩) ids.length lc) (ids'.map (fptr ptr)) :: famX fiC (· = i) ptr (zD0 picks 0 (ids'.take x) d.fs) :: cells p (diskL mn mk d sa sc) 88 :: mapS mn (nmV ptr d.names) :: mapS mk (nmV ptr kept) :: zE0 3 (.slice sa d.changes.length sc) (d.changes.map (chgV ptr)) :: L) rfl rfl rfl rfl (hs.arr [1, 0, 3, 4, 5, 6, 7, 8] 9 (by decide)); have h2 := Mem.famPut (R := fiC) (k := i) h1 1 rfl (fun _ h => h); rw [zDm hb] at h2
      refine ⟨x + 1, by omega, ⟨by omega, ?_⟩, ⟨rfl, trivial⟩, by repeat (first | exact Out.mix _ _ _ | refine Out.updo rfl ?_ | refine Out.upd rfl ?_ | refine Out.mixIn rfl ?_)⟩
      have e3 : zD0 picks 0 (ids'.take (x + 1)) d.fs = zC1 (zD0 picks 0 (ids'.take x) d.fs) i ((d.fl i).crashed picks x) := by rw [List.take_add_one, hi, Option.toList_some, crashFs_snoc]; simp only [crashStep, hf2, Nat.zero_add, List.length_take]; rw [Nat.min_eq_left (by omega)]
      rw [e3]; exact h2
    ·
     intro h57; have g57 := of_decide_eq_false h57
     obtain rfl : x = ids'.length := by omega
     rw [List.take_of_length_le (Nat.le_refl _), hids] at hs; refine zBm rfl (zA4 (zA2 (J1 rfl (J1 rfl (J1 rfl (Jx rfl (Jp (o' := 2) zG1 rfl sz85 rfl rfl rfl (Qc uz85 rfl hs 2 rfl rfl (Qg en73 (mclone_sl hs 4 rfl) ?_))))))))); clear hs; rintro _ w ⟨m104, rfl, hs⟩; refine Jx rfl (Jp (o' := 1) zG1 rfl sz85 rfl rfl rfl (zB0 (v := .map _) hs 3 rfl sz85 rfl rfl rfl rfl ?_)); clear hs; intro w hs
     try simp only [zzs, zzz] at hs
     refine Jx rfl (Jp (o' := 3) zG1 rfl sz86 rfl rfl rfl (zB0 (v := .slice _ _ _) hs 3 rfl sz86 rfl rfl rfl rfl ?_)); clear hs; intro w hs
     try simp only [zzs, zzz] at hs
     refine zA6 (zA2 (J1 rfl (J1 rfl (Jx rfl (Jp (o' := 5) zG1 rfl sz3 rfl rfl rfl (zB0 (v := .int .i64 _) hs 3 rfl sz3 rfl rfl rfl rfl ?_)))))); clear hs; intro w hs
     try simp only [zzs, zzz] at hs
     refine Jx rfl (Jp (o' := 6) zG1 rfl sz4 rfl rfl rfl (zB0 (v := .bool _) hs 3 rfl sz4 rfl rfl rfl rfl ?_)); clear hs; intro w hs
     try simp only [zzs, zzz] at hs
     refine zA6 (res0  rfl ?_)
     have e : d.crash picks = { d with kept := kept, names := kept, changes := [], armed := 0, down := false, fs := zD0 picks 0 (zFf d.fs kept) d.fs } := by simp only [Dk.crash, ← hq, ← hkept]
     have hok := ho.crash picks; rw [e] at hok ⊢; exact ⟨_, rfl, rfl, Mem.closeD (mn := m104) (mk := mk) (sa := none) (sc := 0) (ptr := ptr) hok ((hs.addE (rows_nil _)).arr [4, 1, 6, 0, 3] 8 (by decide))⟩
   ·
    clear hs; intro k40 v40 w hk40 hs
    try simp only [zzs, zzz] at hs
    have hk2 := hk40; rw [nmV_get] at hk2; obtain ⟨i, hi, rfl⟩ := Option.map_eq_some_iff.1 hk2; have hiy := hlo _ (zCy hi); have hiks : i ∈ zAm d.fs := hprops.2.1 _ hiy; obtain ⟨b, hb, hp, hf⟩ := hptr i hiks; rw [hp] at hs ⊢; rw [← nmV_del] at hs; refine Ju (v := .bool _) rfl rfl (zA6 (zA4 (zBc rfl rfl (zAd (zAp (zA4 (zA2 (Qa (run_entryM hs 3 rfl rfl) (Ju (v := .pointer (some _)) rfl rfl (Jd rfl (zA6 (zA4 (zA2 ?_))))))))))))); refine J7 rfl (J1 rfl ?_)
    refine Qg en70 (contains_sl ho.tookB hs 5 rfl (hs.rdOwn 0 rfl) rfl (by omega) hik hiks hb) ?_; clear hs; rintro _ w ⟨rfl, hs⟩; refine Jr rfl (zA6 (zB2 rfl ?_ ?_))
    ·
     intro h46; replace h46 := zFc h46; refine zA2 (J7 rfl (J1 rfl (zB4 hs rfl ([.pointer (some ⟨b, 0, none⟩)]) uz150 zs146 rfl (by simp [Value.cells]) rfl rfl rfl ?_))); clear hs; intro b50 w hs
     try simp only [zzs, zzz] at hs
     refine zD3 hs rfl 1 rfl uz150 in146 rfl rfl rfl (zCr (P := Tryz.prog) uz150 ((Rd.cells (n := 1) (cs := [.pointer (some ⟨b, 0, none⟩)]) 0 rfl rfl).seq hs) (fun u hu => by simp at hu; subst hu; rfl)) (by simp only [List.length_map, List.length_cons, List.length_nil]; omega) (by simp only [List.length_map, List.length_cons, List.length_nil]; omega) ?_; clear hs; intro a51 c51 w hs; simp only [zzs, zzz] at hs; refine Jb rfl (zA6 ?_); have hm := of_decide_eq_false h46
     have e1 : ids.map (fptr ptr) ++ [.pointer (some ⟨b, 0, none⟩)] = (ids ++ [i]).map (fptr ptr) := by simp [hp]
     have e2 : (ids.map (fptr ptr)).length + [Value.pointer (some ⟨b, 0, none⟩)].length = (ids ++ [i]).length := by simp
     rw [e1, e2] at hs; refine ⟨(ids ++ [i], zDe lo k40, some (k40, .pointer (some ⟨b, 0, none⟩)), a51, c51), zGr hi, ⟨?_, fun y hy => ?_, fun j hj => ?_, fun y hy => hlo y (adel_in hy), hs.tail⟩, ⟨by rw [← e2]; rfl, trivial⟩, by repeat (first | exact Out.mix _ _ _ | refine Out.updo rfl ?_ | refine Out.upd rfl ?_ | refine Out.mixIn rfl ?_)⟩
     · rw [List.nodup_append]; exact ⟨hnd, by simp, fun x hx y hy e => by simp at hy; subst hy; subst e; exact hm hx⟩
     · exact (hall y hy).elim (fun h => (adel_has hi h).imp id fun e => (by rw [e]; simp)) (fun h => .inr (List.mem_append_left _ h))
     · exact (List.mem_append.1 hj).elim (hfrom j) (fun h => by simp at h; subst h; exact ⟨_, hiy, rfl⟩)
    ·
     intro h46; replace h46 := zEr h46; refine zAd ?_; have hm := of_decide_eq_true h46; exact ⟨(ids, zDe lo k40, some (k40, .pointer (some ⟨b, 0, none⟩)), la, lc), zGr hi, ⟨hnd, fun y hy => (hall y hy).elim (fun h => (adel_has hi h).imp id fun e => (by rw [e]; exact hm)) .inr, hfrom, fun y hy => hlo y (adel_in hy), hs⟩, ⟨rfl, trivial⟩, by repeat (first | exact Out.mix _ _ _ | refine Out.updo rfl ?_ | refine Out.upd rfl ?_ | refine Out.mixIn rfl ?_)⟩
end
section
open Go.RowKit
attribute [local irreducible] zAk
variable {g w : World} {L M : List HP} {ad : Nat → Addr} {p : Nat} {d : Dk}
theorem isA_sl (hE : ErrA ad g) (hs : Mem g w L) {d : Nat} (hd : d = 0 ∨ d ∈ allCodes) (c : Int) : Calls Tryz.prog 34 #[zAk ad d, .int .i64 c] w (Ret fun v w' => v = .bool (decide ((d : Int) = c)) ∧ Mem g w' L) := by
  have := hs.calls (is_any (hE.atW hs) hs.size hd c); rw [int_beq] at this; exact this
abbrev nm1 (c : UInt8) : ByteArray := ⟨#[c]⟩
abbrev fD (kept : List (ByteArray × Nat)) (ch : List Chg) (calls : Nat) (b : List UInt8) (s : Nat) : Dk := ⟨100, [(nm1 97, 1)], kept, ch, 1, 0, false, calls, [(1, ⟨1, b, s⟩)]⟩
end
section
open Go.RowKit
attribute [local irreducible] zAk
variable {g w : World} {L M : List HP} {ad : Nat → Addr} {p : Nat} {d : Dk}
theorem Dk.readR_at {n : ByteArray} {i o m : Nat} {F : Fl} (h1 : d.down = false) (hn : zAx d.names n = some i) (hf : zAx d.fs i = some F) (hl : o + m ≤ F.b.length) : d.readR n o m = (0, (F.b.take (o + m)).drop o) := by
  have e : d.fl i = F := by simp [Dk.fl, hf]
  simp only [Dk.readR, Dk.file, h1, hn, Bool.false_eq_true, if_false, e]; rw [if_neg (by omega)]
  simp
abbrev kD (names kept : List (ByteArray × Nat)) (ch : List Chg) (files calls : Nat) (fs : List (Nat × Fl)) : Dk := ⟨2000, names, kept, ch, files, 0, false, calls, fs⟩
abbrev chG : Chg := ⟨nm1 103, ByteArray.empty, some 2⟩
end
section
open Go.RowKit
attribute [local irreducible] zAk
variable {g w : World} {L M : List HP} {ad : Nat → Addr} {p : Nat} {d : Dk}
abbrev oneD (room : Nat) (n : ByteArray) (kept : List (ByteArray × Nat)) (ch : List Chg) (calls : Nat) (b : List UInt8) (s : Nat) : Dk := ⟨room, [(n, 1)], kept, ch, 1, 0, false, calls, [(1, ⟨1, b, s⟩)]⟩
end
section
open Go.RowKit
attribute [local irreducible] zAk
variable {g w : World} {L M : List HP} {ad : Nat → Addr} {p : Nat} {d : Dk}
theorem Dk.begin_down (h : d.down = true) : d.begin = (110, d) := by simp [Dk.begin, h]
theorem Dk.find_down (h : d.down = true) (n : ByteArray) : d.find n = (110, none, d) := by simp [Dk.find, Dk.begin_down h]
theorem Dk.cut_down (h : d.down = true) (n : ByteArray) (z : Int) : d.cut n z = (110, d) := by simp only [Dk.cut, Dk.find_down h]
abbrev dnD (lb : List UInt8) : Dk := ⟨500, [(nm1 97, 1)], [(nm1 97, 1)], [], 1, 0, true, 4, [(1, ⟨1, lb, lb.length⟩)]⟩
end
section
open Go.RowKit
attribute [local irreducible] zAk
variable {g w : World} {L M : List HP} {ad : Nat → Addr} {p : Nat} {d : Dk}
def nmI (i : Nat) : ByteArray := nm1 (UInt8.ofNat (97 + i))
theorem nmI_valid : ∀ i < 20, zBy (nmI i).data.toList = true := by decide +kernel
theorem nmI_inj {i j : Nat} (hi : i < 20) (hj : j < 20) (h : nmI i = nmI j) : i = j := by
  simp only [nmI, nm1, ByteArray.mk.injEq, Array.mk.injEq, List.cons.injEq, and_true] at h; have := congrArg UInt8.toNat h; rw [UInt8.toNat_ofNat', UInt8.toNat_ofNat'] at this
  omega
theorem zC {κ α : Type} [DecidableEq κ] {l : List (κ × α)} {k : κ} {v : α} (h : k ∉ zAm l) : zAx (l ++ [(k, v)]) k = some v := by rw [← aput_end h, zB7]
theorem zE5 {κ α : Type} [DecidableEq κ] {l : List (κ × α)} {k j : κ} {v : α} (h : k ∉ zAm l) (hj : j ≠ k) : zAx (l ++ [(k, v)]) j = zAx l j := by rw [← aput_end h, zB1 _ _ hj]
theorem adel_app_new {κ α : Type} [DecidableEq κ] : ∀ {l : List (κ × α)} {k : κ} {v : α}, k ∉ zAm l → zDe (l ++ [(k, v)]) k = l
  | [], k, v, _ => by simp [zDe]
  | (a, b) :: l, k, v, h => by
    simp only [zAm, List.map_cons, List.mem_cons, not_or] at h; simp only [List.cons_append, zDe]; rw [if_neg (fun e => h.1 e.symm), adel_app_new h.2]
theorem aput_app_new {κ α : Type} [DecidableEq κ] {l : List (κ × α)} {k : κ} {v v' : α} (h : k ∉ zAm l) : zC1 (l ++ [(k, v)]) k v' = l ++ [(k, v')] := by
  induction l with
  | nil => simp [zC1]
  | cons x l ih =>
    obtain ⟨a, b⟩ := x; simp only [zAm, List.map_cons, List.mem_cons, not_or] at h; simp only [List.cons_append, zC1]; rw [if_neg (fun e => h.1 e.symm), ih h.2]
def useL (fs : List (Nat × Fl)) (l : List (ByteArray × Nat)) : Nat := (l.map fun x => ((zAx fs x.2).map (·.b.length)).getD 0).sum
theorem useL_snoc {fs : List (Nat × Fl)} {l : List (ByteArray × Nat)} {k : Nat} {F : Fl} (n : ByteArray) (hk : k ∉ zAm fs) (hl : ∀ x ∈ l, x.2 ∈ zAm fs) : useL (fs ++ [(k, F)]) (l ++ [(n, k)]) = useL fs l + F.b.length := by
  simp only [useL, List.map_append, List.sum_append, List.map_cons, List.map_nil, zC hk]
  congr 1
  · congr 1
    exact List.map_congr_left fun x hx => by rw [zE5 hk (fun e => hk (e ▸ hl x hx))]
structure RoomI (room i u : Nat) (d : Dk) : Prop where
  ok : d.ok
  up : d.down = false
  arm : d.armed = 0
  rm : d.room = room
  files : d.files = i
  calls : d.calls ≤ 3 * i
  names : ∀ x ∈ d.names, ∃ j, j < i ∧ x.1 = nmI j
  used : u = d.used
  fits : u ≤ room
theorem RoomI.fresh {room i u : Nat} (h : RoomI room i u d) (hi : i < 20) : nmI i ∉ zAm d.names := fun hm => by
  obtain ⟨x, hx, e⟩ := List.mem_map.1 hm; obtain ⟨j, hj, e2⟩ := h.names x hx; have := nmI_inj (by omega) hi (e2.symm.trans e)
  omega
def roomD (d : Dk) (i : Nat) (b : List UInt8) (c : Nat) : Dk := ⟨d.room, d.names ++ [(nmI i, i + 1)], d.kept, d.changes ++ [⟨nmI i, ByteArray.empty, some (i + 1)⟩], i + 1, 0, false, d.calls + c, d.fs ++ [(i + 1, ⟨i + 1, b, 0⟩)]⟩
theorem RoomI.key {room i u : Nat} (h : RoomI room i u d) : i + 1 ∉ zAm d.fs := by have := h.ok.fresh; rw [h.files] at this; exact this
theorem RoomI.create {room i u : Nat} (h : RoomI room i u d) (hi : i < 20) : d.create (nmI i) = (0, roomD d i [] 1) := by
  rw [Dk.create_up h.up h.arm (nmI_valid i hi) ((zBe _ _).2 (h.fresh hi))]; simp only [Dk.change, Chg.app, roomD, h.files, h.up, h.arm, aput_end (h.fresh hi), if_true]
theorem RoomI.used_of {room i u : Nat} (h : RoomI room i u d) (b : List UInt8) (c : Nat) : (roomD d i b c).used = u + b.length := by
  show useL (d.fs ++ [(i + 1, ⟨i + 1, b, 0⟩)]) (d.names ++ [(nmI i, i + 1)]) = _
  rw [useL_snoc _ h.key h.ok.nin, h.used]
  rfl
theorem RoomI.named {room i u : Nat} (h : RoomI room i u d) (hi : i < 20) (b : List UInt8) (c : Nat) : zAx (roomD d i b c).names (nmI i) = some (i + 1) := zC (h.fresh hi)
theorem RoomI.append {room i u : Nat} (h : RoomI room i u d) (hi : i < 20) (b : List UInt8) (hf : u + b.length ≤ room) : (roomD d i [] 1).append (nmI i) b = (0, roomD d i b 2) := by
  have hu := h.used_of [] 1; rw [Dk.append_up rfl rfl (h.named hi [] 1) (by rw [hu]; show _ ≤ d.room; rw [h.rm]; simpa using hf)]
  have hfl : (roomD d i [] 1).fl (i + 1) = ⟨i + 1, [], 0⟩ := by simp [Dk.fl, roomD, zC h.key]
  rw [hfl]; simp only [Dk.setF, roomD, aput_app_new h.key, List.nil_append]
theorem RoomI.lenR {room i u : Nat} (h : RoomI room i u d) (hi : i < 20) (b : List UInt8) (c : Nat) : (roomD d i b c).lenR (nmI i) = (0, b.length) := by
  have e : (roomD d i b c).file (nmI i) = (0, some (i + 1)) := by
    unfold Dk.file
    rw [h.named hi b c]
    rfl
  simp only [Dk.lenR, e]
  simp [Dk.fl, roomD, zC h.key]
def roomR (d : Dk) (i : Nat) (b : List UInt8) (c : Nat) : Dk := ⟨d.room, d.names, d.kept, d.changes ++ [⟨nmI i, ByteArray.empty, some (i + 1)⟩] ++ [⟨ByteArray.empty, nmI i, none⟩], i + 1, 0, false, d.calls + c + 1, d.fs ++ [(i + 1, ⟨i + 1, b, 0⟩)]⟩
theorem RoomI.remove {room i u : Nat} (h : RoomI room i u d) (hi : i < 20) (b : List UInt8) (c : Nat) : (roomD d i b c).remove (nmI i) = (0, roomR d i b c) := by
  rw [Dk.remove_up rfl rfl (h.named hi b c)]
  have hne : nmI i ≠ ByteArray.empty := fun e => absurd (congrArg (fun b : ByteArray => b.data.size) e) (by show ¬ 1 = 0; decide)
  simp only [Dk.change, Chg.app, roomD, roomR, if_neg hne, adel_app_new (h.fresh hi)]
theorem RoomI.next {room i u : Nat} (h : RoomI room i u d) {b : List UInt8} {c : Nat} (hc : c ≤ 2) (ho : (roomD d i b c).ok) (hf : u + b.length ≤ room) : RoomI room (i + 1) (u + b.length) (roomD d i b c) :=
  ⟨ho, rfl, rfl, h.rm, rfl, by have := h.calls; show d.calls + c ≤ _; omega, fun x hx => by
    rcases List.mem_append.1 hx with hx | hx
    · obtain ⟨j, hj, e⟩ := h.names x hx; exact ⟨j, by omega, e⟩
    · simp only [List.mem_cons, List.not_mem_nil, or_false] at hx; subst hx; exact ⟨i, by omega, rfl⟩, (h.used_of b c).symm, hf⟩
end
section
open Go.RowKit
variable {d : Dk} {s t : ByteArray} {b : List UInt8}
abbrev pw (d : Dk) (l : List (ByteArray × Nat)) (ch : List Chg) (n : Nat) (fs : List (Nat × Fl)) (a : Nat) (dn : Bool) (c : Nat) : Dk := ⟨d.room, l, d.kept, ch, n, a, dn, c, fs⟩
theorem pw_begin {l : List (ByteArray × Nat)} {ch : List Chg} {n : Nat} {fs : List (Nat × Fl)} {a c : Nat} : (pw d l ch n fs a false c).begin = if a = 1 then (110, pw d l ch n fs 0 true c) else (0, pw d l ch n fs (a - 1) false c) := by
  unfold Dk.begin
  by_cases h0 : a = 0
  · subst h0; rfl
  · by_cases h1 : a = 1
    · subst h1; rfl
    · simp [h0, h1]
theorem pw_find {l : List (ByteArray × Nat)} {ch : List Chg} {n : Nat} {fs : List (Nat × Fl)} {a c i : Nat} {m : ByteArray} (hm : zAx l m = some i) : (pw d l ch n fs a false c).find m = if a = 1 then (110, none, pw d l ch n fs 0 true c) else (0, some i, pw d l ch n fs (a - 1) false c) := by
  unfold Dk.find
  rw [pw_begin]
  by_cases h1 : a = 1
  · simp [h1]
  · simp [h1, Dk.file, hm]
theorem adel_none {κ α : Type} [DecidableEq κ] : ∀ {l : List (κ × α)} {k : κ}, zAx l k = none → zDe l k = l
  | [], _, _ => rfl
  | (a, b) :: l, k, h => by
    simp only [zAx] at h
    split at h
    · cases h
    · rename_i e
      simp only [zDe]; rw [if_neg e, adel_none h]
abbrev rmC (t : ByteArray) : Chg := ⟨ByteArray.empty, t, none⟩
abbrev crC (t : ByteArray) (j : Nat) : Chg := ⟨t, ByteArray.empty, some j⟩
abbrev rnC (s t : ByteArray) (j : Nat) : Chg := ⟨s, t, some j⟩
theorem newN_ne (s : ByteArray) : zCh s ≠ s := fun e => by
  have := congrArg (fun x : ByteArray => x.size) e; simp only [zCh, ByteArray.size_append] at this; have h4 : (⟨#[46, 110, 101, 119]⟩ : ByteArray).size = 4 := rfl
  omega
theorem newN_some (s : ByteArray) : zCh s ≠ ByteArray.empty := fun e => by
  have := congrArg (fun x : ByteArray => x.size) e; simp only [zCh, ByteArray.size_append] at this; have h4 : (⟨#[46, 110, 101, 119]⟩ : ByteArray).size = 4 := rfl; have h0 : ByteArray.empty.size = 0 := rfl
  omega
def wl (s : ByteArray) (d : Dk) : List (ByteArray × Nat) := zDe d.names (zCh s)
def wc (s : ByteArray) (d : Dk) : List Chg := d.changes ++ (if (zAx d.names (zCh s)).isSome then [rmC (zCh s)] else [])
structure UpD (d : Dk) : Prop where
  ok : d.ok
  up : d.down = false
structure Calm (d : Dk) : Prop extends UpD d where
  kept : d.names = d.kept
  still : d.changes = []
theorem UpD.fresh (h : UpD d) : zCh s ∉ zAm (wl s d) := by
  rw [wl, zF3 h.ok.nnd]
  simp
theorem UpD.key (h : UpD d) : d.files + 1 ∉ zAm d.fs := h.ok.fresh
theorem UpD.form (h : UpD d) : d = pw d d.names d.changes d.files d.fs d.armed false d.calls := by
  have h1 := h.up; obtain ⟨room, names, kept, changes, files, armed, down, calls, fs⟩ := d; simp only at h1; subst h1
  rfl
section
variable (h : UpD d) {a c : Nat}
include h
theorem UpD.st0 : (pw d d.names d.changes d.files d.fs a false c).wstep s b 0 = if (zAx d.names (zCh s)).isSome = true ∧ a = 1 then (110, pw d d.names d.changes d.files d.fs 0 true c) else (0, pw d (wl s d) (wc s d) d.files d.fs (if (zAx d.names (zCh s)).isSome then a - 1 else a) false (if (zAx d.names (zCh s)).isSome then c + 1 else c)) := by
  cases hn : zAx d.names (zCh s) with
  | none =>
    have h1 : (pw d d.names d.changes d.files d.fs a false c).lenR (zCh s) = (107, 0) := by simp [Dk.lenR, Dk.file, hn]
    simp only [Dk.wstep, h1, wl, wc, hn, adel_none hn]
    simp
  | some i =>
    obtain ⟨m, h1⟩ : ∃ m, (pw d d.names d.changes d.files d.fs a false c).lenR (zCh s) = (0, m) := ⟨_, by simp only [Dk.lenR, Dk.file, hn]; rfl⟩; simp only [Dk.wstep, h1, Dk.remove, pw_find hn]
    by_cases ha : a = 1
    · simp [ha]
    · simp [ha, wl, wc, hn, Dk.change, Chg.app, newN_some]
theorem UpD.st1 (hv : zBy (zCh s).data.toList = true) : (pw d (wl s d) (wc s d) d.files d.fs a false c).wstep s b 1 = if a = 1 then (110, pw d (wl s d) (wc s d) d.files d.fs 0 true c) else (0, pw d (wl s d ++ [(zCh s, d.files + 1)]) (wc s d ++ [crC (zCh s) (d.files + 1)]) (d.files + 1) (d.fs ++ [(d.files + 1, ⟨d.files + 1, [], 0⟩)]) (a - 1) false (c + 1)) := by
  have hf := (zBe _ _).2 (h.fresh (s := s)); simp only [Dk.wstep, Dk.create, pw_begin]
  by_cases ha : a = 1
  · simp [ha]
  · simp only [if_neg ha, hv, hf, Dk.change, Chg.app]
    simp
    exact aput_end h.fresh
theorem UpD.st2 (hr : useL d.fs (wl s d) + (b.length + 4) ≤ d.room) : (pw d (wl s d ++ [(zCh s, d.files + 1)]) (wc s d ++ [crC (zCh s) (d.files + 1)]) (d.files + 1) (d.fs ++ [(d.files + 1, ⟨d.files + 1, [], 0⟩)]) a false c).wstep s b 2 = if a = 1 then (110, pw d (wl s d ++ [(zCh s, d.files + 1)]) (wc s d ++ [crC (zCh s) (d.files + 1)]) (d.files + 1) (d.fs ++ [(d.files + 1, ⟨d.files + 1, [], 0⟩)]) 0 true c) else (0, pw d (wl s d ++ [(zCh s, d.files + 1)]) (wc s d ++ [crC (zCh s) (d.files + 1)]) (d.files + 1) (d.fs ++ [(d.files + 1, ⟨d.files + 1, zC0 b, 0⟩)]) (a - 1) false (c + 1)) := by
  have hf : zAx (wl s d ++ [(zCh s, d.files + 1)]) (zCh s) = some (d.files + 1) := zC h.fresh
  have hin : ∀ x ∈ wl s d, x.2 ∈ zAm d.fs := fun x hx => h.ok.nin x (adel_in hx)
  simp only [Dk.wstep, Dk.append, pw_find hf]
  by_cases ha : a = 1
  · simp [ha]
  · simp only [if_neg ha]
    have hu : ∀ a c, (pw d (wl s d ++ [(zCh s, d.files + 1)]) (wc s d ++ [crC (zCh s) (d.files + 1)]) (d.files + 1) (d.fs ++ [(d.files + 1, ⟨d.files + 1, [], 0⟩)]) a false c).used = useL d.fs (wl s d) := fun a c => (useL_snoc _ h.key hin).trans (by simp)
    rw [if_neg (by rw [hu, zCk]; show ¬ (d.room < _); omega)]
    have hfl : ∀ a c, (pw d (wl s d ++ [(zCh s, d.files + 1)]) (wc s d ++ [crC (zCh s) (d.files + 1)]) (d.files + 1) (d.fs ++ [(d.files + 1, ⟨d.files + 1, [], 0⟩)]) a false c).fl (d.files + 1) = ⟨d.files + 1, [], 0⟩ := fun a c => by simp [Dk.fl, zC h.key]
    rw [hfl]
    simp [Dk.setF, aput_app_new h.key]
theorem UpD.st3 : (pw d (wl s d ++ [(zCh s, d.files + 1)]) (wc s d ++ [crC (zCh s) (d.files + 1)]) (d.files + 1) (d.fs ++ [(d.files + 1, ⟨d.files + 1, zC0 b, 0⟩)]) a false c).wstep s b 3 = if a = 1 then (110, pw d (wl s d ++ [(zCh s, d.files + 1)]) (wc s d ++ [crC (zCh s) (d.files + 1)]) (d.files + 1) (d.fs ++ [(d.files + 1, ⟨d.files + 1, zC0 b, 0⟩)]) 0 true c) else (0, pw d (wl s d ++ [(zCh s, d.files + 1)]) (wc s d ++ [crC (zCh s) (d.files + 1)]) (d.files + 1) (d.fs ++ [(d.files + 1, ⟨d.files + 1, zC0 b, (zC0 b).length⟩)]) (a - 1) false (c + 1)) := by
  have hf : zAx (wl s d ++ [(zCh s, d.files + 1)]) (zCh s) = some (d.files + 1) := zC h.fresh; simp only [Dk.wstep, Dk.sync, pw_find hf]
  by_cases ha : a = 1
  · simp [ha]
  · simp only [if_neg ha]
    have hfl : ∀ a c, (pw d (wl s d ++ [(zCh s, d.files + 1)]) (wc s d ++ [crC (zCh s) (d.files + 1)]) (d.files + 1) (d.fs ++ [(d.files + 1, ⟨d.files + 1, zC0 b, 0⟩)]) a false c).fl (d.files + 1) = ⟨d.files + 1, zC0 b, 0⟩ := fun a c => by simp [Dk.fl, zC h.key]
    rw [hfl]
    simp [Dk.setF, aput_app_new h.key]
theorem UpD.st4 {fs : List (Nat × Fl)} (hv : zBy s.data.toList = true) : (pw d (wl s d ++ [(zCh s, d.files + 1)]) (wc s d ++ [crC (zCh s) (d.files + 1)]) (d.files + 1) fs a false c).wstep s b 4 = if a = 1 then (110, pw d (wl s d ++ [(zCh s, d.files + 1)]) (wc s d ++ [crC (zCh s) (d.files + 1)]) (d.files + 1) fs 0 true c) else (0, pw d (zC1 (wl s d) s (d.files + 1)) (wc s d ++ [crC (zCh s) (d.files + 1)] ++ [rnC s (zCh s) (d.files + 1)]) (d.files + 1) fs (a - 1) false (c + 1)) := by
  have hf : zAx (wl s d ++ [(zCh s, d.files + 1)]) (zCh s) = some (d.files + 1) := zC h.fresh; simp only [Dk.wstep, Dk.rename, pw_find hf]
  by_cases ha : a = 1
  · simp [ha]
  · simp only [if_neg ha]
    rw [if_neg (by simp [hv]), if_neg (newN_ne s)]; simp only [Dk.change, Chg.app, if_neg (newN_some s), adel_app_new h.fresh]
end
theorem pw_st5 {l : List (ByteArray × Nat)} {ch : List Chg} {n : Nat} {fs : List (Nat × Fl)} {a c : Nat} : (pw d l ch n fs a false c).wstep s b 5 = if a = 1 then (110, pw d l ch n fs 0 true c) else (0, ⟨d.room, l, l, [], n, a - 1, false, c + 1, fs⟩) := by
  simp only [Dk.wstep, Dk.syncDir, pw_begin]
  by_cases ha : a = 1
  · simp [ha]
  · simp [ha]
structure Mid (d : Dk) (s : ByteArray) (b : List UInt8) (e : Dk) : Prop where
  len : ∀ i F, zAx e.fs i = some F → zAx d.fs i = some F ∨ F.b.length ≤ b.length + 4
  room : e.room = d.room
  kept : e.kept = d.kept
  old : ∀ i F, zAx d.fs i = some F → zAx e.fs i = some F
  chs : ∀ c ∈ e.changes, c ∈ d.changes ∨ c = rmC (zCh s) ∨ c = crC (zCh s) (d.files + 1) ∨ c = rnC s (zCh s) (d.files + 1) ∧ zAx e.fs (d.files + 1) = some ⟨d.files + 1, zC0 b, (zC0 b).length⟩
structure Done (d : Dk) (s : ByteArray) (b : List UInt8) (e : Dk) : Prop where
  room : e.room = d.room
  up : e.down = false
  kept : e.names = e.kept
  still : e.changes = []
  names : e.names = zC1 (wl s d) s (d.files + 1)
  old : ∀ i F, zAx d.fs i = some F → zAx e.fs i = some F
  new : zAx e.fs (d.files + 1) = some ⟨d.files + 1, zC0 b, (zC0 b).length⟩
  arm : d.armed = 0 → e.armed = 0
  fs : e.fs = d.fs ++ [(d.files + 1, ⟨d.files + 1, zC0 b, (zC0 b).length⟩)]
theorem Dk.wrun_succ (f k : Nat) (d : Dk) : Dk.wrun s b (f + 1) k d = if (d.wstep s b k).1 = 0 then Dk.wrun s b f (k + 1) (d.wstep s b k).2 else d.wstep s b k := rfl
theorem zGi {f k : Nat} {e e1 e2 : Dk} {a : Nat} {p : Prop} [Decidable p] (hst : e.wstep s b k = if p then (110, e1) else (0, e2)) : Dk.wrun s b (f + 1) k e = if p then (110, e1) else Dk.wrun s b f (k + 1) e2 := by
  rw [Dk.wrun_succ, hst]
  by_cases hp : p
  · simp [hp]
  · simp [hp]
theorem UpD.write (h : UpD d) (hv : zBy s.data.toList = true) (hv2 : zBy (zCh s).data.toList = true) (hr : useL d.fs (wl s d) + (b.length + 4) ≤ d.room) :
    ∃ k e, d.write s b = (k, e) ∧ (k = 0 ∧ Done d s b e ∨ k = 110 ∧ e.down = true ∧ d.armed ≠ 0 ∧ Mid d s b e) := by
  have hw : d.write s b = Dk.wrun s b 6 0 (pw d d.names d.changes d.files d.fs d.armed false d.calls) := by
    unfold Dk.write
    rw [if_pos ⟨hv, hv2⟩, ← h.form]
  have hold : ∀ (F : Fl) i G, zAx d.fs i = some G → zAx (d.fs ++ [(d.files + 1, F)]) i = some G := fun F i G hG => by rw [zE5 h.key (fun e => h.key (e ▸ zEb hG)), hG]
  have hwc : ∀ x ∈ wc s d, x ∈ d.changes ∨ x = rmC (zCh s) := fun x hx => by
    unfold wc at hx
    rcases List.mem_append.1 hx with hx | hx
    · exact .inl hx
    · split at hx
      · exact .inr (by simpa using hx)
      · simp at hx
  have m0 : ∀ a dn c, Mid d s b (pw d d.names d.changes d.files d.fs a dn c) := fun a dn c => ⟨fun i F hF => .inl hF, rfl, rfl, fun i F hF => hF, fun c hc => .inl hc⟩
  have m1 : ∀ a dn c, Mid d s b (pw d (wl s d) (wc s d) d.files d.fs a dn c) := fun a dn c => ⟨fun i F hF => .inl hF, rfl, rfl, fun i F hF => hF, fun c hc => (hwc c hc).imp id .inl⟩
  have hlen : ∀ (F : Fl), F.b.length ≤ b.length + 4 → ∀ i G, zAx (d.fs ++ [(d.files + 1, F)]) i = some G → zAx d.fs i = some G ∨ G.b.length ≤ b.length + 4 := fun F hF i G hG => by
    by_cases e : i = d.files + 1
    · subst e; rw [zC h.key] at hG; cases hG; exact .inr hF
    · rw [zE5 h.key e] at hG; exact .inl hG
  have m2 : ∀ F, F.b.length ≤ b.length + 4 → ∀ a dn c, Mid d s b (pw d (wl s d ++ [(zCh s, d.files + 1)]) (wc s d ++ [crC (zCh s) (d.files + 1)]) (d.files + 1) (d.fs ++ [(d.files + 1, F)]) a dn c) := fun F hF a dn c => ⟨hlen F hF, rfl, rfl, hold F, fun c hc => by
    rcases List.mem_append.1 hc with hc | hc
    · exact (hwc c hc).imp id .inl
    · simp only [List.mem_cons, List.not_mem_nil, or_false] at hc; exact .inr (.inr (.inl hc))⟩
  have m5 : ∀ a dn c, Mid d s b (pw d (zC1 (wl s d) s (d.files + 1)) (wc s d ++ [crC (zCh s) (d.files + 1)] ++ [rnC s (zCh s) (d.files + 1)]) (d.files + 1) (d.fs ++ [(d.files + 1, ⟨d.files + 1, zC0 b, (zC0 b).length⟩)]) a dn c) := fun a dn c => ⟨hlen _ (by rw [zCk]; exact Nat.le_refl _), rfl, rfl, hold _, fun c hc => by
    rcases List.mem_append.1 hc with hc | hc
    · rcases List.mem_append.1 hc with hc | hc
      · exact (hwc c hc).imp id .inl
      · simp only [List.mem_cons, List.not_mem_nil, or_false] at hc; exact .inr (.inr (.inl hc))
    · simp only [List.mem_cons, List.not_mem_nil, or_false] at hc; exact .inr (.inr (.inr ⟨hc, zC h.key⟩))⟩
  rw [hw, zGi (a := 0) h.st0]
  by_cases p0 : (zAx d.names (zCh s)).isSome = true ∧ d.armed = 1
  · rw [if_pos p0]; exact ⟨_, _, rfl, .inr ⟨rfl, rfl, by omega, m0 _ _ _⟩⟩
  rw [if_neg p0]; obtain ⟨a1, h1⟩ : ∃ a1, (if (zAx d.names (zCh s)).isSome then d.armed - 1 else d.armed) = a1 := ⟨_, rfl⟩; obtain ⟨c1, g1⟩ : ∃ c1, (if (zAx d.names (zCh s)).isSome then d.calls + 1 else d.calls) = c1 := ⟨_, rfl⟩
  have ha1 : d.armed = 0 → a1 = 0 := fun e => by rw [← h1, e]; split <;> rfl
  rw [h1, g1, zGi (a := 0) (h.st1 hv2)]
  by_cases p1 : a1 = 1
  · rw [if_pos p1]; exact ⟨_, _, rfl, .inr ⟨rfl, rfl, fun e => by have := ha1 e; omega, m1 _ _ _⟩⟩
  rw [if_neg p1, zGi (a := 0) (h.st2 hr)]
  by_cases p2 : a1 - 1 = 1
  · rw [if_pos p2]; exact ⟨_, _, rfl, .inr ⟨rfl, rfl, fun e => by have := ha1 e; omega, m2 _ (by simp [zCk]) _ _ _⟩⟩
  rw [if_neg p2, zGi (a := 0) h.st3]
  by_cases p3 : a1 - 1 - 1 = 1
  · rw [if_pos p3]; exact ⟨_, _, rfl, .inr ⟨rfl, rfl, fun e => by have := ha1 e; omega, m2 _ (by simp [zCk]) _ _ _⟩⟩
  rw [if_neg p3, zGi (a := 0) (h.st4 hv)]
  by_cases p4 : a1 - 1 - 1 - 1 = 1
  · rw [if_pos p4]; exact ⟨_, _, rfl, .inr ⟨rfl, rfl, fun e => by have := ha1 e; omega, m2 _ (by simp [zCk]) _ _ _⟩⟩
  rw [if_neg p4, zGi (a := 0) pw_st5]
  by_cases p5 : a1 - 1 - 1 - 1 - 1 = 1
  · rw [if_pos p5]; exact ⟨_, _, rfl, .inr ⟨rfl, rfl, fun e => by have := ha1 e; omega, m5 _ _ _⟩⟩
  rw [if_neg p5]; exact ⟨_, _, rfl, .inl ⟨rfl, rfl, rfl, rfl, rfl, rfl, hold _, zC h.key, fun e => by have := ha1 e; show a1 - 1 - 1 - 1 - 1 - 1 = 0; omega, rfl⟩⟩
end
section
open Go.RowKit
variable {d e : Dk} {s : ByteArray} {b : List UInt8}
theorem Fl.crashed_whole {F : Fl} (h : F.syn = F.b.length) (picks : List Int) (k : Nat) : F.crashed picks k = F := by
  obtain ⟨i, b, q⟩ := F; simp only at h; subst h
  have h0 : zEc picks (k + 1) 0 = 0 := by have := pickN_le picks (k + 1) 0; omega
  simp [Fl.crashed, h0]
theorem zCv {picks : List Int} {i : Nat} {F : Fl} (hF : F.syn = F.b.length) : ∀ (l : List Nat) (k : Nat) (fs : List (Nat × Fl)), zAx fs i = some F → zAx (zD0 picks k l fs) i = some F
  | [], _, _, h => h
  | j :: l, k, fs, h => by
    refine zCv hF l (k + 1) _ ?_
    cases hj : zAx fs j with
    | none => exact h
    | some G =>
      by_cases e : i = j
      · subst e
        rw [h] at hj
        cases hj
        simp only [zB7, Fl.crashed_whole hF]
      · rw [← h]; exact zB1 _ _ e
theorem zFx {κ α : Type} [DecidableEq κ] {l : List (κ × α)} {k j : κ} (h : j ≠ k) : zAx (zDe l k) j = zAx l j := zCu l h
structure Near (l0 : List (ByteArray × Nat)) (s t : ByteArray) (S : Prop) (j : Nat) (l : List (ByteArray × Nat)) : Prop where
  nd : (zAm l).Nodup
  other : ∀ n, n ≠ s → n ≠ t → zAx l n = zAx l0 n
  at_s : zAx l s = zAx l0 s ∨ zAx l s = some j ∧ S
theorem Near.app {l0 l : List (ByteArray × Nat)} {t : ByteArray} {S : Prop} {j : Nat} {c : Chg} (h : Near l0 s t S j l) (hst : t ≠ s) (ht : t ≠ ByteArray.empty) (hc : c = rmC t ∨ c = crC t j ∨ c = rnC s t j ∧ S) : Near l0 s t S j (c.app l) := by
  rcases hc with rfl | rfl | ⟨rfl, hS⟩
  · refine ⟨Chg.app_nodup h.nd, fun n h1 h2 => ?_, ?_⟩
    · simp only [Chg.app, if_neg ht]; rw [zFx h2]; exact h.other n h1 h2
    · simp only [Chg.app, if_neg ht]; rw [zFx (Ne.symm hst)]; exact h.at_s
  · refine ⟨Chg.app_nodup h.nd, fun n h1 h2 => ?_, ?_⟩
    · simp only [Chg.app, if_true]; rw [zB1 _ _ h2]; exact h.other n h1 h2
    · simp only [Chg.app, if_true]; rw [zB1 _ _ (Ne.symm hst)]; exact h.at_s
  · refine ⟨Chg.app_nodup h.nd, fun n h1 h2 => ?_, .inr ⟨?_, hS⟩⟩
    · simp only [Chg.app, if_neg ht]; rw [zB1 _ _ h1, zFx h2]; exact h.other n h1 h2
    · simp only [Chg.app]; exact zB7 _ _ _
theorem Near.all {l0 : List (ByteArray × Nat)} {t : ByteArray} {S : Prop} {j : Nat} (hst : t ≠ s) (ht : t ≠ ByteArray.empty) : ∀ {cs : List Chg} {l : List (ByteArray × Nat)}, Near l0 s t S j l → (∀ c ∈ cs, c = rmC t ∨ c = crC t j ∨ c = rnC s t j ∧ S) → Near l0 s t S j (zC2 l cs)
  | [], _, h, _ => h
  | c :: cs, l, h, hc => show Near l0 s t S j (zC2 (c.app l) cs) from Near.all (cs := cs) (l := c.app l) hst ht (h.app hst ht (hc c (List.mem_cons_self ..))) fun c' h' => hc c' (List.mem_cons_of_mem _ h')
def Under (d : Dk) (n : ByteArray) : Option (List UInt8) → Prop
  | none => zAx d.names n = none
  | some v => ∃ i q, zAx d.names n = some i ∧ zAx d.fs i = some ⟨q, zC0 v, (zC0 v).length⟩
def zF9 (f : ByteArray → Option (List UInt8)) (s : ByteArray) (v : List UInt8) : ByteArray → Option (List UInt8) := fun n => if n = s then some v else f n
structure PtI (N : List ByteArray) (B : Nat) (f : ByteArray → Option (List UInt8)) (d : Dk) : Prop where
  calm : Calm d
  under : ∀ n ∈ N, Under d n (f n)
  keys : ∀ n ∈ zAm d.names, n ∈ N ∨ n ∈ N.map zCh
  len : ∀ i F, zAx d.fs i = some F → F.b.length ≤ B
theorem useL_le {fs : List (Nat × Fl)} {B : Nat} (h : ∀ i F, zAx fs i = some F → F.b.length ≤ B) : ∀ l : List (ByteArray × Nat), useL fs l ≤ l.length * B
  | [] => by simp [useL]
  | x :: l => by
    have ih := useL_le h l
    have h1 : ((zAx fs x.2).map (·.b.length)).getD 0 ≤ B := by
      cases hx : zAx fs x.2 with
      | none => exact Nat.zero_le _
      | some F => exact h _ F hx
    simp only [useL, List.map_cons, List.sum_cons, List.length_cons, Nat.succ_mul] at ih ⊢
    omega
theorem PtI.names_le {N : List ByteArray} {B : Nat} {f : ByteArray → Option (List UInt8)} (h : PtI N B f d) : d.names.length ≤ 2 * N.length := by
  have h1 : (zAm d.names).length ≤ (N ++ N.map zCh).length := h.calm.ok.nnd.length_le_of_subset fun n hn => List.mem_append.2 (h.keys n hn)
  simp [zAm] at h1
  omega
theorem PtI.room {N : List ByteArray} {B : Nat} {f : ByteArray → Option (List UInt8)} (h : PtI N B f d) (s : ByteArray) : useL d.fs (wl s d) ≤ 2 * N.length * B := by
  have h1 := useL_le h.len (wl s d); have h2 : (wl s d).length ≤ 2 * N.length := Nat.le_trans (adel_len _ _) h.names_le; exact Nat.le_trans h1 (Nat.mul_le_mul_right _ h2)
theorem Done.pt {N : List ByteArray} {B : Nat} {f : ByteArray → Option (List UInt8)} (h : PtI N B f d) (hs : s ∈ N) (hN : ∀ n ∈ N, zCh s ≠ n) (hb : b.length + 4 ≤ B) (he : e.ok) (m : Done d s b e) : PtI N B (zF9 f s b) e := by
  have hag : ∀ n, n ≠ s → n ≠ zCh s → zAx e.names n = zAx d.names n := fun n h1 h2 => by rw [m.names, zB1 _ _ h1, wl, zFx h2]
  refine ⟨⟨⟨he, m.up⟩, m.kept, m.still⟩, fun n hn => ?_, fun n hn => ?_, fun i F hF => ?_⟩
  · unfold zF9
    by_cases e1 : n = s
    · subst e1
      rw [if_pos rfl]; exact ⟨_, _, by rw [m.names, zB7], m.new⟩
    · rw [if_neg e1]
      have h1 := h.under n hn; have h2 := hag n e1 (Ne.symm (hN n hn))
      cases hf : f n with
      | none => rw [hf] at h1; exact h2.trans h1
      | some v => rw [hf] at h1; obtain ⟨i, q, k1, k2⟩ := h1; exact ⟨i, q, h2.trans k1, m.old i _ k2⟩
  · by_cases e1 : n = s
    · subst e1; exact .inl hs
    · by_cases e2 : n = zCh s
      · subst e2; exact .inr (List.mem_map_of_mem hs)
      · refine h.keys n ?_
        obtain ⟨v, hv⟩ := zC8 hn; rw [hag n e1 e2] at hv; exact zEb hv
  · rw [m.fs] at hF
    by_cases e1 : i = d.files + 1
    · subst e1; rw [zC h.calm.key] at hF; cases hF; show (zC0 b).length ≤ B; rw [zCk]; exact hb
    · rw [zE5 h.calm.key e1] at hF; exact h.len i F hF
theorem Mid.pt {N : List ByteArray} {B : Nat} {f : ByteArray → Option (List UInt8)} (h : PtI N B f d) (hs : s ∈ N) (hN : ∀ n ∈ N, zCh s ≠ n) (hb : b.length + 4 ≤ B) (he : e.ok) (m : Mid d s b e) (picks : List Int) : PtI N B f (e.crash picks) ∨ PtI N B (zF9 f s b) (e.crash picks) := by
  have hn0 : Near d.names s (zCh s) (zAx e.fs (d.files + 1) = some ⟨d.files + 1, zC0 b, (zC0 b).length⟩) (d.files + 1) e.kept := by
    rw [m.kept, ← h.calm.kept]; exact ⟨h.calm.ok.nnd, fun n _ _ => rfl, .inl rfl⟩
  have hn := hn0.all (newN_ne s) (newN_some s) (cs := e.changes.take (zEc picks 0 e.changes.length)) fun c hc => (m.chs c (List.mem_of_mem_take hc)).resolve_left (fun h1 => by rw [h.calm.still] at h1; simp at h1)
  have hok := he.crash picks; have hcalm : Calm (e.crash picks) := ⟨⟨hok, rfl⟩, rfl, rfl⟩
  have hkeys : ∀ n ∈ zAm (e.crash picks).names, n ∈ N ∨ n ∈ N.map zCh := fun n hk => by
    by_cases e1 : n = s
    · subst e1; exact .inl hs
    · by_cases e2 : n = zCh s
      · subst e2; exact .inr (List.mem_map_of_mem hs)
      · refine h.keys n ?_
        obtain ⟨v, hv⟩ := zC8 hk; have hv : zAx (zC2 e.kept (e.changes.take (zEc picks 0 e.changes.length))) n = some v := hv; rw [hn.other n e1 e2] at hv; exact zEb hv
  have hlen : ∀ i F, zAx (e.crash picks).fs i = some F → F.b.length ≤ B := fun i F hF => by
    have := zFb (P := fun i f => f.syn ≤ f.b.length ∧ f.b.length ≤ B) (fun i f picks k hf => by
      have h1 := Fl.crashed_fine hf.1 picks k
      exact ⟨h1.2.1, Nat.le_trans h1.2.2 hf.2⟩) (picks := picks) (zFf e.fs (zC2 e.kept (e.changes.take (zEc picks 0 e.changes.length)))) 0 e.fs (fun i f hf => ⟨(he.fid i f hf).2.1, by
        rcases m.len i f hf with h1 | h1
        · exact h.len i f h1
        · omega⟩) i F hF
    exact this.2
  have hold : ∀ n ∈ N, n ≠ s → Under (e.crash picks) n (f n) := fun n hnN hne => by
    have h1 := h.under n hnN; have h2 : zAx (e.crash picks).names n = zAx d.names n := hn.other n hne (Ne.symm (hN n hnN))
    cases hf : f n with
    | none => rw [hf] at h1; exact h2.trans h1
    | some v => rw [hf] at h1; obtain ⟨i, q, k1, k2⟩ := h1; exact ⟨i, q, h2.trans k1, zCv rfl _ _ _ (m.old i _ k2)⟩
  rcases hn.at_s with h1 | ⟨h1, h2⟩
  · refine .inl ⟨hcalm, fun n hnN => ?_, hkeys, hlen⟩
    by_cases e1 : n = s
    · subst e1
      have h3 := h.under n hnN; have h1 : zAx (e.crash picks).names n = zAx d.names n := h1
      cases hf : f n with
      | none => rw [hf] at h3; exact h1.trans h3
      | some v => rw [hf] at h3; obtain ⟨i, q, k1, k2⟩ := h3; exact ⟨i, q, h1.trans k1, zCv rfl _ _ _ (m.old i _ k2)⟩
    · exact hold n hnN e1
  · refine .inr ⟨hcalm, fun n hnN => ?_, hkeys, hlen⟩
    unfold zF9
    by_cases e1 : n = s
    · subst e1; rw [if_pos rfl]; exact ⟨_, _, h1, zCv rfl _ _ _ h2⟩
    · rw [if_neg e1]; exact hold n hnN e1
theorem PtI.crash {N : List ByteArray} {B : Nat} {f : ByteArray → Option (List UInt8)} (h : PtI N B f d) (picks : List Int) : PtI N B f (d.crash picks) := by
  have hnm : (d.crash picks).names = d.names := by
    show zC2 d.kept (d.changes.take _) = d.names
    rw [h.calm.still, List.take_nil, h.calm.kept]
    rfl
  refine ⟨⟨⟨h.calm.ok.crash picks, rfl⟩, rfl, rfl⟩, fun n hn => ?_, fun n hn => h.keys n (hnm ▸ hn), fun i F hF => ?_⟩
  · have h1 := h.under n hn
    cases hf : f n with
    | none => rw [hf] at h1; show zAx _ n = none; rw [hnm]; exact h1
    | some v => rw [hf] at h1; obtain ⟨i, q, k1, k2⟩ := h1; exact ⟨i, q, by rw [hnm]; exact k1, zCv rfl _ _ _ k2⟩
  · have := zFb (P := fun i f => f.syn ≤ f.b.length ∧ f.b.length ≤ B) (fun i f picks k hf => by
      have h1 := Fl.crashed_fine hf.1 picks k
      exact ⟨h1.2.1, Nat.le_trans h1.2.2 hf.2⟩) (picks := picks) (zFf d.fs (zC2 d.kept (d.changes.take (zEc picks 0 d.changes.length)))) 0 d.fs (fun i f hf => ⟨(h.calm.ok.fid i f hf).2.1, h.len i f hf⟩) i F hF
    exact this.2
theorem PtI.arm {N : List ByteArray} {B : Nat} {f : ByteArray → Option (List UInt8)} (h : PtI N B f d) {n : Nat} (hok : ({ d with armed := n } : Dk).ok) : PtI N B f { d with armed := n } :=
  ⟨⟨⟨hok, h.calm.up⟩, h.calm.kept, h.calm.still⟩, fun m hm => by have := h.under m hm; cases hf : f m <;> (rw [hf] at this; exact this), h.keys, h.len⟩
theorem PtI.write {N : List ByteArray} {B : Nat} {f : ByteArray → Option (List UInt8)} (h : PtI N B f d) (hs : s ∈ N) (hN : ∀ n ∈ N, zCh s ≠ n) (hv : zBy s.data.toList = true) (hv2 : zBy (zCh s).data.toList = true) (hb : b.length + 4 ≤ B) (hr : 2 * N.length * B + B ≤ d.room) :
    ∃ k e, d.write s b = (k, e) ∧ e.room = d.room ∧ (k = 0 ∧ e.down = false ∧ (d.armed = 0 → e.armed = 0) ∧ (e.ok → PtI N B (zF9 f s b) e) ∨ k = 110 ∧ e.down = true ∧ d.armed ≠ 0 ∧ (e.ok → ∀ picks, PtI N B f (e.crash picks) ∨ PtI N B (zF9 f s b) (e.crash picks))) := by
  have h1 := h.room s; obtain ⟨k, e, hk, hd⟩ := h.calm.write (b := b) hv hv2 (by omega)
  rcases hd with ⟨h1, m⟩ | ⟨h1, h2, h3, m⟩
  · exact ⟨k, e, hk, m.room, .inl ⟨h1, m.up, m.arm, fun he => m.pt h hs hN hb he⟩⟩
  · exact ⟨k, e, hk, m.room, .inr ⟨h1, h2, h3, fun he picks => m.pt h hs hN hb he picks⟩⟩
def readO : Option (List UInt8) → Nat × List UInt8
  | none => (107, [])
  | some v => (0, v)
theorem Under.read {n : ByteArray} {o : Option (List UInt8)} (h : Under d n o) (hu : d.down = false) : d.pread n = readO o := by
  cases o with
  | none =>
    have h1 : zAx d.names n = none := h
    simp [Dk.pread, Dk.lenR, Dk.file, hu, h1, readO]
  | some v =>
    obtain ⟨i, q, k1, k2⟩ := h
    have hl : d.lenR n = (0, (zC0 v).length) := by simp [Dk.lenR, Dk.file, hu, k1, Dk.fl, k2]
    have hr : d.readR n 0 ((zC0 v).length : Int) = (0, zC0 v) := (Dk.readR_at (o := 0) (m := (zC0 v).length) hu k1 k2 (by show 0 + (zC0 v).length ≤ (zC0 v).length; omega)).trans (by simp); simp only [Dk.pread, hl, hr, open_seal, readO]
    simp
theorem PtI.read {N : List ByteArray} {B : Nat} {f : ByteArray → Option (List UInt8)} (h : PtI N B f d) {n : ByteArray} (hn : n ∈ N) : d.pread n = readO (f n) := (h.under n hn).read h.calm.up
theorem Dk.wrun_calls (s : ByteArray) (b : List UInt8) : ∀ (f k : Nat) (d : Dk), (Dk.wrun s b f k d).2.calls ≤ d.calls + f
  | 0, _, _ => Nat.le_refl _
  | f + 1, k, d => by
    have h1 := d.wstep_calls s b k; have h2 := Dk.wrun_calls s b f (k + 1) (d.wstep s b k).2; rw [Dk.wrun_succ]
    split
    · omega
    · omega
theorem Dk.write_calls {k : Nat} (h : d.write s b = (k, e)) : e.calls ≤ d.calls + 6 := by
  unfold Dk.write at h
  split at h
  · have := Dk.wrun_calls s b 6 0 d; rw [h] at this; exact this
  · cases h; omega
theorem PtI.start {N : List ByteArray} {B r : Nat} (hr : r ≤ 4194304) : PtI N B (fun _ => none) (Dk.empty r) :=
  ⟨⟨⟨Dk.empty_ok hr, rfl⟩, rfl, rfl⟩, fun n _ => rfl, fun n hn => by simp [Dk.empty, zAm] at hn, fun i F hF => by cases hF⟩
end
section
open Go.RowKit
variable {d e : Dk} {s n : ByteArray} {b v x : List UInt8} {N : List ByteArray} {B : Nat} {f : ByteArray → Option (List UInt8)}
def Raw (d : Dk) (n : ByteArray) : Option (List UInt8) → Prop
  | none => zAx d.names n = none
  | some v => ∃ i q, zAx d.names n = some i ∧ zAx d.fs i = some ⟨q, v, v.length⟩
structure RawS (N : List ByteArray) (B : Nat) (f : ByteArray → Option (List UInt8)) (d : Dk) : Prop where
  kept : d.names = d.kept
  still : d.changes = []
  under : ∀ n ∈ N, Raw d n (f n)
  apart : ∀ n ∈ N, ∀ m ∈ N, ∀ i, zAx d.names n = some i → zAx d.names m = some i → n = m
  keys : ∀ n ∈ zAm d.names, n ∈ N ∨ n ∈ N.map zCh
  len : ∀ i F, zAx d.fs i = some F → F.b.length ≤ B
structure RawI (N : List ByteArray) (B : Nat) (f : ByteArray → Option (List UInt8)) (d : Dk) : Prop where
  ok : d.ok
  up : d.down = false
  st : RawS N B f d
theorem Raw.same {o : Option (List UInt8)} (h : Raw d n o) (h1 : zAx e.names n = zAx d.names n) (h2 : ∀ i F, zAx d.names n = some i → zAx d.fs i = some F → F.syn = F.b.length → zAx e.fs i = some F) : Raw e n o := by
  cases o with
  | none => exact h1.trans h
  | some v => obtain ⟨i, q, k1, k2⟩ := h; exact ⟨i, q, h1.trans k1, h2 i _ k1 k2 rfl⟩
theorem RawS.same (h : RawS N B f d) (h1 : e.names = d.names) (h2 : e.kept = d.kept) (h3 : e.changes = d.changes) (h4 : e.fs = d.fs) : RawS N B f e :=
  ⟨by rw [h1, h2]; exact h.kept, by rw [h3]; exact h.still, fun n hn => (h.under n hn).same (by rw [h1]) fun i F _ hF _ => by rw [h4]; exact hF, by rw [h1]; exact h.apart, by rw [h1]; exact h.keys, by rw [h4]; exact h.len⟩
theorem RawS.crash_names (h : RawS N B f d) (picks : List Int) : (d.crash picks).names = d.names := by
  show zC2 d.kept (d.changes.take _) = d.names
  rw [h.still, List.take_nil, h.kept]
  rfl
theorem crash_len (ho : d.ok) (h : ∀ i F, zAx d.fs i = some F → F.b.length ≤ B) (picks : List Int) : ∀ i F, zAx (d.crash picks).fs i = some F → F.b.length ≤ B := fun i F hF => by
  have := zFb (P := fun i f => f.syn ≤ f.b.length ∧ f.b.length ≤ B) (fun i f picks k hf => by
      have h1 := Fl.crashed_fine hf.1 picks k
      exact ⟨h1.2.1, Nat.le_trans h1.2.2 hf.2⟩) (picks := picks) (zFf d.fs (zC2 d.kept (d.changes.take (zEc picks 0 d.changes.length)))) 0 d.fs (fun i f hf => ⟨(ho.fid i f hf).2.1, h i f hf⟩) i F hF
  exact this.2
theorem RawS.crash (h : RawS N B f d) (ho : d.ok) (picks : List Int) : RawI N B f (d.crash picks) := by
  have hnm := h.crash_names picks; exact ⟨ho.crash picks, rfl, rfl, rfl, fun n hn => (h.under n hn).same (by rw [hnm]) fun i F _ hF hw => zCv hw _ _ _ hF, by rw [hnm]; exact h.apart, by rw [hnm]; exact h.keys, crash_len ho h.len picks⟩
theorem RawS.part (h : RawS N B f d) (hs : s ∈ N) {i q : Nat} (hi : zAx d.names s = some i) (ho : e.ok) (h1 : e.names = d.names) (h2 : e.kept = d.kept) (h3 : e.changes = d.changes) (h4 : ∀ j, j ≠ i → zAx e.fs j = zAx d.fs j) (hF : zAx e.fs i = some ⟨q, v ++ x, v.length⟩) (hB : v.length + x.length ≤ B) (picks : List Int) : ∃ j, RawI N B (zF9 f s (v ++ x.take j)) (e.crash picks) := by
  have hnm : (e.crash picks).names = d.names := by
    show zC2 e.kept (e.changes.take _) = d.names
    rw [h3, h.still, List.take_nil, h2, h.kept]
    rfl
  have hnd : (zFf e.fs (zC2 e.kept (e.changes.take (zEc picks 0 e.changes.length)))).Nodup := (ho.keys_rise.filter _).imp fun h => Nat.ne_of_lt h
  have hin : i ∈ zFf e.fs (zC2 e.kept (e.changes.take (zEc picks 0 e.changes.length))) := keptIds_mem.2 ⟨zEb hF, by
    show i ∈ (e.crash picks).names.map (·.2)
    rw [hnm]
    exact List.mem_map.2 ⟨_, zCy hi, rfl⟩⟩
  obtain ⟨k, hk⟩ := List.mem_iff_getElem?.1 hin; have hat : zAx (e.crash picks).fs i = some ((⟨q, v ++ x, v.length⟩ : Fl).crashed picks (0 + k)) := crashFs_at _ 0 _ hnd hk hF; obtain ⟨j, hj⟩ : ∃ j, zEc picks (0 + k + 1) ((v ++ x).length - v.length) = j := ⟨_, rfl⟩
  have ht : (v ++ x).take (v.length + j) = v ++ x.take j := by rw [List.take_append, List.take_of_length_le (by omega)]; simp
  have hat : zAx (e.crash picks).fs i = some ⟨q, v ++ x.take j, (v ++ x.take j).length⟩ := by rw [hat]; simp only [Fl.crashed, hj, ht]
  refine ⟨j, ho.crash picks, rfl, rfl, rfl, fun n hn => ?_, by rw [hnm]; exact h.apart, by rw [hnm]; exact h.keys, crash_len ho (fun a F hF' => ?_) picks⟩
  · unfold zF9
    by_cases e1 : n = s
    · subst e1; rw [if_pos rfl]; exact ⟨i, q, by rw [hnm]; exact hi, hat⟩
    · rw [if_neg e1]
      refine (h.under n hn).same (by rw [hnm]) fun a F ha hF' hw => zCv hw _ _ _ ?_
      rw [h4 a fun ea => e1 (h.apart n hn s hs a ha (ea ▸ hi))]; exact hF'
  · by_cases ea : a = i
    · subst ea; rw [hF] at hF'; cases hF'; simpa using hB
    · rw [h4 a ea] at hF'; exact h.len a F hF'
theorem RawI.names_le (h : RawI N B f d) : d.names.length ≤ 2 * N.length := by
  have h1 : (zAm d.names).length ≤ (N ++ N.map zCh).length := h.ok.nnd.length_le_of_subset fun n hn => List.mem_append.2 (h.st.keys n hn)
  simp [zAm] at h1
  omega
theorem RawI.used (h : RawI N B f d) : d.used ≤ 2 * N.length * B := by
  have h1 : useL d.fs d.names ≤ d.names.length * B := useL_le h.st.len d.names; exact Nat.le_trans h1 (Nat.mul_le_mul_right _ h.names_le)
theorem RawI.calm (h : RawI N B f d) : Calm d := ⟨⟨h.ok, h.up⟩, h.st.kept, h.st.still⟩
theorem RawI.roomW (h : RawI N B f d) (s : ByteArray) : useL d.fs (wl s d) ≤ 2 * N.length * B := by
  have h1 := useL_le h.st.len (wl s d); have h2 : (wl s d).length ≤ 2 * N.length := Nat.le_trans (adel_len _ _) h.names_le; exact Nat.le_trans h1 (Nat.mul_le_mul_right _ h2)
theorem RawI.old_id (h : RawI N B f d) {i : Nat} (hi : zAx d.names n = some i) : i ≠ d.files + 1 := fun e => h.ok.fresh (e ▸ h.ok.named hi)
theorem Done.raw (h : RawI N B f d) (hs : s ∈ N) (hN : ∀ n ∈ N, zCh s ≠ n) (hb : b.length + 4 ≤ B) (he : e.ok) (m : Done d s b e) : RawI N B (zF9 f s (zC0 b)) e := by
  have hag : ∀ n, n ≠ s → n ≠ zCh s → zAx e.names n = zAx d.names n := fun n h1 h2 => by rw [m.names, zB1 _ _ h1, wl, zFx h2]
  have has : zAx e.names s = some (d.files + 1) := by rw [m.names, zB7]
  refine ⟨he, m.up, m.kept, m.still, fun n hn => ?_, fun n hn n' hn' i h1 h2 => ?_, fun n hn => ?_, fun i F hF => ?_⟩
  · unfold zF9
    by_cases e1 : n = s
    · subst e1; rw [if_pos rfl]; exact ⟨_, _, has, m.new⟩
    · rw [if_neg e1]; exact (h.st.under n hn).same (hag n e1 (Ne.symm (hN n hn))) fun i F _ hF _ => m.old i F hF
  · by_cases e1 : n = s
    · by_cases e2 : n' = s
      · rw [e1, e2]
      · rw [e1, has] at h1
        rw [hag n' e2 (Ne.symm (hN n' hn'))] at h2
        cases h1
        exact absurd rfl (h.old_id h2)
    · by_cases e2 : n' = s
      · rw [e2, has] at h2
        rw [hag n e1 (Ne.symm (hN n hn))] at h1
        cases h2
        exact absurd rfl (h.old_id h1)
      · rw [hag n e1 (Ne.symm (hN n hn))] at h1
        rw [hag n' e2 (Ne.symm (hN n' hn'))] at h2; exact h.st.apart n hn n' hn' i h1 h2
  · by_cases e1 : n = s
    · subst e1; exact .inl hs
    · by_cases e2 : n = zCh s
      · subst e2; exact .inr (List.mem_map_of_mem hs)
      · refine h.st.keys n ?_
        obtain ⟨v, hv⟩ := zC8 hn; rw [hag n e1 e2] at hv; exact zEb hv
  · rw [m.fs] at hF
    by_cases e1 : i = d.files + 1
    · subst e1; rw [zC h.ok.fresh] at hF; cases hF; show (zC0 b).length ≤ B; rw [zCk]; exact hb
    · rw [zE5 h.ok.fresh e1] at hF; exact h.st.len i F hF
theorem Mid.raw (h : RawI N B f d) (hs : s ∈ N) (hN : ∀ n ∈ N, zCh s ≠ n) (hb : b.length + 4 ≤ B) (he : e.ok) (m : Mid d s b e) (picks : List Int) : RawI N B f (e.crash picks) ∨ RawI N B (zF9 f s (zC0 b)) (e.crash picks) := by
  have hn0 : Near d.names s (zCh s) (zAx e.fs (d.files + 1) = some ⟨d.files + 1, zC0 b, (zC0 b).length⟩) (d.files + 1) e.kept := by
    rw [m.kept, ← h.st.kept]; exact ⟨h.ok.nnd, fun n _ _ => rfl, .inl rfl⟩
  have hn := hn0.all (newN_ne s) (newN_some s) (cs := e.changes.take (zEc picks 0 e.changes.length)) fun c hc => (m.chs c (List.mem_of_mem_take hc)).resolve_left (fun h1 => by rw [h.st.still] at h1; simp at h1)
  have hkeys : ∀ n ∈ zAm (e.crash picks).names, n ∈ N ∨ n ∈ N.map zCh := fun n hk => by
    by_cases e1 : n = s
    · subst e1; exact .inl hs
    · by_cases e2 : n = zCh s
      · subst e2; exact .inr (List.mem_map_of_mem hs)
      · refine h.st.keys n ?_
        obtain ⟨v, hv⟩ := zC8 hk; have hv : zAx (zC2 e.kept (e.changes.take (zEc picks 0 e.changes.length))) n = some v := hv; rw [hn.other n e1 e2] at hv; exact zEb hv
  have hlen := crash_len he (B := B) (fun i F hF => by
    rcases m.len i F hF with h1 | h1
    · exact h.st.len i F h1
    · omega) picks
  have hoth : ∀ n ∈ N, n ≠ s → zAx (e.crash picks).names n = zAx d.names n := fun n hnN hne => hn.other n hne (Ne.symm (hN n hnN))
  have hold : ∀ n ∈ N, zAx (e.crash picks).names n = zAx d.names n → Raw (e.crash picks) n (f n) := fun n hnN h2 => (h.st.under n hnN).same h2 fun i F _ hF hw => zCv hw _ _ _ (m.old i F hF)
  rcases hn.at_s with h1 | ⟨h1, h2⟩
  · have hall : ∀ n ∈ N, zAx (e.crash picks).names n = zAx d.names n := fun n hnN => by
      by_cases e1 : n = s
      · subst e1; exact h1
      · exact hoth n hnN e1
    exact .inl ⟨he.crash picks, rfl, rfl, rfl, fun n hnN => hold n hnN (hall n hnN), fun n hnN n' hn' i g1 g2 => h.st.apart n hnN n' hn' i (hall n hnN ▸ g1) (hall n' hn' ▸ g2), hkeys, hlen⟩
  · have has : zAx (e.crash picks).names s = some (d.files + 1) := h1
    refine .inr ⟨he.crash picks, rfl, rfl, rfl, fun n hnN => ?_, fun n hnN n' hn' i g1 g2 => ?_, hkeys, hlen⟩
    · unfold zF9
      by_cases e1 : n = s
      · subst e1; rw [if_pos rfl]; exact ⟨_, _, has, zCv rfl _ _ _ h2⟩
      · rw [if_neg e1]; exact hold n hnN (hoth n hnN e1)
    · by_cases e1 : n = s
      · by_cases e2 : n' = s
        · rw [e1, e2]
        · rw [e1, has] at g1
          rw [hoth n' hn' e2] at g2
          cases g1
          exact absurd rfl (h.old_id g2)
      · by_cases e2 : n' = s
        · rw [e2, has] at g2
          rw [hoth n hnN e1] at g1
          cases g2
          exact absurd rfl (h.old_id g1)
        · rw [hoth n hnN e1] at g1
          rw [hoth n' hn' e2] at g2; exact h.st.apart n hnN n' hn' i g1 g2
theorem RawI.write (h : RawI N B f d) (hs : s ∈ N) (hN : ∀ n ∈ N, zCh s ≠ n) (hv : zBy s.data.toList = true) (hv2 : zBy (zCh s).data.toList = true) (hb : b.length + 4 ≤ B) (hr : 2 * N.length * B + B ≤ d.room) :
    ∃ k e, d.write s b = (k, e) ∧ e.room = d.room ∧ e.calls ≤ d.calls + 6 ∧ (k = 0 ∧ e.down = false ∧ (d.armed = 0 → e.armed = 0) ∧ (e.ok → RawI N B (zF9 f s (zC0 b)) e) ∨ k = 110 ∧ e.down = true ∧ d.armed ≠ 0 ∧ (e.ok → ∀ picks, RawI N B f (e.crash picks) ∨ RawI N B (zF9 f s (zC0 b)) (e.crash picks))) := by
  have h1 := h.roomW s; obtain ⟨k, e, hk, hd⟩ := UpD.write ⟨h.ok, h.up⟩ (b := b) hv hv2 (by omega)
  rcases hd with ⟨h1, m⟩ | ⟨h1, h2, h3, m⟩
  · exact ⟨k, e, hk, m.room, Dk.write_calls hk, .inl ⟨h1, m.up, m.arm, fun he => m.raw h hs hN hb he⟩⟩
  · exact ⟨k, e, hk, m.room, Dk.write_calls hk, .inr ⟨h1, h2, h3, fun he picks => m.raw h hs hN hb he picks⟩⟩
theorem Dk.find_arm {i : Nat} (hu : d.down = false) (hn : zAx d.names n = some i) : d.find n = if d.armed = 1 then (110, none, { d with armed := 0, down := true }) else (0, some i, { d with armed := d.armed - 1 }) := by
  obtain ⟨room, names, kept, changes, files, a, down, calls, fs⟩ := d; simp only at hu hn; subst hu
  by_cases h0 : a = 0
  · subst h0; simp [Dk.find, Dk.begin, Dk.file, hn]
  · by_cases h1 : a = 1
    · subst h1; simp [Dk.find, Dk.begin]
    · simp [Dk.find, Dk.begin, Dk.file, hn, h0, h1]
theorem RawS.set (h : RawS N B f d) (hs : s ∈ N) {i q : Nat} (hi : zAx d.names s = some i) (h1 : e.names = d.names) (h2 : e.kept = d.kept) (h3 : e.changes = d.changes) (h4 : ∀ j, j ≠ i → zAx e.fs j = zAx d.fs j) (hF : zAx e.fs i = some ⟨q, v, v.length⟩) (hB : v.length ≤ B) : RawS N B (zF9 f s v) e := by
  refine ⟨by rw [h1, h2]; exact h.kept, by rw [h3]; exact h.still, fun n hn => ?_, by rw [h1]; exact h.apart, by rw [h1]; exact h.keys, fun a F hF' => ?_⟩
  · unfold zF9
    by_cases e1 : n = s
    · subst e1; rw [if_pos rfl]; exact ⟨i, q, by rw [h1]; exact hi, hF⟩
    · rw [if_neg e1]
      exact (h.under n hn).same (by rw [h1]) fun a F ha hF' hw => by rw [h4 a fun ea => e1 (h.apart n hn s hs a ha (ea ▸ hi))]; exact hF'
  · by_cases ea : a = i
    · subst ea; rw [hF] at hF'; cases hF'; exact hB
    · rw [h4 a ea] at hF'; exact h.len a F hF'
theorem RawI.grow (h : RawI N B f d) (hs : s ∈ N) (hf : f s = some v) (hb : v.length + x.length ≤ B) (hr : 2 * N.length * B + B ≤ d.room) :
    ∃ k e, d.append s x = (k, e) ∧ e.room = d.room ∧ e.calls ≤ d.calls + 1 ∧ (k = 110 ∧ e.down = true ∧ d.armed ≠ 0 ∧ (e.ok → ∀ picks, RawI N B f (e.crash picks)) ∨
      k = 0 ∧ e.down = false ∧ ∃ k2 e2, e.sync s = (k2, e2) ∧ e2.room = d.room ∧ e2.calls ≤ d.calls + 2 ∧ (k2 = 0 ∧ e2.down = false ∧ (d.armed = 0 → e2.armed = 0) ∧ (e2.ok → RawI N B (zF9 f s (v ++ x)) e2) ∨ k2 = 110 ∧ e2.down = true ∧ d.armed ≠ 0 ∧ (e2.ok → ∀ picks, ∃ j, RawI N B (zF9 f s (v ++ x.take j)) (e2.crash picks)))) := by
  have hu := h.st.under s hs; rw [hf] at hu; obtain ⟨i, q, hi, hF⟩ := hu; have hus := h.used
  have hap : d.append s x = if d.armed = 1 then (110, { d with armed := 0, down := true }) else (0, { (({ d with armed := d.armed - 1 } : Dk).setF i ⟨q, v ++ x, v.length⟩) with calls := d.calls + 1 }) := by
    unfold Dk.append
    rw [Dk.find_arm h.up hi]
    by_cases h1 : d.armed = 1
    · simp [h1]
    · rw [if_neg h1, if_neg h1]
      have hfl : ({ d with armed := d.armed - 1 } : Dk).fl i = ⟨q, v, v.length⟩ := by simp [Dk.fl, hF]
      have h2 : ({ d with armed := d.armed - 1 } : Dk).used = d.used := rfl; simp only [hfl, h2]; rw [if_neg (by omega)]
  by_cases h1 : d.armed = 1
  · rw [if_pos h1] at hap
    exact ⟨_, _, hap, rfl, Nat.le_succ _, .inl ⟨rfl, rfl, by omega, fun ho picks => RawS.crash (d := { d with armed := 0, down := true }) (h.st.same rfl rfl rfl rfl) ho picks⟩⟩
  · rw [if_neg h1] at hap
    refine ⟨_, _, hap, rfl, Nat.le_refl _, .inr ⟨rfl, h.up, ?_⟩⟩; obtain ⟨e, he⟩ : ∃ e, e = ({ (({ d with armed := d.armed - 1 } : Dk).setF i ⟨q, v ++ x, v.length⟩) with calls := d.calls + 1 } : Dk) := ⟨_, rfl⟩; rw [← he]
    have n1 : e.names = d.names := by rw [he]; rfl
    have n2 : e.kept = d.kept := by rw [he]; rfl
    have n3 : e.changes = d.changes := by rw [he]; rfl
    have n4 : e.fs = zC1 d.fs i ⟨q, v ++ x, v.length⟩ := by rw [he]; rfl
    have n5 : e.armed = d.armed - 1 := by rw [he]; rfl
    have n6 : e.down = false := by rw [he]; exact h.up
    have n7 : e.room = d.room := by rw [he]; rfl
    have n8 : e.calls = d.calls + 1 := by rw [he]
    have hsy : e.sync s = if e.armed = 1 then (110, { e with armed := 0, down := true }) else (0, { (({ e with armed := e.armed - 1 } : Dk).setF i ⟨q, v ++ x, (v ++ x).length⟩) with calls := e.calls + 1 }) := by
      unfold Dk.sync
      rw [Dk.find_arm n6 (by rw [n1]; exact hi)]
      by_cases h1 : e.armed = 1
      · simp [h1]
      · rw [if_neg h1, if_neg h1]
        have hfl : ({ e with armed := e.armed - 1 } : Dk).fl i = ⟨q, v ++ x, v.length⟩ := by simp [Dk.fl, n4, zB7]
        simp only [hfl]
    have ho1 : ∀ j, j ≠ i → zAx e.fs j = zAx d.fs j := fun j hj => by rw [n4]; exact zB1 _ _ hj
    by_cases h2 : e.armed = 1
    · rw [if_pos h2] at hsy
      exact ⟨_, _, hsy, n7, by show e.calls ≤ _; omega, .inr ⟨rfl, rfl, by omega, fun ho picks => h.st.part hs hi ho n1 n2 n3 ho1 (by show zAx e.fs i = _; rw [n4, zB7]) hb picks⟩⟩
    · rw [if_neg h2] at hsy
      refine ⟨_, _, hsy, n7, by show e.calls + 1 ≤ _; omega, .inl ⟨rfl, n6, fun ha => by show e.armed - 1 = 0; omega, fun ho => ⟨ho, n6, h.st.set (q := q) hs hi n1 n2 n3 (fun j hj => ?_) ?_ (by simpa using hb)⟩⟩⟩
      · show zAx (zC1 e.fs i _) j = _
        rw [zB1 _ _ hj, ho1 j hj]
      · show zAx (zC1 e.fs i _) i = _
        rw [zB7]
theorem RawI.cut (h : RawI N B f d) (hs : s ∈ N) (hf : f s = some v) {m : Nat} (hm : m ≤ v.length) :
    ∃ k e, d.cut s m = (k, e) ∧ e.room = d.room ∧ e.calls ≤ d.calls + 1 ∧ (k = 0 ∧ e.down = false ∧ (d.armed = 0 → e.armed = 0) ∧ (e.ok → RawI N B (zF9 f s (v.take m)) e) ∨ k = 110 ∧ e.down = true ∧ d.armed ≠ 0 ∧ (e.ok → ∀ picks, RawI N B f (e.crash picks))) := by
  have hu := h.st.under s hs; rw [hf] at hu; obtain ⟨i, q, hi, hF⟩ := hu; have hB := h.st.len i _ hF
  have hap : d.cut s m = if d.armed = 1 then (110, { d with armed := 0, down := true }) else (0, { (({ d with armed := d.armed - 1 } : Dk).setF i ⟨q, v.take m, m⟩) with calls := d.calls + 1 }) := by
    unfold Dk.cut
    rw [Dk.find_arm h.up hi]
    by_cases h1 : d.armed = 1
    · simp [h1]
    · rw [if_neg h1, if_neg h1]
      have hfl : ({ d with armed := d.armed - 1 } : Dk).fl i = ⟨q, v, v.length⟩ := by simp [Dk.fl, hF]
      simp only [hfl]; rw [if_neg (by omega)]
      simp
  by_cases h1 : d.armed = 1
  · rw [if_pos h1] at hap
    exact ⟨_, _, hap, rfl, Nat.le_succ _, .inr ⟨rfl, rfl, by omega, fun ho picks => RawS.crash (d := { d with armed := 0, down := true }) (h.st.same rfl rfl rfl rfl) ho picks⟩⟩
  · rw [if_neg h1] at hap
    have hl : (v.take m).length = m := by rw [List.length_take]; omega
    refine ⟨_, _, hap, rfl, Nat.le_refl _, .inl ⟨rfl, h.up, fun ha => by show d.armed - 1 = 0; omega, fun ho => ⟨ho, h.up, h.st.set (q := q) hs hi rfl rfl rfl (fun j hj => ?_) ?_ (by simp only at hB; omega)⟩⟩⟩
    · show zAx (zC1 d.fs i _) j = _
      exact zB1 _ _ hj
    · show zAx (zC1 d.fs i _) i = _
      rw [zB7, hl]
theorem RawI.sync (h : RawI N B f d) (ha : d.armed = 0) (hs : s ∈ N) (hf : f s = some v) : ∃ e, d.sync s = (0, e) ∧ e.room = d.room ∧ e.armed = 0 ∧ e.calls ≤ d.calls + 1 ∧ (e.ok → RawI N B f e) := by
  have hu := h.st.under s hs; rw [hf] at hu; obtain ⟨i, q, hi, hF⟩ := hu
  have hfl : d.fl i = ⟨q, v, v.length⟩ := by simp [Dk.fl, hF]
  have hsy := Dk.sync_up (n := s) h.up ha hi; rw [hfl] at hsy; have hB := h.st.len i _ hF; refine ⟨_, hsy, rfl, ha, Nat.le_refl _, fun ho => ⟨ho, h.up, ?_⟩⟩
  have hff : zF9 f s v = f := by funext n; unfold zF9; split; rename_i e1; rw [e1, hf]; rfl
  rw [← hff]; refine h.st.set (q := q) hs hi rfl rfl rfl (fun j hj => ?_) ?_ hB
  · show zAx (zC1 d.fs i _) j = _
    exact zB1 _ _ hj
  · show zAx (zC1 d.fs i _) i = _
    rw [zB7]
theorem RawI.make (h : RawI N B f d) (ha : d.armed = 0) (hs : s ∈ N) (hf : f s = none) (hv : zBy s.data.toList = true) : ∃ e e2, d.create s = (0, e) ∧ e.syncDir = (0, e2) ∧ e2.room = d.room ∧ e2.armed = 0 ∧ e.calls ≤ d.calls + 1 ∧ e2.calls ≤ d.calls + 2 ∧ (e2.ok → RawI N B (zF9 f s []) e2) := by
  have hu : zAx d.names s = none := by have := h.st.under s hs; rw [hf] at this; exact this
  have hcr := Dk.create_up (n := s) h.up ha hv hu; have hnk : s ∉ zAm d.names := (zBe _ _).1 hu; refine ⟨_, _, hcr, Dk.syncDir_up h.up ha, rfl, ha, Nat.le_refl _, Nat.le_refl _, fun ho => ⟨ho, h.up, rfl, rfl, fun n hn => ?_, fun n hn n' hn' i h1 h2 => ?_, fun n hn => ?_, fun i F hF => ?_⟩⟩
  · have hag : n ≠ s → zAx (zC1 d.names s (d.files + 1)) n = zAx d.names n := fun e1 => zB1 _ _ e1
    unfold zF9
    by_cases e1 : n = s
    · subst e1; rw [if_pos rfl]; exact ⟨d.files + 1, d.files + 1, zB7 _ _ _, zC h.ok.fresh⟩
    · rw [if_neg e1]
      exact (h.st.under n hn).same (hag e1) fun i F hi hF _ => (zE5 h.ok.fresh (h.old_id hi)).trans hF
  · have h1 : zAx (zC1 d.names s (d.files + 1)) n = some i := h1
    have h2 : zAx (zC1 d.names s (d.files + 1)) n' = some i := h2
    by_cases e1 : n = s
    · by_cases e2 : n' = s
      · rw [e1, e2]
      · rw [e1, zB7] at h1
        rw [zB1 _ _ e2] at h2
        cases h1
        exact absurd rfl (h.old_id h2)
    · by_cases e2 : n' = s
      · rw [e2, zB7] at h2
        rw [zB1 _ _ e1] at h1
        cases h2
        exact absurd rfl (h.old_id h1)
      · rw [zB1 _ _ e1] at h1
        rw [zB1 _ _ e2] at h2; exact h.st.apart n hn n' hn' i h1 h2
  · have hn : n ∈ zAm (zC1 d.names s (d.files + 1)) := hn
    by_cases e1 : n = s
    · subst e1; exact .inl hs
    · obtain ⟨v, hv⟩ := zC8 hn
      rw [zB1 _ _ e1] at hv; exact h.st.keys n (zEb hv)
  · have hF : zAx (d.fs ++ [(d.files + 1, (⟨d.files + 1, [], 0⟩ : Fl))]) i = some F := hF
    by_cases e1 : i = d.files + 1
    · subst e1; rw [zC h.ok.fresh] at hF; cases hF; exact Nat.zero_le _
    · rw [zE5 h.ok.fresh e1] at hF; exact h.st.len i F hF
theorem RawI.lenR (h : RawI N B f d) (hs : s ∈ N) : d.lenR s = (f s).elim (107, 0) fun v => (0, v.length) := by
  have hu := h.st.under s hs
  cases hf : f s with
  | none =>
    rw [hf] at hu; have h1 : zAx d.names s = none := hu
    simp [Dk.lenR, Dk.file, h.up, h1]
  | some v =>
    rw [hf] at hu; obtain ⟨i, q, k1, k2⟩ := hu
    simp [Dk.lenR, Dk.file, h.up, k1, Dk.fl, k2]
theorem RawI.readR (h : RawI N B f d) (hs : s ∈ N) (hf : f s = some v) : d.readR s 0 (v.length : Int) = (0, v) := by
  have hu := h.st.under s hs; rw [hf] at hu; obtain ⟨i, q, k1, k2⟩ := hu; exact (Dk.readR_at (o := 0) (m := v.length) h.up k1 k2 (by show 0 + v.length ≤ v.length; omega)).trans (by simp)
theorem RawI.pread_none (h : RawI N B f d) (hs : s ∈ N) (hf : f s = none) : d.pread s = (107, []) := by
  have h1 := h.lenR hs; rw [hf] at h1
  simp [Dk.pread, h1]
theorem RawI.pread_some (h : RawI N B f d) (hs : s ∈ N) (hf : f s = some (zC0 v)) : d.pread s = (0, v) := by
  have h1 := h.lenR hs; rw [hf] at h1; have h1 : d.lenR s = (0, (zC0 v).length) := h1; have h2 := h.readR hs hf; simp only [Dk.pread, h1, h2, open_seal]
  simp
theorem RawI.start {r : Nat} (hr : r ≤ 4194304) : RawI N B (fun _ => none) (Dk.empty r) :=
  ⟨Dk.empty_ok hr, rfl, rfl, rfl, fun n _ => rfl, fun n _ m _ i h => by simp [Dk.empty, zAx] at h, fun n hn => by simp [Dk.empty, zAm] at hn, fun i F hF => by cases hF⟩
theorem RawI.arm (h : RawI N B f d) {n : Nat} (hok : ({ d with armed := n } : Dk).ok) : RawI N B f { d with armed := n } := ⟨hok, h.up, h.st.same rfl rfl rfl rfl⟩
theorem zD4 (f : ByteArray → Option (List UInt8)) (s : ByteArray) (v : List UInt8) : zF9 f s v s = some v := by simp [zF9]
theorem zCa (f : ByteArray → Option (List UInt8)) {s n : ByteArray} (v : List UInt8) (h : n ≠ s) : zF9 f s v n = f n := by simp [zF9, h]
end
section
open Go.RowKit
attribute [local irreducible] zAk
variable {g w : World} {L M : List HP} {ad : Nat → Addr} {p : Nat} {d : Dk}
section
variable {P : Program} {n : Nat} {ops : Array Oper} {rest : List Oper} {K : Env → World → Prop} {ρ : Env} {dst : Option Tmp} {ty : TypeId} {pos : String} {aft : Array Edge}
theorem run_makeFuncB {fn : Fn} {fl cl : List Operand} : (execOp (ev ρ) ⟨dst, .makeFunc fn fl.toArray cl.toArray, ty, pos, aft, none⟩).run P w = .ok (.value (.func fn (fl.map (ev ρ)).toArray (cl.map (ev ρ)).toArray)) w := by
  simp [execOp, Instr.makeFunc]
theorem lw_callvB (hd : okd n dst = true) {f : FuncId} {first : Array Value} {t : Tmp} {ats : Array TypeId} {R : Value → World → Prop} (hf : ∀ args w, (callFunc f args).run P w = .ok (.enter f args) w) (hx : ρ t = .func (.func f) first #[])
    (hc : Calls P f first w (Ret R)) (h : ∀ v w', R v w' → lw P n ops rest K (updo ρ dst v) w') :
    lw P n ops (⟨dst, .call { callee := .value (.tmp t), args := #[], argTypes := ats }, ty, pos, aft, none⟩ :: rest) K ρ w := by
  refine lw_enter hd ?_ hc h; simp only [execOp, resolve, ev, hx, Deferred.ofValue, Sem.run_bind, Sem.run_pure, Result.andThen_ok, invoke]
  simp [hf]
end
section
variable {b3 b7 b5 b4 : Nat} {t s : ByteArray}
theorem w1_sl (hE : ErrK ad g) (hcl : d.calls < 1000000) (hs : Mem g w (zB9 p d :: cells b3 [.pointer (some ⟨p, 0, none⟩)] 25 :: cells b7 [.string (zCh s)] 9 :: M)) {b : List UInt8} {k : Nat} {d2 : Dk} (hk : d.wstep s b 0 = (k, d2)) :
    Calls Tryz.prog 176 #[.pointer (some ⟨b3, 0, none⟩), .pointer (some ⟨b7, 0, none⟩)] w (Ret fun v w' => v = zAk ad k ∧ Mem g w' (zB9 p d2 :: cells b3 [.pointer (some ⟨p, 0, none⟩)] 25 :: cells b7 [.string (zCh s)] 9 :: M)) := by
  obtain ⟨kl, ml, hl⟩ : ∃ kl ml, d.lenR (zCh s) = (kl, ml) := ⟨_, _, rfl⟩; have hcode := d.lenR_code (zCh s); rw [hl] at hcode; simp only at hcode; simp only [Dk.wstep, hl] at hk; refine zAh Tryz.func176 rfl rfl ?_
  refine zA4 (zA2 (J3 rfl (zA6 (zA4 (zA4 (zA2 (Qc uz25 rfl hs 1 rfl rfl (Qc uz9 rfl hs 2 rfl rfl (Qg en76 (len_sl hE hs (zCh s) hl) ?_))))))))); clear hs; rintro _ w ⟨rfl, hs⟩; refine Jc rfl (Ju (v := .int .i64 _) rfl rfl (Jg rfl rfl (J4 rfl (J6 rfl (zA6 (zA4 (zA2 (J8 rfl (Jq zCq rfl rfl (hE.cellW hs 107 (by decide) rfl) ?_)))))))))
  refine Qa (zEj (hE.atW hs) (by rcases hcode with h | h | h <;> (rw [h]; decide)) (by decide) rfl rfl) ?_; refine zA6 (zB2 rfl ?_ ?_)
  ·
   intro h13; have g13 := of_decide_eq_true h13; rw [if_pos (of_decide_eq_true h13)] at hk
   cases hk
   exact zA4 (zA2 (J3 rfl (zA6 (zAe (zBi (v := .nilIface) rfl rfl ⟨_, rfl, (zB ad).symm, hs⟩)))))
  ·
   intro h13; have g13 := of_decide_eq_false h13; rw [if_neg (of_decide_eq_false h13)] at hk; refine zAd (zA4 (zA2 (Qc uz25 rfl hs 1 rfl rfl (Qc uz9 rfl hs 2 rfl rfl (Qg en101 (remove_sl hE hs hcl (zCh s) hk) ?_))))); clear hs; rintro _ w ⟨rfl, hs⟩; exact J6 rfl (zA6 (zAe (zBi (v := zAk ad _) rfl rfl ⟨_, rfl, rfl, hs⟩)))
theorem w2_sl (hE : ErrK ad g) (hcl : d.calls < 1000000) (hs : Mem g w (zB9 p d :: cells b3 [.pointer (some ⟨p, 0, none⟩)] 25 :: cells b7 [.string (zCh s)] 9 :: M)) {b : List UInt8} {k : Nat} {d2 : Dk} (hk : d.wstep s b 1 = (k, d2)) :
    Calls Tryz.prog 177 #[.pointer (some ⟨b3, 0, none⟩), .pointer (some ⟨b7, 0, none⟩)] w (Ret fun v w' => v = zAk ad k ∧ Mem g w' (zB9 p d2 :: cells b3 [.pointer (some ⟨p, 0, none⟩)] 25 :: cells b7 [.string (zCh s)] 9 :: M)) := by
  refine zAh Tryz.func177 rfl rfl ?_
  refine zA4 (zA2 (J3 rfl (zA6 (zA4 (zA2 (Qc uz25 rfl hs 1 rfl rfl (Qc uz9 rfl hs 2 rfl rfl (Qg en77 (create_sl hE hs hcl (zCh s) hk) ?_)))))))); clear hs; rintro _ w ⟨rfl, hs⟩; exact J6 rfl (zA6 (zAe (zBi (v := zAk ad _) rfl rfl ⟨_, rfl, rfl, hs⟩)))
theorem w3_sl (hE : ErrK ad g) (hcl : d.calls < 1000000) {a : Option Addr} {n c : Nat} (hs : Mem g w (zB9 p d :: cells b3 [.pointer (some ⟨p, 0, none⟩)] 25 :: cells b7 [.string (zCh s)] 9 :: cells b5 [.slice a n c] 22 :: M)) {b : List UInt8} (hr : Rd g M (.slice a n c) (zAn b)) (hn : n = b.length) (hlen : b.length ≤ 1000000) {k : Nat} {d2 : Dk} (hk : d.wstep s b 2 = (k, d2)) :
    Calls Tryz.prog 178 #[.pointer (some ⟨b3, 0, none⟩), .pointer (some ⟨b7, 0, none⟩), .pointer (some ⟨b5, 0, none⟩)] w (Ret fun v w' => v = zAk ad k ∧ Mem g w' (zB9 p d2 :: cells b3 [.pointer (some ⟨p, 0, none⟩)] 25 :: cells b7 [.string (zCh s)] 9 :: cells b5 [.slice a n c] 22 :: M)) := by
  refine zAh Tryz.func178 rfl rfl ?_
  refine zA4 (zA2 (J3 rfl (zA6 (zA4 (zAq zBk hs.tail ?_))))); intro w tr hK; replace hs := tr _ hs; clear tr; refine Qd 0 rfl uz25 rfl (fun w hs => hs.cellAt 0 rfl rfl) hK (Qd 1 rfl uz9 rfl (fun w hs => hs.cellAt 1 rfl rfl) hK (Qd 2 rfl zC6 rfl (fun w hs => hs.cellAt 2 rfl rfl) hK (zAc [3] ⟨⟨_, rfl, ?_⟩, trivial⟩))); refine Qg en137 (seal_sl hs ((((hr.cons).cons).cons).cons) hn (by omega)) ?_; clear hs; rintro _ w ⟨a7, c7, rfl, hs⟩; clear hK; have hK := hs.tail.tail; refine zA6 ⟨hK, ?_⟩; refine zAc [4] ⟨⟨_, rfl, ?_⟩, trivial⟩
  refine Qg en95 (append_sl (d := d) (L := own _ _ :: _) hE (hs.arr [1, 0] 2 (by decide)) hcl (zCh s) (x := zC0 b) (Rd.own 0 rfl) rfl (by rw [zCk]; omega) hk) ?_; clear hs; rintro _ w ⟨rfl, hs⟩; clear hK; have hK := hs.tail.tail; refine zA6 ⟨hK, ?_⟩; refine Q1 5 rfl rfl hK (zAs (by kernel_rfl) ?_); clear hK; exact zAe (zBi (v := zAk ad _) rfl rfl ⟨_, rfl, rfl, hs.drop 1⟩)
theorem w4_sl (hE : ErrK ad g) (hcl : d.calls < 1000000) (hs : Mem g w (zB9 p d :: cells b3 [.pointer (some ⟨p, 0, none⟩)] 25 :: cells b7 [.string (zCh s)] 9 :: M)) {b : List UInt8} {k : Nat} {d2 : Dk} (hk : d.wstep s b 3 = (k, d2)) :
    Calls Tryz.prog 179 #[.pointer (some ⟨b3, 0, none⟩), .pointer (some ⟨b7, 0, none⟩)] w (Ret fun v w' => v = zAk ad k ∧ Mem g w' (zB9 p d2 :: cells b3 [.pointer (some ⟨p, 0, none⟩)] 25 :: cells b7 [.string (zCh s)] 9 :: M)) := by
  refine zAh Tryz.func179 rfl rfl ?_
  refine zA4 (zA2 (J3 rfl (zA6 (zA4 (zA2 (Qc uz25 rfl hs 1 rfl rfl (Qc uz9 rfl hs 2 rfl rfl (Qg en96 (sync_sl hE hs hcl (zCh s) hk) ?_)))))))); clear hs; rintro _ w ⟨rfl, hs⟩; exact J6 rfl (zA6 (zAe (zBi (v := zAk ad _) rfl rfl ⟨_, rfl, rfl, hs⟩)))
theorem w5_sl (hE : ErrK ad g) (hcl : d.calls < 1000000) (hs : Mem g w (zB9 p d :: cells b3 [.pointer (some ⟨p, 0, none⟩)] 25 :: cells b7 [.string (zCh s)] 9 :: cells b4 [.string s] 9 :: M)) {b : List UInt8} {k : Nat} {d2 : Dk} (hk : d.wstep s b 4 = (k, d2)) :
    Calls Tryz.prog 180 #[.pointer (some ⟨b3, 0, none⟩), .pointer (some ⟨b7, 0, none⟩), .pointer (some ⟨b4, 0, none⟩)] w (Ret fun v w' => v = zAk ad k ∧ Mem g w' (zB9 p d2 :: cells b3 [.pointer (some ⟨p, 0, none⟩)] 25 :: cells b7 [.string (zCh s)] 9 :: cells b4 [.string s] 9 :: M)) := by
  refine zAh Tryz.func180 rfl rfl ?_
  refine zA4 (zA2 (J3 rfl (zA6 (zA4 (zA2 (Qc uz25 rfl hs 1 rfl rfl (Qc uz9 rfl hs 2 rfl rfl (Qc uz9 rfl hs 3 rfl rfl (Qg en181 (rename_sl hE hs hcl (zCh s) s hk) ?_))))))))); clear hs; rintro _ w ⟨rfl, hs⟩; exact J6 rfl (zA6 (zAe (zBi (v := zAk ad _) rfl rfl ⟨_, rfl, rfl, hs⟩)))
end
theorem readR_len {n : ByteArray} {m : Nat} {c : Nat} {l : List UInt8} (h : d.readR n 0 (m : Int) = (c, l)) (hm : m ≤ 4194304) : l.length ≤ 4194304 := by
  unfold Dk.readR at h
  split at h
  · split at h
    · cases h; simp
    · cases h; simp; omega
  · cases h; simp
def stepsL (p b3 b7 b5 b4 : Nat) : List Value := [.func (.func 176) #[] #[.pointer (some ⟨b3, 0, none⟩), .pointer (some ⟨b7, 0, none⟩)], .func (.func 177) #[] #[.pointer (some ⟨b3, 0, none⟩), .pointer (some ⟨b7, 0, none⟩)], .func (.func 178) #[] #[.pointer (some ⟨b3, 0, none⟩), .pointer (some ⟨b7, 0, none⟩), .pointer (some ⟨b5, 0, none⟩)], .func (.func 179) #[] #[.pointer (some ⟨b3, 0, none⟩), .pointer (some ⟨b7, 0, none⟩)], .func (.func 180) #[] #[.pointer (some ⟨b3, 0, none⟩), .pointer (some ⟨b7, 0, none⟩), .pointer (some ⟨b4, 0, none⟩)], .func (.func 78) #[.pointer (some ⟨p, 0, none⟩)] #[]]
set_option maxRecDepth 100000 in
theorem write_sl (hE : ErrK ad g) (hcl : d.calls < 900000) (hs : Mem g w (zB9 p d :: L)) (s : ByteArray) (hsl : s.size ≤ 1000000) {b : List UInt8} {a : Option Addr} {n c : Nat} (hr : Rd g L (.slice a n c) (zAn b)) (hn : n = b.length) (hlen : b.length ≤ 1000000) {k : Nat} {d2 : Dk} (hk : d.write s b = (k, d2)) :
    Calls Tryz.prog 141 #[.pointer (some ⟨p, 0, none⟩), .string s, .slice a n c] w (Ret fun v w' => v = zAk ad k ∧ Mem g w' (zB9 p d2 :: L)) := by
  refine zAh Tryz.func141 rfl rfl ?_
  refine zA4 (zA2 (zBp (v := .pointer (some _)) hs rfl rfl ?_)); clear hs; intro b3 w hs
  try simp only [zzs, zzz] at hs
  refine zBp (v := .string _) hs rfl rfl ?_; clear hs; intro b4 w hs
  try simp only [zzs, zzz] at hs
  refine zBp (v := .slice _ _ _) hs rfl rfl ?_; clear hs; intro b5 w hs
  try simp only [zzs, zzz] at hs
  refine J3 rfl (zA6 (zA4 (zA2 (Qc uz9 rfl hs 1 rfl rfl (Qa (zGs (a := s) (b := ⟨#[46, 110, 101, 119]⟩) rfl rfl (by show s.size + 4 ≤ _; omega)) ?_))))); refine zBj hs rfl ze9 ?_; clear hs; intro b7 w hs
  try simp only [zzs, zzz] at hs
  refine zB0 (v := .string _) hs 0 rfl sz9 rfl rfl rfl rfl ?_; clear hs; intro w hs
  try simp only [zzs, zzz] at hs
  refine zA6 (zA4 (zA4 (zA2 (Qc uz9 rfl hs 2 rfl rfl (Qg en89 (zGb hs s) ?_))))); clear hs; rintro _ w ⟨rfl, hs⟩; refine Jr rfl (J2 rfl (zB3 (t := _) (d := 16) rfl ?_ ?_))
  ·
   intro h14; replace h14 := zFc h14
   unfold Dk.write at hk
   rw [if_neg (fun e => by rw [h14] at e; cases e.1)] at hk
   cases hk
   refine Qe rfl rfl (zCs h14) (Qe rfl rfl (zCs h14) (Qe rfl rfl (zCs h14) (Ja rfl (zCs h14) rfl (zA6 (zBc rfl rfl (zA4 (zA2 (Jq zCq rfl rfl (hE.cellW hs 106 (by decide) rfl) (J6 rfl (zA6 (zAe ?_))))))))))); exact zBi (v := zAk ad _) rfl rfl ⟨_, rfl, rfl, hs.suffix 4 rfl⟩
  ·
   intro h14; replace h14 := zEr h14; refine zAl rfl rfl (zBt h14) (Qc uz9 rfl hs 0 rfl rfl (zAl rfl rfl (zBt h14) (Qg en89 (zGb hs (zCh s)) ?_))); clear hs; rintro _ w ⟨rfl, hs⟩; refine zAl rfl rfl (zBt h14) (Jr rfl (J9 rfl (zBt h14) rfl (zA6 (zB2 rfl ?_ ?_))))
   ·
    intro h18; replace h18 := zFc h18
    unfold Dk.write at hk
    rw [if_neg (fun e => by rw [h18] at e; cases e.2)] at hk
    cases hk
    exact zA4 (zA2 (Jq zCq rfl rfl (hE.cellW hs 106 (by decide) rfl) (J6 rfl (zA6 (zAe (zBi (v := zAk ad _) rfl rfl ⟨_, rfl, rfl, hs.suffix 4 rfl⟩))))))
   ·
    intro h18; replace h18 := zEr h18
    unfold Dk.write at hk
    rw [if_pos ⟨h14, h18⟩] at hk; refine zAd (zA4 (zA4 (zA2 (Qa (zC9) (Qa (zC9) (Qa (zC9) (Qa (zC9) (Qa (zC9) (Qc uz25 rfl hs 3 rfl rfl (Qa (run_makeFuncB (fl := [.tmp 27]) (cl := [])) (zB4 hs rfl ((stepsL p b3 b7 b5 b4)) uz260 zs122 rfl (by simp [stepsL, Value.cells]) rfl rfl rfl ?_))))))))))); clear hs; intro b29 w hs
    try simp only [zzs, zzz] at hs
    replace hs := hs.arr [5, 4, 1, 2, 3, 0] 6 (by decide); refine Js uz260 rfl (J0 rfl (zA6 (zAp (zBs (X := Nat × Dk) [6, 9, 10, 31, 32, 33, 34, 35, 36, 37, 38, 39, 40] (fun x => [(31, .int .i64 (x.1 : Nat))]) (fun x w => x.1 ≤ 6 ∧ x.2.calls ≤ d.calls + x.1 ∧ Dk.wrun s b (6 - x.1) x.1 x.2 = (k, d2) ∧ Mem g w (zB9 p x.2 :: cells b3 [.pointer (some ⟨p, 0, none⟩)] 25 :: cells b7 [.string (zCh s)] 9 :: cells b5 [.slice a n c] 22 :: cells b4 [.string s] 9 :: cells b29 (stepsL p b3 b7 b5 b4) 122 :: L)) (fun x => 6 - x.1) ((0, d)) ?_ ?_ ?_))))
    · exact ⟨rfl, trivial⟩
    · exact ⟨Nat.zero_le _, Nat.le_refl _, hk, hs⟩
    clear hs; rintro x ξ w hI; obtain ⟨i, dk⟩ := x; obtain ⟨hi6, hcl2, hrun, hs⟩ := hI; simp only at hi6 hcl2 hrun hs
    show cw _ _ _ _ _ _ (updL (mix _ ξ _) [(31, .int .i64 (i : Nat))]) w
    refine zA4 (zA2 (Jn rfl rfl (zA6 (zA4 (zB2 rfl ?_ ?_)))))
    ·
     intro h32; have g32 := of_decide_eq_true h32; obtain ⟨ks, ds, hst⟩ : ∃ ks ds, dk.wstep s b i = (ks, ds) := ⟨_, _, rfl⟩
     have hr2 : (if (dk.wstep s b i).1 = 0 then Dk.wrun s b (5 - i) (i + 1) (dk.wstep s b i).2 else dk.wstep s b i) = (k, d2) := by rw [← hrun, show 6 - i = (5 - i) + 1 by omega]; rfl
     rw [hst] at hr2; simp only at hr2
     have hcs : ds.calls ≤ dk.calls + 1 := by have := dk.wstep_calls s b i; rw [hst] at this; exact this
     refine zAd (zA4 (zAp (zA4 ?_)))
     obtain rfl | rfl | rfl | rfl | rfl | rfl : i = 0 ∨ i = 1 ∨ i = 2 ∨ i = 3 ∨ i = 4 ∨ i = 5 := by omega
     ·
      refine zA2 (Qa (zB5 uz260 sz122 rfl rfl rfl (by omega) rfl) (Qc uz122 rfl hs 5 rfl rfl (Jl (v := .func _ _ _) rfl (zA6 (zA4 (zA2 (Jm (v := .func _ _ _) rfl (zEq rfl en176 rfl (w1_sl hE (by omega) hs hst) ?_)))))))); clear hs; rintro _ w ⟨rfl, hs⟩; refine J6 rfl (zA6 (zA4 (zA2 (J8 rfl (Jv (ad := ad) rfl (zA6 (zB2 rfl ?_ ?_)))))))
      ·
       intro h38; have g38 := zFj h38
       have hz : ks ≠ 0 := by simpa using h38
       rw [if_neg hz] at hr2
       cases hr2
       exact zA4 (zA2 (J8 rfl (J6 rfl (zA6 (zAe (zBi (v := zAk ad _) rfl rfl ⟨_, rfl, rfl, hs.arr [0] 6 (by decide)⟩))))))
      ·
       intro h38; have g38 := zFi h38
       have hz : ks = 0 := by simpa using h38
       rw [if_pos hz] at hr2; refine zAd (zA2 (Jo rfl rfl rfl (inI (by omega) (by omega)) (J0 rfl (zA6 ?_)))); exact ⟨(1, ds), by simp only; omega, ⟨by simp only; omega, by simp only; omega, hr2, hs⟩, ⟨rfl, trivial⟩, by repeat (first | exact Out.mix _ _ _ | refine Out.updo rfl ?_ | refine Out.upd rfl ?_ | refine Out.mixIn rfl ?_)⟩
     ·
      refine zA2 (Qa (zB5 uz260 sz122 rfl rfl rfl (by omega) rfl) (Qc uz122 rfl hs 5 rfl rfl (Jl (v := .func _ _ _) rfl (zA6 (zA4 (zA2 (Jm (v := .func _ _ _) rfl (zEq rfl en177 rfl (w2_sl hE (by omega) hs hst) ?_)))))))); clear hs; rintro _ w ⟨rfl, hs⟩; refine J6 rfl (zA6 (zA4 (zA2 (J8 rfl (Jv (ad := ad) rfl (zA6 (zB2 rfl ?_ ?_)))))))
      ·
       intro h38; have g38 := zFj h38
       have hz : ks ≠ 0 := by simpa using h38
       rw [if_neg hz] at hr2
       cases hr2
       exact zA4 (zA2 (J8 rfl (J6 rfl (zA6 (zAe (zBi (v := zAk ad _) rfl rfl ⟨_, rfl, rfl, hs.arr [0] 6 (by decide)⟩))))))
      ·
       intro h38; have g38 := zFi h38
       have hz : ks = 0 := by simpa using h38
       rw [if_pos hz] at hr2; refine zAd (zA2 (Jo rfl rfl rfl (inI (by omega) (by omega)) (J0 rfl (zA6 ?_)))); exact ⟨(2, ds), by simp only; omega, ⟨by simp only; omega, by simp only; omega, hr2, hs⟩, ⟨rfl, trivial⟩, by repeat (first | exact Out.mix _ _ _ | refine Out.updo rfl ?_ | refine Out.upd rfl ?_ | refine Out.mixIn rfl ?_)⟩
     ·
      refine zA2 (Qa (zB5 uz260 sz122 rfl rfl rfl (by omega) rfl) (Qc uz122 rfl hs 5 rfl rfl (Jl (v := .func _ _ _) rfl (zA6 (zA4 (zA2 (Jm (v := .func _ _ _) rfl (zEq rfl en178 rfl (w3_sl hE (by omega) hs ((hr.cons).cons) hn hlen hst) ?_)))))))); clear hs; rintro _ w ⟨rfl, hs⟩; refine J6 rfl (zA6 (zA4 (zA2 (J8 rfl (Jv (ad := ad) rfl (zA6 (zB2 rfl ?_ ?_)))))))
      ·
       intro h38; have g38 := zFj h38
       have hz : ks ≠ 0 := by simpa using h38
       rw [if_neg hz] at hr2
       cases hr2
       exact zA4 (zA2 (J8 rfl (J6 rfl (zA6 (zAe (zBi (v := zAk ad _) rfl rfl ⟨_, rfl, rfl, hs.arr [0] 6 (by decide)⟩))))))
      ·
       intro h38; have g38 := zFi h38
       have hz : ks = 0 := by simpa using h38
       rw [if_pos hz] at hr2; refine zAd (zA2 (Jo rfl rfl rfl (inI (by omega) (by omega)) (J0 rfl (zA6 ?_)))); exact ⟨(3, ds), by simp only; omega, ⟨by simp only; omega, by simp only; omega, hr2, hs⟩, ⟨rfl, trivial⟩, by repeat (first | exact Out.mix _ _ _ | refine Out.updo rfl ?_ | refine Out.upd rfl ?_ | refine Out.mixIn rfl ?_)⟩
     ·
      refine zA2 (Qa (zB5 uz260 sz122 rfl rfl rfl (by omega) rfl) (Qc uz122 rfl hs 5 rfl rfl (Jl (v := .func _ _ _) rfl (zA6 (zA4 (zA2 (Jm (v := .func _ _ _) rfl (zEq rfl en179 rfl (w4_sl hE (by omega) hs hst) ?_)))))))); clear hs; rintro _ w ⟨rfl, hs⟩; refine J6 rfl (zA6 (zA4 (zA2 (J8 rfl (Jv (ad := ad) rfl (zA6 (zB2 rfl ?_ ?_)))))))
      ·
       intro h38; have g38 := zFj h38
       have hz : ks ≠ 0 := by simpa using h38
       rw [if_neg hz] at hr2
       cases hr2
       exact zA4 (zA2 (J8 rfl (J6 rfl (zA6 (zAe (zBi (v := zAk ad _) rfl rfl ⟨_, rfl, rfl, hs.arr [0] 6 (by decide)⟩))))))
      ·
       intro h38; have g38 := zFi h38
       have hz : ks = 0 := by simpa using h38
       rw [if_pos hz] at hr2; refine zAd (zA2 (Jo rfl rfl rfl (inI (by omega) (by omega)) (J0 rfl (zA6 ?_)))); exact ⟨(4, ds), by simp only; omega, ⟨by simp only; omega, by simp only; omega, hr2, hs⟩, ⟨rfl, trivial⟩, by repeat (first | exact Out.mix _ _ _ | refine Out.updo rfl ?_ | refine Out.upd rfl ?_ | refine Out.mixIn rfl ?_)⟩
     ·
      refine zA2 (Qa (zB5 uz260 sz122 rfl rfl rfl (by omega) rfl) (Qc uz122 rfl hs 5 rfl rfl (Jl (v := .func _ _ _) rfl (zA6 (zA4 (zA2 (Jm (v := .func _ _ _) rfl (zEq rfl en180 rfl (w5_sl hE (by omega) (M := cells b5 [.slice a n c] 22 :: cells b29 (stepsL p b3 b7 b5 b4) 122 :: L) (hs.arr [0, 1, 2, 4, 3, 5] 6 (by decide)) hst) ?_)))))))); clear hs; rintro _ w ⟨rfl, hs⟩; replace hs := hs.arr [0, 1, 2, 4, 3, 5] 6 (by decide); refine J6 rfl (zA6 (zA4 (zA2 (J8 rfl (Jv (ad := ad) rfl (zA6 ?_))))))
      refine zB2 rfl ?_ ?_
      ·
       intro h38; have g38 := zFj h38
       have hz : ks ≠ 0 := by simpa using h38
       rw [if_neg hz] at hr2
       cases hr2
       exact zA4 (zA2 (J8 rfl (J6 rfl (zA6 (zAe (zBi (v := zAk ad _) rfl rfl ⟨_, rfl, rfl, hs.arr [0] 6 (by decide)⟩))))))
      ·
       intro h38; have g38 := zFi h38
       have hz : ks = 0 := by simpa using h38
       rw [if_pos hz] at hr2; refine zAd (zA2 (Jo rfl rfl rfl (inI (by omega) (by omega)) (J0 rfl (zA6 ?_)))); exact ⟨(5, ds), by simp only; omega, ⟨by simp only; omega, by simp only; omega, hr2, hs⟩, ⟨rfl, trivial⟩, by repeat (first | exact Out.mix _ _ _ | refine Out.updo rfl ?_ | refine Out.upd rfl ?_ | refine Out.mixIn rfl ?_)⟩
     ·
      refine zA2 (Qa (zB5 uz260 sz122 rfl rfl rfl (by omega) rfl) (Qc uz122 rfl hs 5 rfl rfl (Jl (v := .func _ _ _) rfl (zA6 (zA4 (zA2 (Jm (v := .func _ _ _) rfl (lw_callvB rfl en78 rfl (syncDir_sl hE hs (by omega) hst) ?_)))))))); clear hs; rintro _ w ⟨rfl, hs⟩; refine J6 rfl (zA6 (zA4 (zA2 (J8 rfl (Jv (ad := ad) rfl (zA6 (zB2 rfl ?_ ?_)))))))
      ·
       intro h38; have g38 := zFj h38
       have hz : ks ≠ 0 := by simpa using h38
       rw [if_neg hz] at hr2
       cases hr2
       exact zA4 (zA2 (J8 rfl (J6 rfl (zA6 (zAe (zBi (v := zAk ad _) rfl rfl ⟨_, rfl, rfl, hs.arr [0] 6 (by decide)⟩))))))
      ·
       intro h38; have g38 := zFi h38
       have hz : ks = 0 := by simpa using h38
       rw [if_pos hz] at hr2; refine zAd (zA2 (Jo rfl rfl rfl (inI (by omega) (by omega)) (J0 rfl (zA6 ?_)))); exact ⟨(6, ds), by simp only; omega, ⟨by simp only; omega, by simp only; omega, hr2, hs⟩, ⟨rfl, trivial⟩, by repeat (first | exact Out.mix _ _ _ | refine Out.updo rfl ?_ | refine Out.upd rfl ?_ | refine Out.mixIn rfl ?_)⟩
    ·
     intro h32; have g32 := of_decide_eq_false h32; refine zBm rfl (zA4 (zA2 (J3 rfl (zA6 (zAe (zBi (v := .nilIface) rfl rfl ?_))))))
     obtain rfl : i = 6 := by omega
     cases hrun
     exact ⟨_, rfl, (zB ad).symm, hs.arr [0] 6 (by decide)⟩
theorem pread_sl (hP : ErrP ad g) (hs : Mem g w (zB9 p d :: L)) (s : ByteArray) {k : Nat} {b : List UInt8} (hk : d.pread s = (k, b)) : Calls Tryz.prog 91 #[.pointer (some ⟨p, 0, none⟩), .string s] w (Ret fun v w' => ∃ a c, v = .tuple #[.slice a b.length c, zAk ad k] ∧ Mem g w' (own (.slice a b.length c) (zAn b) :: zB9 p d :: L)) := by
  have hE := hP.ofPoint; obtain ⟨ho, _⟩ := hs.openD; have hle := ho.lenR_le s; obtain ⟨kl, m, hl⟩ : ∃ kl m, d.lenR s = (kl, m) := ⟨_, _, rfl⟩; rw [hl] at hle; simp only at hle; obtain ⟨kr, x, hr⟩ : ∃ kr x, d.readR s 0 (m : Int) = (kr, x) := ⟨_, _, rfl⟩; simp only [Dk.pread, hl, hr] at hk; refine zAh Tryz.func91 rfl rfl ?_
  refine zA4 (zA2 (Jb rfl (J3 rfl (zA6 (zA4 (zA2 (J1 rfl (Je rfl (Qg en76 (len_sl hE hs s hl) ?_))))))))); clear hs; rintro _ w ⟨rfl, hs⟩; refine Jc rfl (Ju (v := .int .i64 _) rfl rfl (Jg rfl rfl (J4 rfl (J6 rfl (zA6 (zA4 (zA4 (zA2 (J8 rfl (Jv (ad := ad) rfl (zA6 ?_)))))))))))
  refine zB2 rfl ?_ ?_
  ·
   intro h16; have g16 := zFj h16
   have hz : kl ≠ 0 := by simpa using h16
   rw [if_pos hz] at hk
   cases hk
   exact zA4 (zA2 (J8 rfl (Jb rfl (J6 rfl (zA6 (zAe (zEd (v := .slice _ _ _) (v2 := zAk ad _) rfl rfl rfl ⟨_, rfl, none, 0, rfl, hs.addE (zDn _)⟩)))))))
  ·
   intro h16; have g16 := zFi h16
   have hz : kl = 0 := by simpa using h16
   rw [if_neg (by omega)] at hk; refine zAd (zA4 (zA2 (J1 rfl (Je rfl (J0 rfl (Qg en121 (read_sl hE hs s (off := 0) (m := m) (inI (by decide) (by decide)) (inI (by omega) (by omega)) hr) ?_)))))); clear hs; rintro _ w ⟨ar, cr, rfl, hs⟩; refine Jc rfl (Ju (v := .slice _ _ _) rfl rfl (Jg rfl rfl (Jb rfl (J6 rfl (zA6 (zA4 (zA4 (zA2 ?_))))))))
   refine J8 rfl (Jv (ad := ad) rfl (zA6 (zB2 rfl ?_ ?_)))
   ·
    intro h26; have g26 := zFj h26
    have hz2 : kr ≠ 0 := by simpa using h26
    rw [if_pos hz2] at hk
    cases hk
    exact zA4 (zA2 (J8 rfl (Jb rfl (J6 rfl (zA6 (zAe (zEd (v := .slice _ _ _) (v2 := zAk ad _) rfl rfl rfl ⟨_, rfl, none, 0, rfl, hs.tail.addE (zDn _)⟩)))))))
   ·
    intro h26; have g26 := zFi h26
    have hz2 : kr = 0 := by simpa using h26
    rw [if_neg (by omega)] at hk; obtain ⟨_, hoc, _⟩ := hs.ownForm 0 rfl; have hxl : x.length ≤ 4194304 := readR_len hr hle; refine zAd (zA4 (zA2 (J7 rfl (Qg en130 (copen_sl hP hs (hs.rdOwn 0 rfl) rfl hoc (by omega) hk) ?_)))); clear hs; rintro _ w ⟨ao, co, rfl, hs⟩; exact Ju (v := .slice _ _ _) rfl rfl (Jg rfl rfl (Jb rfl (J6 rfl (zA6 (zAe (zEd (v := .slice _ _ _) (v2 := zAk ad _) rfl rfl rfl ⟨_, rfl, ao, co, rfl, hs.drop 1⟩))))))
end
section
open Go.RowKit
attribute [local irreducible] zAk eV
variable {g w : World} {L M : List HP} {ad : Nat → Addr} {p d pv ev : Nat} {dk : Dk} {f : ByteArray → Option (List UInt8)} {V U : Vw} {q r c n : Nat} {b : List UInt8}
def mtN : ByteArray := ⟨#[109, 101, 116, 97]⟩
def snN : ByteArray := ⟨#[109, 101, 116, 97, 45, 115, 110, 97, 112]⟩
abbrev LgN : List ByteArray := [mtN, snN]
theorem mtN_valid : zBy mtN.data.toList = true := by decide +kernel
theorem mt_sn : mtN ≠ snN := by decide +kernel
def snapB (q : Nat) (V : Vw) : List UInt8 := zBa q ++ vwB V
def Snp (f : ByteArray → Option (List UInt8)) (V : Vw) (q : Nat) : Prop := f snN = none ∧ V = [] ∧ q = 0 ∨ f snN = some (zC0 (snapB q V))
theorem updF_self {s : ByteArray} {v : List UInt8} (h : f s = some v) : zF9 f s v = f := by
  funext n
  unfold zF9
  split
  · rename_i e; rw [e, h]
  · rfl
def zGl : List Nat := [101, 102, 103, 104, 105, 106, 107, 108, 109, 110, 112, 113]
abbrev ErrM (ad : Nat → Addr) (g : World) : Prop := Errs zGl ad g.heap.size g
theorem Errs.toV (h : ErrM ad g) : ErrV ad g := Errs.sub h (fun c hc => by simp only [viewCodes, zGl, List.mem_cons, List.not_mem_nil, or_false] at *; omega)
theorem Errs.toK (h : ErrM ad g) : ErrK ad g := Errs.sub h (fun c hc => by simp only [zFy, zGl, List.mem_cons, List.not_mem_nil, or_false] at *; omega)
theorem Errs.toP (h : ErrM ad g) : ErrP ad g := Errs.sub h (fun c hc => by simp only [zGo, zGl, List.mem_cons, List.not_mem_nil, or_false] at *; omega)
theorem Errs.toW (h : ErrM ad g) : ErrW ad g := Errs.sub h (fun c hc => by simp only [vintCodes, zGl, List.mem_cons, List.not_mem_nil, or_false] at *; omega)
theorem Ent.inv (h : Ent V q b U r c n) (hb : b ≠ []) : (ErdC b Option.none ∧ U = V ∧ r = q ∧ c = 0 ∧ n = 0) ∨ (∃ s z k x, ErdC b (some (s, (k, x), z)) ∧ s ≠ q + 1 ∧ U = V ∧ r = q ∧ c = 0 ∧ n = 0) ∨ (∃ z k x, ErdC b (some (q + 1, (k, x), z)) ∧ (V.apply k x).1.1 ≠ 0 ∧ U = V ∧ r = q ∧ c = 0 ∧ n = 0) ∨ (∃ z k x c' n', ErdC b (some (q + 1, (k, x), z)) ∧ (V.apply k x).1 = (0, Option.none) ∧ Ent (V.apply k x).2 (q + 1) (b.drop z) U r c' n' ∧ c = c' + 1 ∧ n = n' + z) := by
  cases h with
  | none h => exact .inl ⟨h.resolve_left hb, rfl, rfl, rfl, rfl⟩
  | @bad _ _ s z e _ h hq =>
    obtain ⟨k, x⟩ := e
    by_cases h1 : s = q + 1
    · subst h1; exact .inr (.inr (.inl ⟨z, k, x, h, hq.resolve_left (fun e => e rfl), rfl, rfl, rfl, rfl⟩))
    · exact .inr (.inl ⟨s, z, k, x, h, h1, rfl, rfl, rfl, rfl⟩)
  | @step _ _ _ _ z c' n' e _ h ha hn =>
    obtain ⟨k, x⟩ := e; exact .inr (.inr (.inr ⟨z, k, x, c', n', h, ha, hn, rfl, rfl⟩))
theorem Ent.of_nil (h : Ent V q [] U r c n) : U = V ∧ r = q ∧ c = 0 ∧ n = 0 := by
  cases h with
  | none h => exact ⟨rfl, rfl, rfl, rfl⟩
  | bad h hq => exact ⟨rfl, rfl, rfl, rfl⟩
  | step h ha hn => have := (h.fine _ _ _ rfl).2; simp at this; omega
abbrev lgCells (d ev pv q c n : Nat) : List Value := [.pointer (some ⟨d, 0, none⟩), .int .i64 ev, .pointer (some ⟨pv, 0, none⟩), .int .i64 q, .int .i64 c, .int .i64 n]
abbrev lgP (p d ev pv q c n : Nat) : HP := cells p (lgCells d ev pv q c n) 126
def zDs (p d ev : Nat) (V : Vw) (q c n : Nat) : HP := ex fun pv : Nat => stars [lgP p d ev pv q c n, zEn pv V]
theorem Mem.openL (hs : Mem g w (zDs p d ev V q c n :: L)) : ∃ pv, Mem g w (lgP p d ev pv q c n :: zEn pv V :: L) := by
  obtain ⟨pv, h⟩ := hs.unex; exact ⟨pv, h.unstars⟩
theorem Mem.closeL (hs : Mem g w (lgP p d ev pv q c n :: zEn pv V :: L)) : Mem g w (zDs p d ev V q c n :: L) :=
  Mem.ex (f := fun pv : Nat => Go.Proofs.YthejaanobeonnaaGreatDoor.stars [lgP p d ev pv q c n, zEn pv V]) pv (Mem.stars (M := [lgP p d ev pv q c n, zEn pv V]) hs)
theorem zG5 (hs : Mem g w (zDs p d ev V q c n :: L)) : Calls Tryz.prog 19 #[.pointer (some ⟨p, 0, none⟩)] w (Ret fun v w' => ∃ u, v = .pointer (some ⟨u, 0, none⟩) ∧ Mem g w' (zEn u V :: zDs p d ev V q c n :: L)) := by
  obtain ⟨pv, hs⟩ := hs.openL; refine zAh Tryz.func19 rfl rfl ?_
  refine zA4 (zA2 (Jf rfl (zA6 (zA4 (zA2 (J1 rfl (Jx rfl (Jp (o' := 2) zCm rfl sz54 rfl rfl rfl (Qc uz54 rfl hs 0 rfl rfl (Qg en56 (cloneq_sl (hs.arr [1, 0] 2 (by decide))) ?_)))))))))); clear hs; rintro _ w ⟨u, rfl, hs⟩; exact Jd rfl (zA6 (zAe (zBi (v := .pointer (some _)) rfl rfl ⟨_, rfl, u, rfl, (Mem.closeL (hs.arr [2, 1, 0] 3 (by decide))).arr [1, 0] 2 (by decide)⟩)))
theorem snapNo_sl (hM : ErrM ad g) (hs : Mem g w (lgP p d ev pv 0 0 0 :: zEn pv [] :: zB9 d dk :: L)) (hp : dk.pread snN = (107, [])) : Calls Tryz.prog 75 #[.pointer (some ⟨p, 0, none⟩)] w (Ret fun v w' => v = .nilIface ∧ Mem g w' (lgP p d ev pv 0 0 0 :: zEn pv [] :: zB9 d dk :: L)) := by
  have hP := hM.toP; refine zAh Tryz.func75 rfl rfl ?_
  refine zA4 (zA2 (J3 rfl (zA6 (zA4 (zA2 (J1 rfl (Jx rfl (Jp (o' := 0) zCm rfl sz25 rfl rfl rfl (Qc uz25 rfl hs 0 rfl rfl (Qg en91 (pread_sl hP (hs.arr [2, 0, 1] 3 (by decide)) snN hp) ?_)))))))))); clear hs; rintro _ w ⟨a11, c11, rfl, hs⟩; refine Jc rfl (Ju (v := .slice _ _ _) rfl rfl (Jg rfl rfl (Jb rfl (J6 rfl (zA6 (zA4 (zA4 (zA2 ?_))))))))
  exact J8 rfl (Jq zCq rfl rfl (hP.cellW hs 107 (by decide) rfl) (Qa (zEj (hP.atW hs) (by decide) (by decide) rfl rfl) (zA6 (zBc rfl (rfl) (zA4 (zA2 (J3 rfl (zA6 (zAe (zBi (v := .nilIface) rfl rfl ⟨_, rfl, rfl, hs.arr [2, 3, 1] 4 (by decide)⟩))))))))))
abbrev LgI (f : ByteArray → Option (List UInt8)) (d : Dk) : Prop := RawI LgN 200000 f d
end
section
open Go.RowKit
attribute [local irreducible] zAk eV
variable {g w : World} {L M : List HP} {ad : Nat → Addr} {p d pv ev : Nat} {dk : Dk} {f : ByteArray → Option (List UInt8)} {V U : Vw} {q r c n : Nat} {b mb : List UInt8} {N : List ByteArray} {B : Nat}
theorem zF6 (hs : Mem g w (zEn p V :: L)) (id : Int) : Calls Tryz.prog 20 #[.pointer (some ⟨p, 0, none⟩), .int .i64 id] w (Ret fun v w' => v = .int .i64 (V.state id) ∧ Mem g w' (zEn p V :: L)) := by
  obtain ⟨ho, U, hu, he, hs⟩ := hs.openQ; refine (state_sl hs id).mono ?_; rintro r w' ⟨v, rfl, rfl, h⟩; refine ⟨_, rfl, ?_, Mem.closeQ ho he h⟩; simp only [Vw.state, he id]
theorem entries0_sl (hM : ErrM ad g) (hI : RawI N B f dk) (hmt : mtN ∈ N) (hf : f mtN = some []) (hs : Mem g w (lgP p d ev pv 0 0 0 :: zEn pv V :: zB9 d dk :: L)) :
    Calls Tryz.prog 79 #[.pointer (some ⟨p, 0, none⟩), .int .i64 ((0 : Nat) : Int)] w (Ret fun v w' => v = .nilIface ∧ Mem g w' (lgP p d ev pv 0 0 0 :: zEn pv V :: zB9 d dk :: L)) := by
  have hK := hM.toK; refine zAh Tryz.func79 rfl rfl ?_
  refine zA4 (zA2 (J3 rfl (zA6 (zA4 (zA2 (J1 rfl (Jx rfl (Jp (o' := 0) zCm rfl sz25 rfl rfl rfl (Qc uz25 rfl hs 0 rfl rfl (J0 rfl (Qg en121 (read_sl hK (hs.arr [2, 0, 1] 3 (by decide)) mtN (off := 0) (m := ((0 : Nat) : Int)) (inI (by decide) (by decide)) (inI (by decide) (by decide)) (hI.readR hmt hf)) ?_))))))))))); clear hs; rintro _ w ⟨a18, c18, rfl, hs⟩; rw [zB]; refine Jc rfl (Ju (v := .slice _ _ _) rfl rfl ?_)
  refine Jk rfl rfl (Jb rfl (J3 rfl (zA6 (zA4 (zA4 (zA2 (Jj rfl (Jz rfl (zA6 (zAz rfl (rfl) (zAd ?_))))))))))); refine zA4 (zAp ?_)
  refine zBs (X := Unit) [7, 8, 9, 10, 24, 25, 26, 27, 28, 29, 30, 31, 32, 33, 34, 35, 36, 37, 38, 39, 40, 41, 42, 43, 44, 45, 46, 47, 48, 49, 50, 51, 52, 53, 54, 55, 56, 57, 58, 59, 60, 61, 62, 63, 64, 65, 66, 67, 68, 69, 70, 71, 72, 73, 74, 75, 76, 77, 78, 79, 80, 81, 82, 83, 84, 85, 86, 87, 88, 89] (fun _ => []) (fun _ w => Mem g w (lgP p d ev pv 0 0 0 :: own (.slice a18 ([] : List UInt8).length c18) (zAn []) :: zB9 d dk :: zEn pv V :: L)) (fun _ => 0) (()) ?_ ?_ ?_
  · exact trivial
  · exact hs.arr [2, 0, 1, 3] 4 (by decide)
  clear hs; rintro x ξ w hI; have hs := hI; refine zA4 (zA4 (zA2 (J1 rfl (Jx rfl (Jp (o' := 5) zCm rfl sz3 rfl rfl rfl (Qc uz3 rfl hs 0 rfl rfl (J0 rfl (Jn rfl rfl (zA6 (zAz rfl (rfl) (zBm rfl ?_))))))))))); refine zA4 (zA4 (zA2 (J1 rfl (Jx rfl (Jp (o' := 5) zCm rfl sz3 rfl rfl rfl (Qc uz3 rfl hs 0 rfl rfl (J0 rfl ?_)))))))
  exact Jw rfl rfl (zA6 (zBc rfl (rfl) (zA4 (zA2 (J3 rfl (zA6 (zAe (zBi (v := .nilIface) rfl rfl ⟨_, rfl, rfl, hs.arr [0, 3, 2] 4 (by decide)⟩))))))))
set_option maxHeartbeats 1000000 in
theorem openN_sl (hM : ErrM ad g) (hs : Mem g w (zB9 d dk :: L)) (hI : RawI N B f dk) (hmt : mtN ∈ N) (hsn : snN ∈ N) (ha : dk.armed = 0) (hcl : dk.calls < 800000) (hev : 1 ≤ ev ∧ ev ≤ 4096) (hfn : f snN = none) (hfm : f mtN = none) :
    Calls Tryz.prog 40 #[.pointer (some ⟨d, 0, none⟩), .int .i64 (ev : Nat)] w (Ret fun v w' => ∃ p dk2, v = .tuple #[.pointer (some ⟨p, 0, none⟩), .nilIface] ∧ dk2.armed = 0 ∧ dk2.room = dk.room ∧ dk2.calls ≤ dk.calls + 2 ∧ RawI N B (zF9 f mtN []) dk2 ∧ Mem g w' (zDs p d ev [] 0 0 0 :: zB9 d dk2 :: L)) := by
  have hK := hM.toK
  have hll : dk.lenR mtN = (107, 0) := by rw [hI.lenR hmt, hfm]; rfl
  obtain ⟨e1, e2, hcr, hsd, hroom, harm, hc1, hc2, hI2⟩ := hI.make ha hmt hfm mtN_valid; refine zAh Tryz.func40 rfl rfl ?_
  refine zA4 (zA2 (Jf rfl (J3 rfl (zA6 (zA4 (zA4 (zA2 (J0 rfl (Jn rfl rfl (J2 rfl (zAl rfl rfl (decide_eq_false (by omega)) (J0 rfl ?_)))))))))))); refine zAl rfl rfl (decide_eq_false (by omega)) (Jt rfl rfl (J9 rfl (decide_eq_false (by omega)) rfl (zA6 (zAz rfl (decide_eq_false (by omega)) (zAd (zA4 (zA2 (J1 rfl ?_))))))))
  refine J0 rfl (Qg en74 (newq_sl hs) ?_); clear hs; rintro _ w ⟨pv, rfl, hs⟩; refine Qa (zBw (cs := [.pointer (some ⟨d, 0, none⟩), .int .i64 (ev : Nat), .pointer (some ⟨pv, 0, none⟩), .int .i64 ((0 : Nat) : Int), .int .i64 ((0 : Nat) : Int), .int .i64 ((0 : Nat) : Int)]) zCm ze126 pl126 rfl) (zBp (v := .agg _) hs rfl rfl ?_); clear hs; intro b21 w hs
  try simp only [zzs, zzz] at hs
  refine Jd rfl (zA6 ?_); replace hs : Mem g w (lgP b21 d ev pv 0 0 0 :: zEn pv [] :: zB9 d dk :: L) := hs; refine zA4 (zA4 (zA2 (J1 rfl (Qg en75 (snapNo_sl hM hs (hI.pread_none hsn hfn)) ?_)))); clear hs; rintro _ w ⟨rfl, hs⟩; refine J3 rfl (zA6 (zA4 (zA2 (Jj rfl (Jz rfl (zA6 (zAz rfl (rfl) (zAd (zA4 (zA2 (J1 rfl (Qg en76 (len_sl hM.toK (hs.arr [2, 0, 1] 3 (by decide)) mtN hll) ?_))))))))))))
  clear hs; rintro _ w ⟨rfl, hs⟩; refine Jc rfl (Ju (v := .int .i64 _) rfl rfl (Jg rfl rfl (J4 rfl (J6 rfl (zA6 (zA4 (zA4 (zA2 (J8 rfl (Jq zCq rfl rfl (hK.cellW hs 107 (by decide) rfl) (Qa (zEj (hK.atW hs) (by decide) (by decide) rfl rfl) ?_))))))))))); refine zA6 (zBc rfl (rfl) (zA4 (zA2 (J1 rfl (Qg en77 (create_sl hM.toK hs (by omega) mtN hcr) ?_))))); clear hs
  rintro _ w ⟨rfl, hs⟩; refine J6 rfl (zA6 (zA4 (zA2 (J8 rfl (Qa (zDl (ad := ad) rfl) (zA6 (zBc rfl (rfl) (zA2 (J1 rfl (Qg en78 (syncDir_sl hM.toK hs (by omega) hsd) ?_)))))))))); clear hs; rintro _ w ⟨rfl, hs⟩; have hI3 := hI2 (hs.openD).1; refine J6 rfl (zA6 (zA4 (zA4 (zA2 (J8 rfl (Jv (ad := ad) rfl (zA6 (zAz rfl (rfl) (zAd (zA4 (zA4 (zA2 ?_))))))))))))
  refine J1 rfl (J0 rfl (Qg en79 (entries0_sl hM hI3 hmt (zD4 _ _ _) (hs.arr [1, 2, 0] 3 (by decide))) ?_)); clear hs; rintro _ w ⟨rfl, hs⟩; refine J3 rfl (zA6 (zA4 (zA2 (Jj rfl (Jz rfl (zA6 (zAz rfl (rfl) (zAd (zA4 (zA2 (J1 rfl (Jd rfl (J3 rfl ?_))))))))))))); refine zA6 (zAe (zEd (v := .pointer (some _)) (v2 := .nilIface) rfl rfl rfl ?_))
  exact ⟨_, rfl, _, e2, rfl, harm, hroom, by omega, hI3, hs.closeL⟩
def AppN (N : List ByteArray) (B : Nat) (f : ByteArray → Option (List UInt8)) (dk : Dk) (V V1 : Vw) (q c : Nat) (mb fr : List UInt8) (k : Nat) (dk2 : Dk) (V' : Vw) (q' c' n' : Nat) : Prop :=
  dk2.room = dk.room ∧ dk2.calls ≤ dk.calls + 9 ∧
  (k = 0 ∧ dk2.down = false ∧ (dk.armed = 0 → dk2.armed = 0) ∧ V' = V1 ∧ q' = q + 1 ∧ c' = c + 1 ∧ n' = mb.length + fr.length ∧ RawI N B (zF9 f mtN (mb ++ fr)) dk2 ∨
   k = 110 ∧ dk2.down = true ∧ dk.armed ≠ 0 ∧ V' = V ∧ q' = q ∧ c' = c ∧ n' = mb.length ∧ ∀ picks, ∃ j, RawI N B (zF9 f mtN (mb ++ fr.take j)) (dk2.crash picks))
set_option maxHeartbeats 2000000 in
theorem appN_sl (hM : ErrM ad g) (hs : Mem g w (zDs p d ev V q c n :: zB9 d dk :: L)) (hI : RawI N B f dk) (hmt : mtN ∈ N) (hB : B ≤ 200000) (hf : f mtN = some mb) (hn : n = mb.length) (hcl : dk.calls < 900000) (hr : 2 * N.length * B + B ≤ dk.room) (hq : q < 1000000) (hc : c + 1 < ev) (hev : ev ≤ 4096) {k : Int} {x : Mf} {e o : SA} (hb : mb.length + (frame (q + 1) (k, x)).length ≤ B) (hm : MfR g L x e o) (hob : x.obs.length ≤ 1000000) (hsu : ∀ o ∈ x.obs, o.2.2 < 4294967296) (hap : (V.apply k x).1 = (0, none)) :
    Calls Tryz.prog 52 #[.pointer (some ⟨p, 0, none⟩), .agg (.int .i64 k :: mfL x e o).toArray] w (Ret fun v w' => ∃ kr dk2 V' q' c' n', v = zAk ad kr ∧ AppN N B f dk V (V.apply k x).2 q c mb (frame (q + 1) (k, x)) kr dk2 V' q' c' n' ∧ Mem g w' (zDs p d ev V' q' c' n' :: zB9 d dk2 :: L)) := by
  subst hn; have hK := hM.toK; obtain ⟨pv, hs⟩ := hs.openL; have hen := Vw.apply_en hap; have hok : EnOk (k, x) := ⟨hen.1, hen.2.1, hen.2.2, hsu⟩; obtain ⟨fr, hfr⟩ : ∃ fr, fr = frame (q + 1) (k, x) := ⟨_, rfl⟩; rw [← hfr] at hb; obtain ⟨V1, hV1⟩ : ∃ V1, V1 = (V.apply k x).2 := ⟨_, rfl⟩; obtain ⟨ka, da, hap1, har, hac, hacase⟩ := hI.grow hmt hf (x := fr) hb hr; refine zAh Tryz.func52 rfl rfl ?_
  refine zA4 (zA2 (zBp (v := .agg _) hs rfl rfl ?_)); clear hs; intro b3 w hs
  try simp only [zzs, zzz] at hs
  refine J3 rfl (zA6 (zA4 (zA2 (J1 rfl (Jx rfl (Jp (o' := 2) zCm rfl sz54 rfl rfl rfl (Qc uz54 rfl hs 1 rfl rfl (Qg en56 (cloneq_sl (hs.arr [2, 0, 1, 3] 4 (by decide))) ?_)))))))); clear hs; rintro _ w ⟨u, rfl, hs⟩; refine Jd rfl (zA6 (zA4 (zA4 (zA2 (J1 rfl (Qa (zBd hs 2 rfl zE1 sz121 rfl) (Qg en93 (applyq_sl hM.toV hs k hm.cons.cons.cons.cons hob) ?_))))))); clear hs; rintro _ w ⟨eb, rfl, hs⟩
  rw [hap] at hs ⊢; replace hs := hs.tail; rw [← hV1] at hs ⊢; refine J6 rfl (zA6 (zA4 (zA2 (J8 rfl (Jv (ad := ad) rfl (zA6 (zAz rfl (rfl) (zAd (zA4 (zA4 (zA2 (J1 rfl (Jx rfl ?_))))))))))))); refine Jp (o' := 3) zCm rfl sz2 rfl rfl rfl (Qc uz2 rfl hs 3 rfl rfl (Jw rfl rfl (zA6 (zAz rfl (decide_eq_false (by omega)) (zAd (zA4 (zAq zBk hs ?_))))))); intro w tr hK; replace hs := tr _ hs; clear tr
  refine Q0 0 rfl rfl hK (Q7 1 rfl rfl hK (Q6 2 rfl (o' := 3) zCm rfl sz2 rfl rfl rfl hK (Qd 3 rfl uz2 rfl (fun w hs => hs.cellAt 3 rfl rfl) hK (Qb 4 rfl (fun w hs => zAo rfl rfl (c := ((q + 1 : Nat) : Int)) (by omega) (inI (by omega) (by omega))) hK (Qb 5 rfl (fun w hs => zBd hs 2 rfl zE1 sz121 rfl) hK (zAc [6] ⟨⟨_, rfl, ?_⟩, trivial⟩)))))); refine Qg en94 (enBytes_sl hM.toV hs (q := q + 1) (by omega) hm.cons.cons.cons.cons.cons hok) ?_; clear hs; rintro _ w ⟨s33, rfl, hs⟩; rw [← hfr] at hs ⊢; clear hK
  have hK := hs.tail; refine zA6 ⟨hK, ?_⟩; refine Q4 7 rfl (v := .tuple _) rfl hK (Q8 8 rfl (v := .slice _ _ _) rfl rfl hK (Q8 9 rfl (v := .nilIface) rfl rfl hK (Q5 10 rfl (v := .slice _ _ _) rfl hK (Q5 11 rfl (v := .nilIface) rfl hK (zAs (by kernel_rfl) ?_))))); clear hK; refine zA4 (zA4 (zA2 (Jj rfl (Jz rfl (zA6 (zAz rfl (rfl) (zAd (zA4 (zA2 (J1 rfl (Jx rfl ?_)))))))))))
  refine Jp (o' := 0) zCm rfl sz25 rfl rfl rfl (Qc uz25 rfl hs 4 rfl rfl (J7 rfl (Qg en95 (append_sl hM.toK (hs.arr [5, 0, 1, 2, 3, 4] 6 (by decide)) (by omega) mtN (x := fr) (Rd.own 0 rfl) rfl (by omega) hap1) ?_))); clear hs; rintro _ w ⟨rfl, hs⟩; refine J6 rfl (zA6 (zA4 (zA4 ?_)))
  obtain ⟨rfl, hdn, hne, hcr⟩ | ⟨rfl, hup, k2, d2, hsy, hsr, hsc, hscase⟩ := hacase
  ·
   refine zA2 (J8 rfl (Qa (zDl (ad := ad) rfl) (zA6 (zAz rfl (rfl) (zAd (zA4 (zA4 (zA2 (J8 rfl (Jv (ad := ad) rfl (zA6 ?_))))))))))); refine zBc rfl (rfl) (zA4 (zA2 (J8 rfl (J6 rfl (zA6 (zAe (zBi (v := zAk ad _) rfl rfl ?_)))))))
   exact ⟨_, rfl, 110, da, V, q, c, mb.length, rfl, ⟨har, by omega, .inr ⟨rfl, hdn, hne, rfl, rfl, rfl, rfl, fun picks => ⟨0, by rw [List.take_zero, List.append_nil, updF_self hf]; exact hcr (hs.openD).1 picks⟩⟩⟩, Mem.closeL (hs.arr [5, 3, 0] 6 (by decide))⟩
  ·
   refine zA2 (J8 rfl (Qa (zDl (ad := ad) rfl) (zA6 (zBc rfl (rfl) (zA4 (zA2 (J1 rfl (Jx rfl (Jp (o' := 0) zCm rfl sz25 rfl rfl rfl (Qc uz25 rfl hs 5 rfl rfl (Qg en96 (sync_sl hM.toK hs (by omega) mtN hsy) ?_))))))))))); clear hs; rintro _ w ⟨rfl, hs⟩; refine J6 rfl (zA6 (zA4 ?_))
   obtain ⟨rfl, hup2, har2, hI2⟩ | ⟨rfl, hdn2, hne2, hcr2⟩ := hscase
   ·
    refine zA2 (J8 rfl (Jv (ad := ad) rfl (zA6 (zAz rfl (rfl) (zAd (zA4 (zA4 (zA2 (J8 rfl (Jv (ad := ad) rfl (zA6 ?_))))))))))); refine zAz rfl (rfl) (zAd (zA4 ?_)); have hI3 := hI2 (hs.openD).1; refine zAq zBk (hs.drop 5) ?_; intro w tr hK; replace hs := tr _ hs; clear tr; refine Q0 0 rfl rfl hK (Q0 1 rfl rfl hK (Q0 2 rfl rfl hK ?_))
    refine Q0 3 rfl rfl hK (Q0 4 rfl rfl hK (Q7 5 rfl rfl hK (Q6 6 rfl (o' := 3) zCm rfl sz2 rfl rfl rfl hK (Q0 9 rfl rfl hK (Q7 10 rfl rfl hK (Q6 11 rfl (o' := 5) zCm rfl sz3 rfl rfl rfl hK (Q3 13 rfl rfl hK (Qb 14 rfl (fun w hs => zAu zC6 rfl) hK (zAc [7, 12] ⟨⟨_, rfl, ?_⟩, ⟨_, rfl, ?_⟩, trivial⟩)))))))))
    refine Qc uz2 rfl hs 5 rfl rfl ?_; clear hK; have hK := hs.drop 5; refine zA6 ⟨hK, ?_⟩; refine Qb 8 rfl (fun w hs => zAo rfl rfl (c := ((q + 1 : Nat) : Int)) (by omega) (inI (by omega) (by omega))) hK (zAc [12] ⟨⟨_, rfl, ?_⟩, trivial⟩); refine Qc uz3 rfl hs 5 rfl rfl ?_; clear hK; have hK := hs.drop 5; refine zA6 ⟨hK, ?_⟩; refine Qb 15 rfl (fun w hs => zAo rfl rfl (c := ((mb.length + fr.length : Nat) : Int)) (by omega) (inI (by omega) (by omega))) hK ?_
    rotate_left
    refine Qc uz3 rfl hs 5 rfl rfl ?_; clear hK; have hK := hs.drop 5; refine zA6 ⟨hK, ?_⟩; refine Qb 15 rfl (fun w hs => zAo rfl rfl (c := ((mb.length + fr.length : Nat) : Int)) (by omega) (inI (by omega) (by omega))) hK (zAc [7] ⟨⟨_, rfl, ?_⟩, trivial⟩); refine Qc uz2 rfl hs 5 rfl rfl ?_; clear hK; have hK := hs.drop 5; refine zA6 ⟨hK, ?_⟩; refine Qb 8 rfl (fun w hs => zAo rfl rfl (c := ((q + 1 : Nat) : Int)) (by omega) (inI (by omega) (by omega))) hK ?_
    rotate_left
    all_goals
     refine Q7 16 rfl rfl hK (Q6 17 rfl (o' := 2) zCm rfl sz54 rfl rfl rfl hK (zAc [18] ⟨⟨_, rfl, ?_⟩, trivial⟩)); refine zB0 (v := .pointer (some _)) hs 5 rfl sz54 rfl rfl rfl rfl ?_; clear hs; intro w hs
     try simp only [zzs, zzz] at hs
     clear hK; have hK := hs.drop 5; refine zA6 ⟨hK, ?_⟩; refine Q7 19 rfl rfl hK (Q6 20 rfl (o' := 3) zCm rfl sz2 rfl rfl rfl hK (zAc [21] ⟨⟨_, rfl, ?_⟩, trivial⟩)); refine zB0 (v := .int .i64 _) hs 5 rfl sz2 rfl rfl rfl rfl ?_; clear hs; intro w hs
     try simp only [zzs, zzz] at hs
     clear hK; have hK := hs.drop 5; refine zA6 ⟨hK, ?_⟩; refine Q7 22 rfl rfl hK (Q6 23 rfl (o' := 5) zCm rfl sz3 rfl rfl rfl hK (zAc [24] ⟨⟨_, rfl, ?_⟩, trivial⟩)); refine zB0 (v := .int .i64 _) hs 5 rfl sz3 rfl rfl rfl rfl ?_; clear hs; intro w hs
     try simp only [zzs, zzz] at hs
     clear hK; have hK := hs.drop 5; refine zA6 ⟨hK, ?_⟩; refine zAs (by kernel_rfl) ?_; clear hK; refine zA4 (zA4 (zA2 (J1 rfl (Jx rfl (Jp (o' := 4) zCm rfl sz3 rfl rfl rfl (Qc uz3 rfl hs 5 rfl rfl (Jo rfl rfl (c := ((c + 1 : Nat) : Int)) (by omega) (inI (by omega) (by omega)) (Jx rfl (Jp (o' := 4) zCm rfl sz3 rfl rfl rfl (zB0 (v := .int .i64 _) hs 5 rfl sz3 rfl rfl rfl rfl ?_)))))))))); clear hs; intro w hs
     try simp only [zzs, zzz] at hs
     refine zA6 (zA4 (zAq zBk hs ?_)); intro w tr hK; replace hs := tr _ hs; clear tr; refine Q0 0 rfl rfl hK (Q7 1 rfl rfl hK (Q6 2 rfl (o' := 4) zCm rfl sz3 rfl rfl rfl hK (Qd 3 rfl uz3 rfl (fun w hs => hs.cellAt 5 rfl rfl) hK (Q0 4 rfl rfl hK (Q7 5 rfl rfl hK (Q6 6 rfl (o' := 1) zCm rfl sz3 rfl rfl rfl hK (Qd 7 rfl uz3 rfl (fun w hs => hs.cellAt 5 rfl rfl) hK ?_)))))))
     refine Qb 8 rfl (fun w hs => zD5 rfl rfl) hK (zAs (by kernel_rfl) ?_); clear hK; refine zAz rfl (decide_eq_false (by omega)) (zAd (zA4 (zA2 (J3 rfl (zA6 (zAe (zBi (v := .nilIface) rfl rfl ?_))))))); exact ⟨_, rfl, 0, d2, V1, q + 1, c + 1, mb.length + fr.length, (zB ad).symm, ⟨hsr, by omega, .inl ⟨rfl, hup2, har2, rfl, rfl, rfl, rfl, hI3⟩⟩, Mem.closeL (hs.arr [5, 2, 0] 6 (by decide))⟩
   ·
    refine zA2 (J8 rfl (Jv (ad := ad) rfl (zA6 (zBc rfl (rfl) (zAq zBk (hs.drop 0) ?_))))); intro w tr hK; replace hs := tr _ hs; clear tr; refine Q0 0 rfl rfl hK (Q7 1 rfl rfl hK (Q6 2 rfl (o' := 0) zCm rfl sz25 rfl rfl rfl hK (Qd 3 rfl uz25 rfl (fun w hs => hs.cellAt 4 rfl rfl) hK (Q0 4 rfl rfl hK (Q7 5 rfl rfl hK ?_)))))
    refine Q6 6 rfl (o' := 5) zCm rfl sz3 rfl rfl rfl hK (Qd 7 rfl uz3 rfl (fun w hs => hs.cellAt 4 rfl rfl) hK (zAc [8] ⟨⟨_, rfl, ?_⟩, trivial⟩)); refine Qg en97 (cut_sl hM.toK hs (by omega) mtN (m := ((mb.length : Nat) : Int)) (inI (by omega) (by omega)) (Dk.cut_down hdn2 mtN _)) ?_; clear hs; rintro _ w ⟨rfl, hs⟩; clear hK; have hK := hs.drop 0; refine zA6 ⟨hK, ?_⟩; refine zAs (by kernel_rfl) ?_; clear hK; refine zA4 (zA4 (zA2 (J8 rfl (Jv (ad := ad) rfl (zA6 (zBc rfl (rfl) (zA4 (zA2 ?_))))))))
    refine J8 rfl (J6 rfl (zA6 (zAe (zBi (v := zAk ad _) rfl rfl ?_)))); exact ⟨_, rfl, 110, d2, V, q, c, mb.length, rfl, ⟨hsr, by omega, .inr ⟨rfl, hdn2, hne2, rfl, rfl, rfl, rfl, hcr2 (hs.openD).1⟩⟩, Mem.closeL (hs.arr [5, 3, 0] 6 (by decide))⟩
end
section
open Go.RowKit
attribute [local irreducible] zAk eV
variable {g w : World} {L M : List HP} {ad : Nat → Addr}
theorem numsF_len : ∀ l : List Int, (zF0 l).length ≤ 10 * l.length
  | [] => by simp [zF0]
  | z :: l => by
    have h1 := numsF_len l; have h2 := zGn 10 (zig z); simp only [zF0, zBa, List.length_append, List.length_cons]
    omega
theorem numsL_len (l : List Int) : (zFe l).length ≤ 10 * l.length + 10 := by
  have h1 := numsF_len l; have h2 := zGn 10 l.length; simp only [zFe, zBa, List.length_append]
  omega
theorem numsF_take {l : List Int} {i : Nat} {z : Int} (h : l[i]? = some z) : zF0 (l.take (i + 1)) = zF0 (l.take i) ++ zBa (zig z) := by
  rw [List.take_add_one, h, Option.toList_some, numsF_app]
  simp [zF0]
theorem nums_sl (hs : Mem g w L) {a : Option Addr} {n c : Nat} {l : List Int} (hr : Rd g L (.slice a n c) (zCz l)) (hn : n = l.length) (hl : ∀ z ∈ l, zDo z) (hlen : l.length ≤ 1000) :
    Calls Tryz.prog 149 #[.slice a n c] w (Ret fun v w' => ∃ a c, v = .slice a (zFe l).length c ∧ Mem g w' (own (.slice a (zFe l).length c) (zAn (zFe l)) :: L)) := by
  subst hn; have hvl := zGn 10 l.length
  have hfl : ∀ i, (zF0 (l.take i)).length ≤ 10 * l.length := fun i => Nat.le_trans (numsF_len _) (by rw [List.length_take]; omega)
  refine zAh Tryz.func149 rfl rfl ?_
  refine zA4 (zA2 (Jb rfl (zA6 (zA4 (zA2 (J7 rfl (Js uz173 rfl (Jy uz3 zCg rfl (c := ((l.length : Nat) : Int)) (by rw [zCf]; omega) ?_)))))))); refine Qg en142 (zFd hs (lb := []) (n := l.length) Rd.nil rfl (by decide) (by omega)) ?_; clear hs; rintro _ w ⟨a9, c9, rfl, hs⟩; refine Jb rfl (zA6 (zA4 (zA4 (zA2 (J7 rfl (Js uz173 rfl (J0 rfl (zA6 (zAp ?_)))))))))
  refine zBs (X := Nat × Option Addr × Nat) [3, 5, 12, 13, 14, 15, 16, 17, 18, 19] (fun x => [(3, .slice x.2.1 (zBa l.length ++ zF0 (l.take x.1)).length x.2.2), (12, .int .i64 (x.1 : Nat))]) (fun x w => x.1 ≤ l.length ∧ Mem g w (own (.slice x.2.1 (zBa l.length ++ zF0 (l.take x.1)).length x.2.2) (zAn (zBa l.length ++ zF0 (l.take x.1))) :: L)) (fun x => l.length - x.1) ((0, a9, c9)) ?_ ?_ ?_
  · exact ⟨by simp [zF0]; rfl, rfl, trivial⟩
  · exact ⟨Nat.zero_le _, by simpa [zF0] using hs⟩
  clear hs; rintro x ξ w hI; obtain ⟨i, oa, oc⟩ := x; obtain ⟨hi, hs⟩ := hI; simp only at hi hs
  show cw _ _ _ _ _ _ (updL (mix _ ξ _) [(3, .slice oa (zBa l.length ++ zF0 (l.take i)).length oc), (12, .int .i64 (i : Nat))]) w
  refine zA4 (zA2 (Jn rfl rfl (zA6 (zA4 (zB2 rfl ?_ ?_)))))
  ·
   intro h13; have g13 := of_decide_eq_true h13; obtain ⟨z, hz⟩ : ∃ z, l[i]? = some z := ⟨_, List.getElem?_eq_getElem (by omega)⟩; have hzi := hl z (List.mem_of_getElem? hz); obtain ⟨b0, o0, rfl, _⟩ := hr.cons.cells' hs (by rw [zG]; omega); refine zAd (zA4 (zAp (zA4 (zA2 (Qa (zB5 uz173 sz2 rfl rfl rfl (by omega) rfl) (Jq uz2 rfl rfl (hr.cons.cellAt hs (zFn hz)) (J4 rfl (zA6 (zA2 (J7 rfl (J0 rfl ?_)))))))))))
   refine Qg en175 (putint_sl hs (lb := zBa l.length ++ zF0 (l.take i)) (z := zig z) (hs.rdOwn 0 rfl) rfl (by rw [List.length_append]; have := hfl i; unfold zBa; omega) rfl rfl rfl rfl (zig_bits hzi) (zig_lt hzi)) ?_; clear hs; rintro _ w ⟨a18, c18, rfl, hs⟩; refine Jb rfl (zA6 (zA2 (Jo rfl rfl rfl (inI (by omega) (by omega)) (J0 rfl (zA6 ?_))))); rw [List.append_assoc, ← numsF_take hz] at hs
   exact ⟨(i + 1, a18, c18), by simp only; omega, ⟨by simp only; omega, hs.drop 1⟩, ⟨show Value.slice a18 (zBa l.length ++ zF0 (l.take i) ++ zBa (zig z)).length c18 = Value.slice a18 (zBa l.length ++ zF0 (l.take (i + 1))).length c18 from by rw [List.append_assoc, ← numsF_take hz], rfl, trivial⟩, by repeat (first | exact Out.mix _ _ _ | refine Out.updo rfl ?_ | refine Out.upd rfl ?_ | refine Out.mixIn rfl ?_)⟩
  ·
   intro h13; have g13 := of_decide_eq_false h13; refine zBm rfl (zA4 (zA2 (J7 rfl (Jb rfl (zA6 (zAe (zBi (v := .slice _ _ _) rfl rfl ?_)))))))
   have e : i = l.length := by omega
   subst e; rw [List.take_length] at hs ⊢; exact ⟨_, rfl, oa, oc, rfl, hs⟩
def rnAt (b : List UInt8) : Nat := (rloop (vnum 4096 b (0, 0)).1 b (vnum 4096 b (0, 0)).2 []).2.1
theorem rnums_sl (hE : ErrW ad g) (hs : Mem g w L) {a : Option Addr} {n c : Nat} {b : List UInt8} (hr : Rd g L (.slice a n c) (zAn b)) (hn : n = b.length) (hlen : b.length ≤ 100000000) {k : Nat} {l : List Int} (hk : rnums b = (k, l)) :
    Calls Tryz.prog 92 #[.slice a n c] w (Ret fun v w' => ∃ a c eb, v = .tuple #[.slice a l.length c, eV ad k eb] ∧ (∀ z ∈ l, zDo z) ∧ Mem g w' (own (.slice a l.length c) (zCz l) :: errC ad eb (rnAt b) k :: L)) := by
  obtain ⟨m, st, hv⟩ : ∃ m st, vnum 4096 b (0, 0) = (m, st) := ⟨_, _, rfl⟩
  have hm4 : m ≤ 4096 := by
    have h := congrArg Prod.fst hv; simp only [vnum] at h
    split at h
    · simp at h; omega
    · split at h
      · simp at h; omega
      · split at h
        · simp at h; omega
        · rename_i h1 h2 h3; rw [← h]; exact Nat.not_lt.1 h3
  obtain ⟨fo, fst, hf⟩ : ∃ fo fst, rloop m b st [] = (fo, fst) := ⟨_, _, rfl⟩; simp only [rnums, hv, hf] at hk
  have hat : rnAt b = fst.1 := by simp only [rnAt, hv, hf]
  have hwm : ∀ q : Nat, 0 < q → q ≤ 4096 → IntKind.u64.wrap ((q : Int) - 1) = ((q - 1 : Nat) : Int) := fun q h1 h2 => by rw [zCf]; omega
  refine zAh Tryz.func92 rfl rfl ?_
  refine zA4 (zA2 (Jb rfl (J3 rfl (zA6 (zA4 (zA2 (J7 rfl (Qg en113 (newr_sl ad hs hr hn (by omega)) ?_)))))))); clear hs; rintro _ w ⟨rb, rfl, hs⟩; refine Jd rfl (zA6 (zA4 (zA2 (Jb rfl (zA6 (zA4 (zA4 (zA2 (J1 rfl (zAa rfl zE7 (num_sl hE hs (by omega) hv) ?_)))))))))); clear hs; rintro _ w ⟨rfl, hs⟩; refine Ji rfl (zA6 (zAp ?_))
  refine zBs (X := Nat × List Int × (Nat × Nat) × Option Addr × Nat) [5, 6, 11, 12, 13, 14, 15, 16, 17, 18, 19, 20, 21, 22, 23, 24] (fun x => [(5, .slice x.2.2.2.1 x.2.1.length x.2.2.2.2), (6, .int .u64 (x.1 : Nat))]) (fun x w => x.1 + x.2.1.length ≤ 4096 ∧ (∀ z ∈ x.2.1, zDo z) ∧ rloop x.1 b x.2.2.1 x.2.1 = (fo, fst) ∧ Mem g w (own (.slice x.2.2.2.1 x.2.1.length x.2.2.2.2) (zCz x.2.1) :: RdrC rb ad b x.2.2.1 :: L)) (fun x => x.1) ((m, [], st, none, 0)) ?_ ?_ ?_
  · exact ⟨rfl, rfl, trivial⟩
  · exact ⟨by simp; omega, fun z hz => by simp at hz, hf, hs.addE (zDn _)⟩
  clear hs; rintro x ξ w hI; obtain ⟨q, out, sq, oa, oc⟩ := x; obtain ⟨hq, hoz, hrl, hs⟩ := hI; simp only at hq hoz hrl hs
  show cw _ _ _ _ _ _ (updL (mix _ ξ _) [(5, .slice oa out.length oc), (6, .int .u64 (q : Nat))]) w
  refine zA4 (zA4 (zA2 (Jh rfl (Jt rfl rfl (J2 rfl (zB3 (t := _) (d := 13) rfl ?_ ?_))))))
  ·
   intro h12; have g12 := of_decide_eq_true h12; obtain ⟨q, rfl⟩ : ∃ q', q = q' + 1 := ⟨q - 1, by omega⟩; simp only [rloop] at hrl; refine zAl rfl rfl h12 (J1 rfl (zAl rfl rfl h12 (Qg en115 (err_sl (hs.arr [1, 0] 2 (by decide))) ?_))); clear hs; rintro _ w ⟨e15, rfl, hs⟩; refine zAl rfl rfl h12 (Qa (run_eqE (ad := ad) rfl) (Ja rfl h12 rfl (zA6 (zB2 rfl ?_ ?_))))
   ·
    intro h16; have g16 := of_decide_eq_true h16; have hz0 := of_decide_eq_true h16; rw [if_neg (by omega)] at hrl; obtain ⟨z, sz, hvz⟩ : ∃ z sz, vintS b sq = (z, sz) := ⟨_, _, rfl⟩; rw [hvz] at hrl; simp only at hrl; refine zAd (zA4 (zAp (zA2 (J7 rfl (J1 rfl (Qg en131 (int_sl hE hs (by omega) hvz) ?_)))))); clear hs; rintro _ w ⟨rfl, hzi, hs⟩; refine zB4 hs rfl ((zCz [z])) uz173 zs2 rfl (zEk (intsL_one _)) rfl rfl rfl ?_; clear hs; intro b23 w hs
    try simp only [zzs, zzz] at hs
    refine zD3 hs rfl 2 rfl uz173 in2 rfl rfl rfl (zCr (P := Tryz.prog) uz173 ((Rd.cells (n := 1) (cs := zCz [z]) 0 rfl rfl).seq hs) (intsL_one [z])) (by simp only [zG, List.length_cons, List.length_nil]; omega) (by simp only [zG, List.length_cons, List.length_nil]; omega) ?_; clear hs; intro a24 c24 w hs; simp only [zzs, zzz] at hs; refine Jb rfl (zA6 (zA2 (Jh rfl (Qa (run_sub rfl rfl) ?_)))); rw [hwm (q + 1) (by omega) (by omega)]; refine Ji rfl (zA6 ?_)
    have e1 : zCz out ++ zCz [z] = zCz (out ++ [z]) := (intsL_app _ _).symm
    have e2 : (zCz out).length + (zCz [z]).length = (out ++ [z]).length := by simp [zG]
    rw [e1, e2] at hs; exact ⟨(q, out ++ [z], sz, a24, c24), by simp only; omega, ⟨by simp only [List.length_append, List.length_cons, List.length_nil]; omega, fun y hy => by rcases List.mem_append.1 hy with h | h; exact hoz y h; simp at h; subst h; exact hzi, hrl, hs.arr [2, 1] 3 (by decide)⟩, ⟨show Value.slice a24 ((zCz out).length + (zCz [z]).length) c24 = Value.slice a24 (out ++ [z]).length c24 from by rw [e2], rfl, trivial⟩, by repeat (first | exact Out.mix _ _ _ | refine Out.updo rfl ?_ | refine Out.upd rfl ?_ | refine Out.mixIn rfl ?_)⟩
   ·
    intro h16; have g16 := of_decide_eq_false h16; have hz0 := of_decide_eq_false h16; rw [if_pos hz0] at hrl
    cases hrl
    refine zBm rfl (zA4 (zA4 (zA2 (J1 rfl (Qg en115 (err_sl hs) ?_))))); clear hs; rintro _ w ⟨e26, rfl, hs⟩; refine Qa (run_neE (ad := ad) rfl) (zA6 (zB2 rfl ?_ ?_))
    ·
     intro h27; have g27 := zFj h27
     have hz1 : fst.2 ≠ 0 := by simpa using h27
     rw [if_pos hz1] at hk
     cases hk
     refine zA4 (zA2 (J1 rfl (Qg en115 (errC_sl hs) ?_))); clear hs; rintro _ w ⟨e29, rfl, hs⟩; refine Jb rfl (Jl (v := eV ad _ _) rfl (zA6 (zAe (zEd (v := .slice _ _ _) (v2 := eV ad _ _) rfl rfl rfl ?_)))); rw [hat]; exact ⟨_, rfl, none, 0, e29, rfl, fun z hz => by simp at hz, (hs.drop 1).addE (zDn _)⟩
    ·
     intro h27; have g27 := zFi h27
     have hz1 : fst.2 = 0 := by simpa using h27
     rw [if_neg (by omega)] at hk; refine zAd (zA4 (zA4 (zA2 (J1 rfl (Qg en132 (left_sl hs (by omega)) ?_))))); clear hs; rintro _ w ⟨rfl, hle, hs⟩; refine Jt rfl rfl (zA6 (zB2 rfl ?_ ?_))
     ·
      intro h32; have g32 := of_decide_eq_true h32; rw [if_pos (by omega)] at hk
      cases hk
      refine zA4 (zAq zBk hs ?_); intro w tr hK; replace hs := tr _ hs; clear tr; refine Q0 0 rfl rfl hK (Qd 2 rfl zCq rfl (fun w hs => hE.cellW hs 104 (by decide) rfl) hK (zAc [1] ⟨⟨_, rfl, ?_⟩, trivial⟩)); refine Qg en117 (at_sl hs) ?_; clear hs; rintro _ w ⟨rfl, hs⟩; clear hK; have hK := hs; refine zA6 ⟨hK, ?_⟩; refine @zFs _ _ _ _ _ _ _ _ _ _ _ _ _ _ 3 _ rfl (by kernel_rfl) (by kernel_rfl) (by kernel_rfl) rfl (fun w hs => zBg [.int .i64 fst.1, zAk ad 104] uz114 ze114 pl114 rfl (at_one _ _) rfl rfl) hK (Q5 6 rfl (v := .slice _ _ _) rfl hK ?_)
      refine zAc [4] ⟨⟨_, rfl, ?_⟩, trivial⟩; refine zBp (v := .agg _) hs rfl rfl ?_; clear hs; intro b37 w hs; clear hK; have hK := hs.tail; refine zA6 ⟨hK, ?_⟩; refine Qb 5 rfl (fun w hs => run_mkI uz112 rfl) hK (Q5 7 rfl (v := .iface _ (.pointer (some _))) rfl hK (zAs (by kernel_rfl) ?_)); clear hK; refine zAe (zEd (v := .slice _ _ _) (v2 := .iface _ (.pointer (some _))) rfl rfl rfl ?_); rw [hat]; refine ⟨_, rfl, none, 0, b37, by rw [eV_at (by decide) (by decide)]; rfl, fun z hz => by simp at hz, ?_⟩; rw [errC_at (by decide)]; exact (hs.arr [0] 3 (by decide)).addE (zDn _)
     ·
      intro h32; have g32 := of_decide_eq_false h32; rw [if_neg (by omega)] at hk
      cases hk
      refine zAd (zA4 (zA2 (J7 rfl (Jb rfl (J3 rfl (zA6 (zAe (zEd (v := .slice _ _ _) (v2 := .nilIface) rfl rfl rfl ?_)))))))); exact ⟨_, rfl, oa, oc, 0, by rw [eV_0], hoz, by rw [errC_bare (.inl rfl)]; exact (hs.addE (emp_ok _)).arr [2, 0] 3 (by decide)⟩
  ·
   intro h12; have g12 := of_decide_eq_false h12
   obtain rfl : q = 0 := by omega
   cases hrl
   replace hs := hs.arr [1, 0] 2 (by decide); refine Qe rfl rfl h12 (Qe rfl rfl h12 (Qe rfl rfl h12 (J9 rfl h12 rfl (zA6 (zAz rfl rfl (zBm rfl (zA4 (zA4 (zA2 (J1 rfl (Qg en115 (err_sl hs) ?_))))))))))); clear hs; rintro _ w ⟨e26, rfl, hs⟩; refine Qa (run_neE (ad := ad) rfl) (zA6 (zB2 rfl ?_ ?_))
   ·
    intro h27; have g27 := zFj h27
    have hz1 : fst.2 ≠ 0 := by simpa using h27
    rw [if_pos hz1] at hk
    cases hk
    refine zA4 (zA2 (J1 rfl (Qg en115 (errC_sl hs) ?_))); clear hs; rintro _ w ⟨e29, rfl, hs⟩; refine Jb rfl (Jl (v := eV ad _ _) rfl (zA6 (zAe (zEd (v := .slice _ _ _) (v2 := eV ad _ _) rfl rfl rfl ?_)))); rw [hat]; exact ⟨_, rfl, none, 0, e29, rfl, fun z hz => by simp at hz, (hs.drop 1).addE (zDn _)⟩
   ·
    intro h27; have g27 := zFi h27
    have hz1 : fst.2 = 0 := by simpa using h27
    rw [if_neg (by omega)] at hk; refine zAd (zA4 (zA4 (zA2 (J1 rfl (Qg en132 (left_sl hs (by omega)) ?_))))); clear hs; rintro _ w ⟨rfl, hle, hs⟩; refine Jt rfl rfl (zA6 (zB2 rfl ?_ ?_))
    ·
     intro h32; have g32 := of_decide_eq_true h32; rw [if_pos (by omega)] at hk
     cases hk
     refine zA4 (zAq zBk hs ?_); intro w tr hK; replace hs := tr _ hs; clear tr; refine Q0 0 rfl rfl hK (Qd 2 rfl zCq rfl (fun w hs => hE.cellW hs 104 (by decide) rfl) hK (zAc [1] ⟨⟨_, rfl, ?_⟩, trivial⟩)); refine Qg en117 (at_sl hs) ?_; clear hs; rintro _ w ⟨rfl, hs⟩; clear hK; have hK := hs; refine zA6 ⟨hK, ?_⟩; refine @zFs _ _ _ _ _ _ _ _ _ _ _ _ _ _ 3 _ rfl (by kernel_rfl) (by kernel_rfl) (by kernel_rfl) rfl (fun w hs => zBg [.int .i64 fst.1, zAk ad 104] uz114 ze114 pl114 rfl (at_one _ _) rfl rfl) hK (Q5 6 rfl (v := .slice _ _ _) rfl hK ?_)
     refine zAc [4] ⟨⟨_, rfl, ?_⟩, trivial⟩; refine zBp (v := .agg _) hs rfl rfl ?_; clear hs; intro b37 w hs; clear hK; have hK := hs.tail; refine zA6 ⟨hK, ?_⟩; refine Qb 5 rfl (fun w hs => run_mkI uz112 rfl) hK (Q5 7 rfl (v := .iface _ (.pointer (some _))) rfl hK (zAs (by kernel_rfl) ?_)); clear hK; refine zAe (zEd (v := .slice _ _ _) (v2 := .iface _ (.pointer (some _))) rfl rfl rfl ?_); rw [hat]; refine ⟨_, rfl, none, 0, b37, by rw [eV_at (by decide) (by decide)]; rfl, fun z hz => by simp at hz, ?_⟩; rw [errC_at (by decide)]; exact (hs.arr [0] 3 (by decide)).addE (zDn _)
    ·
     intro h32; have g32 := of_decide_eq_false h32; rw [if_neg (by omega)] at hk
     cases hk
     refine zAd (zA4 (zA2 (J7 rfl (Jb rfl (J3 rfl (zA6 (zAe (zEd (v := .slice _ _ _) (v2 := .nilIface) rfl rfl rfl ?_)))))))); exact ⟨_, rfl, oa, oc, 0, by rw [eV_0], hoz, by rw [errC_bare (.inl rfl)]; exact (hs.addE (emp_ok _)).arr [2, 0] 3 (by decide)⟩
end
section
open Go.RowKit
attribute [local irreducible] zAk eV
variable {g w : World} {L M : List HP} {ad : Nat → Addr} {p : Nat} {d : Dk}
def jourCodes : List Nat := [101, 102, 103, 104, 105, 106, 107, 108, 109, 110]
abbrev ErrJ (ad : Nat → Addr) (g : World) : Prop := Errs jourCodes ad g.heap.size g
def nUp : ByteArray := ⟨#[117, 112, 108, 111, 97, 100]⟩
def inR (z : Int) : Bool := decide (0 ≤ z) && decide (z ≤ 2147483647)
def jst (r : Nat × List UInt8) : Nat × Bool × Int × Int × Int × Int :=
  if r.1 = 110 then (110, false, 0, 0, 0, 0) else match rnums r.2 with
    | (0, [x, y, z, u]) => if r.1 = 0 ∧ [x, y, z, u].all inR = true then (0, true, x, y, z, u) else (0, false, 0, 0, 0, 0)
    | _ => (0, false, 0, 0, 0, 0)
theorem openL_code (b : List UInt8) : ((openL b).1 = 0 ∨ (openL b).1 = 101 ∨ (openL b).1 = 102) ∧ (openL b).2.length ≤ b.length := by
  unfold openL
  split
  · exact ⟨.inr (.inl rfl), Nat.zero_le _⟩
  · split
    · exact ⟨.inl rfl, by simp⟩
    · exact ⟨.inr (.inr rfl), Nat.zero_le _⟩
theorem Dk.readR_code (n : ByteArray) (x y : Int) (d : Dk) : (d.readR n x y).1 = 0 ∨ (d.readR n x y).1 = 105 ∨ (d.readR n x y).1 = 107 ∨ (d.readR n x y).1 = 110 := by
  unfold Dk.readR Dk.file
  cases d.down with
  | true => exact .inr (.inr (.inr rfl))
  | false =>
    cases zAx d.names n with
    | none => exact .inr (.inr (.inl rfl))
    | some i =>
      simp only [Bool.false_eq_true, if_false]
      split
      · exact .inr (.inl rfl)
      · exact .inl rfl
theorem Dk.ok.pread_fine (h : d.ok) (n : ByteArray) : ((d.pread n).1 = 0 ∨ (d.pread n).1 ∈ jourCodes) ∧ (d.pread n).2.length ≤ 4194304 := by
  unfold Dk.pread
  have h1 := d.lenR_code n; have h2 := d.readR_code n 0 ((d.lenR n).2 : Int); have h3 := openL_code (d.readR n 0 ((d.lenR n).2 : Int)).2; have h4 := h.lenR_le n; have h5 := readR_len (d := d) (n := n) (m := (d.lenR n).2) rfl h4
  split
  · refine ⟨.inr ?_, Nat.zero_le _⟩
    rcases h1 with h | h | h
    · contradiction
    · simp only [h]; decide
    · simp only [h]; decide
  · split
    · refine ⟨.inr ?_, Nat.zero_le _⟩
      rcases h2 with h | h | h | h
      · contradiction
      · simp only [h]; decide
      · simp only [h]; decide
      · simp only [h]; decide
    · refine ⟨?_, Nat.le_trans h3.2 h5⟩
      rcases h3.1 with h | h | h
      · exact .inl h
      · exact .inr (by rw [h]; decide)
      · exact .inr (by rw [h]; decide)
theorem inR_iff {z : Int} : inR z = true ↔ 0 ≤ z ∧ z ≤ 2147483647 := by simp [inR]
theorem zGy {k k2 : Nat} {b : List UInt8} {l2 : List Int} (h2 : rnums b = (k2, l2)) (hk : k ≠ 110) (h : k ≠ 0 ∨ k2 ≠ 0 ∨ l2.length ≠ 4 ∨ ∃ z ∈ l2, inR z = false) : jst (k, b) = (0, false, 0, 0, 0, 0) := by
  simp only [jst, if_neg hk, h2]
  split
  · rename_i x y z u he
    cases he
    rw [if_neg]; rintro ⟨e1, e2⟩
    rcases h with h | h | h | ⟨q, hq, h⟩
    · exact h e1
    · exact h rfl
    · exact h rfl
    · have := List.all_eq_true.1 e2 q hq
      rw [h] at this
      cases this
  · rfl
theorem jst_some {x y z u : Int} {b : List UInt8} (h2 : rnums b = (0, [x, y, z, u])) (h : [x, y, z, u].all inR = true) : jst (0, b) = (0, true, x, y, z, u) := by
  simp only [jst, h2, if_neg (show ¬ (0 : Nat) = 110 by decide), h, and_self, if_true]
theorem list4 {l : List Int} (h : l.length = 4) : ∃ x y z u, l = [x, y, z, u] := by
  match l, h with
  | [x, y, z, u], _ => exact ⟨x, y, z, u, rfl⟩
def jV (j : Nat × Bool × Int × Int × Int × Int) : Value := .agg #[.int .i64 j.2.2.1, .int .i64 j.2.2.2.1, .int .i64 j.2.2.2.2.1, .int .i64 j.2.2.2.2.2]
set_option maxRecDepth 100000 in
theorem jread_sl (hE : ErrJ ad g) (hs : Mem g w (zB9 p d :: L)) {j : Nat × Bool × Int × Int × Int × Int} (hj : jst (d.pread nUp) = j) :
    Calls Tryz.prog 50 #[.pointer (some ⟨p, 0, none⟩)] w (Ret fun v w' => v = .tuple #[jV j, .bool j.2.1, zAk ad j.1] ∧ Mem g w' (zB9 p d :: L)) := by
  have hP : ErrP ad g := hE.sub (by decide); have hW : ErrW ad g := hE.sub (by decide); obtain ⟨ho, _⟩ := hs.openD; have hpf := ho.pread_fine nUp; obtain ⟨k, b, hk⟩ : ∃ k b, d.pread nUp = (k, b) := ⟨_, _, rfl⟩; rw [hk] at hj hpf; obtain ⟨hkc, hbl⟩ := hpf; simp only at hkc hbl; obtain ⟨k2, l2, hk2⟩ : ∃ k2 l2, rnums b = (k2, l2) := ⟨_, _, rfl⟩; refine zAh Tryz.func50 rfl rfl ?_
  refine zA4 (zA2 (zBj hs rfl ze103 ?_)); clear hs; intro b2 w hs
  try simp only [zzs, zzz] at hs
  refine J5 rfl (J3 rfl (zA6 (zA4 (zA2 (J1 rfl (Qg en91 (pread_sl hP (hs.arr [1, 0] 2 (by decide)) nUp hk) ?_)))))); clear hs; rintro _ w ⟨a13, c13, rfl, hs⟩; refine Jc rfl (Ju (v := .slice _ _ _) rfl rfl (Jg rfl rfl (Jb rfl (J6 rfl (zA6 (zA4 (zA4 (zA2 (J8 rfl (Jq zCq rfl rfl (hE.cellW hs 110 (by decide) rfl) ?_))))))))))
  refine Qa (zEj (hE.atW hs) hkc (by decide) rfl rfl) (zA6 (zB2 rfl ?_ ?_))
  ·
   intro h18; have g18 := of_decide_eq_true h18; have hz := of_decide_eq_true h18; subst hz; have hj2 : j = (110, false, 0, 0, 0, 0) := hj.symm; subst hj2; refine zA4 (zA2 (Qa (zBw zDg ze103 pl103 rfl) (J8 rfl (zAr hs 2 rfl rfl rfl zEa rfl rfl ?_)))); clear hs; intro w hs
   try simp only [zzs, zzz] at hs
   exact J5 rfl (J6 rfl (zA6 (zAe (resG [(.cell 2 103, .agg _), (.tmp 3, .bool _), (.tmp 4, zAk ad _)] rfl ⟨⟨_, rfl, zC3 hs 2 rfl zDg zEa⟩, rfl, rfl, trivial⟩ ⟨_, rfl, rfl, hs.arr [1] 3 (by decide)⟩))))
  ·
   intro h18; have g18 := of_decide_eq_false h18; have hz := of_decide_eq_false h18; refine zAd (zA4 (zA2 (J7 rfl (Qg en92 (rnums_sl hW hs (hs.rdOwn 0 rfl) rfl (by omega) hk2) ?_)))); clear hs; rintro _ w ⟨a23, c23, eb, rfl, hzi, hs⟩; refine Jc rfl (Ju (v := .slice _ _ _) rfl rfl (Ju (v := eV ad _ _) rfl rfl (Jb rfl (Jl (v := eV ad _ _) rfl (zA6 (zA4 (zA4 (zA2 (J8 rfl (Jv (ad := ad) rfl ?_))))))))))
   refine J2 rfl (zB3 (t := _) (d := 28) rfl ?_ ?_)
   ·
    intro h27; have g27 := zFj h27; have hj2 := (zGy hk2 hz (.inl (by simpa using h27))).symm.trans hj; subst hj2; refine Qe rfl rfl h27 (Qe rfl rfl h27 (Ja rfl h27 rfl (J2 rfl (Qe rfl rfl rfl (Qe rfl rfl rfl (Qe rfl rfl rfl (Ja rfl rfl rfl (zA6 (zBc rfl rfl (zA4 (zA2 ?_))))))))))); refine Qa (zBw zDg ze103 pl103 rfl) (zAr hs 4 rfl rfl rfl zEa rfl rfl ?_); clear hs; intro w hs
    try simp only [zzs, zzz] at hs
    refine J5 rfl (J3 rfl (zA6 (zAe (resG [(.cell 2 103, .agg _), (.tmp 3, .bool _), (.tmp 4, .nilIface)] rfl ⟨⟨_, rfl, zC3 hs 4 rfl zDg zEa⟩, rfl, rfl, trivial⟩ ?_)))); exact ⟨_, rfl, by rw [zB]; rfl, hs.arr [3] 5 (by decide)⟩
   ·
    intro h27; have g27 := zFi h27; refine zAl rfl rfl h27 (Jm (v := eV ad _ _) rfl (zAl rfl rfl h27 (Qa (run_neE (ad := ad) rfl) (J9 rfl h27 rfl (J2 rfl (zB3 (t := _) (d := 32) rfl ?_ ?_))))))
    ·
     intro h30; have g30 := zFj h30; have hj2 := (zGy hk2 hz (.inr (.inl (by simpa using h30)))).symm.trans hj; subst hj2; refine Qe rfl rfl h30 (Qe rfl rfl h30 (Qe rfl rfl h30 (Ja rfl h30 rfl (zA6 (zBc rfl rfl (zA4 (zA2 (Qa (zBw zDg ze103 pl103 rfl) (zAr hs 4 rfl rfl rfl zEa rfl rfl ?_))))))))); clear hs; intro w hs
     try simp only [zzs, zzz] at hs
     refine J5 rfl (J3 rfl (zA6 (zAe (resG [(.cell 2 103, .agg _), (.tmp 3, .bool _), (.tmp 4, .nilIface)] rfl ⟨⟨_, rfl, zC3 hs 4 rfl zDg zEa⟩, rfl, rfl, trivial⟩ ?_)))); exact ⟨_, rfl, by rw [zB]; rfl, hs.arr [3] 5 (by decide)⟩
    ·
     intro h30; have g30 := zFi h30; refine zAl rfl rfl h30 (J7 rfl (zAl rfl rfl h30 (Js uz173 rfl (zAl rfl rfl h30 (Qa (zDy rfl rfl) (J9 rfl h30 rfl (zA6 (zB2 rfl ?_ ?_))))))))
     ·
      intro h35; have g35 := zFj h35; have hj2 := (zGy hk2 hz (.inr (.inr (.inl (by omega))))).symm.trans hj; subst hj2; refine zA4 (zA2 (Qa (zBw zDg ze103 pl103 rfl) (zAr hs 4 rfl rfl rfl zEa rfl rfl ?_))); clear hs; intro w hs
      try simp only [zzs, zzz] at hs
      refine J5 rfl (J3 rfl (zA6 (zAe (resG [(.cell 2 103, .agg _), (.tmp 3, .bool _), (.tmp 4, .nilIface)] rfl ⟨⟨_, rfl, zC3 hs 4 rfl zDg zEa⟩, rfl, rfl, trivial⟩ ?_)))); exact ⟨_, rfl, by rw [zB]; rfl, hs.arr [3] 5 (by decide)⟩
     ·
      intro h35; have g35 := zFi h35
      have hk0 : k = 0 := by simpa using h27
      have hk20 : k2 = 0 := by simpa using h30
      subst hk0 hk20; obtain ⟨x0, x1, x2, x3, rfl⟩ := list4 (show l2.length = 4 by omega); obtain ⟨q0, o0, rfl, _⟩ := hs.ownCells 0 rfl (by simp [zCz]); refine zAd (zA4 (zA4 (zA2 (J7 rfl (Js uz173 rfl (J0 rfl (zA6 (zAp ?_))))))))
      refine zBs (X := Nat) [3, 4, 10, 40, 41, 42, 43, 44, 45, 46, 47, 48, 49, 50, 51] (fun x => [(40, .int .i64 (x : Nat))]) (fun x w => x ≤ 4 ∧ (∀ z ∈ [x0, x1, x2, x3].take x, inR z = true) ∧ Mem g w (own (.slice (some ⟨q0, o0, none⟩) [x0, x1, x2, x3].length c23) (zCz [x0, x1, x2, x3]) :: errC ad eb (rnAt b) 0 :: own (.slice a13 b.length c13) (zAn b) :: zB9 p d :: cells b2 [.int .i64 0, .int .i64 0, .int .i64 0, .int .i64 0] 103 :: L)) (fun x => 4 - x) (0) ?_ ?_ ?_
      · exact ⟨rfl, trivial⟩
      · exact ⟨Nat.zero_le _, fun z hz => by simp at hz, hs⟩
      clear hs; rintro x ξ w hI; obtain ⟨hx4, hall, hs⟩ := hI; have hx4 : x ≤ 4 := hx4
      show cw _ _ _ _ _ _ (updL (mix _ ξ _) [(40, .int .i64 (x : Nat))]) w
      refine zA4 (zA2 (Jn rfl rfl (zA6 (zA4 (zB2 rfl ?_ ?_)))))
      ·
       intro h41; have g41 := of_decide_eq_true h41; obtain ⟨z, hz4⟩ : ∃ z, [x0, x1, x2, x3][x]? = some z := ⟨_, List.getElem?_eq_getElem (by simp at g41 ⊢; omega)⟩; have hzm := List.mem_of_getElem? hz4
       have hx3 : x < 4 := by simp at g41; omega
       refine zAd (zA4 (zAp (zA4 (zA2 (Qa (zB5 uz173 sz2 rfl rfl rfl (by simp at g41 ⊢; omega) rfl) (Jq (v := .int .i64 z) uz2 rfl rfl (hs.ownAt 0 rfl (zFn hz4)) (J4 rfl (zA6 (zA4 (zA2 (J0 rfl (Jn rfl rfl (J2 rfl ?_))))))))))))); refine zB3 (t := _) (d := 46) rfl ?_ ?_
       ·
        intro h45; have g45 := of_decide_eq_true h45; have hj2 := (zGy hk2 hz (.inr (.inr (.inr ⟨z, hzm, by simp [inR]; omega⟩)))).symm.trans hj; subst hj2; refine Qe rfl rfl h45 (Qe rfl rfl h45 (Ja rfl h45 rfl (zA6 (zBc rfl rfl (zA4 (zA2 (Qa (zBw zDg ze103 pl103 rfl) (zAr hs 4 rfl rfl rfl zEa rfl rfl ?_)))))))); clear hs; intro w hs
        try simp only [zzs, zzz] at hs
        refine J5 rfl (J3 rfl (zA6 (zAe (resG [(.cell 2 103, .agg _), (.tmp 3, .bool _), (.tmp 4, .nilIface)] rfl ⟨⟨_, rfl, zC3 hs 4 rfl zDg zEa⟩, rfl, rfl, trivial⟩ ?_)))); exact ⟨_, rfl, by rw [zB]; rfl, hs.arr [3] 5 (by decide)⟩
       ·
        intro h45; have g45 := of_decide_eq_false h45; refine zAl rfl rfl h45 (J0 rfl (zAl rfl rfl h45 (Jt rfl rfl (J9 rfl h45 rfl (zA6 (zB2 rfl ?_ ?_))))))
        ·
         intro h48; have g48 := of_decide_eq_true h48; have hj2 := (zGy hk2 hz (.inr (.inr (.inr ⟨z, hzm, by simp [inR]; omega⟩)))).symm.trans hj; subst hj2; refine zA4 (zA2 (Qa (zBw zDg ze103 pl103 rfl) (zAr hs 4 rfl rfl rfl zEa rfl rfl ?_))); clear hs; intro w hs
         try simp only [zzs, zzz] at hs
         refine J5 rfl (J3 rfl (zA6 (zAe (resG [(.cell 2 103, .agg _), (.tmp 3, .bool _), (.tmp 4, .nilIface)] rfl ⟨⟨_, rfl, zC3 hs 4 rfl zDg zEa⟩, rfl, rfl, trivial⟩ ?_)))); exact ⟨_, rfl, by rw [zB]; rfl, hs.arr [3] 5 (by decide)⟩
        ·
         intro h48; have g48 := of_decide_eq_false h48; refine zAd (zA2 (Jo rfl rfl rfl (inI (by omega) (by omega)) (J0 rfl (zA6 ?_)))); exact ⟨x + 1, by omega, ⟨by omega, fun y hy => by rw [List.take_add_one, hz4] at hy; rcases List.mem_append.1 hy with h | h; exact hall y h; simp at h; subst h; exact inR_iff.2 ⟨by omega, by omega⟩, hs⟩, ⟨rfl, trivial⟩, by repeat (first | exact Out.mix _ _ _ | refine Out.updo rfl ?_ | refine Out.upd rfl ?_ | refine Out.mixIn rfl ?_)⟩
      ·
       intro h41; have g41 := of_decide_eq_false h41
       have hx3 : ¬ x < 4 := by simp at g41; omega
       obtain rfl : x = 4 := by omega
       have hj2 := (jst_some hk2 (List.all_eq_true.2 hall)).symm.trans hj; subst hj2; refine zBm rfl (zA4 (zAq zBk (hs.drop 4) ?_)); intro w tr hK; replace hs := tr _ hs; clear tr; refine Q3 0 rfl rfl hK (Qb 1 rfl (fun w hs => zB5 uz173 sz2 rfl rfl rfl (show 0 < 4 by decide) rfl) hK (Qd 2 rfl uz2 rfl (fun w hs => hs.ownAt 0 rfl (j := 0) rfl) hK (Q3 3 rfl rfl hK (Qb 4 rfl (fun w hs => zB5 uz173 sz2 rfl rfl rfl (show 1 < 4 by decide) rfl) hK ?_))))
       refine Qd 5 rfl uz2 rfl (fun w hs => hs.ownAt 0 rfl (j := 1) rfl) hK (Q3 6 rfl rfl hK (Qb 7 rfl (fun w hs => zB5 uz173 sz2 rfl rfl rfl (show 2 < 4 by decide) rfl) hK (Qd 8 rfl uz2 rfl (fun w hs => hs.ownAt 0 rfl (j := 2) rfl) hK (Q3 9 rfl rfl hK (Qb 10 rfl (fun w hs => zB5 uz173 sz2 rfl rfl rfl (show 3 < 4 by decide) rfl) hK (Qd 11 rfl uz2 rfl (fun w hs => hs.ownAt 0 rfl (j := 3) rfl) hK ?_))))))
       refine Qb 12 rfl (fun w hs => zBg ([.int .i64 x0, .int .i64 x1, .int .i64 x2, .int .i64 x3]) zDg ze103 pl103 rfl (by simp [Value.cells]) rfl rfl) hK (zAc [13] ⟨⟨_, rfl, ?_⟩, trivial⟩); refine zAr hs 4 rfl rfl rfl zEa rfl rfl ?_; clear hs; intro w hs
       try simp only [zzs, zzz] at hs
       clear hK; have hK := hs.drop 4; refine zA6 ⟨hK, ?_⟩; refine Q5 14 rfl (v := .bool _) rfl hK (Q5 15 rfl (v := .nilIface) rfl hK (zAs (by kernel_rfl) ?_)); clear hK; refine zAe (resG [(.cell 2 103, .agg _), (.tmp 3, .bool _), (.tmp 4, .nilIface)] rfl ⟨⟨_, rfl, zC3 hs 4 rfl zDg zEa⟩, rfl, rfl, trivial⟩ ?_); exact ⟨_, rfl, by rw [zB]; rfl, hs.arr [3] 5 (by decide)⟩
def Dk.jwrite (l : List Int) (d : Dk) : Nat × Dk := if l.all inR = true then d.write nUp (zFe l) else (105, d)
theorem jwrite_sl (hJ : ErrJ ad g) (hcl : d.calls < 900000) (hs : Mem g w (zB9 p d :: L)) {x0 x1 x2 x3 : Int} (h0 : zDo x0) (h1 : zDo x1) (h2 : zDo x2) (h3 : zDo x3) {k : Nat} {d2 : Dk} (hk : d.jwrite [x0, x1, x2, x3] = (k, d2)) :
    Calls Tryz.prog 100 #[.pointer (some ⟨p, 0, none⟩), .agg #[.int .i64 x0, .int .i64 x1, .int .i64 x2, .int .i64 x3]] w (Ret fun v w' => v = zAk ad k ∧ Mem g w' (zB9 p d2 :: L)) := by
  have hE : ErrK ad g := hJ.sub (by decide); have hP : ErrP ad g := hJ.sub (by decide)
  have hl : ∀ z ∈ [x0, x1, x2, x3], zDo z := fun z hz => by
    simp only [List.mem_cons, List.not_mem_nil, or_false] at hz
    rcases hz with rfl | rfl | rfl | rfl <;> assumption
  refine zAh Tryz.func100 rfl rfl ?_
  refine zA4 (zA2 (zBp (v := .agg _) hs rfl rfl ?_)); clear hs; intro b3 w hs
  try simp only [zzs, zzz] at hs
  refine J3 rfl (zA6 (zA4 (zA2 (Jp (o' := 0) zDg rfl sz3 rfl rfl rfl (Qc uz3 rfl hs 0 rfl rfl (Jp (o' := 1) zDg rfl sz3 rfl rfl rfl (Qc uz3 rfl hs 0 rfl rfl (Jp (o' := 2) zDg rfl sz3 rfl rfl rfl (Qc uz3 rfl hs 0 rfl rfl (Jp (o' := 3) zDg rfl sz3 rfl rfl rfl (Qc uz3 rfl hs 0 rfl rfl (zB4 hs rfl ((zCz [x0, x1, x2, x3])) uz173 zs2 rfl (zEk (intsL_one _)) rfl rfl rfl ?_)))))))))))); clear hs; intro b16 w hs
  try simp only [zzs, zzz] at hs
  refine Jb rfl (zA6 (zA4 (zA4 (zA2 (J7 rfl (Js uz173 rfl (J0 rfl (zA6 (zAp (zBs (X := Nat) [4, 7, 19, 20, 21, 22, 23, 24, 25, 26, 27, 28, 29, 30] (fun x => [(19, .int .i64 (x : Nat))]) (fun x w => x ≤ 4 ∧ (∀ z ∈ [x0, x1, x2, x3].take x, inR z = true) ∧ Mem g w (cells b16 (zCz [x0, x1, x2, x3]) 2 :: cells b3 [.int .i64 x0, .int .i64 x1, .int .i64 x2, .int .i64 x3] 103 :: zB9 p d :: L)) (fun x => 4 - x) (0) ?_ ?_ ?_))))))))))
  · exact ⟨rfl, trivial⟩
  · exact ⟨Nat.zero_le _, fun z hz => by simp at hz, hs⟩
  clear hs; rintro x ξ w hI; obtain ⟨hx4, hall, hs⟩ := hI; have hx4 : x ≤ 4 := hx4
  show cw _ _ _ _ _ _ (updL (mix _ ξ _) [(19, .int .i64 (x : Nat))]) w
  refine zA4 (zA2 (Jn rfl rfl (zA6 (zA4 (zB2 rfl ?_ ?_)))))
  ·
   intro h20; have g20 := of_decide_eq_true h20; obtain ⟨z, hz4⟩ : ∃ z, [x0, x1, x2, x3][x]? = some z := ⟨_, List.getElem?_eq_getElem (by simp at g20 ⊢; omega)⟩; have hzm := List.mem_of_getElem? hz4; refine zAd (zA4 (zAp (zA4 (zA2 (Qa (zB5 uz173 sz2 rfl rfl rfl (by omega) rfl) (Jq (v := .int .i64 z) uz2 rfl rfl (hs.cellAt 0 rfl (by rw [Nat.zero_add]; exact zFn hz4)) ?_)))))); refine J4 rfl (zA6 (zA4 (zA2 (J0 rfl (Jn rfl rfl (J2 rfl (zB3 (t := _) (d := 25) rfl ?_ ?_)))))))
   ·
    intro h24; have g24 := of_decide_eq_true h24
    have hn : ¬ ([x0, x1, x2, x3].all inR = true) := fun h => by have := inR_iff.1 (List.all_eq_true.1 h z hzm); omega
    unfold Dk.jwrite at hk
    rw [if_neg hn] at hk
    cases hk
    refine Qe rfl rfl h24 (Qe rfl rfl h24 (Ja rfl h24 rfl (zA6 (zBc rfl rfl (zA4 (zA2 (Jq zCq rfl rfl (hE.cellW hs 105 (by decide) rfl) (J6 rfl (zA6 (zAe (zBi (v := zAk ad _) rfl rfl ?_))))))))))); exact ⟨_, rfl, rfl, hs.suffix 2 rfl⟩
   ·
    intro h24; have g24 := of_decide_eq_false h24; refine zAl rfl rfl h24 (J0 rfl (zAl rfl rfl h24 (Jt rfl rfl (J9 rfl h24 rfl (zA6 (zB2 rfl ?_ ?_))))))
    ·
     intro h27; have g27 := of_decide_eq_true h27
     have hn : ¬ ([x0, x1, x2, x3].all inR = true) := fun h => by have := inR_iff.1 (List.all_eq_true.1 h z hzm); omega
     unfold Dk.jwrite at hk
     rw [if_neg hn] at hk
     cases hk
     exact zA4 (zA2 (Jq zCq rfl rfl (hE.cellW hs 105 (by decide) rfl) (J6 rfl (zA6 (zAe (zBi (v := zAk ad _) rfl rfl ⟨_, rfl, rfl, hs.suffix 2 rfl⟩))))))
    ·
     intro h27; have g27 := of_decide_eq_false h27; refine zAd (zA2 (Jo rfl rfl rfl (inI (by omega) (by omega)) (J0 rfl (zA6 ?_)))); exact ⟨x + 1, by omega, ⟨by omega, fun y hy => by rw [List.take_add_one, hz4] at hy; rcases List.mem_append.1 hy with h | h; exact hall y h; simp at h; subst h; exact inR_iff.2 ⟨by omega, by omega⟩, hs⟩, ⟨rfl, trivial⟩, by repeat (first | exact Out.mix _ _ _ | refine Out.updo rfl ?_ | refine Out.upd rfl ?_ | refine Out.mixIn rfl ?_)⟩
  ·
   intro h20; have g20 := of_decide_eq_false h20
   obtain rfl : x = 4 := by omega
   unfold Dk.jwrite at hk
   rw [if_pos (show [x0, x1, x2, x3].all inR = true from List.all_eq_true.2 hall)] at hk; have hnl := numsL_len [x0, x1, x2, x3]; refine zBm rfl (zA4 (zA2 (J1 rfl (J7 rfl (Qg en149 (nums_sl hs (l := [x0, x1, x2, x3]) (Rd.cells (n := 4) 0 rfl rfl) rfl hl (by simp)) ?_))))); clear hs; rintro _ w ⟨a33, c33, rfl, hs⟩; refine Qg en141 (write_sl (d := d) (L := [own _ _, cells _ _ _, cells _ _ _] ++ L) hE hcl (hs.arr [3, 0, 1, 2] 4 (by decide)) nUp (by decide) (Rd.own 0 rfl) rfl (by simp at hnl; omega) hk) ?_; clear hs; rintro _ w ⟨rfl, hs⟩; refine J6 rfl ?_
   exact zA6 (zAe (zBi (v := zAk ad _) rfl rfl ⟨_, rfl, rfl, hs.arr [0] 4 (by decide)⟩))
def Dk.jremove (d : Dk) : Nat × Dk := if (d.remove nUp).1 = 0 ∨ (d.remove nUp).1 = 107 then (d.remove nUp).2.syncDir else d.remove nUp
theorem Dk.remove_code (n : ByteArray) (d : Dk) : ((d.remove n).1 = 0 ∨ (d.remove n).1 = 107 ∨ (d.remove n).1 = 110) ∧ (d.remove n).2.calls ≤ d.calls + 1 := by
  have hf := d.calls_find n
  unfold Dk.remove
  obtain ⟨c, o, d1, hfd⟩ : ∃ c o d1, d.find n = (c, o, d1) := ⟨_, _, _, rfl⟩; rw [hfd] at hf ⊢; simp only at hf
  have hc : c = 0 ∨ c = 107 ∨ c = 110 := by
    unfold Dk.find at hfd
    split at hfd
    · simp only [Prod.mk.injEq] at hfd
      have h1 := hfd.1
      unfold Dk.file at h1
      split at h1
      · exact .inr (.inr h1.symm)
      · split at h1
        · exact .inl h1.symm
        · exact .inr (.inl h1.symm)
    · simp only [Prod.mk.injEq] at hfd; exact .inr (.inr hfd.1.symm)
  cases o with
  | none => exact ⟨hc, by simp only; omega⟩
  | some i => exact ⟨.inl rfl, by simp only [Dk.change]; omega⟩
theorem jremove_sl (hE : ErrK ad g) (hcl : d.calls < 900000) (hs : Mem g w (zB9 p d :: L)) {k : Nat} {d2 : Dk} (hk : d.jremove = (k, d2)) : Calls Tryz.prog 54 #[.pointer (some ⟨p, 0, none⟩)] w (Ret fun v w' => v = zAk ad k ∧ Mem g w' (zB9 p d2 :: L)) := by
  obtain ⟨c, d1, hr⟩ : ∃ c d1, d.remove nUp = (c, d1) := ⟨_, _, rfl⟩; have hrc := d.remove_code nUp
  unfold Dk.jremove at hk
  rw [hr] at hk hrc; simp only at hk hrc; refine zAh Tryz.func54 rfl rfl ?_
  refine zA4 (zA2 (J3 rfl (zA6 (zA4 (zA4 (zA2 (J1 rfl (Qg en101 (remove_sl hE hs (by omega) nUp hr) ?_)))))))); clear hs; rintro _ w ⟨rfl, hs⟩; refine J6 rfl (zA6 (zA4 (zA2 (J8 rfl (Jv (ad := ad) rfl (J2 rfl (zB3 (t := _) (d := 8) rfl ?_ ?_)))))))
  ·
   intro h7; have g7 := zFj h7; refine zAl rfl rfl h7 (J8 rfl (zAl rfl rfl h7 (Jq zCq rfl rfl (hE.cellW hs 107 (by decide) rfl) (zAl rfl rfl h7 ?_)))); refine Qa (run_neerr (hE.atW hs) (by rcases hrc.1 with h | h | h <;> (rw [h]; decide)) (by decide) rfl rfl) ?_; refine Ja rfl h7 rfl (zA6 (zB2 rfl ?_ ?_))
   ·
    intro h11; have g11 := zFj h11
    have h0 : c ≠ 0 := by simpa using h7
    have h1 : c ≠ 107 := by simpa using h11
    rw [if_neg (fun h => h.elim h0 h1)] at hk
    cases hk
    exact zA4 (zA2 (J8 rfl (J6 rfl (zA6 (zAe (zBi (v := zAk ad _) rfl rfl ⟨_, rfl, rfl, hs⟩))))))
   ·
    intro h11; have g11 := zFi h11
    have h1 : c = 107 := by simpa using h11
    rw [if_pos (.inr h1)] at hk; refine zAd (zA4 (zA2 (J1 rfl (Qg en78 (syncDir_sl hE hs (by omega) hk) ?_)))); clear hs; rintro _ w ⟨rfl, hs⟩; exact J6 rfl (zA6 (zAe (zBi (v := zAk ad _) rfl rfl ⟨_, rfl, rfl, hs⟩)))
  ·
   intro h7; have g7 := zFi h7
   have h0 : c = 0 := by simpa using h7
   rw [if_pos (.inl h0)] at hk; refine Qe rfl rfl h7 (Qe rfl rfl h7 (Qe rfl rfl h7 (J9 rfl h7 rfl (zA6 (zAz rfl rfl (zAd (zA4 (zA2 (J1 rfl (Qg en78 (syncDir_sl hE hs (by omega) hk) ?_)))))))))); clear hs; rintro _ w ⟨rfl, hs⟩; exact J6 rfl (zA6 (zAe (zBi (v := zAk ad _) rfl rfl ⟨_, rfl, rfl, hs⟩)))
end
section
open Go.RowKit
attribute [local irreducible] zAk eV
variable {g w : World} {L M : List HP} {ad : Nat → Addr} {p : Nat} {d : Dk}
abbrev zS : Nat × Bool × Int × Int × Int × Int := (0, false, 0, 0, 0, 0)
abbrev nU : List ByteArray := [nUp]
theorem nU_new : ∀ n ∈ nU, zCh nUp ≠ n := fun n hn => by
  simp only [List.mem_cons, List.not_mem_nil, or_false] at hn; subst hn; exact newN_ne _
theorem nU_valid : zBy nUp.data.toList = true ∧ zBy (zCh nUp).data.toList = true := by decide +kernel
theorem nums4_len {l : List Int} (h : l.length = 4) : (zFe l).length ≤ 50 := by have := numsL_len l; omega
theorem PtI.jwrite {f : ByteArray → Option (List UInt8)} (h : PtI nU 100 f d) {l : List Int} (hl : l.length = 4) (hr : 300 ≤ d.room) :
    ∃ k e, d.jwrite l = (k, e) ∧ e.room = d.room ∧ e.calls ≤ d.calls + 6 ∧
      ((l.all inR = true ∧ k = 0 ∧ e.down = false ∧ (d.armed = 0 → e.armed = 0) ∧ (e.ok → PtI nU 100 (zF9 f nUp (zFe l)) e)) ∨
       (l.all inR = true ∧ k = 110 ∧ e.down = true ∧ d.armed ≠ 0 ∧ (e.ok → ∀ picks, PtI nU 100 f (e.crash picks) ∨ PtI nU 100 (zF9 f nUp (zFe l)) (e.crash picks))) ∨
       (l.all inR = false ∧ k = 105 ∧ e = d)) := by
  cases hin : l.all inR with
  | false => exact ⟨105, d, by simp [Dk.jwrite, hin], rfl, by omega, .inr (.inr ⟨rfl, rfl, rfl⟩)⟩
  | true =>
    have hn := nums4_len hl; obtain ⟨k, e, hw, hro, hd⟩ := h.write (s := nUp) (b := zFe l) (by simp) nU_new nU_valid.1 nU_valid.2 (by omega) (by show 2 * 1 * 100 + 100 ≤ d.room; omega); refine ⟨k, e, by simp [Dk.jwrite, hin, hw], hro, Dk.write_calls hw, ?_⟩
    rcases hd with ⟨h1, h2, h3, h4⟩ | ⟨h1, h2, h3, h4⟩
    · exact .inl ⟨rfl, h1, h2, h3, h4⟩
    · exact .inr (.inl ⟨rfl, h1, h2, h3, h4⟩)
theorem PtI.jread {f : ByteArray → Option (List UInt8)} (h : PtI nU 100 f d) {x y z u : Int} (hf : f nUp = some (zFe [x, y, z, u])) (hl : ∀ q ∈ [x, y, z, u], zDo q) (ha : [x, y, z, u].all inR = true) : jst (d.pread nUp) = (0, true, x, y, z, u) := by
  rw [h.read (by simp), hf]; exact jst_some (rnums_nums hl (by simp)) ha
theorem PtI.jnone {f : ByteArray → Option (List UInt8)} (h : PtI nU 100 f d) (hf : f nUp = none) : jst (d.pread nUp) = zS := by
  rw [h.read (by simp), hf]; have hv : vget [] = (101, 0, 0) := zGg rfl
  have h2 : rnums [] = (101, []) := by simp [rnums, vnum, hv, rloop]
  exact zGy h2 (by decide) (.inl (by decide))
theorem upU (f : ByteArray → Option (List UInt8)) (v : List UInt8) : zF9 f nUp v nUp = some v := by simp [zF9]
theorem inR_I {x : Int} (h : inR x = true) : zDo x := by have := inR_iff.1 h; exact ⟨by omega, by omega⟩
theorem all_I {l : List Int} (h : l.all inR = true) : ∀ q ∈ l, zDo q := fun q hq => inR_I (List.all_eq_true.1 h q hq)
end
section
open Go.RowKit Go.ChangeShapes
def codeName : Nat → String
  | 101 => "cordwood/api.ErrEnd"
  | 102 => "cordwood/api.ErrSum"
  | 103 => "cordwood/api.ErrShape"
  | 104 => "cordwood/api.ErrMany"
  | 105 => "cordwood/api.ErrRange"
  | 106 => "cordwood/api.ErrName"
  | 107 => "cordwood/api.ErrNone"
  | 108 => "cordwood/api.ErrThere"
  | 109 => "cordwood/api.ErrFull"
  | 110 => "cordwood/api.ErrCrash"
  | 111 => "cordwood/api.ErrStore"
  | 112 => "cordwood/api.ErrKind"
  | 113 => "cordwood/api.ErrState"
  | 114 => "cordwood/api.ErrFenced"
  | 115 => "cordwood/api.ErrOutside"
  | 116 => "cordwood/api.ErrUnavail"
  | 117 => "cordwood/api.ErrWord"
  | 118 => "cordwood/api.ErrNumber"
  | _ => "cordwood/api.ErrClosed"
def isSent : DataW Unit → Bool
  | .iface n (.ptr (.agg [.lit (.string _)])) => n == "*errors.errorString"
  | _ => false
theorem isSent_open {d : DataW Unit} (h : isSent d = true) : ∃ text, d = .iface "*errors.errorString" (.ptr (.agg [.lit (.string text)])) := by
  unfold isSent at h
  split at h
  · obtain rfl := eq_of_beq h; exact ⟨_, rfl⟩
  · cases h
theorem rowE (u : TypeId) (h : Tryz.prog.typeName? 3 u = some "*errors.errorString") : u = 286 :=
  have star : "*" ++ "errors.errorString" = "*errors.errorString" := by decide
  typeName_ptr_named (nm := "errors.errorString") (by rw [star]; kernel_rfl) (by kernel_rfl) (by decide) u (by rw [star]; exact h)
def SentAt (W : World) (n : String) (a : Addr) : Prop :=
  ∃ g, Tryz.prog.globalNamed n = some g ∧ W.cell? ⟨g, 0, none⟩ = some (.iface 286 (.pointer (some a))) ∧ ∃ s, W.cell? a = some (.string s)
theorem errF : ∃ f : Field, Tryz.prog.underlying 303 = some (.struct #[f]) ∧ f.type = 9 ∧ f.offset = 0 := ⟨_, uz303, rfl, rfl⟩
theorem cellsE : Tryz.prog.cellsOf 303 = 1 := by kernel_rfl
theorem cellsS : Tryz.prog.cellsOf 9 = 1 := by kernel_rfl
set_option maxRecDepth 100000 in
theorem sents {W : World} : ∀ {l : List (String × DataW Unit)} {ps : List MemPlace}, DataW.LaidVars Tryz.prog W l ps → (∀ x ∈ l, isSent x.2 = true) →
    (∀ x ∈ l, ∀ g, Tryz.prog.globalNamed x.1 = some g → (Tryz.prog.globals[g]?).map (·.type) = some 27) →
    (∀ b off, MemPlace.cell b off ∈ ps → (∃ c t, W.heap[b]? = some (.cells c t (0, 0))) ∧ ∀ u v, W.cell? ⟨b, off, none⟩ = some (.iface u v) → Value.okWide Tryz.prog W .any 0 u v) → ps.Nodup →
    ∃ ads : List Addr, ads.length = l.length ∧ (∀ i (h : i < l.length) (h' : i < ads.length), SentAt W l[i].1 ads[i]) ∧ ads.Nodup ∧ (∀ a ∈ ads, MemPlace.cell a.block a.off ∈ ps)
  | [], ps, h, _, _, _, _ => ⟨[], rfl, (fun i h => absurd h (by simp)), List.nodup_nil, (fun a h => by cases h)⟩
  | (n, d) :: r, ps, h, hs, hg, hrows, hnd => by
    obtain ⟨g0, t0, cs0, f0, p0, q0, hg0, ht0, hv0, hd0, hr, rfl⟩ := h; obtain rfl := Option.some.inj ((hg (n, d) List.mem_cons_self g0 hg0).symm.trans ht0); obtain ⟨text, rfl⟩ := isSent_open (hs (n, d) List.mem_cons_self); obtain ⟨l0⟩ := cs0; obtain ⟨ef, hef, hft, hfo⟩ := errF
    have ok0 : ∀ u v, l0 = [.iface u v] → Value.okWide Tryz.prog W .any 0 u v := fun u v e => by
      subst e; exact (hrows g0 0 (by simp [MemPlace.row])).2 u v (by simpa using World.var?_cell hg0 hv0 0)
    obtain ⟨a0, s0, rfl, hc0, hs0, hz0, rfl⟩ := errorString_of_trod zCq rowE uz286 hef hft hfo uz9 cellsE cellsS hd0 ok0; obtain ⟨ads, hlen, hat, hnod, hin⟩ := sents hr (fun x hx => hs x (.tail _ hx)) (fun x hx => hg x (.tail _ hx)) (fun b off hm => hrows b off (List.mem_append_right _ hm)) (hnd.sublist (List.sublist_append_right _ _)); refine ⟨a0 :: ads, by simp [hlen], fun i h h' => ?_, ?_, fun a ha => ?_⟩
    · cases i with
      | zero => exact ⟨g0, hg0, by simpa using World.var?_cell hg0 hv0 0, s0, hc0⟩
      | succ i => exact hat i (by simpa using h) (by simpa using h')
    · refine List.nodup_cons.2 ⟨fun hm => ?_, hnod⟩
      have h1 := hin a0 hm
      have h2 : MemPlace.cell a0.block a0.off ∈ MemPlace.row ⟨g0, 0, none⟩ 1 ++ MemPlace.row a0 1 := by simp [MemPlace.row]
      exact (List.nodup_append.1 hnd).2.2 _ h2 _ h1 rfl
    · rcases List.mem_cons.1 ha with rfl | ha
      · simp [MemPlace.row]
      · exact List.mem_append_right _ (hin a ha)
theorem errs_of_laid {L : List Nat} {l : List (String × DataW Unit)} {W : World} (h : laidMetH Tryz.prog l W)
    (hl : l.map (·.1) = L.map codeName) (hs : l.all (fun x => isSent x.2) = true) (hL : L.all (fun c => decide (c ∈ allCodes)) = true) (hnd : decide L.Nodup = true) :
    ∃ ad, Errs L ad W.heap.size W := by
  have hs' : ∀ x ∈ l, isSent x.2 = true := List.all_eq_true.1 hs
  have hL' : ∀ c ∈ L, c ∈ allCodes := fun c hc => of_decide_eq_true (List.all_eq_true.1 hL c hc)
  have hnd' : L.Nodup := of_decide_eq_true hnd
  have hplain : laidMetH Tryz.prog l W = laidMet Tryz.prog l W := MakeChecks.laidMetH_plain _ _ _ (List.all_eq_true.2 fun x hx => by
    obtain ⟨t, e⟩ := isSent_open (hs' x hx)
    rw [e]; rfl)
  rw [hplain] at h; obtain ⟨ps, hv, hn, hrows⟩ := h
  have gl : ∀ c ∈ allCodes, Tryz.prog.globalNamed (codeName c) = some (gidx c) ∧ (Tryz.prog.globals[gidx c]?).map (·.type) = some 27 := by
    intro c hc
    have hb : ∀ c, decide (Tryz.prog.globalNamed (codeName c) = some (gidx c)) = true → decide ((Tryz.prog.globals[gidx c]?).map (·.type) = some 27) = true → Tryz.prog.globalNamed (codeName c) = some (gidx c) ∧ (Tryz.prog.globals[gidx c]?).map (·.type) = some 27 := fun c h1 h2 => ⟨of_decide_eq_true h1, of_decide_eq_true h2⟩
    simp only [allCodes, List.mem_cons, List.not_mem_nil, or_false] at hc
    rcases hc with rfl | rfl | rfl | rfl | rfl | rfl | rfl | rfl | rfl | rfl | rfl | rfl | rfl | rfl | rfl | rfl | rfl | rfl | rfl <;> exact hb _ (by kernel_rfl) (by kernel_rfl)
  have hlen : l.length = L.length := by simpa using congrArg List.length hl
  have hname : ∀ i (h : i < l.length) (h' : i < L.length), l[i].1 = codeName L[i] := fun i h h' => by
    have := congrArg (·[i]?) hl
    simpa [h, h'] using this
  obtain ⟨ads, hal, hat, hanod, hin⟩ := sents hv hs' (fun x hx g hg => by
    obtain ⟨i, hi, rfl⟩ := List.getElem_of_mem hx
    have hi' : i < L.length := by omega
    rw [hname i hi hi'] at hg; have := gl L[i] (hL' _ (List.getElem_mem hi')); obtain rfl := Option.some.inj (this.1.symm.trans hg)
    exact this.2) hrows hn
  have hidx : ∀ c ∈ L, ∃ i, ∃ (h : i < L.length) (h' : i < ads.length), L[i] = c ∧ L.idxOf c = i := fun c hc => by
    have h := List.idxOf_lt_length_of_mem hc; exact ⟨L.idxOf c, h, by omega, List.getElem_idxOf h, rfl⟩
  refine ⟨fun c => ads.getD (L.idxOf c) default, ⟨fun c hc e => ?_, fun c hc => ?_, fun c hc => ?_, fun c hc d hd e => ?_, fun c hc => ?_⟩⟩
  · subst e; have := hL' 0 hc; revert this; decide
  all_goals obtain ⟨i, hi, hi', hci, hx⟩ := hidx c hc
  · obtain ⟨g, hg, hcell, _⟩ := hat i (by omega) hi'
    rw [hname i (by omega) hi, hci, (gl c (hL' c hc)).1] at hg; obtain rfl := Option.some.inj hg
    have hp : c ≠ 0 := fun e => by subst e; have := hL' 0 hc; revert this; decide
    rw [hcell]; simp only [zAk, hp, if_false]; rw [hx, List.getD_eq_getElem?_getD, List.getElem?_eq_getElem hi']
    rfl
  · obtain ⟨⟨cs, t, hb⟩, _⟩ := hrows _ _ (hin ads[i] (List.getElem_mem hi'))
    refine ⟨cs, t, ?_⟩; rw [hx, List.getD_eq_getElem?_getD, List.getElem?_eq_getElem hi']; exact hb
  · obtain ⟨j, hj, hj', hdj, hy⟩ := hidx d hd
    simp only [hx, hy, List.getD_eq_getElem?_getD, List.getElem?_eq_getElem hi', List.getElem?_eq_getElem hj', Option.getD_some] at e; have := (List.getElem_inj hanod).1 e; subst this; exact hci.symm.trans hdj
  · obtain ⟨g, hg, hcell, s, hs⟩ := hat i (by omega) hi'
    rw [hname i (by omega) hi, hci, (gl c (hL' c hc)).1] at hg; obtain rfl := Option.some.inj hg
    have hlt : ∀ {a : Addr} {v : Value}, W.cell? a = some v → a.block < W.heap.size := fun {a v} h => by
      rcases Nat.lt_or_ge a.block W.heap.size with h' | h'
      · exact h'
      · simp [World.cell?, Array.getElem?_eq_none h'] at h
    refine ⟨hlt hcell, ?_⟩; rw [hx, List.getD_eq_getElem?_getD, List.getElem?_eq_getElem hi']; exact hlt hs
theorem seq_of_cells {W : World} {x : Addr} {len cap : Nat} {f : Nat → Value} (hl : len ≤ cap) (h : ∀ i, i < cap → W.cell? (x.add i) = some (f i)) :
    zEs W (.slice (some x) len cap) ((List.range len).map f) := by
  refine ⟨_, _, _, rfl, by simp, hl, (fun h => by cases h), ?_⟩
  rcases Nat.eq_zero_or_pos cap with h0 | h0
  · exact .inl h0
  right
  obtain ⟨b, off, sp⟩ := x; have h1 := h 0 h0
  have hsp : sp = none ∧ ∃ cs E fz, W.heap[b]? = some (.cells cs E fz) := by
    simp only [World.cell?, Addr.add, if_true] at h1
    split at h1
    · rename_i c t f' hh
      cases sp with
      | none => exact ⟨rfl, c, t, f', hh⟩
      | some q => simp at h1
    · cases h1
  obtain ⟨rfl, cs, E, fz, hb⟩ := hsp
  have hc : ∀ i, i < cap → cs[off + i]? = some (f i) := fun i hi => by
    have := h i hi; simp only [World.cell?, Addr.add_lit] at this; rw [hb] at this
    simpa using this
  refine ⟨b, off, cs, E, fz, rfl, hb, ?_, fun i hi => ?_⟩
  · have := (Array.getElem?_eq_some_iff.1 (hc (cap - 1) (by omega))).1
    omega
  · simp only [List.length_map, List.length_range] at hi
    rw [hc i (by omega)]
    simp [hi]
def IsRow (k : IntKind) (w : World) (a : Option Addr) (len cap : Nat) (zs : List Int) : Prop :=
  (a = none ∧ len = 0 ∧ cap = 0 ∧ zs = []) ∨
  ∃ x, a = some x ∧ len ≤ cap ∧ cap ≤ maxLen ∧ zs.length = cap ∧ (∀ i, i < zs.length → w.cell? (x.add i) = some (.int k (zs.getD i 0))) ∧ ∀ n ∈ zs, (Lit.int k n).wf = true
theorem IsRow.len {k : IntKind} {w : World} {a : Option Addr} {len cap : Nat} {zs : List Int} (h : IsRow k w a len cap zs) : len ≤ cap ∧ cap ≤ maxLen ∧ (zs.take len).length = len := by
  rcases h with ⟨rfl, rfl, rfl, rfl⟩ | ⟨x, rfl, h1, h2, h3, _, _⟩
  · exact ⟨Nat.le_refl _, Nat.zero_le _, rfl⟩
  · exact ⟨h1, h2, by simp; omega⟩
theorem IsRow.seq {k : IntKind} {w : World} {a : Option Addr} {len cap : Nat} {zs : List Int} (h : IsRow k w a len cap zs) : zEs w (.slice a len cap) ((zs.take len).map (Value.int k)) := by
  rcases h with ⟨rfl, rfl, rfl, rfl⟩ | ⟨x, rfl, h1, h2, h3, h4, _⟩
  · exact zEs.nil w
  · have := seq_of_cells (W := w) (x := x) (f := fun i => .int k (zs.getD i 0)) h1 (fun i hi => h4 i (by omega))
    have e : (List.range len).map (fun i => Value.int k (zs.getD i 0)) = (zs.take len).map (Value.int k) := by
      apply List.ext_getElem?
      intro i; simp only [List.getElem?_map, List.getElem?_range, List.getElem?_take]
      by_cases hi : i < len
      · have hz : i < zs.length := by omega
        simp [hi, List.getElem?_eq_getElem hz]
      · simp [hi]
    rwa [e] at this
theorem IsRow.wf {k : IntKind} {w : World} {a : Option Addr} {len cap : Nat} {zs : List Int} (h : IsRow k w a len cap zs) : ∀ z ∈ zs.take len, (Lit.int k z).wf = true := by
  rcases h with ⟨rfl, rfl, rfl, rfl⟩ | ⟨x, rfl, _, _, _, _, h5⟩
  · intro z hz; cases hz
  · intro z hz; exact h5 z (List.mem_of_mem_take hz)
theorem IsRow.ints {w : World} {a : Option Addr} {len cap : Nat} {zs : List Int} (h : IsRow .i64 w a len cap zs) : zEs w (.slice a len cap) (zCz (zs.take len)) := h.seq
theorem IsRow.bytes {w : World} {a : Option Addr} {len cap : Nat} {zs : List Int} (h : IsRow .u8 w a len cap zs) : zEs w (.slice a len cap) (zAn ((zs.take len).map fun z => UInt8.ofNat z.toNat)) := by
  have h1 := h.seq; have h2 := h.wf
  have e : (zs.take len).map (Value.int .u8) = zAn ((zs.take len).map fun z => UInt8.ofNat z.toNat) := by
    simp only [zAn, List.map_map]
    refine List.map_congr_left fun z hz => ?_
    have := h2 z hz; simp only [Lit.wf, IntKind.min, IntKind.max, Bool.and_eq_true, decide_eq_true_eq] at this
    have h0 : 0 ≤ z ∧ z < 256 := by revert this; simp [IntKind.signed, IntKind.bits]; omega
    simp only [Function.comp, u8v, Value.int.injEq, true_and]
    have : (UInt8.ofNat z.toNat).toNat = z.toNat := by simp; omega
    rw [this]; omega
  rwa [e] at h1
set_option maxRecDepth 100000 in
theorem blk_of_ok {W : World} {base : Nat} {t e : TypeId} {a : Option Addr} {n c : Nat} (ht : Tryz.prog.underlying t = some (.slice e)) (h : Value.okWide Tryz.prog W .any base t (.slice a n c)) : ∀ b, blk (.slice a n c) = some b → b < W.heap.size := by
  intro b hb
  cases a with
  | none => cases hb
  | some x =>
    simp only [blk, Option.some.injEq] at hb; subst hb; simp only [Value.okWide, ht, Cell.okWide, Cell.ok] at h; obtain ⟨_, _, _, _, row, cells, hs, _⟩ := h
    rcases Nat.lt_or_ge x.block W.heap.size with h' | h'
    · exact h'
    · simp [World.shape?, Array.getElem?_eq_none h'] at hs
end
section
open Go.RowKit
attribute [local irreducible] zAk
variable {g w : World} {L M : List HP} {ad : Nat → Addr}
def Came0 (g : World) (v : Value) (l : List Value) : Prop := ∀ w' : World, (∀ b, b < g.heap.size → w'.heap[b]? = g.heap[b]?) → zEs w' v l
theorem Came0.seq {v : Value} {l : List Value} (h : Came0 g v l) (hs : Mem g w L) : zEs w v l := h w hs.old
theorem Came.zero {v : Value} {l : List Value} (h : Came g v l) : Came0 g v l := fun w' k => h.1.heap fun b hb => k b (h.2 b hb)
theorem Came0.rd {v : Value} {l : List Value} (h : Came0 g v l) (L : List HP) : Rd g L v l := fun w hs => h w hs.old
abbrev El := Option Addr × Nat × List UInt8
def elV (x : El) : Value := .slice x.1 x.2.2.length x.2.1
structure Rows2 (g : World) (v : Value) (z : List El) : Prop where
  came : Came g v (z.map elV)
  each : ∀ x ∈ z, Came0 g (elV x) (zAn x.2.2)
def RowsW (w : World) (v : Value) (z : List El) : Prop := zEs w v (z.map elV) ∧ ∀ x ∈ z, Came0 w (elV x) (zAn x.2.2)
theorem RowsW.rows {a : Option Addr} {n c : Nat} {z : List El} (h : RowsW w (.slice a n c) z) (hb : ∀ b, blk (.slice a n c) = some b → b < w.heap.size) : Rows2 w (.slice a n c) z ∧ n = z.length := ⟨⟨⟨h.1, hb⟩, h.2⟩, by have := h.1.len; simpa using this.symm⟩
open Go.Deep in
end
section
open Go.RowKit
attribute [local irreducible] zAk eV
variable {g w : World} {L M : List HP} {ad : Nat → Addr} {p : Nat} {d : Dk}
abbrev S4 := Int × Int × Int × Int
def s4L (s : S4) : List Int := [s.1, s.2.1, s.2.2.1, s.2.2.2]
def s4V (s : S4) : List Value := [.int .i64 s.1, .int .i64 s.2.1, .int .i64 s.2.2.1, .int .i64 s.2.2.2]
def s40 : S4 := (0, 0, 0, 0)
abbrev S4ok (s : S4) : Prop := ∀ x ∈ s4L s, zDo x
def clrF (f : ByteArray → Option (List UInt8)) (s : ByteArray) : ByteArray → Option (List UInt8) := fun n => if n = s then none else f n
theorem PtI.jgone {f : ByteArray → Option (List UInt8)} (h : PtI nU 100 f d) (ha : d.armed = 0) : ∃ e, d.jremove = (0, e) ∧ e.calls ≤ d.calls + 2 ∧ e.armed = 0 ∧ (e.ok → PtI nU 100 (clrF f nUp) e) := by
  have hu := h.calm.up
  have hun : ∀ (e : Dk), zAx e.names nUp = none → ∀ n ∈ nU, Under e n (clrF f nUp n) := fun e he n hn => by
    simp only [List.mem_cons, List.not_mem_nil, or_false] at hn; subst hn; simp only [clrF, if_true]; exact he
  cases hn : zAx d.names nUp with
  | none =>
    have hr : d.remove nUp = (107, d) := by simp only [Dk.remove, Dk.find_none hu ha hn]
    have hj : d.jremove = d.syncDir := by simp [Dk.jremove, hr]
    rw [hj, Dk.syncDir_up hu ha]; exact ⟨_, rfl, by simp only; omega, ha, fun he => ⟨⟨⟨he, hu⟩, rfl, rfl⟩, hun _ hn, h.keys, h.len⟩⟩
  | some i =>
    have hr := Dk.remove_up hu ha hn
    have hj : d.jremove = (d.change ⟨ByteArray.empty, nUp, none⟩).syncDir := by simp [Dk.jremove, hr]
    have hnm : (d.change ⟨ByteArray.empty, nUp, none⟩).names = zDe d.names nUp := by
      simp only [Dk.change, Chg.app]; rw [if_neg (by decide)]
    rw [hj, Dk.syncDir_up (d := d.change ⟨ByteArray.empty, nUp, none⟩) hu ha]; refine ⟨_, rfl, by simp only [Dk.change]; omega, ha, fun he => ⟨⟨⟨he, hu⟩, rfl, rfl⟩, hun _ ?_, fun n hk => ?_, h.len⟩⟩
    · show zAx (d.change ⟨ByteArray.empty, nUp, none⟩).names nUp = none
      rw [hnm]; exact zCw h.calm.ok.nnd nUp
    · have hk : n ∈ zAm (d.change ⟨ByteArray.empty, nUp, none⟩).names := hk
      rw [hnm] at hk; obtain ⟨v, hv⟩ := zC8 hk; exact h.keys n (List.mem_map_of_mem (f := Prod.fst) (adel_in (zCy hv)))
def JkD (F : ByteArray → Option (List UInt8)) (d : Dk) : Option S4 → Prop
  | none => d.down = false ∧ PtI nU 100 F d
  | some s => d.down = true ∧ (s4L s).all inR = true ∧ ∀ picks, PtI nU 100 F (d.crash picks) ∨ PtI nU 100 (zF9 F nUp (zFe (s4L s))) (d.crash picks)
structure JkI (F : ByteArray → Option (List UInt8)) (cur : Option S4) : Prop where
  rel : F nUp = cur.map fun s => zFe (s4L s)
  ok : ∀ s, cur = some s → (s4L s).all inR = true
def curJ (cur : Option S4) : Nat × Bool × Int × Int × Int × Int := match cur with
  | none => zS
  | some s => (0, true, s.1, s.2.1, s.2.2.1, s.2.2.2)
theorem JkI.read {F : ByteArray → Option (List UInt8)} {cur : Option S4} (h : JkI F cur) (hp : PtI nU 100 F d) : jst (d.pread nUp) = curJ cur := by
  cases cur with
  | none => exact hp.jnone h.rel
  | some s => exact hp.jread (x := s.1) (y := s.2.1) (z := s.2.2.1) (u := s.2.2.2) h.rel (all_I (h.ok s rfl)) (h.ok s rfl)
theorem JkI.upd {F : ByteArray → Option (List UInt8)} {s : S4} (h : (s4L s).all inR = true) : JkI (zF9 F nUp (zFe (s4L s))) (some s) := ⟨upU _ _, fun t ht => by cases ht; exact h⟩
theorem JkD.crash {F : ByteArray → Option (List UInt8)} {cur nx : Option S4} (h : JkI F cur) (hd : JkD F d nx) (picks : List Int) : ∃ G c, PtI nU 100 G (d.crash picks) ∧ JkI G c ∧ (c = cur ∨ ∃ s, nx = some s ∧ c = some s) := by
  cases nx with
  | none => exact ⟨F, cur, hd.2.crash picks, h, .inl rfl⟩
  | some s =>
    obtain ⟨_, h1, h2⟩ := hd
    rcases h2 picks with h3 | h3
    · exact ⟨F, cur, h3, h, .inl rfl⟩
    · exact ⟨_, some s, h3, JkI.upd h1, .inr ⟨s, rfl, rfl⟩⟩
def StRows (w : World) (v : Value) (zs : List S4) : Prop := RowsR w 4 v (zs.map s4V) ∧ ∀ s ∈ zs, S4ok s
end
section
open Go.RowKit
variable {d e : Dk} {N : List ByteArray} {B : Nat} {f : ByteArray → Option (List UInt8)}
abbrev UpN : List ByteArray := [mtN, snN, nUp]
theorem up_mt : mtN ∈ UpN := List.mem_cons_self ..
theorem up_sn : snN ∈ UpN := List.mem_cons_of_mem _ (List.mem_cons_self ..)
theorem up_up : nUp ∈ UpN := List.mem_cons_of_mem _ (List.mem_cons_of_mem _ (List.mem_cons_self ..))
theorem upN_new : ∀ n ∈ UpN, zCh nUp ≠ n := by decide +kernel
theorem mt_up : mtN ≠ nUp := by decide +kernel
theorem sn_up : snN ≠ nUp := by decide +kernel
theorem zF1 {s n : ByteArray} (h : n ≠ s) : clrF f s n = f n := by simp [clrF, h]
theorem clrF_same (s : ByteArray) : clrF f s s = none := by simp [clrF]
theorem RawI.jgone (h : RawI N B f d) (ha : d.armed = 0) (hs : nUp ∈ N) : ∃ e, d.jremove = (0, e) ∧ e.room = d.room ∧ e.calls ≤ d.calls + 2 ∧ e.armed = 0 ∧ (e.ok → RawI N B (clrF f nUp) e) := by
  have hu := h.up
  cases hn : zAx d.names nUp with
  | none =>
    have hr : d.remove nUp = (107, d) := by simp only [Dk.remove, Dk.find_none hu ha hn]
    have hj : d.jremove = d.syncDir := by simp [Dk.jremove, hr]
    rw [hj, Dk.syncDir_up hu ha]
    have hf : clrF f nUp = f := by
      funext n
      by_cases e1 : n = nUp
      · subst e1
        rw [clrF_same]; have h1 := h.st.under nUp hs
        cases hv : f nUp with
        | none => rfl
        | some v => rw [hv] at h1; obtain ⟨i, q, k1, _⟩ := h1; rw [hn] at k1; cases k1
      · exact zF1 e1
    rw [hf]; exact ⟨_, rfl, rfl, by simp only; omega, ha, fun he => ⟨he, hu, rfl, rfl, fun n hn => (h.st.under n hn).same rfl fun i F _ hF _ => hF, h.st.apart, h.st.keys, h.st.len⟩⟩
  | some i =>
    have hr := Dk.remove_up hu ha hn
    have hj : d.jremove = (d.change ⟨ByteArray.empty, nUp, none⟩).syncDir := by simp [Dk.jremove, hr]
    have hnm : (d.change ⟨ByteArray.empty, nUp, none⟩).names = zDe d.names nUp := by
      simp only [Dk.change, Chg.app]; rw [if_neg (by decide)]
    rw [hj, Dk.syncDir_up (d := d.change ⟨ByteArray.empty, nUp, none⟩) hu ha]; obtain ⟨e, he⟩ : ∃ e, e = ({ d.change ⟨ByteArray.empty, nUp, none⟩ with kept := (d.change ⟨ByteArray.empty, nUp, none⟩).names, changes := [], calls := (d.change ⟨ByteArray.empty, nUp, none⟩).calls + 1 } : Dk) := ⟨_, rfl⟩; rw [← he]
    have n1 : e.names = zDe d.names nUp := by rw [he]; exact hnm
    have n2 : e.kept = e.names := by rw [he]
    have n3 : e.changes = [] := by rw [he]
    have n4 : e.fs = d.fs := by rw [he]; rfl
    have hs1 : zAx e.names nUp = none := by rw [n1]; exact zCw h.ok.nnd nUp
    have ho : ∀ n, n ≠ nUp → zAx e.names n = zAx d.names n := fun n hne => by rw [n1]; exact zFx hne
    refine ⟨e, rfl, by rw [he]; rfl, by rw [he]; simp only [Dk.change]; omega, by rw [he]; exact ha, fun hok => ⟨hok, by rw [he]; exact hu, n2.symm, n3, fun n hn => ?_, fun n hn m hm j g1 g2 => ?_, fun n hk => ?_, fun j F hF => h.st.len j F (by rw [← n4]; exact hF)⟩⟩
    · by_cases e1 : n = nUp
      · subst e1; rw [clrF_same]; exact hs1
      · rw [zF1 e1]; exact (h.st.under n hn).same (ho n e1) fun j F _ hF _ => by rw [n4]; exact hF
    · have e1 : n ≠ nUp := fun e1 => by rw [e1, hs1] at g1; cases g1
      have e2 : m ≠ nUp := fun e1 => by rw [e1, hs1] at g2; cases g2
      rw [ho n e1] at g1; rw [ho m e2] at g2; exact h.st.apart n hn m hm j g1 g2
    · obtain ⟨v, hv⟩ := zC8 hk
      rw [n1] at hv; exact h.st.keys n (List.mem_map_of_mem (f := Prod.fst) (adel_in (zCy hv)))
theorem RawI.jput (h : RawI N B f d) (hs : nUp ∈ N) (hN : ∀ n ∈ N, zCh nUp ≠ n) {s : S4} (h4 : (s4L s).all inR = true) (hB : 60 ≤ B) (hr : 2 * N.length * B + B ≤ d.room) :
    ∃ k e, d.jwrite (s4L s) = (k, e) ∧ e.room = d.room ∧ e.calls ≤ d.calls + 6 ∧ (k = 0 ∧ e.down = false ∧ (d.armed = 0 → e.armed = 0) ∧ (e.ok → RawI N B (zF9 f nUp (zC0 (zFe (s4L s)))) e) ∨ k = 110 ∧ e.down = true ∧ d.armed ≠ 0 ∧ (e.ok → ∀ picks, RawI N B f (e.crash picks) ∨ RawI N B (zF9 f nUp (zC0 (zFe (s4L s)))) (e.crash picks))) := by
  have hl := numsL_len (s4L s); have h5 : (s4L s).length = 4 := rfl
  have h6 : d.jwrite (s4L s) = d.write nUp (zFe (s4L s)) := by unfold Dk.jwrite; rw [if_pos h4]
  rw [h6]; exact h.write hs hN nU_valid.1 nU_valid.2 (by omega) hr
theorem RawI.jnone (h : RawI N B f d) (hs : nUp ∈ N) (hf : f nUp = none) : jst (d.pread nUp) = zS := by
  rw [h.pread_none hs hf]; obtain ⟨k2, l2, hk⟩ : ∃ k2 l2, rnums [] = (k2, l2) := ⟨_, _, rfl⟩; exact zGy hk (by decide) (.inl (by decide))
theorem RawI.jthere (h : RawI N B f d) (hs : nUp ∈ N) {s : S4} (hf : f nUp = some (zC0 (zFe (s4L s)))) (h4 : (s4L s).all inR = true) : jst (d.pread nUp) = (0, true, s.1, s.2.1, s.2.2.1, s.2.2.2) := by
  rw [h.pread_some hs hf]; exact jst_some (rnums_nums (all_I h4) (by simp [s4L])) h4
end
end Go.Proofs.YthejaanobeonnaaGreatDoor
