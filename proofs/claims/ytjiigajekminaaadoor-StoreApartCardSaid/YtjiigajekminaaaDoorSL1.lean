/- StoreLists: the walk. -/
import Derived.Test.YtjiigajekminaaaDoorLs
import Derived.Test.YtjiigajekminaaaDoorNb
namespace Go.Proofs.YtjiigajekminaaaDoor
set_option linter.all false
open Go.RowKit
attribute [local irreducible] errV
variable {g w : World} {L M : List HP} {ad : Nat → Addr} {p q : Nat} {st : St}

theorem Came.texts {a : Option Addr} {n c : Nat} {l : List ByteArray} (h : seqV w (.slice a n c) (l.map Value.string)) (hb : ∀ b, blk (.slice a n c) = some b → b < w.heap.size) : Came w (.slice a n c) (textsL l) ∧ n = l.length := ⟨⟨h, hb⟩, by have := h.len; simpa using this.symm⟩
structure SLI (i : Nat) (st : St) (H : List ByteArray) : Prop where
  script : st.script = []
  calls : st.calls = i
  failed : st.failed = 0
  ups : st.ups = []
  nd : (keysOf st.objs).Nodup
  mem : ∀ x, x ∈ keysOf st.objs ↔ x ∈ H
  bytes : ∀ n b, (n, b) ∈ st.objs → b.length ≤ 1
  size : ∀ x ∈ H, x.size ≤ 100
  len : H.length ≤ i
  olen : st.objs.length ≤ i
theorem SLI.empty : SLI 0 St.empty [] := ⟨rfl, rfl, rfl, rfl, by simp [St.empty, keysOf], fun x => by simp [St.empty, keysOf], fun _ _ h => by simp [St.empty] at h, fun _ h => by simp at h, Nat.le_refl _, Nat.le_refl _⟩
theorem SLI.put {i : Nat} {H : List ByteArray} (h : SLI i st H) {nm : ByteArray} (hsz : nm.size ≤ 100) {b : List UInt8} (hb : b.length ≤ 1) {k : Nat} {st2 : St} (hk : st.run (St.put1 nm b) = (k, st2)) : (k = 0 ∧ SLI (i + 1) st2 (H ++ [nm])) ∨ (k ≠ 0 ∧ SLI (i + 1) st2 H) := by
  rw [run_ok h.script] at hk
  unfold St.put1 at hk
  split at hk
  · simp only [Prod.mk.injEq] at hk
    obtain ⟨rfl, rfl⟩ := hk
    refine .inl ⟨rfl, h.script, by simp [h.calls], h.failed, h.ups, ?_, fun x => ?_, fun n c hm => ?_, fun x hx => ?_, ?_, ?_⟩
    · simp only [keys_put]
      split
      · exact h.nd
      · rename_i hn
        rw [List.nodup_append]
        refine ⟨h.nd, by simp, fun a ha c hc e => ?_⟩
        simp only [List.mem_cons, List.not_mem_nil, or_false] at hc
        subst hc
        exact hn (e ▸ ha)
    · simp only [keys_put]
      split
      · rename_i hn
        rw [h.mem]
        simp only [List.mem_append, List.mem_cons, List.not_mem_nil, or_false]
        exact ⟨.inl, fun hx => hx.elim (fun h => h) fun e => by rw [e]; exact (h.mem _).1 hn⟩
      · simp only [List.mem_append, List.mem_cons, List.not_mem_nil, or_false, h.mem]
    · rcases aput_mem hm with hm | hm
      · simp only [Prod.mk.injEq] at hm; rw [hm.2]; exact hb
      · exact h.bytes n c hm
    · simp only [List.mem_append, List.mem_cons, List.not_mem_nil, or_false] at hx
      rcases hx with hx | rfl
      · exact h.size x hx
      · exact hsz
    · have := h.len; simp only [List.length_append, List.length_cons, List.length_nil]; omega
    · have h1 : (keysOf (aput st.objs nm b)).length ≤ st.objs.length + 1 := by
        rw [keys_put]
        split <;> simp [keysOf]
      simp only [keysOf, List.length_map] at h1
      have := h.olen
      simp only
      omega
  · simp only [Prod.mk.injEq] at hk
    obtain ⟨rfl, rfl⟩ := hk
    exact .inr ⟨by decide, h.script, by simp [h.calls], h.failed, h.ups, h.nd, h.mem, h.bytes, h.size, by have := h.len; omega, by have := h.olen; simp only; omega⟩
theorem begin_nil (h : st.script = []) : st.begin = { st with calls := st.calls + 1 } := by simp [St.begin, St.next, h]
theorem list_ok (h : st.script = []) (pre : ByteArray) : st.listR pre = (st.list1 pre, 0, { st with calls := st.calls + 1 }) := by
  have h1 : st.next = 0 := by simp [St.next, h]
  unfold St.listR
  rw [if_neg (by omega), begin_nil h]
theorem del_ok (h : st.script = []) {n : ByteArray} (hn : (aget st.objs n).isSome = true) : st.run (St.del1 n) = (0, { st with calls := st.calls + 1, objs := adel st.objs n }) := by
  rw [run_ok h]; unfold St.del1; simp only [hn, if_true]
theorem del_no (h : st.script = []) {n : ByteArray} (hn : aget st.objs n = none) : st.run (St.del1 n) = (107, { st with calls := st.calls + 1 }) := by
  rw [run_ok h]; unfold St.del1; simp [hn]
theorem preB_empty (n : ByteArray) : preB ⟨#[]⟩ n = true := by
  unfold preB
  have : n.extract 0 (ByteArray.size ⟨#[]⟩) = ⟨#[]⟩ := by
    show n.extract 0 0 = _
    apply bl_inj
    simp [bl]
  rw [this, show ByteArray.size ⟨#[]⟩ = 0 from rfl]
  simp
theorem list1_all (st : St) : st.list1 ⟨#[]⟩ = sortT (keysOf st.objs) := List.filter_eq_self.2 fun n _ => preB_empty n
theorem adel_len {κ α : Type} [DecidableEq κ] {l : List (κ × α)} {k : κ} (h : (aget l k).isSome = true) : (adel l k).length + 1 = l.length := by
  induction l with
  | nil => simp [aget] at h
  | cons x l ih =>
    obtain ⟨a, b⟩ := x
    simp only [aget] at h
    simp only [adel]
    split
    · rfl
    · rename_i e; rw [if_neg e] at h; simp only [List.length_cons]; rw [ih h]
theorem wrap_u8 {i : Nat} (h : i < 256) : IntKind.u8.wrap (i : Int) = (((UInt8.ofNat i).toNat : Nat) : Int) := by
  have h8 : (2 : Int) ^ 8 = 256 := by decide
  simp only [IntKind.wrap, IntKind.bits, IntKind.signed, h8, Bool.false_and, Bool.false_eq_true, if_false]
  rw [UInt8.toNat_ofNat']
  omega
set_option maxHeartbeats 2000000 in
set_option maxRecDepth 10000 in
theorem storeLists_sl (hA : ErrA ad g) (hs : Mem g w []) {a : Option Addr} {n c : Nat} {l : List ByteArray} {kk : Int} (hl : Came g (.slice a n c) (textsL l)) (hn : n = l.length) :
    Calls Tryd.prog 12 #[.slice a n c, .int .i64 kk] w (Ret fun v w' => v = .bool true ∧ Mem g w' []) := by
  subst hn
  have hE := hA.core
  refine calls_cw Tryd.func12 rfl rfl ?_
  skip
  refine cw_seq ?_
  refine cw_region ?_
  first | refine lw_val rfl (run_assign (v := .bool _) rfl) ?_
  refine lw_nil ?_
  refine cw_seq ?_
  refine cw_region ?_
  refine lw_call rfl en20 (first11_sl hA hs) ?_
  clear hs
  rintro _ w ⟨rfl, hs⟩
  first | refine lw_val rfl (run_assign (v := .bool _) rfl) ?_
  refine lw_nil ?_
  refine cw_seq ?_
  refine cw_seq ?_
  refine cw_region ?_
  first | refine lw_val rfl (run_move (v := .bool _) rfl) ?_
  refine lw_val rfl (run_not rfl) ?_
  refine lw_nil ?_
  refine cw_iff rfl (not_f (rfl)) ?_
  refine cw_skip ?_
  refine cw_seq ?_
  refine cw_seq ?_
  refine cw_region ?_
  first | refine lw_val rfl (run_move (v := .slice _ _ _) rfl) ?_
  refine lw_val rfl (run_lenS Tryd.underlying69 rfl) ?_
  refine lw_val rfl (run_gtr rfl rfl) ?_
  first | refine lw_val rfl (run_move (v := .bool _) rfl) ?_
  refine lw_split (t := _) (d := 21) rfl ?_ ?_
  · intro h20
    have g20 := of_decide_eq_true h20
    refine lw_off rfl rfl rfl h20 ?_
    refine lw_off rfl rfl rfl h20 ?_
    first | refine lw_val rfl (run_pickT (v := .bool _) rfl h20 rfl) ?_
    refine lw_nil ?_
    refine cw_ift rfl rfl ?_
    refine cw_seq ?_
    refine cw_region ?_
    first | refine lw_val rfl (run_move (v := .bool _) rfl) ?_
    first | refine lw_val rfl (run_assign (v := .bool _) rfl) ?_
    refine lw_nil ?_
    refine cw_ret ?_
    refine res1 (v := .bool _) rfl rfl ?_
    exact ⟨_, rfl, rfl, hs.nil⟩
  · intro h20
    have g20 := of_decide_eq_false h20
    refine lw_on rfl rfl h20 ?_
    first | refine lw_val rfl (run_move (v := .bool _) rfl) ?_
    refine lw_on rfl rfl h20 ?_
    refine lw_val rfl (run_not rfl) ?_
    first | refine lw_val rfl (run_pickF (v := .bool _) rfl h20 rfl) ?_
    refine lw_nil ?_
    refine cw_iff rfl (not_f (rfl)) ?_
    refine cw_skip ?_
    refine cw_seq ?_
    refine cw_region ?_
    refine lw_call rfl en21 (new_sl hs) ?_
    clear hs
    rintro _ w ⟨p, rfl, hs⟩
    first | refine lw_val rfl (run_assign (v := .pointer (some _)) rfl) ?_ | refine lw_val rfl (run_assign (v := .pointer none) rfl) ?_
    refine lw_nil ?_
    refine cw_seq ?_
    refine cw_seq ?_
    refine cw_region ?_
    first | refine lw_val rfl (run_move (v := .pointer (some _)) rfl) ?_ | refine lw_val rfl (run_move (v := .pointer none) rfl) ?_
    refine lw_val rfl (run_eqpn Tryd.underlying24 rfl rfl) ?_
    refine lw_nil ?_
    refine cw_iff rfl rfl ?_
    refine cw_skip ?_
    refine cw_seq ?_
    refine cw_region ?_
    first | refine lw_val rfl (run_assign (v := .slice _ _ _) rfl) ?_
    refine lw_nil ?_
    refine cw_seq ?_
    refine cw_seq ?_
    refine cw_region ?_
    first | refine lw_val rfl (run_assign (v := .int .i64 _) rfl) ?_
    refine lw_nil ?_
    refine cw_block ?_
    refine cw_loop (X := Nat × Option Addr × Nat × St × List ByteArray) [4, 7, 8, 29, 30, 31, 32, 33, 34, 35, 36, 37, 38, 39, 40, 41, 42, 43, 44, 45, 46, 47, 48, 49, 50, 51, 52, 53, 54, 55, 56, 57] (fun x => [(7, .slice x.2.1 x.2.2.2.2.length x.2.2.1), (8, .int .i64 (x.1 : Nat))]) (fun x w => x.1 ≤ l.length ∧ SLI x.1 x.2.2.2.1 x.2.2.2.2 ∧ Mem g w [own (.slice x.2.1 x.2.2.2.2.length x.2.2.1) (textsL x.2.2.2.2), StoreC p x.2.2.2.1]) (fun x => l.length - x.1) ((0, none, 0, St.empty, [])) ?_ ?_ ?_
    · exact ⟨rfl, rfl, trivial⟩
    · exact ⟨Nat.zero_le _, SLI.empty, hs.addE (own_nil _)⟩
    clear hs
    rintro x ξ w hI
    obtain ⟨i, ha, hc, st, H⟩ := x
    obtain ⟨hi, hinv, hs⟩ := hI
    simp only at hi hinv hs
    have hHl := hinv.len
    have hcl := hinv.calls
    have hfl := hinv.failed
    show cw _ _ _ _ _ _ (updL (mix _ ξ _) [(7, .slice ha H.length hc), (8, .int .i64 (i : Nat))]) w
    refine cw_seq ?_
    refine cw_seq ?_
    refine cw_region ?_
    first | refine lw_val rfl (run_move (v := .int .i64 _) rfl) ?_
    first | refine lw_val rfl (run_move (v := .slice _ _ _) rfl) ?_
    refine lw_val rfl (run_lenS Tryd.underlying69 rfl) ?_
    refine lw_val rfl (run_lss rfl rfl) ?_
    refine lw_nil ?_
    refine cw_if rfl ?_ ?_
    · intro h32
      have g32 := of_decide_eq_true h32
      obtain ⟨nm, hnm⟩ : ∃ nm, l[i]? = some nm := ⟨l[i]'(by omega), List.getElem?_eq_getElem _⟩
      obtain ⟨b0, o0, rfl, _⟩ := (hl.rd _).cells' hs (by rw [textsL_len]; omega)
      refine cw_skip ?_
      refine cw_seq ?_
      refine cw_block ?_
      refine cw_seq ?_
      refine cw_seq ?_
      refine cw_region ?_
      first | refine lw_val rfl (run_move (v := .slice _ _ _) rfl) ?_
      first | refine lw_val rfl (run_move (v := .int .i64 _) rfl) ?_
      refine lw_val rfl (run_indexAddr Tryd.underlying69 sz9 rfl rfl rfl (by omega) rfl) ?_
      refine lw_val rfl (run_load Tryd.underlying9 rfl rfl ((hl.rd _).cellAt hs (textsL_at hnm))) ?_
      refine lw_val rfl (run_lenT Tryd.underlying9 rfl) ?_
      refine lw_val rfl (run_gtr rfl rfl) ?_
      refine lw_nil ?_
      refine cw_if rfl ?_ ?_
      · intro h40
        have g40 := of_decide_eq_true h40
        refine cw_seq ?_
        refine cw_region ?_
        first | refine lw_val rfl (run_assign (v := .bool _) rfl) ?_
        refine lw_nil ?_
        refine cw_ret ?_
        refine res1 (v := .bool _) rfl rfl ?_
        exact ⟨_, rfl, rfl, hs.nil⟩
      · intro h40
        have g40 := of_decide_eq_false h40
        obtain ⟨k2, st2, hk2⟩ : ∃ k2 st2, st.run (St.put1 nm [UInt8.ofNat i]) = (k2, st2) := ⟨_, _, rfl⟩
        have hstep := hinv.put (b := [UInt8.ofNat i]) (by omega) (Nat.le_refl 1) hk2
        refine cw_skip ?_
        refine cw_seq ?_
        refine cw_region ?_
        first | refine lw_val rfl (run_move (v := .pointer (some _)) rfl) ?_ | refine lw_val rfl (run_move (v := .pointer none) rfl) ?_
        first | refine lw_val rfl (run_move (v := .slice _ _ _) rfl) ?_
        first | refine lw_val rfl (run_move (v := .int .i64 _) rfl) ?_
        refine lw_val rfl (run_indexAddr Tryd.underlying69 sz9 rfl rfl rfl (by omega) rfl) ?_
        refine lw_val rfl (run_load Tryd.underlying9 rfl rfl ((hl.rd _).cellAt hs (textsL_at hnm))) ?_
        first | refine lw_val rfl (run_move (v := .int .i64 _) rfl) ?_
        refine lw_val rfl (run_convIn Tryd.underlying3 Tryd.underlying5 rfl (c := (((UInt8.ofNat i).toNat : Nat) : Int)) (wrap_u8 (by omega))) ?_
        refine lw_buildSlice hs rfl ((bytesL [UInt8.ofNat i])) Tryd.underlying27 zs5 rfl (cells_one (bytesL_one _)) rfl rfl rfl ?_
        clear hs
        intro b48 w hs
        try simp only [List.set_cons_succ, List.set_cons_zero] at hs
        refine lw_call rfl en23 (put_sl hE (hs.pick 2 rfl) (by omega) (by omega) (Rd.cells (n := 1) (cs := bytesL [UInt8.ofNat i]) 0 rfl rfl) (by simp) hk2) ?_
        clear hs
        rintro _ w ⟨rfl, hs⟩
        first | refine lw_val rfl (run_eqerrn (ad := ad) rfl) ?_ | refine lw_val rfl (run_eqnn rfl) ?_
        refine lw_nil ?_
        refine cw_if rfl ?_ ?_
        · intro h50
          have g50 := of_decide_eq_true h50
          have hin2 : SLI (i + 1) st2 (H ++ [nm]) := by rcases hstep with h | h; exact h.2; exact absurd g50 h.1
          refine cw_region ?_
          first | refine lw_val rfl (run_move (v := .slice _ _ _) rfl) ?_
          first | refine lw_val rfl (run_move (v := .slice _ _ _) rfl) ?_
          first | refine lw_val rfl (run_move (v := .int .i64 _) rfl) ?_
          refine lw_val rfl (run_indexAddr Tryd.underlying69 sz9 rfl rfl rfl (by omega) rfl) ?_
          refine lw_val rfl (run_load Tryd.underlying9 rfl rfl ((hl.rd _).cellAt hs (textsL_at hnm))) ?_
          refine lw_buildSlice hs rfl ((textsL [nm])) Tryd.underlying69 zs9 rfl (cells_one (textsL_one _)) rfl rfl rfl ?_
          clear hs
          intro b56 w hs
          try simp only [List.set_cons_succ, List.set_cons_zero] at hs
          refine lw_append hs rfl 3 rfl Tryd.underlying69 in9 rfl rfl rfl (src_of_seq (P := Tryd.prog) Tryd.underlying69 ((Rd.cells (n := 1) (cs := textsL [nm]) 0 rfl rfl).seq hs) (textsL_one [nm])) (by simp only [textsL_len, List.length_cons, List.length_nil]; omega) (by simp only [textsL_len, List.length_cons, List.length_nil]; omega) ?_
          clear hs
          intro a57 c57 w hs
          simp only [List.set_cons_succ, List.set_cons_zero] at hs
          first | refine lw_val rfl (run_assign (v := .slice _ _ _) rfl) ?_
          refine lw_nil ?_
          refine cw_region ?_
          first | refine lw_val rfl (run_move (v := .int .i64 _) rfl) ?_
          refine lw_val rfl (run_add64 rfl rfl rfl (inI (by omega) (by omega))) ?_
          first | refine lw_val rfl (run_assign (v := .int .i64 _) rfl) ?_
          refine lw_nil ?_
          have h2 : Mem g w [own (.slice a57 ((textsL H).length + (textsL [nm]).length) c57) (textsL H ++ textsL [nm]), StoreC p st2] := hs.arr [3, 1] 4 (by decide)
          exact ⟨(i + 1, a57, c57, st2, H ++ [nm]), by simp only; omega, ⟨by simp only; omega, hin2, by simpa only [textsL_app, List.length_append, textsL_len] using h2⟩, ⟨show Value.slice a57 ((textsL H).length + (textsL [nm]).length) c57 = Value.slice a57 (H ++ [nm]).length c57 from by simp [textsL], rfl, trivial⟩, by repeat (first | exact Out.mix _ _ _ | refine Out.updo rfl ?_ | refine Out.upd rfl ?_ | refine Out.mixIn rfl ?_)⟩
        · intro h50
          have g50 := of_decide_eq_false h50
          have hin2 : SLI (i + 1) st2 H := by rcases hstep with h | h; exact absurd h.1 g50; exact h.2
          refine cw_skip ?_
          refine cw_region ?_
          first | refine lw_val rfl (run_move (v := .int .i64 _) rfl) ?_
          refine lw_val rfl (run_add64 rfl rfl rfl (inI (by omega) (by omega))) ?_
          first | refine lw_val rfl (run_assign (v := .int .i64 _) rfl) ?_
          refine lw_nil ?_
          exact ⟨(i + 1, ha, hc, st2, H), by simp only; omega, ⟨by simp only; omega, hin2, hs.arr [2, 0] 3 (by decide)⟩, ⟨rfl, rfl, trivial⟩, by repeat (first | exact Out.mix _ _ _ | refine Out.updo rfl ?_ | refine Out.upd rfl ?_ | refine Out.mixIn rfl ?_)⟩
    · intro h32
      have g32 := of_decide_eq_false h32
      have hscr := hinv.script
      have hksz : ∀ x ∈ keysOf st.objs, x.size ≤ 1000000 := fun x hx => by have := hinv.size x ((hinv.mem x).1 hx); omega
      have holen := hinv.olen
      have hnmd : st.named := ⟨hksz, by omega⟩
      have hrs : sortT (keysOf st.objs) = riseT H := sortT_rise (rise_risen H) hinv.nd (fun x => by rw [rise_mem, hinv.mem])
      have hrlen : (riseT H).length ≤ 20 := by have := rise_len H H.length (Nat.le_refl _); rw [List.take_length] at this; omega
      have hl1 : st.listR ⟨#[]⟩ = (riseT H, 0, { st with calls := st.calls + 1 }) := by rw [list_ok hscr, list1_all, hrs]
      refine cw_exit rfl ?_
      refine cw_seq ?_
      refine cw_region ?_
      first | refine lw_val rfl (run_move (v := .pointer (some _)) rfl) ?_ | refine lw_val rfl (run_move (v := .pointer none) rfl) ?_
      refine lw_call rfl en48 (list_sl hE hnmd (hs.pick 1 rfl) (by omega) (by omega) ⟨#[]⟩ hl1) ?_
      clear hs
      rintro _ w ⟨a60, c60, rfl, hs⟩
      first | refine lw_val rfl (run_move (v := .tuple _) rfl) ?_
      first | refine lw_val rfl (run_extract (v := .slice _ _ _) rfl rfl) ?_
      first | refine lw_val rfl (run_extract (v := errV ad _) rfl rfl) ?_ | refine lw_val rfl (run_extract (v := .nilIface) rfl rfl) ?_
      first | refine lw_val rfl (run_assign (v := .slice _ _ _) rfl) ?_
      first | refine lw_val rfl (run_assign (v := errV ad _) rfl) ?_ | refine lw_val rfl (run_assign (v := .nilIface) rfl) ?_
      refine lw_nil ?_
      refine cw_seq ?_
      refine cw_seq ?_
      refine cw_region ?_
      first | refine lw_val rfl (run_move (v := errV ad _) rfl) ?_ | refine lw_val rfl (run_move (v := .nilIface) rfl) ?_
      first | refine lw_val rfl (run_neerrn (ad := ad) rfl) ?_ | refine lw_val rfl (run_nenn rfl) ?_
      first | refine lw_val rfl (run_move (v := .bool _) rfl) ?_
      refine lw_on rfl rfl (not_f (decide_eq_true rfl)) ?_
      first | refine lw_val rfl (run_move (v := .slice _ _ _) rfl) ?_
      refine lw_on rfl rfl (not_f (decide_eq_true rfl)) ?_
      first | refine lw_val rfl (run_move (v := .slice _ _ _) rfl) ?_
      refine lw_on rfl rfl (not_f (decide_eq_true rfl)) ?_
      refine lw_call rfl en50 (rising_sl hs (l := H) (hs.rdOwn 2 rfl) rfl (by omega) (fun x hx => by have := hinv.size x hx; omega)) ?_
      clear hs
      rintro _ w ⟨a68, c68, rfl, hs⟩
      refine lw_on rfl rfl (not_f (decide_eq_true rfl)) ?_
      refine lw_call rfl en49 (sameT_sl (la := riseT H) (lb := riseT H) hs (hs.rdOwn 1 rfl) (hs.rdOwn 0 rfl) rfl rfl (by omega)) ?_
      clear hs
      rintro _ w ⟨rfl, hs⟩
      refine lw_on rfl rfl (not_f (decide_eq_true rfl)) ?_
      refine lw_val rfl (run_not rfl) ?_
      first | refine lw_val rfl (run_pickF (v := .bool _) rfl (not_f (decide_eq_true rfl)) rfl) ?_
      first | refine lw_val rfl (run_move (v := .bool _) rfl) ?_
      refine lw_on rfl rfl (not_f (decide_eq_true rfl)) ?_
      first | refine lw_val rfl (run_move (v := .pointer (some _)) rfl) ?_ | refine lw_val rfl (run_move (v := .pointer none) rfl) ?_
      refine lw_on rfl rfl (not_f (decide_eq_true rfl)) ?_
      refine lw_call rfl en51 (names_sl (st := { st with calls := st.calls + 1 }) (hs.pick 2 rfl) hksz (by simp only; omega)) ?_
      clear hs
      rintro _ w ⟨a74, c74, rfl, hs⟩
      rw [show sortT (keysOf ({ st with calls := st.calls + 1 } : St).objs) = riseT H from hrs] at hs ⊢
      refine lw_on rfl rfl (not_f (decide_eq_true rfl)) ?_
      first | refine lw_val rfl (run_move (v := .slice _ _ _) rfl) ?_
      refine lw_on rfl rfl (not_f (decide_eq_true rfl)) ?_
      refine lw_call rfl en49 (sameT_sl (la := riseT H) (lb := riseT H) hs (hs.rdOwn 0 rfl) (hs.rdOwn 3 rfl) rfl rfl (by omega)) ?_
      clear hs
      rintro _ w ⟨rfl, hs⟩
      refine lw_on rfl rfl (not_f (decide_eq_true rfl)) ?_
      refine lw_val rfl (run_not rfl) ?_
      first | refine lw_val rfl (run_pickF (v := .bool _) rfl (not_f (decide_eq_true rfl)) rfl) ?_
      refine lw_nil ?_
      refine cw_iff rfl (not_f (decide_eq_true rfl)) ?_
      refine cw_skip ?_
      refine cw_seq ?_
      refine cw_seq ?_
      refine cw_region ?_
      first | refine lw_val rfl (run_move (v := .slice _ _ _) rfl) ?_
      refine lw_val rfl (run_lenS Tryd.underlying69 rfl) ?_
      refine lw_val rfl (run_eqi rfl rfl) ?_
      refine lw_nil ?_
      refine cw_if rfl ?_ ?_
      · intro h81
        have g81 := of_decide_eq_true h81
        refine cw_seq ?_
        refine cw_region ?_
        first | refine lw_val rfl (run_assign (v := .bool _) rfl) ?_
        refine lw_nil ?_
        refine cw_ret ?_
        refine res1 (v := .bool _) rfl rfl ?_
        exact ⟨_, rfl, rfl, hs.nil⟩
      · intro h81
        have g81 := of_decide_eq_false h81
        refine cw_skip ?_
        refine cw_seq ?_
        refine cw_region ?_
        first | refine lw_val rfl (run_move (v := .int .i64 _) rfl) ?_
        first | refine lw_val rfl (run_move (v := .slice _ _ _) rfl) ?_
        refine lw_val rfl (run_lenS Tryd.underlying69 rfl) ?_
        refine lw_call rfl en34 (number_sl hs _ _ (by omega)) ?_
        clear hs
        rintro _ w ⟨k0, hk0, rfl, hs⟩
        first | refine lw_val rfl (run_assign (v := .int .i64 _) rfl) ?_
        refine lw_nil ?_
        refine cw_seq ?_
        obtain ⟨gn, hgn⟩ : ∃ gn, (riseT H)[k0]? = some gn := ⟨(riseT H)[k0]'(by omega), List.getElem?_eq_getElem _⟩
        obtain ⟨b9, o9, rfl, _⟩ := hs.ownCells 3 rfl (by rw [textsL_len]; omega)
        have hgm : gn ∈ keysOf st.objs := (hinv.mem gn).2 ((rise_mem H gn).1 (List.mem_of_getElem? hgn))
        have hgs : (aget st.objs gn).isSome = true := by cases hc : aget st.objs gn with | some b => rfl | none => exact absurd hgm ((aget_none_iff _ _).1 hc)
        have hgd := aget_del_same hinv.nd gn
        have hal := adel_len hgs
        have hks2 : ∀ x ∈ keysOf (adel st.objs gn), x.size ≤ 1000000 := fun x hx => hksz x (by rw [keys_del hinv.nd] at hx; exact (List.mem_filter.1 hx).1)
        refine cw_region ?_
        first | refine lw_val rfl (run_move (v := .slice _ _ _) rfl) ?_
        first | refine lw_val rfl (run_move (v := .int .i64 _) rfl) ?_
        refine lw_val rfl (run_indexAddr Tryd.underlying69 sz9 rfl rfl rfl (by omega) rfl) ?_
        refine lw_val rfl (run_load Tryd.underlying9 rfl rfl (hs.ownAt 3 rfl (textsL_at hgn))) ?_
        first | refine lw_val rfl (run_assign (v := .string _) rfl) ?_
        refine lw_nil ?_
        refine cw_seq ?_
        refine cw_seq ?_
        refine cw_region ?_
        first | refine lw_val rfl (run_move (v := .pointer (some _)) rfl) ?_ | refine lw_val rfl (run_move (v := .pointer none) rfl) ?_
        first | refine lw_val rfl (run_move (v := .string _) rfl) ?_
        refine lw_call rfl en52 (del_sl hE (hs.pick 1 rfl) (by simp only; omega) (by simp only; omega) gn (del_ok (st := { st with calls := st.calls + 1 }) hscr hgs)) ?_
        clear hs
        rintro _ w ⟨rfl, hs⟩
        first | refine lw_val rfl (run_neerrn (ad := ad) rfl) ?_ | refine lw_val rfl (run_nenn rfl) ?_
        first | refine lw_val rfl (run_move (v := .bool _) rfl) ?_
        refine lw_on rfl rfl (not_f (decide_eq_true rfl)) ?_
        first | refine lw_val rfl (run_move (v := .pointer (some _)) rfl) ?_ | refine lw_val rfl (run_move (v := .pointer none) rfl) ?_
        refine lw_on rfl rfl (not_f (decide_eq_true rfl)) ?_
        first | refine lw_val rfl (run_move (v := .string _) rfl) ?_
        refine lw_on rfl rfl (not_f (decide_eq_true rfl)) ?_
        refine lw_call rfl en52 (del_sl hE hs (by simp only; omega) (by simp only; omega) gn (del_no (st := { st with calls := st.calls + 1 + 1, objs := adel st.objs gn }) hscr hgd)) ?_
        clear hs
        rintro _ w ⟨rfl, hs⟩
        refine lw_on rfl rfl (not_f (decide_eq_true rfl)) ?_
        refine lw_call rfl en25 (is_sl hA hs (d := 107) (.inr m107) _) ?_
        clear hs
        rintro _ w ⟨rfl, hs⟩
        refine lw_on rfl rfl (not_f (decide_eq_true rfl)) ?_
        refine lw_val rfl (run_not rfl) ?_
        first | refine lw_val rfl (run_pickF (v := .bool _) rfl (not_f (decide_eq_true rfl)) rfl) ?_
        refine lw_nil ?_
        refine cw_iff rfl (not_f (decide_eq_true rfl)) ?_
        refine cw_skip ?_
        refine cw_seq ?_
        refine cw_region ?_
        first | refine lw_val rfl (run_move (v := .pointer (some _)) rfl) ?_ | refine lw_val rfl (run_move (v := .pointer none) rfl) ?_
        first | refine lw_val rfl (run_move (v := .string _) rfl) ?_
        refine lw_call rfl en48 (list_sl hE (show St.named _ from ⟨hks2, by simp only; omega⟩) hs (by simp only; omega) (by simp only; omega) gn (list_ok (st := { st with calls := st.calls + 1 + 1 + 1, objs := adel st.objs gn }) hscr gn)) ?_
        clear hs
        rintro _ w ⟨a104, c104, rfl, hs⟩
        first | refine lw_val rfl (run_move (v := .tuple _) rfl) ?_
        first | refine lw_val rfl (run_extract (v := .slice _ _ _) rfl rfl) ?_
        first | refine lw_val rfl (run_extract (v := errV ad _) rfl rfl) ?_ | refine lw_val rfl (run_extract (v := .nilIface) rfl rfl) ?_
        first | refine lw_val rfl (run_assign (v := .slice _ _ _) rfl) ?_
        first | refine lw_val rfl (run_assign (v := errV ad _) rfl) ?_ | refine lw_val rfl (run_assign (v := .nilIface) rfl) ?_
        refine lw_nil ?_
        refine cw_seq ?_
        have hll : (St.list1 gn { st with calls := st.calls + 1 + 1 + 1, objs := adel st.objs gn }).length ≤ 20 := Nat.le_trans (List.length_filter_le _ _) (by rw [sortT_len]; simp only [keysOf, List.length_map]; omega)
        have hni : gn ∉ St.list1 gn { st with calls := st.calls + 1 + 1 + 1, objs := adel st.objs gn } := fun h => (aget_none_iff _ _).1 hgd (mem_sortT.1 (List.mem_filter.1 h).1)
        refine cw_region ?_
        first | refine lw_val rfl (run_move (v := errV ad _) rfl) ?_ | refine lw_val rfl (run_move (v := .nilIface) rfl) ?_
        first | refine lw_val rfl (run_eqerrn (ad := ad) rfl) ?_ | refine lw_val rfl (run_eqnn rfl) ?_
        first | refine lw_val rfl (run_move (v := .bool _) rfl) ?_
        refine lw_on rfl rfl (decide_eq_true rfl) ?_
        first | refine lw_val rfl (run_move (v := .slice _ _ _) rfl) ?_
        refine lw_on rfl rfl (decide_eq_true rfl) ?_
        first | refine lw_val rfl (run_move (v := .string _) rfl) ?_
        refine lw_on rfl rfl (decide_eq_true rfl) ?_
        refine lw_call rfl en53 (in_sl hs (hs.rdOwn 0 rfl) rfl (by omega)) ?_
        clear hs
        rintro _ w ⟨b112, hb112, rfl, hs⟩
        refine lw_on rfl rfl (decide_eq_true rfl) ?_
        refine lw_val rfl (run_not rfl) ?_
        first | refine lw_val rfl (run_pickT (v := .bool _) rfl (decide_eq_true rfl) rfl) ?_
        first | refine lw_val rfl (run_move (v := .bool _) rfl) ?_
        refine lw_on rfl rfl (not_t ((by cases hb : b112 with | false => rfl | true => exact absurd (hb112.1 hb) hni))) ?_
        first | refine lw_val rfl (run_move (v := .pointer (some _)) rfl) ?_ | refine lw_val rfl (run_move (v := .pointer none) rfl) ?_
        refine lw_on rfl rfl (not_t ((by cases hb : b112 with | false => rfl | true => exact absurd (hb112.1 hb) hni))) ?_
        refine lw_call rfl en51 (names_sl (hs.pick 1 rfl) hks2 (by simp only; omega)) ?_
        clear hs
        rintro _ w ⟨a117, c117, rfl, hs⟩
        refine lw_on rfl rfl (not_t ((by cases hb : b112 with | false => rfl | true => exact absurd (hb112.1 hb) hni))) ?_
        refine lw_val rfl (run_lenS Tryd.underlying69 rfl) ?_
        refine lw_on rfl rfl (not_t ((by cases hb : b112 with | false => rfl | true => exact absurd (hb112.1 hb) hni))) ?_
        first | refine lw_val rfl (run_move (v := .slice _ _ _) rfl) ?_
        refine lw_on rfl rfl (not_t ((by cases hb : b112 with | false => rfl | true => exact absurd (hb112.1 hb) hni))) ?_
        refine lw_val rfl (run_lenS Tryd.underlying69 rfl) ?_
        refine lw_on rfl rfl (not_t ((by cases hb : b112 with | false => rfl | true => exact absurd (hb112.1 hb) hni))) ?_
        refine lw_val rfl (run_sub64 rfl rfl rfl (inI (by omega) (by omega))) ?_
        refine lw_on rfl rfl (not_t ((by cases hb : b112 with | false => rfl | true => exact absurd (hb112.1 hb) hni))) ?_
        refine lw_val rfl (run_eqi rfl rfl) ?_
        first | refine lw_val rfl (run_pickT (v := .bool _) rfl (not_t ((by cases hb : b112 with | false => rfl | true => exact absurd (hb112.1 hb) hni))) rfl) ?_
        first | refine lw_val rfl (run_assign (v := .bool _) rfl) ?_
        refine lw_nil ?_
        refine cw_ret ?_
        refine res1 (v := .bool _) rfl rfl ?_
        have e1 : (sortT (keysOf (adel st.objs gn))).length + 1 = (riseT H).length := by rw [← hrs, sortT_len, sortT_len]; simpa [keysOf] using hal
        exact ⟨_, rfl, ret_b (decide_eq_true (show (((sortT (keysOf (adel st.objs gn))).length : Nat) : Int) = (((riseT H).length : Nat) : Int) - 1 by omega)), hs.nil⟩
end Go.Proofs.YtjiigajekminaaaDoor
