/- The disk's List: slices.Sorted(maps.Keys(m)) at strings; SameTexts. -/
import Derived.Test.YtmnfehbnjgmgjaaDoorDe
import Derived.Test.YtmnfehbnjgmgjaaDoorZc
namespace Go.Proofs.YtmnfehbnjgmgjaaDoor
set_option linter.all false
open Go.RowKit Go.MapKept Go.Maps Go.Sort Go.Shelf Go.WideElems
variable {g w : World} {L M : List HP} {ad : Nat → Addr} {p q : Nat} {d : Dk}

/-- A reading that every value has. -/
def anyR (_ : Value) : Option (DataW Unit × List MemPlace) := some (.nil, [])
theorem keys_read {κ : Type} {enc : κ → Value} {k : TypeId} {lit : κ → Lit} : ∀ (xs : List MapEntry) (es : List (κ × Value)), xs.map kv = es.map (ekv enc) → (∀ x ∈ keysOf es, keyOf Tryd.prog k (enc x) = some (lit x)) →
    (∀ x ∈ xs, ∃ y, Go.WideElems.rd Tryd.prog k anyR x = some y) ∧ xs.map (fun x => (rg Tryd.prog k anyR x).1) = (keysOf es).map lit
  | [], [], _, _ => ⟨fun _ h => by simp at h, rfl⟩
  | [], _ :: _, h, _ => by simp at h
  | _ :: _, [], h, _ => by simp at h
  | a :: xs, e :: es, h, hk => by
    simp only [List.map_cons, List.cons.injEq] at h
    obtain ⟨h1, h2⟩ := h
    obtain ⟨i1, i2⟩ := keys_read xs es h2 fun x hx => hk x (List.mem_cons_of_mem _ hx)
    have ha : a.key = enc e.1 := by have := congrArg Prod.fst h1; exact this
    have hr : Go.WideElems.rd Tryd.prog k anyR a = some (lit e.1, .nil) := by
      simp [Go.WideElems.rd, ha, hk e.1 (List.mem_cons_self ..), anyR]
    refine ⟨fun x hx => ?_, ?_⟩
    · rcases List.mem_cons.1 hx with rfl | hx
      · exact ⟨_, hr⟩
      · exact i1 x hx
    · simp only [List.map_cons, keysOf, rg_of hr]
      exact congrArg _ i2
theorem keys_owned {κ : Type} {W : World} {enc : κ → Value} {b : Nat} {es : List (κ × Value)} {k : TypeId} {lit : κ → Lit} (h : MapAt W enc b es) (hk : ∀ x ∈ keysOf es, keyOf Tryd.prog k (enc x) = some (lit x)) (hn : es.length ≤ 1000000) :
    ∃ l : List (Lit × DataW Unit), W.ownsMap Tryd.prog k anyR b es.length (.map l) ∧ (l.map (·.1)).Perm ((keysOf es).map lit) := by
  obtain ⟨arr, clock, hb, he, hst⟩ := h
  have hlen : arr.size = es.length := by have := congrArg List.length he; simpa using this
  obtain ⟨h1, h2⟩ := keys_read arr.toList es he hk
  refine ⟨(arr.toList.map (rg Tryd.prog k anyR)).foldr DataW.insert [], ⟨arr, clock, hb, ⟨by unfold maxLen; omega, hst, h1⟩, by omega, rfl⟩, ?_⟩
  refine ((Go.WideShapes.sorted_perm _).map _).trans ?_
  rw [List.map_map, ← h2]
  exact List.Perm.refl _
theorem newSeq_of_row {W w' : World} {T : TypeId} {v : Value} {n : Nat} {xs : List Value} (h : w'.ownsRow W.heap.size T 1 v n xs) (hb : Below W.heap.size W w') : NewSeq W xs (.returned v) w' := by
  obtain ⟨hx, ⟨rfl, hn⟩ | ⟨b, cap, cur, rfl, hg, hc, h1, h2, h3, h4⟩⟩ := h
  · subst hn
    have : xs = [] := List.eq_nil_of_length_eq_zero (by omega)
    subst this
    exact ⟨_, rfl, ⟨none, 0, 0, rfl, rfl, Nat.le_refl _, ⟨fun _ => rfl, fun _ h => by cases h⟩, .inl rfl⟩, hb, fun _ h => by cases h⟩
  · have hlt := lt_of_block hc
    refine ⟨_, rfl, ⟨some ⟨b, 0, none⟩, n, cap, rfl, by omega, h1, ⟨fun e => (by cases e), fun x hx => by cases hx; exact hlt⟩, .inr ⟨b, 0, cur, T, rfl, hc, by omega, fun i hi => ?_⟩⟩, hb, fun x hx => by cases hx; exact ⟨hg, hlt⟩⟩
    rw [← h4, List.getElem?_take_of_lt (by omega), Array.getElem?_toList, Nat.zero_add]

def textsL (l : List ByteArray) : List Value := l.map Value.string
theorem textsL_at {l : List ByteArray} {k : Nat} {x : ByteArray} (h : l[k]? = some x) : (textsL l)[k]? = some (.string x) := by simp [textsL, h]
theorem textsL_len (l : List ByteArray) : (textsL l).length = l.length := by simp [textsL]
theorem sameT_sl (hs : Mem g w L) {a b : Option Addr} {n m c d : Nat} {la lb : List ByteArray} (ha : Rd g L (.slice a n c) (textsL la)) (hb : Rd g L (.slice b m d) (textsL lb)) (hn : n = la.length) (hm : m = lb.length) (hlen : la.length ≤ 1073741824) :
    Calls Tryd.prog 45 #[.slice a n c, .slice b m d] w (Ret fun v w' => v = .bool (decide (la = lb)) ∧ Mem g w' L) := by
  subst hn hm
  refine calls_cw Tryd.func45 rfl rfl ?_
  skip
  refine cw_seq ?_
  refine cw_region ?_
  first | refine lw_val rfl (run_assign (v := .bool _) rfl) ?_
  refine lw_nil ?_
  refine cw_seq ?_
  refine cw_seq ?_
  refine cw_region ?_
  first | refine lw_val rfl (run_move (v := .slice _ _ _) rfl) ?_
  refine lw_val rfl (run_lenS Tryd.underlying69 rfl) ?_
  first | refine lw_val rfl (run_move (v := .slice _ _ _) rfl) ?_
  refine lw_val rfl (run_lenS Tryd.underlying69 rfl) ?_
  refine lw_val rfl (run_nei rfl rfl) ?_
  refine lw_nil ?_
  refine cw_if rfl ?_ ?_
  · intro h11
    have g11 := ne_t h11
    refine cw_seq ?_
    refine cw_region ?_
    first | refine lw_val rfl (run_assign (v := .bool _) rfl) ?_
    refine lw_nil ?_
    refine cw_ret ?_
    refine res1 (v := .bool _) rfl rfl ?_
    exact ⟨_, rfl, ret_b (by rw [decide_eq_false (fun e => g11 (by rw [e]))]), hs⟩
  · intro h11
    have g11 := ne_f h11
    refine cw_skip ?_
    refine cw_seq ?_
    refine cw_seq ?_
    refine cw_region ?_
    first | refine lw_val rfl (run_assign (v := .int .i64 _) rfl) ?_
    refine lw_nil ?_
    refine cw_block ?_
    refine cw_loop (X := Nat) [4, 5, 6, 12, 13, 14, 15, 16, 17, 18, 19, 20, 21, 22, 23, 24, 25, 26, 27, 28] (fun k => [(5, .int .i64 (k : Nat))]) (fun k w => k ≤ la.length ∧ la.take k = lb.take k ∧ Mem g w L) (fun k => la.length - k) (0) ?_ ?_ ?_
    · exact ⟨rfl, trivial⟩
    · exact ⟨Nat.zero_le _, rfl, hs⟩
    clear hs
    rintro x ξ w hI
    obtain ⟨hk, hq, hs⟩ := hI
    refine cw_seq ?_
    refine cw_seq ?_
    refine cw_region ?_
    first | refine lw_val rfl (run_move (v := .int .i64 _) rfl) ?_
    first | refine lw_val rfl (run_move (v := .slice _ _ _) rfl) ?_
    refine lw_val rfl (run_lenS Tryd.underlying69 rfl) ?_
    refine lw_val rfl (run_lss rfl rfl) ?_
    refine lw_nil ?_
    refine cw_if rfl ?_ ?_
    · intro h15
      have g15 := of_decide_eq_true h15
      obtain ⟨xa, hxa⟩ : ∃ xa, la[x]? = some xa := ⟨la[x]'(by omega), List.getElem?_eq_getElem _⟩
      obtain ⟨xb, hxb⟩ : ∃ xb, lb[x]? = some xb := ⟨lb[x]'(by omega), List.getElem?_eq_getElem _⟩
      obtain ⟨b1, o1, rfl, _⟩ := ha.cells' hs (by rw [textsL_len]; omega)
      obtain ⟨b2, o2, rfl, _⟩ := hb.cells' hs (by rw [textsL_len]; omega)
      refine cw_skip ?_
      refine cw_seq ?_
      refine cw_block ?_
      refine cw_seq ?_
      refine cw_drawS mixes hs ?_
      intro w tr hK
      replace hs := tr _ hs
      clear tr
      first | refine aw_take 0 rfl (by kernel_rfl) (by kernel_rfl) (by kernel_rfl) rfl (fun w hs => run_move (v := .slice _ _ _) rfl) hK ?_
      first | refine aw_take 1 rfl (by kernel_rfl) (by kernel_rfl) (by kernel_rfl) rfl (fun w hs => run_move (v := .int .i64 _) rfl) hK ?_
      refine aw_take 2 rfl (by kernel_rfl) (by kernel_rfl) (by kernel_rfl) rfl (fun w hs => run_indexAddr Tryd.underlying69 sz9 rfl rfl rfl (by omega) rfl) hK ?_
      refine aw_take 3 rfl (by kernel_rfl) (by kernel_rfl) (by kernel_rfl) rfl (fun w hs => run_load Tryd.underlying9 rfl rfl (ha.cellAt hs (textsL_at hxa))) hK ?_
      first | refine aw_take 4 rfl (by kernel_rfl) (by kernel_rfl) (by kernel_rfl) rfl (fun w hs => run_move (v := .slice _ _ _) rfl) hK ?_
      first | refine aw_take 5 rfl (by kernel_rfl) (by kernel_rfl) (by kernel_rfl) rfl (fun w hs => run_move (v := .int .i64 _) rfl) hK ?_
      refine aw_take 6 rfl (by kernel_rfl) (by kernel_rfl) (by kernel_rfl) rfl (fun w hs => run_indexAddr Tryd.underlying69 sz9 rfl rfl rfl (by omega) rfl) hK ?_
      refine aw_take 7 rfl (by kernel_rfl) (by kernel_rfl) (by kernel_rfl) rfl (fun w hs => run_load Tryd.underlying9 rfl rfl (hb.cellAt hs (textsL_at hxb))) hK ?_
      refine aw_take 8 rfl (by kernel_rfl) (by kernel_rfl) (by kernel_rfl) rfl (fun w hs => run_eqs rfl rfl) hK ?_
      first | refine aw_take 9 rfl (by kernel_rfl) (by kernel_rfl) (by kernel_rfl) rfl (fun w hs => run_assign (v := .bool _) rfl) hK ?_
      refine aw_done (by kernel_rfl) ?_
      clear hK
      refine cw_seq ?_
      refine cw_region ?_
      first | refine lw_val rfl (run_move (v := .bool _) rfl) ?_
      refine lw_val rfl (run_not rfl) ?_
      refine lw_nil ?_
      refine cw_if rfl ?_ ?_
      · intro h26
        replace h26 := not_b h26
        have g26 := of_decide_eq_false h26
        refine cw_seq ?_
        refine cw_region ?_
        first | refine lw_val rfl (run_assign (v := .bool _) rfl) ?_
        refine lw_nil ?_
        refine cw_ret ?_
        refine res1 (v := .bool _) rfl rfl ?_
        exact ⟨_, rfl, ret_b (by rw [decide_eq_false (fun e => by subst e; rw [hxa] at hxb; cases hxb; exact g26 rfl)]), hs⟩
      · intro h26
        replace h26 := not_c h26
        have g26 := of_decide_eq_true h26
        refine cw_skip ?_
        refine cw_region ?_
        first | refine lw_val rfl (run_move (v := .int .i64 _) rfl) ?_
        refine lw_val rfl (run_add64 rfl rfl rfl (inI (by omega) (by omega))) ?_
        first | refine lw_val rfl (run_assign (v := .int .i64 _) rfl) ?_
        refine lw_nil ?_
        exact ⟨x + 1, by omega, ⟨by omega, by rw [List.take_add_one, List.take_add_one, hxa, hxb, hq, g26], hs⟩, ⟨rfl, trivial⟩, by repeat (first | exact Out.mix _ _ _ | refine Out.updo rfl ?_ | refine Out.upd rfl ?_ | refine Out.mixIn rfl ?_)⟩
    · intro h15
      have g15 := of_decide_eq_false h15
      refine cw_exit rfl ?_
      refine cw_seq ?_
      refine cw_region ?_
      first | refine lw_val rfl (run_assign (v := .bool _) rfl) ?_
      refine lw_nil ?_
      refine cw_ret ?_
      refine res1 (v := .bool _) rfl rfl ?_
      have h1 : x = la.length := by omega
      rw [h1, List.take_of_length_le (Nat.le_refl _), List.take_of_length_le (by omega)] at hq
      exact ⟨_, rfl, ret_b (decide_eq_true hq).symm, hs⟩
theorem textsL_one (l : List ByteArray) : ∀ u ∈ textsL l, u.oneCell' = true := by
  intro u hu; obtain ⟨x, _, rfl⟩ := List.mem_map.1 hu; rfl
theorem textsL_app (l m : List ByteArray) : textsL (l ++ m) = textsL l ++ textsL m := by simp [textsL]

def bytesOf (l : List ByteArray) : List (List UInt8) := l.map (·.data.toList)
def sortB (l : List (List UInt8)) : List (List UInt8) := l.mergeSort fun x y => decide (x ≤ y)
/-- Texts in order. -/
def sortT (l : List ByteArray) : List ByteArray := (sortB (bytesOf l)).map fun x => ⟨x.toArray⟩
theorem perm_sortB {a b : List (List UInt8)} (h : a.Perm b) : sortB a = sortB b := by
  have ht : ∀ x y z : List UInt8, decide (x ≤ y) = true → decide (y ≤ z) = true → decide (x ≤ z) = true := fun x y z h1 h2 => by simp only [decide_eq_true_eq] at *; exact List.le_trans h1 h2
  have hl : ∀ x y : List UInt8, (decide (x ≤ y) || decide (y ≤ x)) = true := fun x y => by simp only [Bool.or_eq_true, decide_eq_true_eq]; exact List.le_total x y
  have p1 := (List.mergeSort_perm a (fun x y => decide (x ≤ y))).trans (h.trans (List.mergeSort_perm b (fun x y => decide (x ≤ y))).symm)
  have s1 := List.pairwise_mergeSort ht hl a
  have s2 := List.pairwise_mergeSort ht hl b
  exact p1.eq_of_pairwise (fun x y _ _ h1 h2 => by simp only [decide_eq_true_eq] at h1 h2; exact List.le_antisymm h1 h2) s1 s2
theorem sortsS (m : Nat) : AnyZ.SortsIn Tryd.prog Tryd.sorted91_ren Fence.wide m :=
  ⟨fun blk off cap ss W hH hblk hsz => callsIn_wide.2 (AnyM.slices_Sort_string Tryd.sort111 blk off cap ss W hH hblk hsz),
   fun p cap W => callsIn_wide.2 (AnyM.slices_Sort_string_none Tryd.sort111 p cap W)⟩
theorem keyOf_str {x : ByteArray} (h : x.size ≤ 1000000) : keyOf Tryd.prog 9 (Value.string x) = some (Lit.string x.data.toList) := by
  have : x.size ≤ maxLen := by unfold maxLen; omega
  simp [keyOf, mapKey, Tryd.underlying9, this]
theorem sortedS_any {W : World} {kb b : Nat} {es : List (ByteArray × Value)} (hc : W.cell? ⟨kb, 0, none⟩ = some (.map (some b))) (hkb : kb < W.heap.size) (h : MapAt W Value.string b es) (hk : ∀ x ∈ keysOf es, x.size ≤ 1000000) (hn : es.length ≤ 1000000) :
    Calls Tryd.prog 91 #[.func (.func 112) #[] #[.pointer (some ⟨kb, 0, none⟩)]] W (NewSeq W (textsL (sortT (keysOf es)))) := by
  obtain ⟨l, hown, hp⟩ := keys_owned (k := 9) (lit := fun x : ByteArray => Lit.string x.data.toList) h (fun x hx => keyOf_str (hk x hx)) hn
  have hl : l.length = es.length := by have := hp.length_eq; simpa [keysOf] using this
  have hseq : SeqGives Fence.wide 2 Tryd.prog 112 #[.pointer (some ⟨kb, 0, none⟩)] encStr (fun ss => ss.Perm (strKeys (.map l))) (Maps.size (.map l)) W :=
    AnyZ.keys_gives (ρ := Tryd.keys92_ren) { Tryd.keys92 with } Fence.wide _ trivial rfl (by omega) kb b _ _ W hkb hc hown
  have hS := AnyZ.sorted_in Tryd.sorted91 Fence.wide 5 trivial trivial trivial trivial rfl (by omega) (sortsS _) (enters_of Tryd.func111 (by kernel_rfl) rfl) 112 #[.pointer (some ⟨kb, 0, none⟩)] trivial (enters_of Tryd.func112 (by kernel_rfl) rfl) _ _ (by show l.length ≤ maxLen; unfold maxLen; omega) (by show l.length * 16 ≤ _; omega) W hseq
  refine (callsIn_wide.1 hS).mono ?_
  rintro e w' ⟨v, ss, rfl, hss, hrow, _, hb⟩
  have e1 : ss.Perm (bytesOf (keysOf es)) := by
    refine hss.trans ?_
    have h2 : strKeys (.map l) = (l.map (·.1)).map Go.strOf := by simp [strKeys, List.map_map, Function.comp_def]
    rw [h2]
    refine (hp.map _).trans ?_
    rw [List.map_map]
    exact List.Perm.of_eq (by simp [Function.comp_def, Go.strOf, bytesOf])
  have e2 := perm_sortB e1
  unfold sortB at e2
  rw [e2] at hrow
  have e3 : ((bytesOf (keysOf es)).mergeSort fun x y => decide (x ≤ y)).map encStr = textsL (sortT (keysOf es)) := by simp [textsL, sortT, sortB, List.map_map, Function.comp_def]
  rw [e3] at hrow
  exact newSeq_of_row hrow hb
theorem keysS_sl (hs : Mem g w L) {b : Nat} : Calls Tryd.prog 92 #[.map (some b)] w (Ret fun v w' => ∃ kb, v = .func (.func 112) #[] #[.pointer (some ⟨kb, 0, none⟩)] ∧ Mem g w' (cells kb [.map (some b)] 107 :: L)) := by
  refine (callsIn_wide.1 (Go.Proofs.AnyZ.keys_in Tryd.keys92 Fence.wide 5 trivial rfl (some b) w)).mono ?_
  rintro e w' ⟨rfl, rfl⟩
  exact ⟨_, rfl, _, rfl, hs.new [.map (some b)] _⟩
theorem sortedS_sl (hs : Mem g w L) {kb b i j : Nat} {es : List (ByteArray × Value)} (hi : L[i]? = some (cells kb [.map (some b)] 107)) (hj : L[j]? = some (mapC Value.string b es)) (hk : ∀ x ∈ keysOf es, x.size ≤ 1000000) (hn : es.length ≤ 1000000) :
    Calls Tryd.prog 91 #[.func (.func 112) #[] #[.pointer (some ⟨kb, 0, none⟩)]] w (Ret fun v w' => ∃ a c, v = .slice a (sortT (keysOf es)).length c ∧ Mem g w' (own (.slice a (sortT (keysOf es)).length c) (textsL (sortT (keysOf es))) :: L)) := by
  obtain ⟨F, hblk, _⟩ := hs.read hi
  have hc := hs.cellAt i hi (o := 0) (v := .map (some b)) rfl
  refine (newSeq_sl hs (sortedS_any hc (lt_of_block hblk) (hs.mapAt j hj) hk hn)).mono ?_
  rintro e w' ⟨v, rfl, a, c, rfl, h⟩
  rw [show (textsL (sortT (keysOf es))).length = (sortT (keysOf es)).length by simp [textsL]] at h ⊢
  exact ⟨_, rfl, a, c, rfl, h⟩
theorem sortT_len (l : List ByteArray) : (sortT l).length = l.length := by simp [sortT, sortB, bytesOf]
theorem list_sl (hs : Mem g w (DiskC p d :: L)) (hk : ∀ x ∈ keysOf d.names, x.size ≤ 1000000) (hn : d.names.length ≤ 1000000) : Calls Tryd.prog 44 #[.pointer (some ⟨p, 0, none⟩)] w
    (Ret fun v w' => ∃ a c, v = .slice a (sortT (keysOf d.names)).length c ∧ Mem g w' (own (.slice a (sortT (keysOf d.names)).length c) (textsL (sortT (keysOf d.names))) :: DiskC p d :: L)) := by
  obtain ⟨ho, mn, mk, sa, sc, ptr, hs⟩ := hs.openD
  rw [← nmV_keys (ptr := ptr)] at hk ⊢
  have hn2 : (nmV ptr d.names).length ≤ 1000000 := by simpa [nmV] using hn
  refine calls_cw Tryd.func44 rfl rfl ?_
  skip
  refine cw_seq ?_
  refine cw_region ?_
  first | refine lw_val rfl (run_assign (v := .slice _ _ _) rfl) ?_
  refine lw_nil ?_
  refine cw_seq ?_
  refine cw_region ?_
  first | refine lw_val rfl (run_move (v := .pointer (some _)) rfl) ?_ | refine lw_val rfl (run_move (v := .pointer none) rfl) ?_
  refine lw_val rfl (run_nilCheckP rfl) ?_
  first | refine lw_val rfl (run_fieldAddr (o' := 1) Tryd.underlying110 rfl sz107 rfl rfl rfl) ?_ | refine lw_val rfl (run_fieldAddr Tryd.underlying110 rfl sz107 rfl rfl rfl) ?_
  first | refine lw_val rfl (run_load Tryd.underlying107 rfl rfl (hs.cellAt 0 rfl rfl)) ?_ | refine lw_val rfl (run_load Tryd.underlying107 rfl rfl (hs.cellAt 1 rfl rfl)) ?_ | refine lw_val rfl (run_load Tryd.underlying107 rfl rfl (hs.cellAt 2 rfl rfl)) ?_ | refine lw_val rfl (run_load Tryd.underlying107 rfl rfl (hs.cellAt 3 rfl rfl)) ?_ | refine lw_val rfl (run_load Tryd.underlying107 rfl rfl (hs.cellAt 4 rfl rfl)) ?_ | refine lw_val rfl (run_load Tryd.underlying107 rfl rfl (hs.cellAt 5 rfl rfl)) ?_ | refine lw_val rfl (run_load Tryd.underlying107 rfl rfl (hs.cellAt 6 rfl rfl)) ?_ | refine lw_val rfl (run_load Tryd.underlying107 rfl rfl (hs.cellAt 7 rfl rfl)) ?_ | refine lw_val rfl (run_load Tryd.underlying107 rfl rfl (hs.cellAt 8 rfl rfl)) ?_ | refine lw_val rfl (run_load Tryd.underlying107 rfl rfl (hs.cellAt 9 rfl rfl)) ?_ | refine lw_val rfl (run_load Tryd.underlying107 rfl rfl (hs.cellAt 10 rfl rfl)) ?_ | refine lw_val rfl (run_load Tryd.underlying107 rfl rfl (hs.cellAt 11 rfl rfl)) ?_ | refine lw_val rfl (run_load Tryd.underlying107 rfl rfl (hs.cellAt 12 rfl rfl)) ?_ | refine lw_val rfl (run_load Tryd.underlying107 rfl rfl (hs.cellAt 13 rfl rfl)) ?_
  refine lw_call rfl en92 (keysS_sl hs) ?_
  clear hs
  rintro _ w ⟨kb, rfl, hs⟩
  refine lw_call rfl en91 (sortedS_sl hs (i := 0) (j := 2) rfl rfl hk hn2) ?_
  clear hs
  rintro _ w ⟨a8, c8, rfl, hs⟩
  first | refine lw_val rfl (run_assign (v := .slice _ _ _) rfl) ?_
  refine lw_nil ?_
  refine cw_ret ?_
  refine res1 (v := .slice _ _ _) rfl rfl ?_
  exact ⟨_, rfl, a8, c8, rfl, Mem.closeD1 ho (hs.drop 1)⟩
end Go.Proofs.YtmnfehbnjgmgjaaDoor
