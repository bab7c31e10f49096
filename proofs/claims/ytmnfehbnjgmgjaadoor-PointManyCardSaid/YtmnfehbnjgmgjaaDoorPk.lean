/- The law PointMany. -/
import Derived.Test.YtmnfehbnjgmgjaaDoorPx
import Derived.Test.YtmnfehbnjgmgjaaDoorPf
import Derived.Test.YtmnfehbnjgmgjaaDoorRw
namespace Go.Proofs.YtmnfehbnjgmgjaaDoor
set_option linter.all false
open Go.RowKit
attribute [local irreducible] errV
variable {g w : World} {L M : List HP} {ad : Nat → Addr} {p : Nat} {d : Dk}

def hvE : Option El → Value
  | none => .slice none 0 0
  | some x => elV x
abbrev nm4 : List ByteArray := [nmI 0, nmI 1, nmI 2, nmI 3]
theorem nm4_at {k : Nat} (h : k < 4) : nm4[k]? = some (nmI k) := by
  rcases (by omega : k = 0 ∨ k = 1 ∨ k = 2 ∨ k = 3) with rfl | rfl | rfl | rfl <;> rfl
theorem nm4_in {k : Nat} (h : k < 4) : nmI k ∈ nm4 := List.mem_of_getElem? (nm4_at h)
theorem nm4_new : ∀ k < 4, ∀ n ∈ nm4, newN (nmI k) ≠ n := by decide +kernel
theorem nm4_valid : ∀ k < 4, validB (nmI k).data.toList = true ∧ validB (newN (nmI k)).data.toList = true := by decide +kernel
theorem nm4_size : ∀ k < 4, (nmI k).size ≤ 1000000 := by decide +kernel
structure PmI (z : List El) (E : List (Option El)) (F : ByteArray → Option (List UInt8)) : Prop where
  len : E.length = 4
  mem : ∀ x, some x ∈ E → x ∈ z
  rel : ∀ k e, E[k]? = some e → F (nmI k) = e.map (·.2.2)
theorem PmI.set {z : List El} {E : List (Option El)} {F : ByteArray → Option (List UInt8)} (h : PmI z E F) {r : Nat} {x : El} (hr : r < 4) (hx : x ∈ z) : PmI z (E.set r (some x)) (updF F (nmI r) x.2.2) := by
  refine ⟨by simp [h.len], fun y hy => ?_, fun k e he => ?_⟩
  · obtain ⟨i, hi⟩ := List.getElem?_of_mem hy
    rw [List.getElem?_set] at hi
    split at hi
    · split at hi
      · cases hi; exact hx
      · cases hi
    · exact h.mem y (List.mem_of_getElem? hi)
  · have hk : k < 4 := by have := (List.getElem?_eq_some_iff.1 he).1; simp [h.len] at this; exact this
    by_cases hkr : r = k
    · subst hkr
      rw [List.getElem?_set_self (by rw [h.len]; omega)] at he
      cases he
      simp [updF]
    · rw [List.getElem?_set_ne hkr] at he
      have hn : nmI k ≠ nmI r := fun e1 => hkr (nmI_inj (by omega) (by omega) e1).symm
      rw [← h.rel k e he]
      simp [updF, hn]
def lastI : Option (Nat × El) → Int
  | none => -1
  | some x => (x.1 : Nat)
def nextV : Option (Nat × El) → Value
  | none => .slice none 0 0
  | some x => elV x.2
def PmD (z : List El) (F : ByteArray → Option (List UInt8)) (d : Dk) : Option (Nat × El) → Prop
  | none => d.down = false ∧ PtI nm4 64 F d
  | some x => d.down = true ∧ x.1 < 4 ∧ x.2 ∈ z ∧ ∀ picks, PtI nm4 64 F (d.crash picks) ∨ PtI nm4 64 (updF F (nmI x.1) x.2.2.2) (d.crash picks)
/-- Behind the crash. -/
theorem PmD.crash {z : List El} {F : ByteArray → Option (List UInt8)} {l : Option (Nat × El)} (h : PmD z F d l) (picks : List Int) : ∃ G, PtI nm4 64 G (d.crash picks) ∧ (G = F ∨ ∃ x, l = some x ∧ x.1 < 4 ∧ x.2 ∈ z ∧ G = updF F (nmI x.1) x.2.2.2) := by
  cases l with
  | none => exact ⟨F, h.2.crash picks, .inl rfl⟩
  | some x =>
    obtain ⟨_, h1, h2, h3⟩ := h
    rcases h3 picks with h4 | h4
    · exact ⟨F, h4, .inl rfl⟩
    · exact ⟨_, h4, .inr ⟨x, rfl, h1, h2, rfl⟩⟩
theorem readO_code (o : Option (List UInt8)) : (readO o).1 = 0 ∨ (readO o).1 ∈ pointCodes := by
  cases o with
  | none => exact .inr (show 107 ∈ pointCodes by decide)
  | some v => exact .inl rfl
/-- What is read of each name. -/
theorem PmI.each {z : List El} {E : List (Option El)} {F G : ByteArray → Option (List UInt8)} {l : Option (Nat × El)} (h : PmI z E F) (hG : G = F ∨ ∃ x, l = some x ∧ x.1 < 4 ∧ x.2 ∈ z ∧ G = updF F (nmI x.1) x.2.2.2) {k : Nat} {e : Option El} (he : E[k]? = some e) :
    G (nmI k) = e.map (·.2.2) ∨ ∃ x, l = some x ∧ x.1 = k ∧ x.2 ∈ z ∧ G (nmI k) = some x.2.2.2 := by
  have hk : k < 4 := by have := (List.getElem?_eq_some_iff.1 he).1; rw [h.len] at this; exact this
  rcases hG with rfl | ⟨x, hl, hx, hz, rfl⟩
  · exact .inl (h.rel k e he)
  · by_cases hxk : x.1 = k
    · subst hxk
      exact .inr ⟨x, hl, rfl, hz, by simp [updF]⟩
    · have hn : nmI k ≠ nmI x.1 := fun e1 => hxk (nmI_inj (by omega) (by omega) e1).symm
      exact .inl (by rw [← h.rel k e he]; simp [updF, hn])
theorem old_fine {o : Option (List UInt8)} {e : Option El} {k : Nat} {b : List UInt8} (h : o = e.map (·.2.2)) (hr : readO o = (k, b)) : (decide (k = 0) == e.isSome) = true ∧ b = (e.map (·.2.2)).getD [] := by
  subst h
  cases e with
  | none => cases hr; exact ⟨rfl, rfl⟩
  | some x => cases hr; exact ⟨rfl, rfl⟩
theorem hvE_form (e : Option El) (h : ∀ x, e = some x → Came0 g (elV x) (bytesL x.2.2) ∧ (x.2.2.length : Int) ≤ 60) : ∃ a n c bs, hvE e = .slice a n c ∧ n = bs.length ∧ bs = (e.map (·.2.2)).getD [] ∧ (∀ L, Rd g L (.slice a n c) (bytesL bs)) ∧ bs.length ≤ 60 := by
  cases e with
  | none => exact ⟨none, 0, 0, [], rfl, rfl, rfl, fun L => Rd.nil, by decide⟩
  | some x => obtain ⟨h1, h2⟩ := h x rfl; exact ⟨_, _, _, x.2.2, rfl, rfl, rfl, fun L => h1.rd L, by omega⟩
set_option maxRecDepth 100000 in
set_option maxHeartbeats 2000000 in
theorem pointMany_sl (hP : ErrP ad g) (hs : Mem g w []) {a0 a1 a3 : Option Addr} {n0 n1 n3 c0 c1 c3 : Nat} {z : List El} {wh : List Int} {arm : Int} {picks : List Int} (h0 : Rows2 g (.slice a0 n0 c0) z) (h1 : Came g (.slice a1 n1 c1) (intsL wh)) (h3 : Came g (.slice a3 n3 c3) (intsL picks))
    (e0 : n0 = z.length) (e1 : n1 = wh.length) (e3 : n3 = picks.length) : Calls Tryd.prog 7 #[.slice a0 n0 c0, .slice a1 n1 c1, .int .i64 arm, .slice a3 n3 c3] w (Ret fun v w' => v = .bool true ∧ Mem g w' []) := by
  subst e0 e1 e3
  have hE := hP.ofPoint
  refine calls_cw Tryd.func7 rfl rfl ?_
  skip
  refine cw_seq ?_
  refine cw_region ?_
  first | refine lw_val rfl (run_assign (v := .bool _) rfl) ?_
  refine lw_nil ?_
  refine cw_seq ?_
  refine cw_region ?_
  refine lw_call rfl en13 (first8_sl hs) ?_
  clear hs
  rintro _ w ⟨rfl, hs⟩
  first | refine lw_val rfl (run_assign (v := .bool _) rfl) ?_
  refine lw_nil ?_
  refine cw_seq ?_
  refine cw_seq ?_
  refine cw_region ?_
  first | refine lw_val rfl (run_move (v := .bool _) rfl) ?_
  refine lw_val rfl (run_not rfl) ?_
  refine lw_nil ?_
  refine cw_iff rfl (not_f (rfl)) ?_
  refine cw_skip ?_
  refine cw_seq ?_
  refine cw_seq ?_
  refine cw_region ?_
  first | refine lw_val rfl (run_move (v := .slice _ _ _) rfl) ?_
  refine lw_call rfl en38 (worldBytes_sl hs h0 rfl (by decide)) ?_
  clear hs
  rintro _ w ⟨bw, hbw, rfl, hs⟩
  refine lw_val rfl (run_not rfl) ?_
  first | refine lw_val rfl (run_move (v := .bool _) rfl) ?_
  refine lw_split (t := _) (d := 30) rfl ?_ ?_
  · intro h28
    replace h28 := not_b h28
    refine lw_off rfl rfl rfl (not_t h28) ?_
    refine lw_off rfl rfl rfl (not_t h28) ?_
    refine lw_off rfl rfl rfl (not_t h28) ?_
    first | refine lw_val rfl (run_pickT (v := .bool _) rfl (not_t h28) rfl) ?_
    first | refine lw_val rfl (run_move (v := .bool _) rfl) ?_
    refine lw_off rfl rfl rfl rfl ?_
    refine lw_off rfl rfl rfl rfl ?_
    refine lw_off rfl rfl rfl rfl ?_
    first | refine lw_val rfl (run_pickT (v := .bool _) rfl rfl rfl) ?_
    first | refine lw_val rfl (run_move (v := .bool _) rfl) ?_
    refine lw_off rfl rfl rfl rfl ?_
    refine lw_off rfl rfl rfl rfl ?_
    first | refine lw_val rfl (run_pickT (v := .bool _) rfl rfl rfl) ?_
    refine lw_nil ?_
    refine cw_ift rfl rfl ?_
    refine cw_seq ?_
    refine cw_region ?_
    first | refine lw_val rfl (run_move (v := .bool _) rfl) ?_
    first | refine lw_val rfl (run_assign (v := .bool _) rfl) ?_
    refine lw_nil ?_
    refine cw_ret ?_
    refine res1 (v := .bool _) rfl rfl ?_
    exact ⟨_, rfl, rfl, hs⟩
  · intro h28
    replace h28 := not_c h28
    obtain ⟨hz12, hz60⟩ := hbw h28
    refine lw_on rfl rfl (not_f h28) ?_
    first | refine lw_val rfl (run_move (v := .slice _ _ _) rfl) ?_
    refine lw_on rfl rfl (not_f h28) ?_
    refine lw_val rfl (run_lenS Tryd.underlying63 rfl) ?_
    refine lw_on rfl rfl (not_f h28) ?_
    refine lw_val rfl (run_gtr rfl rfl) ?_
    first | refine lw_val rfl (run_pickF (v := .bool _) rfl (not_f h28) rfl) ?_
    first | refine lw_val rfl (run_move (v := .bool _) rfl) ?_
    refine lw_split (t := _) (d := 35) rfl ?_ ?_
    · intro h33
      have g33 := of_decide_eq_true h33
      refine lw_off rfl rfl rfl h33 ?_
      refine lw_off rfl rfl rfl h33 ?_
      refine lw_off rfl rfl rfl h33 ?_
      first | refine lw_val rfl (run_pickT (v := .bool _) rfl h33 rfl) ?_
      first | refine lw_val rfl (run_move (v := .bool _) rfl) ?_
      refine lw_off rfl rfl rfl rfl ?_
      refine lw_off rfl rfl rfl rfl ?_
      first | refine lw_val rfl (run_pickT (v := .bool _) rfl rfl rfl) ?_
      refine lw_nil ?_
      refine cw_ift rfl rfl ?_
      refine cw_seq ?_
      refine cw_region ?_
      first | refine lw_val rfl (run_move (v := .bool _) rfl) ?_
      first | refine lw_val rfl (run_assign (v := .bool _) rfl) ?_
      refine lw_nil ?_
      refine cw_ret ?_
      refine res1 (v := .bool _) rfl rfl ?_
      exact ⟨_, rfl, rfl, hs⟩
    · intro h33
      have g33 := of_decide_eq_false h33
      refine lw_on rfl rfl h33 ?_
      first | refine lw_val rfl (run_move (v := .slice _ _ _) rfl) ?_
      refine lw_on rfl rfl h33 ?_
      refine lw_val rfl (run_lenS Tryd.underlying63 rfl) ?_
      refine lw_on rfl rfl h33 ?_
      refine lw_val rfl (run_gtr rfl rfl) ?_
      first | refine lw_val rfl (run_pickF (v := .bool _) rfl h33 rfl) ?_
      first | refine lw_val rfl (run_move (v := .bool _) rfl) ?_
      refine lw_split (t := _) (d := 40) rfl ?_ ?_
      · intro h38
        have g38 := of_decide_eq_true h38
        refine lw_off rfl rfl rfl h38 ?_
        refine lw_off rfl rfl rfl h38 ?_
        first | refine lw_val rfl (run_pickT (v := .bool _) rfl h38 rfl) ?_
        refine lw_nil ?_
        refine cw_ift rfl rfl ?_
        refine cw_seq ?_
        refine cw_region ?_
        first | refine lw_val rfl (run_move (v := .bool _) rfl) ?_
        first | refine lw_val rfl (run_assign (v := .bool _) rfl) ?_
        refine lw_nil ?_
        refine cw_ret ?_
        refine res1 (v := .bool _) rfl rfl ?_
        exact ⟨_, rfl, rfl, hs⟩
      · intro h38
        have g38 := of_decide_eq_false h38
        refine lw_on rfl rfl h38 ?_
        first | refine lw_val rfl (run_move (v := .bool _) rfl) ?_
        refine lw_on rfl rfl h38 ?_
        refine lw_val rfl (run_not rfl) ?_
        first | refine lw_val rfl (run_pickF (v := .bool _) rfl h38 rfl) ?_
        refine lw_nil ?_
        refine cw_iff rfl (not_f (rfl)) ?_
        refine cw_skip ?_
        refine cw_seq ?_
        refine cw_region ?_
        refine lw_call rfl en26 (newd_sl hs (r := 65536) (by decide) (by decide)) ?_
        clear hs
        rintro _ w ⟨p, rfl, hs⟩
        first | refine lw_val rfl (run_move (v := .tuple _) rfl) ?_
        first | refine lw_val rfl (run_extract (v := .pointer (some _)) rfl rfl) ?_ | refine lw_val rfl (run_extract (v := .pointer none) rfl rfl) ?_
        first | refine lw_val rfl (run_extract (v := errV ad _) rfl rfl) ?_ | refine lw_val rfl (run_extract (v := .nilIface) rfl rfl) ?_ | refine lw_val rfl (run_extract (v := eV ad _ _) rfl rfl) ?_ | refine lw_val rfl (run_extract (v := .iface _ (.pointer (some _))) rfl rfl) ?_
        first | refine lw_val rfl (run_assign (v := .pointer (some _)) rfl) ?_ | refine lw_val rfl (run_assign (v := .pointer none) rfl) ?_
        first | refine lw_val rfl (run_assign (v := errV ad _) rfl) ?_ | refine lw_val rfl (run_assign (v := .nilIface) rfl) ?_ | refine lw_val rfl (run_assign (v := eV ad _ _) rfl) ?_ | refine lw_val rfl (run_assign (v := .iface _ (.pointer (some _))) rfl) ?_
        refine lw_nil ?_
        refine cw_seq ?_
        refine cw_seq ?_
        refine cw_region ?_
        first | refine lw_val rfl (run_move (v := .pointer (some _)) rfl) ?_ | refine lw_val rfl (run_move (v := .pointer none) rfl) ?_
        refine lw_val rfl (run_eqpn Tryd.underlying45 rfl rfl) ?_
        first | refine lw_val rfl (run_move (v := .bool _) rfl) ?_
        refine lw_on rfl rfl rfl ?_
        first | refine lw_val rfl (run_move (v := errV ad _) rfl) ?_ | refine lw_val rfl (run_move (v := .nilIface) rfl) ?_ | refine lw_val rfl (run_move (v := eV ad _ _) rfl) ?_ | refine lw_val rfl (run_move (v := .iface _ (.pointer (some _))) rfl) ?_
        refine lw_on rfl rfl rfl ?_
        first | refine lw_val rfl (run_neerrn (ad := ad) rfl) ?_ | refine lw_val rfl (run_nenn rfl) ?_ | refine lw_val rfl (run_neE (ad := ad) rfl) ?_
        first | refine lw_val rfl (run_pickF (v := .bool _) rfl rfl rfl) ?_
        refine lw_nil ?_
        refine cw_iff rfl (rfl) ?_
        refine cw_skip ?_
        refine cw_seq ?_
        refine cw_region ?_
        refine lw_buildSlice hs rfl ((nm4.map Value.string)) Tryd.underlying69 zs9 rfl (by simp [Value.cells, nm4]) rfl rfl rfl ?_
        clear hs
        intro b55 w hs
        try simp only [List.set_cons_succ, List.set_cons_zero] at hs
        first | refine lw_val rfl (run_assign (v := .slice _ _ _) rfl) ?_
        refine lw_nil ?_
        refine cw_seq ?_
        refine cw_region ?_
        refine lw_makeSlice hs rfl Tryd.underlying67 in23 rfl rfl rfl (l := 4) (c := 4) rfl rfl (by decide) (by decide) (by decide) ?_
        clear hs
        intro b56 w hs
        try simp only [List.set_cons_succ, List.set_cons_zero] at hs
        first | refine lw_val rfl (run_assign (v := .slice _ _ _) rfl) ?_
        refine lw_nil ?_
        refine cw_seq ?_
        refine cw_region ?_
        refine lw_makeSlice hs rfl Tryd.underlying70 in4 rfl rfl rfl (l := 4) (c := 4) rfl rfl (by decide) (by decide) (by decide) ?_
        clear hs
        intro b57 w hs
        try simp only [List.set_cons_succ, List.set_cons_zero] at hs
        first | refine lw_val rfl (run_assign (v := .slice _ _ _) rfl) ?_
        refine lw_nil ?_
        refine cw_seq ?_
        refine cw_region ?_
        first | refine lw_val rfl (run_assign (v := .int .i64 _) rfl) ?_
        refine lw_nil ?_
        refine cw_seq ?_
        refine cw_region ?_
        first | refine lw_val rfl (run_assign (v := .slice _ _ _) rfl) ?_
        refine lw_nil ?_
        refine cw_seq ?_
        refine cw_region ?_
        first | refine lw_val rfl (run_move (v := .pointer (some _)) rfl) ?_ | refine lw_val rfl (run_move (v := .pointer none) rfl) ?_
        first | refine lw_val rfl (run_move (v := .int .i64 _) rfl) ?_
        refine lw_call rfl en40 (number_sl hs arm 70 (by decide)) ?_
        clear hs
        rintro _ w ⟨r, hr, rfl, hs⟩
        refine lw_call rfl en39 (arm_sl (d := Dk.empty 65536) (L := own _ _ :: own _ _ :: cells _ _ _ :: []) (hs.arr [3, 0, 1, 2] 4 (by decide)) r (by omega)) ?_
        clear hs
        rintro _ w ⟨rfl, hs⟩
        obtain ⟨hok1, _⟩ := hs.openD
        have pt1 : PtI nm4 64 (fun _ => none) { Dk.empty 65536 with armed := r } := (PtI.start (by decide)).arm hok1
        refine lw_nil ?_
        refine cw_seq ?_
        refine cw_seq ?_
        refine cw_region ?_
        first | refine lw_val rfl (run_assign (v := .int .i64 _) rfl) ?_
        refine lw_nil ?_
        refine cw_block ?_
        refine cw_loop (X := Nat × Dk × List (Option El) × (ByteArray → Option (List UInt8)) × Option (Nat × El)) [8, 15, 16, 17, 18, 19, 62, 63, 64, 65, 66, 67, 68, 69, 70, 71, 72, 73, 74, 75, 76, 77, 78, 79, 80, 81, 82, 83, 84, 85, 86, 87, 88, 89, 90, 91, 92, 93, 94, 95, 96, 97, 98, 99, 100, 101, 102, 103, 104, 105, 106, 107, 108, 109, 110, 111, 112] (fun x => [(17, .int .i64 (x.1 : Nat)), (15, .int .i64 (lastI x.2.2.2.2)), (16, nextV x.2.2.2.2)]) (fun x w => x.1 ≤ z.length ∧ x.1 ≤ wh.length ∧ x.2.1.calls ≤ 6 * x.1 ∧ x.2.1.room = 65536 ∧ PmI z x.2.2.1 x.2.2.2.1 ∧ PmD z x.2.2.2.1 x.2.1 x.2.2.2.2 ∧ Mem g w (DiskC p x.2.1 :: own (.slice (some ⟨b57, 0, none⟩) 4 4) (x.2.2.1.map fun e => Value.bool e.isSome) :: own (.slice (some ⟨b56, 0, none⟩) 4 4) (x.2.2.1.map hvE) :: cells b55 (nm4.map Value.string) 9 :: [])) (fun x => z.length - x.1) ((0, { Dk.empty 65536 with armed := r }, List.replicate 4 none, fun _ => none, none)) ?_ ?_ ?_
        · exact ⟨rfl, rfl, rfl, trivial⟩
        · exact ⟨Nat.zero_le _, Nat.zero_le _, Nat.le_refl _, rfl, ⟨rfl, fun x hx => by simp [List.replicate] at hx, fun k e he => by rw [List.getElem?_replicate] at he; split at he; cases he; rfl; cases he⟩, ⟨rfl, pt1⟩, hs⟩
        clear hs
        rintro x ξ w hI
        obtain ⟨i, d, E, F, l⟩ := x
        obtain ⟨hi, hi2, hcl, hro, hPI, hD, hs⟩ := hI
        simp only at hi hi2 hcl hro hPI hD hs
        show cw _ _ _ _ _ _ (updL (mix _ ξ _) [(17, .int .i64 (i : Nat)), (15, .int .i64 (lastI l)), (16, nextV l)]) w
        refine cw_seq ?_
        refine cw_seq ?_
        refine cw_region ?_
        first | refine lw_val rfl (run_move (v := .int .i64 _) rfl) ?_
        first | refine lw_val rfl (run_move (v := .slice _ _ _) rfl) ?_
        refine lw_val rfl (run_lenS Tryd.underlying67 rfl) ?_
        refine lw_val rfl (run_lss rfl rfl) ?_
        first | refine lw_val rfl (run_move (v := .bool _) rfl) ?_
        refine lw_split (t := _) (d := 66) rfl ?_ ?_
        · intro h65
          have g65 := of_decide_eq_true h65
          refine lw_on rfl rfl h65 ?_
          first | refine lw_val rfl (run_move (v := .int .i64 _) rfl) ?_
          refine lw_on rfl rfl h65 ?_
          first | refine lw_val rfl (run_move (v := .slice _ _ _) rfl) ?_
          refine lw_on rfl rfl h65 ?_
          refine lw_val rfl (run_lenS Tryd.underlying63 rfl) ?_
          refine lw_on rfl rfl h65 ?_
          refine lw_val rfl (run_lss rfl rfl) ?_
          first | refine lw_val rfl (run_pickT (v := .bool _) rfl h65 rfl) ?_
          first | refine lw_val rfl (run_move (v := .bool _) rfl) ?_
          refine lw_split (t := _) (d := 72) rfl ?_ ?_
          · intro h70
            have g70 := of_decide_eq_true h70
            refine lw_on rfl rfl h70 ?_
            first | refine lw_val rfl (run_move (v := .pointer (some _)) rfl) ?_ | refine lw_val rfl (run_move (v := .pointer none) rfl) ?_
            refine lw_on rfl rfl h70 ?_
            refine lw_call rfl en41 (down_sl hs) ?_
            clear hs
            rintro _ w ⟨rfl, hs⟩
            refine lw_on rfl rfl h70 ?_
            refine lw_val rfl (run_not rfl) ?_
            first | refine lw_val rfl (run_pickT (v := .bool _) rfl h70 rfl) ?_
            refine lw_nil ?_
            refine cw_if rfl ?_ ?_
            · intro h74
              replace h74 := not_b h74
              obtain rfl : l = none := by cases l; rfl; exact absurd (hD.1.symm.trans h74) (by decide)
              obtain ⟨hup, hpt⟩ := hD
              obtain ⟨x, hzx⟩ : ∃ x, z[i]? = some x := ⟨_, List.getElem?_eq_getElem (by omega)⟩
              have hxz := List.mem_of_getElem? hzx
              have hx60 := hz60 x hxz
              have hx0 := h0.each x hxz
              obtain ⟨q, hq⟩ : ∃ q, wh[i]? = some q := ⟨_, List.getElem?_eq_getElem (by omega)⟩
              obtain ⟨b1, o1, rfl, _⟩ := (h1.rd _).cells' hs (by rw [intsL_len]; omega)
              obtain ⟨b0, o0, rfl, _⟩ := (h0.came.rd _).cells' hs (by simp; omega)
              refine cw_skip ?_
              refine cw_seq ?_
              refine cw_block ?_
              refine cw_seq ?_
              refine cw_region ?_
              first | refine lw_val rfl (run_move (v := .slice _ _ _) rfl) ?_
              first | refine lw_val rfl (run_move (v := .int .i64 _) rfl) ?_
              refine lw_val rfl (run_indexAddr Tryd.underlying63 sz3 rfl rfl rfl (by omega) rfl) ?_
              refine lw_val rfl (run_load Tryd.underlying3 rfl rfl ((h1.rd _).cellAt hs (intsL_at hq))) ?_
              refine lw_call rfl en40 (number_sl hs q 4 (by decide)) ?_
              clear hs
              rintro _ w ⟨k, hk4, rfl, hs⟩
              have hk : k < 4 := by omega
              obtain ⟨kw, e, hw, hre, hde⟩ := hpt.write (s := nmI k) (b := x.2.2) (nm4_in hk) (nm4_new k hk) (nm4_valid k hk).1 (nm4_valid k hk).2 (by omega) (by rw [hro]; decide)
              have hce := Dk.write_calls hw
              first | refine lw_val rfl (run_assign (v := .int .i64 _) rfl) ?_
              refine lw_nil ?_
              refine cw_seq ?_
              refine cw_drawS mixes hs.tail ?_
              intro w tr hK
              replace hs := tr _ hs
              clear tr
              first | refine aw_take 0 rfl (by kernel_rfl) (by kernel_rfl) (by kernel_rfl) rfl (fun w hs => run_move (v := .pointer (some _)) rfl) hK ?_ | refine aw_take 0 rfl (by kernel_rfl) (by kernel_rfl) (by kernel_rfl) rfl (fun w hs => run_move (v := .pointer none) rfl) hK ?_
              first | refine aw_take 1 rfl (by kernel_rfl) (by kernel_rfl) (by kernel_rfl) rfl (fun w hs => run_move (v := .slice _ _ _) rfl) hK ?_
              first | refine aw_take 2 rfl (by kernel_rfl) (by kernel_rfl) (by kernel_rfl) rfl (fun w hs => run_move (v := .int .i64 _) rfl) hK ?_
              refine aw_take 3 rfl (by kernel_rfl) (by kernel_rfl) (by kernel_rfl) rfl (fun w hs => run_indexAddr Tryd.underlying69 sz9 rfl rfl rfl (by omega) rfl) hK ?_
              refine @aw_take _ _ _ _ _ _ _ _ _ _ _ _ _ _ 4 _ rfl (by kernel_rfl) (by kernel_rfl) (by kernel_rfl) rfl (fun w hs => run_load (v := .string (nmI k)) Tryd.underlying9 rfl rfl (hs.cellAt 2 rfl (by rw [Nat.zero_add, List.getElem?_map, nm4_at hk]; rfl))) hK ?_
              first | refine aw_take 5 rfl (by kernel_rfl) (by kernel_rfl) (by kernel_rfl) rfl (fun w hs => run_move (v := .slice _ _ _) rfl) hK ?_
              first | refine aw_take 6 rfl (by kernel_rfl) (by kernel_rfl) (by kernel_rfl) rfl (fun w hs => run_move (v := .int .i64 _) rfl) hK ?_
              refine aw_take 7 rfl (by kernel_rfl) (by kernel_rfl) (by kernel_rfl) rfl (fun w hs => run_indexAddr Tryd.underlying67 sz23 rfl rfl rfl (by omega) rfl) hK ?_
              refine @aw_take _ _ _ _ _ _ _ _ _ _ _ _ _ _ 8 _ rfl (by kernel_rfl) (by kernel_rfl) (by kernel_rfl) rfl (fun w hs => run_load (v := .slice x.1 x.2.2.length x.2.1) Tryd.underlying23 rfl rfl ((h0.came.rd _).cellAt hs (elV_at hzx))) hK ?_
              refine aw_ready [9] (by kernel_rfl) (by simp) ?_
              refine ⟨⟨_, rfl, ?_⟩, trivial⟩
              refine lw_call rfl en27 (write_sl hE (by omega) hs (nmI k) (nm4_size k hk) (hx0.rd _) rfl (by omega) hw) ?_
              clear hs
              rintro _ w ⟨rfl, hs⟩
              clear hK
              have hK := hs.tail
              refine lw_nil ⟨hK, ?_⟩
              first | refine aw_take 10 rfl (by kernel_rfl) (by kernel_rfl) (by kernel_rfl) rfl (fun w hs => run_assign (v := errV ad _) rfl) hK ?_ | refine aw_take 10 rfl (by kernel_rfl) (by kernel_rfl) (by kernel_rfl) rfl (fun w hs => run_assign (v := .nilIface) rfl) hK ?_ | refine aw_take 10 rfl (by kernel_rfl) (by kernel_rfl) (by kernel_rfl) rfl (fun w hs => run_assign (v := eV ad _ _) rfl) hK ?_ | refine aw_take 10 rfl (by kernel_rfl) (by kernel_rfl) (by kernel_rfl) rfl (fun w hs => run_assign (v := .iface _ (.pointer (some _))) rfl) hK ?_
              refine aw_done (by kernel_rfl) ?_
              clear hK
              obtain ⟨hok2, _⟩ := hs.openD
              refine cw_seq ?_
              refine cw_region ?_
              first | refine lw_val rfl (run_move (v := errV ad _) rfl) ?_ | refine lw_val rfl (run_move (v := .nilIface) rfl) ?_ | refine lw_val rfl (run_move (v := eV ad _ _) rfl) ?_ | refine lw_val rfl (run_move (v := .iface _ (.pointer (some _))) rfl) ?_
              first | refine lw_val rfl (run_eqerrn (ad := ad) rfl) ?_ | refine lw_val rfl (run_eqnn rfl) ?_ | refine lw_val rfl (run_eqE (ad := ad) rfl) ?_
              refine lw_nil ?_
              refine cw_if rfl ?_ ?_
              · intro h95
                have g95 := of_decide_eq_true h95
                obtain ⟨_, hu2, _, hp2⟩ := hde.resolve_right (fun h => by have := of_decide_eq_true h95; omega)
                refine cw_seq ?_
                refine cw_region ?_
                first | refine lw_val rfl (run_move (v := .slice _ _ _) rfl) ?_
                first | refine lw_val rfl (run_move (v := .int .i64 _) rfl) ?_
                first | refine lw_val rfl (run_move (v := .slice _ _ _) rfl) ?_
                first | refine lw_val rfl (run_move (v := .int .i64 _) rfl) ?_
                refine lw_val rfl (run_indexAddr Tryd.underlying67 sz23 rfl rfl rfl (by omega) rfl) ?_
                refine lw_val rfl (run_load (v := .slice x.1 x.2.2.length x.2.1) Tryd.underlying23 rfl rfl ((h0.came.rd _).cellAt hs (elV_at hzx))) ?_
                refine lw_val rfl (run_indexAddr Tryd.underlying67 sz23 rfl rfl rfl (by omega) rfl) ?_
                refine lw_storeOwn (j := k) (v := .slice x.1 x.2.2.length x.2.1) hs 2 rfl sz23 rfl rfl (by rw [List.length_map, hPI.len]; omega) rfl rfl ?_
                clear hs
                intro w hs
                simp only [List.set_cons_succ, List.set_cons_zero] at hs
                refine lw_nil ?_
                refine cw_region ?_
                first | refine lw_val rfl (run_move (v := .slice _ _ _) rfl) ?_
                first | refine lw_val rfl (run_move (v := .int .i64 _) rfl) ?_
                refine lw_val rfl (run_indexAddr Tryd.underlying70 sz4 rfl rfl rfl (by omega) rfl) ?_
                refine lw_storeOwn (j := k) (v := .bool true) hs 1 rfl sz4 rfl rfl (by rw [List.length_map, hPI.len]; omega) rfl rfl ?_
                clear hs
                intro w hs
                simp only [List.set_cons_succ, List.set_cons_zero] at hs
                refine lw_nil ?_
                refine cw_region ?_
                first | refine lw_val rfl (run_move (v := .int .i64 _) rfl) ?_
                refine lw_val rfl (run_add64 rfl rfl rfl (inI (by omega) (by omega))) ?_
                first | refine lw_val rfl (run_assign (v := .int .i64 _) rfl) ?_
                refine lw_nil ?_
                have hs1 : (E.map hvE).set k (.slice x.1 x.2.2.length x.2.1) = (E.set k (some x)).map hvE := by rw [List.map_set]; rfl
                have hs2 : (E.map fun e => Value.bool e.isSome).set k (.bool true) = (E.set k (some x)).map fun e => Value.bool e.isSome := by rw [List.map_set]; rfl
                rw [hs1, hs2] at hs
                exact ⟨(i + 1, e, E.set k (some x), updF F (nmI k) x.2.2, none), by simp only; omega, ⟨by simp only; omega, by simp only; omega, by simp only; omega, by simp only; omega, hPI.set hk hxz, ⟨hu2, hp2 hok2⟩, hs⟩, ⟨rfl, rfl, rfl, trivial⟩, by repeat (first | exact Out.mix _ _ _ | refine Out.updo rfl ?_ | refine Out.upd rfl ?_ | refine Out.mixIn rfl ?_)⟩
              · intro h95
                have g95 := of_decide_eq_false h95
                obtain ⟨_, hu2, _, hp2⟩ := hde.resolve_left (fun h => by have := of_decide_eq_false h95; omega)
                refine cw_seq ?_
                refine cw_region ?_
                first | refine lw_val rfl (run_move (v := .pointer (some _)) rfl) ?_ | refine lw_val rfl (run_move (v := .pointer none) rfl) ?_
                refine lw_call rfl en41 (down_sl hs) ?_
                clear hs
                rintro _ w ⟨rfl, hs⟩
                refine lw_nil ?_
                refine cw_ift rfl (hu2) ?_
                refine cw_seq ?_
                refine cw_region ?_
                first | refine lw_val rfl (run_move (v := .int .i64 _) rfl) ?_
                first | refine lw_val rfl (run_assign (v := .int .i64 _) rfl) ?_
                refine lw_nil ?_
                refine cw_region ?_
                first | refine lw_val rfl (run_move (v := .slice _ _ _) rfl) ?_
                first | refine lw_val rfl (run_move (v := .int .i64 _) rfl) ?_
                refine lw_val rfl (run_indexAddr Tryd.underlying67 sz23 rfl rfl rfl (by omega) rfl) ?_
                refine lw_val rfl (run_load (v := .slice x.1 x.2.2.length x.2.1) Tryd.underlying23 rfl rfl ((h0.came.rd _).cellAt hs (elV_at hzx))) ?_
                first | refine lw_val rfl (run_assign (v := .slice _ _ _) rfl) ?_
                refine lw_nil ?_
                refine cw_region ?_
                first | refine lw_val rfl (run_move (v := .int .i64 _) rfl) ?_
                refine lw_val rfl (run_add64 rfl rfl rfl (inI (by omega) (by omega))) ?_
                first | refine lw_val rfl (run_assign (v := .int .i64 _) rfl) ?_
                refine lw_nil ?_
                exact ⟨(i + 1, e, E, F, some (k, x)), by simp only; omega, ⟨by simp only; omega, by simp only; omega, by simp only; omega, by simp only; omega, hPI, ⟨hu2, hk, hxz, hp2 hok2⟩, hs⟩, ⟨rfl, rfl, rfl, trivial⟩, by repeat (first | exact Out.mix _ _ _ | refine Out.updo rfl ?_ | refine Out.upd rfl ?_ | refine Out.mixIn rfl ?_)⟩
            · intro h74
              replace h74 := not_c h74
              refine cw_exit rfl ?_
              refine cw_seq ?_
              refine cw_region ?_
              first | refine lw_val rfl (run_move (v := .pointer (some _)) rfl) ?_ | refine lw_val rfl (run_move (v := .pointer none) rfl) ?_
              first | refine lw_val rfl (run_move (v := .slice _ _ _) rfl) ?_
              refine lw_call rfl en42 (crash_sl hs (by omega) (picks := picks) (h3.rd _) rfl (by omega)) ?_
              clear hs
              rintro _ w ⟨rfl, hs⟩
              obtain ⟨G, hG, hGF⟩ := hD.crash picks
              refine lw_nil ?_
              refine cw_seq ?_
              refine cw_seq ?_
              refine cw_region ?_
              first | refine lw_val rfl (run_assign (v := .int .i64 _) rfl) ?_
              refine lw_nil ?_
              refine cw_block ?_
              refine cw_loop (X := Nat) [8, 20, 21, 22, 23, 116, 117, 118, 119, 120, 121, 122, 123, 124, 125, 126, 127, 128, 129, 130, 131, 132, 133, 134, 135, 136, 137, 138, 139, 140, 141, 142, 143, 144, 145, 146, 147, 148, 149, 150, 151, 152, 153, 154, 155, 156, 157, 158, 159, 160] (fun x => [(20, .int .i64 (x : Nat))]) (fun x w => x ≤ 4 ∧ Mem g w (DiskC p (d.crash picks) :: own (.slice (some ⟨b57, 0, none⟩) 4 4) (E.map fun e => Value.bool e.isSome) :: own (.slice (some ⟨b56, 0, none⟩) 4 4) (E.map hvE) :: cells b55 (nm4.map Value.string) 9 :: [])) (fun x => 4 - x) (0) ?_ ?_ ?_
              · exact ⟨rfl, trivial⟩
              · exact ⟨Nat.zero_le _, hs⟩
              clear hs
              rintro x ξ w hI
              obtain ⟨hx4, hs⟩ := hI
              have hx4 : x ≤ 4 := hx4
              show cw _ _ _ _ _ _ (updL (mix _ ξ _) [(20, .int .i64 (x : Nat))]) w
              refine cw_seq ?_
              refine cw_seq ?_
              refine cw_region ?_
              first | refine lw_val rfl (run_move (v := .int .i64 _) rfl) ?_
              refine lw_val rfl (run_lss rfl rfl) ?_
              refine lw_nil ?_
              refine cw_if rfl ?_ ?_
              · intro h117
                have g117 := of_decide_eq_true h117
                have hx : x < 4 := by omega
                obtain ⟨e1, he1⟩ : ∃ e1, E[x]? = some e1 := ⟨_, List.getElem?_eq_getElem (by rw [hPI.len]; omega)⟩
                have hrd := hG.read (nm4_in hx)
                have hea := hPI.each hGF he1
                obtain ⟨kr, br, hro1⟩ : ∃ kr br, readO (G (nmI x)) = (kr, br) := ⟨_, _, rfl⟩
                rw [hro1] at hrd
                obtain ⟨a1, n1, c1, bs, hve, hn1, hbs, hrv, hb60⟩ := hvE_form (g := g) e1 (fun y hy => ⟨h0.each y (hPI.mem y (hy ▸ List.mem_of_getElem? he1)), hz60 y (hPI.mem y (hy ▸ List.mem_of_getElem? he1))⟩)
                have hbr : br.length ≤ 60 := by rcases hea with h | ⟨y, _, _, hyz, h⟩; have := (old_fine h hro1).2; rw [this, ← hbs]; exact hb60; rw [h] at hro1; cases hro1; have := hz60 _ hyz; omega
                refine cw_skip ?_
                refine cw_seq ?_
                refine cw_block ?_
                refine cw_seq ?_
                refine cw_region ?_
                first | refine lw_val rfl (run_move (v := .pointer (some _)) rfl) ?_ | refine lw_val rfl (run_move (v := .pointer none) rfl) ?_
                first | refine lw_val rfl (run_move (v := .slice _ _ _) rfl) ?_
                first | refine lw_val rfl (run_move (v := .int .i64 _) rfl) ?_
                refine lw_val rfl (run_indexAddr Tryd.underlying69 sz9 rfl rfl rfl (by omega) rfl) ?_
                refine lw_val rfl (run_load (v := .string (nmI x)) Tryd.underlying9 rfl rfl (hs.cellAt 3 rfl (by rw [Nat.zero_add, List.getElem?_map, nm4_at hx]; rfl))) ?_
                refine lw_call rfl en31 (pread_sl hP hs (nmI x) hrd) ?_
                clear hs
                rintro _ w ⟨a126, c126, rfl, hs⟩
                first | refine lw_val rfl (run_move (v := .tuple _) rfl) ?_
                first | refine lw_val rfl (run_extract (v := .slice _ _ _) rfl rfl) ?_
                first | refine lw_val rfl (run_extract (v := errV ad _) rfl rfl) ?_ | refine lw_val rfl (run_extract (v := .nilIface) rfl rfl) ?_ | refine lw_val rfl (run_extract (v := eV ad _ _) rfl rfl) ?_ | refine lw_val rfl (run_extract (v := .iface _ (.pointer (some _))) rfl rfl) ?_
                first | refine lw_val rfl (run_assign (v := .slice _ _ _) rfl) ?_
                first | refine lw_val rfl (run_assign (v := errV ad _) rfl) ?_ | refine lw_val rfl (run_assign (v := .nilIface) rfl) ?_ | refine lw_val rfl (run_assign (v := eV ad _ _) rfl) ?_ | refine lw_val rfl (run_assign (v := .iface _ (.pointer (some _))) rfl) ?_
                refine lw_nil ?_
                refine cw_seq ?_
                refine cw_drawS mixes hs ?_
                intro w tr hK
                replace hs := tr _ hs
                clear tr
                first | refine aw_take 0 rfl (by kernel_rfl) (by kernel_rfl) (by kernel_rfl) rfl (fun w hs => run_move (v := errV ad _) rfl) hK ?_ | refine aw_take 0 rfl (by kernel_rfl) (by kernel_rfl) (by kernel_rfl) rfl (fun w hs => run_move (v := .nilIface) rfl) hK ?_ | refine aw_take 0 rfl (by kernel_rfl) (by kernel_rfl) (by kernel_rfl) rfl (fun w hs => run_move (v := eV ad _ _) rfl) hK ?_ | refine aw_take 0 rfl (by kernel_rfl) (by kernel_rfl) (by kernel_rfl) rfl (fun w hs => run_move (v := .iface _ (.pointer (some _))) rfl) hK ?_
                first | refine aw_take 1 rfl (by kernel_rfl) (by kernel_rfl) (by kernel_rfl) rfl (fun w hs => run_eqerrn (ad := ad) rfl) hK ?_ | refine aw_take 1 rfl (by kernel_rfl) (by kernel_rfl) (by kernel_rfl) rfl (fun w hs => run_eqnn rfl) hK ?_ | refine aw_take 1 rfl (by kernel_rfl) (by kernel_rfl) (by kernel_rfl) rfl (fun w hs => run_eqE (ad := ad) rfl) hK ?_
                first | refine aw_take 2 rfl (by kernel_rfl) (by kernel_rfl) (by kernel_rfl) rfl (fun w hs => run_move (v := .slice _ _ _) rfl) hK ?_
                first | refine aw_take 3 rfl (by kernel_rfl) (by kernel_rfl) (by kernel_rfl) rfl (fun w hs => run_move (v := .int .i64 _) rfl) hK ?_
                refine aw_take 4 rfl (by kernel_rfl) (by kernel_rfl) (by kernel_rfl) rfl (fun w hs => run_indexAddr Tryd.underlying70 sz4 rfl rfl rfl (by omega) rfl) hK ?_
                refine aw_take 5 rfl (by kernel_rfl) (by kernel_rfl) (by kernel_rfl) rfl (fun w hs => run_load Tryd.underlying4 rfl rfl (hs.ownAt (v := .bool e1.isSome) 2 rfl (j := x) (by rw [List.getElem?_map, he1]; rfl))) hK ?_
                refine aw_take 6 rfl (by kernel_rfl) (by kernel_rfl) (by kernel_rfl) rfl (fun w hs => run_eqb Tryd.underlying4 rfl rfl) hK ?_
                first | refine aw_take 7 rfl (by kernel_rfl) (by kernel_rfl) (by kernel_rfl) rfl (fun w hs => run_move (v := .bool _) rfl) hK ?_
                refine aw_split (t := _) (d := 136) rfl ?_ ?_
                · intro h135
                  first | refine aw_takeOn 8 rfl (by kernel_rfl) (by kernel_rfl) (by kernel_rfl) rfl rfl rfl h135 (fun w hs => run_move (v := .slice _ _ _) rfl) hK ?_
                  first | refine aw_takeOn 9 rfl (by kernel_rfl) (by kernel_rfl) (by kernel_rfl) rfl rfl rfl h135 (fun w hs => run_move (v := .slice _ _ _) rfl) hK ?_
                  first | refine aw_takeOn 10 rfl (by kernel_rfl) (by kernel_rfl) (by kernel_rfl) rfl rfl rfl h135 (fun w hs => run_move (v := .int .i64 _) rfl) hK ?_
                  refine aw_takeOn 11 rfl (by kernel_rfl) (by kernel_rfl) (by kernel_rfl) rfl rfl rfl h135 (fun w hs => run_indexAddr Tryd.underlying67 sz23 rfl rfl rfl (by omega) rfl) hK ?_
                  refine aw_takeOn 12 rfl (by kernel_rfl) (by kernel_rfl) (by kernel_rfl) rfl rfl rfl h135 (fun w hs => run_load Tryd.underlying23 rfl rfl (hs.ownAt (v := .slice a1 n1 c1) 3 rfl (j := x) (by rw [List.getElem?_map, he1, Option.map_some, hve]))) hK ?_
                  refine aw_ready [13] (by kernel_rfl) (by simp) ?_
                  refine ⟨⟨_, rfl, ?_⟩, trivial⟩
                  refine lw_on rfl rfl h135 ?_
                  refine lw_call rfl en22 (sameB_sl hs (la := br) (lb := bs) (hs.rdOwn 0 rfl) (hrv _) rfl hn1 (by omega)) ?_
                  clear hs
                  rintro _ w ⟨rfl, hs⟩
                  clear hK
                  have hK := hs
                  refine lw_nil ⟨hK, ?_⟩
                  first | refine aw_take 14 rfl (by kernel_rfl) (by kernel_rfl) (by kernel_rfl) rfl (fun w hs => run_pickT (v := .bool _) rfl h135 rfl) hK ?_
                  first | refine aw_take 15 rfl (by kernel_rfl) (by kernel_rfl) (by kernel_rfl) rfl (fun w hs => run_assign (v := .bool _) rfl) hK ?_
                  refine aw_done (by kernel_rfl) ?_
                  clear hK
                  refine cw_seq ?_
                  refine cw_region ?_
                  first | refine lw_val rfl (run_move (v := .bool _) rfl) ?_
                  refine lw_val rfl (run_not rfl) ?_
                  first | refine lw_val rfl (run_move (v := .bool _) rfl) ?_
                  refine lw_split (t := _) (d := 146) rfl ?_ ?_
                  · intro h142
                    replace h142 := not_b h142
                    obtain ⟨y, rfl, hy1, hyz, hy⟩ := hea.resolve_left (fun h => (of_decide_eq_false h142) ((old_fine h hro1).2.trans hbs.symm))
                    rw [hy] at hro1
                    cases hro1
                    refine lw_on rfl rfl (not_t h142) ?_
                    first | refine lw_val rfl (run_move (v := .int .i64 _) rfl) ?_
                    refine lw_on rfl rfl (not_t h142) ?_
                    first | refine lw_val rfl (run_move (v := .int .i64 _) rfl) ?_
                    refine lw_on rfl rfl (not_t h142) ?_
                    refine lw_val rfl (run_eqi rfl rfl) ?_
                    refine lw_on rfl rfl (not_t h142) ?_
                    first | refine lw_val rfl (run_move (v := .bool _) rfl) ?_
                    refine lw_on rfl rfl (decide_eq_true (by show ((x : Nat) : Int) = ((y.1 : Nat) : Int); rw [hy1])) ?_
                    first | refine lw_val rfl (run_move (v := errV ad _) rfl) ?_ | refine lw_val rfl (run_move (v := .nilIface) rfl) ?_ | refine lw_val rfl (run_move (v := eV ad _ _) rfl) ?_ | refine lw_val rfl (run_move (v := .iface _ (.pointer (some _))) rfl) ?_
                    refine lw_on rfl rfl (decide_eq_true (by show ((x : Nat) : Int) = ((y.1 : Nat) : Int); rw [hy1])) ?_
                    first | refine lw_val rfl (run_eqerrn (ad := ad) rfl) ?_ | refine lw_val rfl (run_eqnn rfl) ?_ | refine lw_val rfl (run_eqE (ad := ad) rfl) ?_
                    refine lw_on rfl rfl (not_t h142) ?_
                    first | refine lw_val rfl (run_pickT (v := .bool _) rfl (decide_eq_true (by show ((x : Nat) : Int) = ((y.1 : Nat) : Int); rw [hy1])) rfl) ?_
                    refine lw_on rfl rfl (not_t h142) ?_
                    first | refine lw_val rfl (run_move (v := .bool _) rfl) ?_
                    refine lw_on rfl rfl (rfl) ?_
                    first | refine lw_val rfl (run_move (v := .slice _ _ _) rfl) ?_
                    refine lw_on rfl rfl (rfl) ?_
                    first | refine lw_val rfl (run_move (v := .slice _ _ _) rfl) ?_
                    refine lw_on rfl rfl (rfl) ?_
                    refine lw_call rfl en22 (sameB_sl hs (la := y.2.2.2) (lb := y.2.2.2) (hs.rdOwn 0 rfl) ((h0.each y.2 hyz).rd _) rfl rfl (by omega)) ?_
                    clear hs
                    rintro _ w ⟨rfl, hs⟩
                    refine lw_on rfl rfl (not_t h142) ?_
                    first | refine lw_val rfl (run_pickT (v := .bool _) rfl (rfl) rfl) ?_
                    refine lw_on rfl rfl (not_t h142) ?_
                    refine lw_val rfl (run_not rfl) ?_
                    first | refine lw_val rfl (run_pickT (v := .bool _) rfl (not_t h142) rfl) ?_
                    refine lw_nil ?_
                    refine cw_iff rfl (not_f (decide_eq_true rfl)) ?_
                    refine cw_skip ?_
                    refine cw_region ?_
                    first | refine lw_val rfl (run_move (v := .int .i64 _) rfl) ?_
                    refine lw_val rfl (run_add64 rfl rfl rfl (inI (by omega) (by omega))) ?_
                    first | refine lw_val rfl (run_assign (v := .int .i64 _) rfl) ?_
                    refine lw_nil ?_
                    exact ⟨x + 1, by omega, ⟨by omega, hs.tail⟩, ⟨rfl, trivial⟩, by repeat (first | exact Out.mix _ _ _ | refine Out.updo rfl ?_ | refine Out.upd rfl ?_ | refine Out.mixIn rfl ?_)⟩
                  · intro h142
                    replace h142 := not_c h142
                    refine lw_off rfl rfl rfl (not_f h142) ?_
                    refine lw_off rfl rfl rfl (not_f h142) ?_
                    refine lw_off rfl rfl rfl (not_f h142) ?_
                    refine lw_off rfl rfl rfl (not_f h142) ?_
                    refine lw_offU rfl rfl rfl ?_
                    refine lw_offU rfl rfl rfl ?_
                    refine lw_off rfl rfl rfl (not_f h142) ?_
                    refine lw_off rfl rfl rfl (not_f h142) ?_
                    refine lw_offU rfl rfl rfl ?_
                    refine lw_offU rfl rfl rfl ?_
                    refine lw_offU rfl rfl rfl ?_
                    refine lw_off rfl rfl rfl (not_f h142) ?_
                    refine lw_off rfl rfl rfl (not_f h142) ?_
                    first | refine lw_val rfl (run_pickF (v := .bool _) rfl (not_f h142) rfl) ?_
                    refine lw_nil ?_
                    refine cw_iff rfl rfl ?_
                    refine cw_skip ?_
                    refine cw_region ?_
                    first | refine lw_val rfl (run_move (v := .int .i64 _) rfl) ?_
                    refine lw_val rfl (run_add64 rfl rfl rfl (inI (by omega) (by omega))) ?_
                    first | refine lw_val rfl (run_assign (v := .int .i64 _) rfl) ?_
                    refine lw_nil ?_
                    exact ⟨x + 1, by omega, ⟨by omega, hs.tail⟩, ⟨rfl, trivial⟩, by repeat (first | exact Out.mix _ _ _ | refine Out.updo rfl ?_ | refine Out.upd rfl ?_ | refine Out.mixIn rfl ?_)⟩
                · intro h135
                  obtain ⟨y, rfl, hy1, hyz, hy⟩ := hea.resolve_left (fun h => by have := (old_fine h hro1).1; rw [h135] at this; cases this)
                  rw [hy] at hro1
                  cases hro1
                  refine aw_takeOff 8 rfl (by kernel_rfl) (by kernel_rfl) (by kernel_rfl) rfl rfl rfl h135 hK ?_
                  refine aw_takeOff 9 rfl (by kernel_rfl) (by kernel_rfl) (by kernel_rfl) rfl rfl rfl h135 hK ?_
                  refine aw_takeOff 10 rfl (by kernel_rfl) (by kernel_rfl) (by kernel_rfl) rfl rfl rfl h135 hK ?_
                  refine aw_takeOff 11 rfl (by kernel_rfl) (by kernel_rfl) (by kernel_rfl) rfl rfl rfl h135 hK ?_
                  refine aw_takeOff 12 rfl (by kernel_rfl) (by kernel_rfl) (by kernel_rfl) rfl rfl rfl h135 hK ?_
                  refine aw_takeOff 13 rfl (by kernel_rfl) (by kernel_rfl) (by kernel_rfl) rfl rfl rfl h135 hK ?_
                  first | refine aw_take 14 rfl (by kernel_rfl) (by kernel_rfl) (by kernel_rfl) rfl (fun w hs => run_pickF (v := .bool _) rfl h135 rfl) hK ?_
                  first | refine aw_take 15 rfl (by kernel_rfl) (by kernel_rfl) (by kernel_rfl) rfl (fun w hs => run_assign (v := .bool _) rfl) hK ?_
                  refine aw_done (by kernel_rfl) ?_
                  clear hK
                  refine cw_seq ?_
                  refine cw_region ?_
                  first | refine lw_val rfl (run_move (v := .bool _) rfl) ?_
                  refine lw_val rfl (run_not rfl) ?_
                  first | refine lw_val rfl (run_move (v := .bool _) rfl) ?_
                  refine lw_on rfl rfl (not_t rfl) ?_
                  first | refine lw_val rfl (run_move (v := .int .i64 _) rfl) ?_
                  refine lw_on rfl rfl (not_t rfl) ?_
                  first | refine lw_val rfl (run_move (v := .int .i64 _) rfl) ?_
                  refine lw_on rfl rfl (not_t rfl) ?_
                  refine lw_val rfl (run_eqi rfl rfl) ?_
                  refine lw_on rfl rfl (not_t rfl) ?_
                  first | refine lw_val rfl (run_move (v := .bool _) rfl) ?_
                  refine lw_on rfl rfl (decide_eq_true (by show ((x : Nat) : Int) = ((y.1 : Nat) : Int); rw [hy1])) ?_
                  first | refine lw_val rfl (run_move (v := errV ad _) rfl) ?_ | refine lw_val rfl (run_move (v := .nilIface) rfl) ?_ | refine lw_val rfl (run_move (v := eV ad _ _) rfl) ?_ | refine lw_val rfl (run_move (v := .iface _ (.pointer (some _))) rfl) ?_
                  refine lw_on rfl rfl (decide_eq_true (by show ((x : Nat) : Int) = ((y.1 : Nat) : Int); rw [hy1])) ?_
                  first | refine lw_val rfl (run_eqerrn (ad := ad) rfl) ?_ | refine lw_val rfl (run_eqnn rfl) ?_ | refine lw_val rfl (run_eqE (ad := ad) rfl) ?_
                  refine lw_on rfl rfl (not_t rfl) ?_
                  first | refine lw_val rfl (run_pickT (v := .bool _) rfl (decide_eq_true (by show ((x : Nat) : Int) = ((y.1 : Nat) : Int); rw [hy1])) rfl) ?_
                  refine lw_on rfl rfl (not_t rfl) ?_
                  first | refine lw_val rfl (run_move (v := .bool _) rfl) ?_
                  refine lw_on rfl rfl (rfl) ?_
                  first | refine lw_val rfl (run_move (v := .slice _ _ _) rfl) ?_
                  refine lw_on rfl rfl (rfl) ?_
                  first | refine lw_val rfl (run_move (v := .slice _ _ _) rfl) ?_
                  refine lw_on rfl rfl (rfl) ?_
                  refine lw_call rfl en22 (sameB_sl hs (la := y.2.2.2) (lb := y.2.2.2) (hs.rdOwn 0 rfl) ((h0.each y.2 hyz).rd _) rfl rfl (by omega)) ?_
                  clear hs
                  rintro _ w ⟨rfl, hs⟩
                  refine lw_on rfl rfl (not_t rfl) ?_
                  first | refine lw_val rfl (run_pickT (v := .bool _) rfl (rfl) rfl) ?_
                  refine lw_on rfl rfl (not_t rfl) ?_
                  refine lw_val rfl (run_not rfl) ?_
                  first | refine lw_val rfl (run_pickT (v := .bool _) rfl (not_t rfl) rfl) ?_
                  refine lw_nil ?_
                  refine cw_iff rfl (not_f (decide_eq_true rfl)) ?_
                  refine cw_skip ?_
                  refine cw_region ?_
                  first | refine lw_val rfl (run_move (v := .int .i64 _) rfl) ?_
                  refine lw_val rfl (run_add64 rfl rfl rfl (inI (by omega) (by omega))) ?_
                  first | refine lw_val rfl (run_assign (v := .int .i64 _) rfl) ?_
                  refine lw_nil ?_
                  exact ⟨x + 1, by omega, ⟨by omega, hs.tail⟩, ⟨rfl, trivial⟩, by repeat (first | exact Out.mix _ _ _ | refine Out.updo rfl ?_ | refine Out.upd rfl ?_ | refine Out.mixIn rfl ?_)⟩
              · intro h117
                have g117 := of_decide_eq_false h117
                refine cw_exit rfl ?_
                refine cw_seq ?_
                refine cw_region ?_
                first | refine lw_val rfl (run_assign (v := .bool _) rfl) ?_
                refine lw_nil ?_
                refine cw_ret ?_
                refine res1 (v := .bool _) rfl rfl ?_
                exact ⟨_, rfl, rfl, hs.nil⟩
          · intro h70
            have g70 := of_decide_eq_false h70
            refine lw_off rfl rfl rfl h70 ?_
            refine lw_off rfl rfl rfl h70 ?_
            refine lw_off rfl rfl rfl h70 ?_
            first | refine lw_val rfl (run_pickF (v := .bool _) rfl h70 rfl) ?_
            refine lw_nil ?_
            refine cw_iff rfl rfl ?_
            refine cw_exit rfl ?_
            refine cw_seq ?_
            refine cw_region ?_
            first | refine lw_val rfl (run_move (v := .pointer (some _)) rfl) ?_ | refine lw_val rfl (run_move (v := .pointer none) rfl) ?_
            first | refine lw_val rfl (run_move (v := .slice _ _ _) rfl) ?_
            refine lw_call rfl en42 (crash_sl hs (by omega) (picks := picks) (h3.rd _) rfl (by omega)) ?_
            clear hs
            rintro _ w ⟨rfl, hs⟩
            obtain ⟨G, hG, hGF⟩ := hD.crash picks
            refine lw_nil ?_
            refine cw_seq ?_
            refine cw_seq ?_
            refine cw_region ?_
            first | refine lw_val rfl (run_assign (v := .int .i64 _) rfl) ?_
            refine lw_nil ?_
            refine cw_block ?_
            refine cw_loop (X := Nat) [8, 20, 21, 22, 23, 116, 117, 118, 119, 120, 121, 122, 123, 124, 125, 126, 127, 128, 129, 130, 131, 132, 133, 134, 135, 136, 137, 138, 139, 140, 141, 142, 143, 144, 145, 146, 147, 148, 149, 150, 151, 152, 153, 154, 155, 156, 157, 158, 159, 160] (fun x => [(20, .int .i64 (x : Nat))]) (fun x w => x ≤ 4 ∧ Mem g w (DiskC p (d.crash picks) :: own (.slice (some ⟨b57, 0, none⟩) 4 4) (E.map fun e => Value.bool e.isSome) :: own (.slice (some ⟨b56, 0, none⟩) 4 4) (E.map hvE) :: cells b55 (nm4.map Value.string) 9 :: [])) (fun x => 4 - x) (0) ?_ ?_ ?_
            · exact ⟨rfl, trivial⟩
            · exact ⟨Nat.zero_le _, hs⟩
            clear hs
            rintro x ξ w hI
            obtain ⟨hx4, hs⟩ := hI
            have hx4 : x ≤ 4 := hx4
            show cw _ _ _ _ _ _ (updL (mix _ ξ _) [(20, .int .i64 (x : Nat))]) w
            refine cw_seq ?_
            refine cw_seq ?_
            refine cw_region ?_
            first | refine lw_val rfl (run_move (v := .int .i64 _) rfl) ?_
            refine lw_val rfl (run_lss rfl rfl) ?_
            refine lw_nil ?_
            refine cw_if rfl ?_ ?_
            · intro h117
              have g117 := of_decide_eq_true h117
              have hx : x < 4 := by omega
              obtain ⟨e1, he1⟩ : ∃ e1, E[x]? = some e1 := ⟨_, List.getElem?_eq_getElem (by rw [hPI.len]; omega)⟩
              have hrd := hG.read (nm4_in hx)
              have hea := hPI.each hGF he1
              obtain ⟨kr, br, hro1⟩ : ∃ kr br, readO (G (nmI x)) = (kr, br) := ⟨_, _, rfl⟩
              rw [hro1] at hrd
              obtain ⟨a1, n1, c1, bs, hve, hn1, hbs, hrv, hb60⟩ := hvE_form (g := g) e1 (fun y hy => ⟨h0.each y (hPI.mem y (hy ▸ List.mem_of_getElem? he1)), hz60 y (hPI.mem y (hy ▸ List.mem_of_getElem? he1))⟩)
              have hbr : br.length ≤ 60 := by rcases hea with h | ⟨y, _, _, hyz, h⟩; have := (old_fine h hro1).2; rw [this, ← hbs]; exact hb60; rw [h] at hro1; cases hro1; have := hz60 _ hyz; omega
              refine cw_skip ?_
              refine cw_seq ?_
              refine cw_block ?_
              refine cw_seq ?_
              refine cw_region ?_
              first | refine lw_val rfl (run_move (v := .pointer (some _)) rfl) ?_ | refine lw_val rfl (run_move (v := .pointer none) rfl) ?_
              first | refine lw_val rfl (run_move (v := .slice _ _ _) rfl) ?_
              first | refine lw_val rfl (run_move (v := .int .i64 _) rfl) ?_
              refine lw_val rfl (run_indexAddr Tryd.underlying69 sz9 rfl rfl rfl (by omega) rfl) ?_
              refine lw_val rfl (run_load (v := .string (nmI x)) Tryd.underlying9 rfl rfl (hs.cellAt 3 rfl (by rw [Nat.zero_add, List.getElem?_map, nm4_at hx]; rfl))) ?_
              refine lw_call rfl en31 (pread_sl hP hs (nmI x) hrd) ?_
              clear hs
              rintro _ w ⟨a126, c126, rfl, hs⟩
              first | refine lw_val rfl (run_move (v := .tuple _) rfl) ?_
              first | refine lw_val rfl (run_extract (v := .slice _ _ _) rfl rfl) ?_
              first | refine lw_val rfl (run_extract (v := errV ad _) rfl rfl) ?_ | refine lw_val rfl (run_extract (v := .nilIface) rfl rfl) ?_ | refine lw_val rfl (run_extract (v := eV ad _ _) rfl rfl) ?_ | refine lw_val rfl (run_extract (v := .iface _ (.pointer (some _))) rfl rfl) ?_
              first | refine lw_val rfl (run_assign (v := .slice _ _ _) rfl) ?_
              first | refine lw_val rfl (run_assign (v := errV ad _) rfl) ?_ | refine lw_val rfl (run_assign (v := .nilIface) rfl) ?_ | refine lw_val rfl (run_assign (v := eV ad _ _) rfl) ?_ | refine lw_val rfl (run_assign (v := .iface _ (.pointer (some _))) rfl) ?_
              refine lw_nil ?_
              refine cw_seq ?_
              refine cw_drawS mixes hs ?_
              intro w tr hK
              replace hs := tr _ hs
              clear tr
              first | refine aw_take 0 rfl (by kernel_rfl) (by kernel_rfl) (by kernel_rfl) rfl (fun w hs => run_move (v := errV ad _) rfl) hK ?_ | refine aw_take 0 rfl (by kernel_rfl) (by kernel_rfl) (by kernel_rfl) rfl (fun w hs => run_move (v := .nilIface) rfl) hK ?_ | refine aw_take 0 rfl (by kernel_rfl) (by kernel_rfl) (by kernel_rfl) rfl (fun w hs => run_move (v := eV ad _ _) rfl) hK ?_ | refine aw_take 0 rfl (by kernel_rfl) (by kernel_rfl) (by kernel_rfl) rfl (fun w hs => run_move (v := .iface _ (.pointer (some _))) rfl) hK ?_
              first | refine aw_take 1 rfl (by kernel_rfl) (by kernel_rfl) (by kernel_rfl) rfl (fun w hs => run_eqerrn (ad := ad) rfl) hK ?_ | refine aw_take 1 rfl (by kernel_rfl) (by kernel_rfl) (by kernel_rfl) rfl (fun w hs => run_eqnn rfl) hK ?_ | refine aw_take 1 rfl (by kernel_rfl) (by kernel_rfl) (by kernel_rfl) rfl (fun w hs => run_eqE (ad := ad) rfl) hK ?_
              first | refine aw_take 2 rfl (by kernel_rfl) (by kernel_rfl) (by kernel_rfl) rfl (fun w hs => run_move (v := .slice _ _ _) rfl) hK ?_
              first | refine aw_take 3 rfl (by kernel_rfl) (by kernel_rfl) (by kernel_rfl) rfl (fun w hs => run_move (v := .int .i64 _) rfl) hK ?_
              refine aw_take 4 rfl (by kernel_rfl) (by kernel_rfl) (by kernel_rfl) rfl (fun w hs => run_indexAddr Tryd.underlying70 sz4 rfl rfl rfl (by omega) rfl) hK ?_
              refine aw_take 5 rfl (by kernel_rfl) (by kernel_rfl) (by kernel_rfl) rfl (fun w hs => run_load Tryd.underlying4 rfl rfl (hs.ownAt (v := .bool e1.isSome) 2 rfl (j := x) (by rw [List.getElem?_map, he1]; rfl))) hK ?_
              refine aw_take 6 rfl (by kernel_rfl) (by kernel_rfl) (by kernel_rfl) rfl (fun w hs => run_eqb Tryd.underlying4 rfl rfl) hK ?_
              first | refine aw_take 7 rfl (by kernel_rfl) (by kernel_rfl) (by kernel_rfl) rfl (fun w hs => run_move (v := .bool _) rfl) hK ?_
              refine aw_split (t := _) (d := 136) rfl ?_ ?_
              · intro h135
                first | refine aw_takeOn 8 rfl (by kernel_rfl) (by kernel_rfl) (by kernel_rfl) rfl rfl rfl h135 (fun w hs => run_move (v := .slice _ _ _) rfl) hK ?_
                first | refine aw_takeOn 9 rfl (by kernel_rfl) (by kernel_rfl) (by kernel_rfl) rfl rfl rfl h135 (fun w hs => run_move (v := .slice _ _ _) rfl) hK ?_
                first | refine aw_takeOn 10 rfl (by kernel_rfl) (by kernel_rfl) (by kernel_rfl) rfl rfl rfl h135 (fun w hs => run_move (v := .int .i64 _) rfl) hK ?_
                refine aw_takeOn 11 rfl (by kernel_rfl) (by kernel_rfl) (by kernel_rfl) rfl rfl rfl h135 (fun w hs => run_indexAddr Tryd.underlying67 sz23 rfl rfl rfl (by omega) rfl) hK ?_
                refine aw_takeOn 12 rfl (by kernel_rfl) (by kernel_rfl) (by kernel_rfl) rfl rfl rfl h135 (fun w hs => run_load Tryd.underlying23 rfl rfl (hs.ownAt (v := .slice a1 n1 c1) 3 rfl (j := x) (by rw [List.getElem?_map, he1, Option.map_some, hve]))) hK ?_
                refine aw_ready [13] (by kernel_rfl) (by simp) ?_
                refine ⟨⟨_, rfl, ?_⟩, trivial⟩
                refine lw_on rfl rfl h135 ?_
                refine lw_call rfl en22 (sameB_sl hs (la := br) (lb := bs) (hs.rdOwn 0 rfl) (hrv _) rfl hn1 (by omega)) ?_
                clear hs
                rintro _ w ⟨rfl, hs⟩
                clear hK
                have hK := hs
                refine lw_nil ⟨hK, ?_⟩
                first | refine aw_take 14 rfl (by kernel_rfl) (by kernel_rfl) (by kernel_rfl) rfl (fun w hs => run_pickT (v := .bool _) rfl h135 rfl) hK ?_
                first | refine aw_take 15 rfl (by kernel_rfl) (by kernel_rfl) (by kernel_rfl) rfl (fun w hs => run_assign (v := .bool _) rfl) hK ?_
                refine aw_done (by kernel_rfl) ?_
                clear hK
                refine cw_seq ?_
                refine cw_region ?_
                first | refine lw_val rfl (run_move (v := .bool _) rfl) ?_
                refine lw_val rfl (run_not rfl) ?_
                first | refine lw_val rfl (run_move (v := .bool _) rfl) ?_
                refine lw_split (t := _) (d := 146) rfl ?_ ?_
                · intro h142
                  replace h142 := not_b h142
                  obtain ⟨y, rfl, hy1, hyz, hy⟩ := hea.resolve_left (fun h => (of_decide_eq_false h142) ((old_fine h hro1).2.trans hbs.symm))
                  rw [hy] at hro1
                  cases hro1
                  refine lw_on rfl rfl (not_t h142) ?_
                  first | refine lw_val rfl (run_move (v := .int .i64 _) rfl) ?_
                  refine lw_on rfl rfl (not_t h142) ?_
                  first | refine lw_val rfl (run_move (v := .int .i64 _) rfl) ?_
                  refine lw_on rfl rfl (not_t h142) ?_
                  refine lw_val rfl (run_eqi rfl rfl) ?_
                  refine lw_on rfl rfl (not_t h142) ?_
                  first | refine lw_val rfl (run_move (v := .bool _) rfl) ?_
                  refine lw_on rfl rfl (decide_eq_true (by show ((x : Nat) : Int) = ((y.1 : Nat) : Int); rw [hy1])) ?_
                  first | refine lw_val rfl (run_move (v := errV ad _) rfl) ?_ | refine lw_val rfl (run_move (v := .nilIface) rfl) ?_ | refine lw_val rfl (run_move (v := eV ad _ _) rfl) ?_ | refine lw_val rfl (run_move (v := .iface _ (.pointer (some _))) rfl) ?_
                  refine lw_on rfl rfl (decide_eq_true (by show ((x : Nat) : Int) = ((y.1 : Nat) : Int); rw [hy1])) ?_
                  first | refine lw_val rfl (run_eqerrn (ad := ad) rfl) ?_ | refine lw_val rfl (run_eqnn rfl) ?_ | refine lw_val rfl (run_eqE (ad := ad) rfl) ?_
                  refine lw_on rfl rfl (not_t h142) ?_
                  first | refine lw_val rfl (run_pickT (v := .bool _) rfl (decide_eq_true (by show ((x : Nat) : Int) = ((y.1 : Nat) : Int); rw [hy1])) rfl) ?_
                  refine lw_on rfl rfl (not_t h142) ?_
                  first | refine lw_val rfl (run_move (v := .bool _) rfl) ?_
                  refine lw_on rfl rfl (rfl) ?_
                  first | refine lw_val rfl (run_move (v := .slice _ _ _) rfl) ?_
                  refine lw_on rfl rfl (rfl) ?_
                  first | refine lw_val rfl (run_move (v := .slice _ _ _) rfl) ?_
                  refine lw_on rfl rfl (rfl) ?_
                  refine lw_call rfl en22 (sameB_sl hs (la := y.2.2.2) (lb := y.2.2.2) (hs.rdOwn 0 rfl) ((h0.each y.2 hyz).rd _) rfl rfl (by omega)) ?_
                  clear hs
                  rintro _ w ⟨rfl, hs⟩
                  refine lw_on rfl rfl (not_t h142) ?_
                  first | refine lw_val rfl (run_pickT (v := .bool _) rfl (rfl) rfl) ?_
                  refine lw_on rfl rfl (not_t h142) ?_
                  refine lw_val rfl (run_not rfl) ?_
                  first | refine lw_val rfl (run_pickT (v := .bool _) rfl (not_t h142) rfl) ?_
                  refine lw_nil ?_
                  refine cw_iff rfl (not_f (decide_eq_true rfl)) ?_
                  refine cw_skip ?_
                  refine cw_region ?_
                  first | refine lw_val rfl (run_move (v := .int .i64 _) rfl) ?_
                  refine lw_val rfl (run_add64 rfl rfl rfl (inI (by omega) (by omega))) ?_
                  first | refine lw_val rfl (run_assign (v := .int .i64 _) rfl) ?_
                  refine lw_nil ?_
                  exact ⟨x + 1, by omega, ⟨by omega, hs.tail⟩, ⟨rfl, trivial⟩, by repeat (first | exact Out.mix _ _ _ | refine Out.updo rfl ?_ | refine Out.upd rfl ?_ | refine Out.mixIn rfl ?_)⟩
                · intro h142
                  replace h142 := not_c h142
                  refine lw_off rfl rfl rfl (not_f h142) ?_
                  refine lw_off rfl rfl rfl (not_f h142) ?_
                  refine lw_off rfl rfl rfl (not_f h142) ?_
                  refine lw_off rfl rfl rfl (not_f h142) ?_
                  refine lw_offU rfl rfl rfl ?_
                  refine lw_offU rfl rfl rfl ?_
                  refine lw_off rfl rfl rfl (not_f h142) ?_
                  refine lw_off rfl rfl rfl (not_f h142) ?_
                  refine lw_offU rfl rfl rfl ?_
                  refine lw_offU rfl rfl rfl ?_
                  refine lw_offU rfl rfl rfl ?_
                  refine lw_off rfl rfl rfl (not_f h142) ?_
                  refine lw_off rfl rfl rfl (not_f h142) ?_
                  first | refine lw_val rfl (run_pickF (v := .bool _) rfl (not_f h142) rfl) ?_
                  refine lw_nil ?_
                  refine cw_iff rfl rfl ?_
                  refine cw_skip ?_
                  refine cw_region ?_
                  first | refine lw_val rfl (run_move (v := .int .i64 _) rfl) ?_
                  refine lw_val rfl (run_add64 rfl rfl rfl (inI (by omega) (by omega))) ?_
                  first | refine lw_val rfl (run_assign (v := .int .i64 _) rfl) ?_
                  refine lw_nil ?_
                  exact ⟨x + 1, by omega, ⟨by omega, hs.tail⟩, ⟨rfl, trivial⟩, by repeat (first | exact Out.mix _ _ _ | refine Out.updo rfl ?_ | refine Out.upd rfl ?_ | refine Out.mixIn rfl ?_)⟩
              · intro h135
                obtain ⟨y, rfl, hy1, hyz, hy⟩ := hea.resolve_left (fun h => by have := (old_fine h hro1).1; rw [h135] at this; cases this)
                rw [hy] at hro1
                cases hro1
                refine aw_takeOff 8 rfl (by kernel_rfl) (by kernel_rfl) (by kernel_rfl) rfl rfl rfl h135 hK ?_
                refine aw_takeOff 9 rfl (by kernel_rfl) (by kernel_rfl) (by kernel_rfl) rfl rfl rfl h135 hK ?_
                refine aw_takeOff 10 rfl (by kernel_rfl) (by kernel_rfl) (by kernel_rfl) rfl rfl rfl h135 hK ?_
                refine aw_takeOff 11 rfl (by kernel_rfl) (by kernel_rfl) (by kernel_rfl) rfl rfl rfl h135 hK ?_
                refine aw_takeOff 12 rfl (by kernel_rfl) (by kernel_rfl) (by kernel_rfl) rfl rfl rfl h135 hK ?_
                refine aw_takeOff 13 rfl (by kernel_rfl) (by kernel_rfl) (by kernel_rfl) rfl rfl rfl h135 hK ?_
                first | refine aw_take 14 rfl (by kernel_rfl) (by kernel_rfl) (by kernel_rfl) rfl (fun w hs => run_pickF (v := .bool _) rfl h135 rfl) hK ?_
                first | refine aw_take 15 rfl (by kernel_rfl) (by kernel_rfl) (by kernel_rfl) rfl (fun w hs => run_assign (v := .bool _) rfl) hK ?_
                refine aw_done (by kernel_rfl) ?_
                clear hK
                refine cw_seq ?_
                refine cw_region ?_
                first | refine lw_val rfl (run_move (v := .bool _) rfl) ?_
                refine lw_val rfl (run_not rfl) ?_
                first | refine lw_val rfl (run_move (v := .bool _) rfl) ?_
                refine lw_on rfl rfl (not_t rfl) ?_
                first | refine lw_val rfl (run_move (v := .int .i64 _) rfl) ?_
                refine lw_on rfl rfl (not_t rfl) ?_
                first | refine lw_val rfl (run_move (v := .int .i64 _) rfl) ?_
                refine lw_on rfl rfl (not_t rfl) ?_
                refine lw_val rfl (run_eqi rfl rfl) ?_
                refine lw_on rfl rfl (not_t rfl) ?_
                first | refine lw_val rfl (run_move (v := .bool _) rfl) ?_
                refine lw_on rfl rfl (decide_eq_true (by show ((x : Nat) : Int) = ((y.1 : Nat) : Int); rw [hy1])) ?_
                first | refine lw_val rfl (run_move (v := errV ad _) rfl) ?_ | refine lw_val rfl (run_move (v := .nilIface) rfl) ?_ | refine lw_val rfl (run_move (v := eV ad _ _) rfl) ?_ | refine lw_val rfl (run_move (v := .iface _ (.pointer (some _))) rfl) ?_
                refine lw_on rfl rfl (decide_eq_true (by show ((x : Nat) : Int) = ((y.1 : Nat) : Int); rw [hy1])) ?_
                first | refine lw_val rfl (run_eqerrn (ad := ad) rfl) ?_ | refine lw_val rfl (run_eqnn rfl) ?_ | refine lw_val rfl (run_eqE (ad := ad) rfl) ?_
                refine lw_on rfl rfl (not_t rfl) ?_
                first | refine lw_val rfl (run_pickT (v := .bool _) rfl (decide_eq_true (by show ((x : Nat) : Int) = ((y.1 : Nat) : Int); rw [hy1])) rfl) ?_
                refine lw_on rfl rfl (not_t rfl) ?_
                first | refine lw_val rfl (run_move (v := .bool _) rfl) ?_
                refine lw_on rfl rfl (rfl) ?_
                first | refine lw_val rfl (run_move (v := .slice _ _ _) rfl) ?_
                refine lw_on rfl rfl (rfl) ?_
                first | refine lw_val rfl (run_move (v := .slice _ _ _) rfl) ?_
                refine lw_on rfl rfl (rfl) ?_
                refine lw_call rfl en22 (sameB_sl hs (la := y.2.2.2) (lb := y.2.2.2) (hs.rdOwn 0 rfl) ((h0.each y.2 hyz).rd _) rfl rfl (by omega)) ?_
                clear hs
                rintro _ w ⟨rfl, hs⟩
                refine lw_on rfl rfl (not_t rfl) ?_
                first | refine lw_val rfl (run_pickT (v := .bool _) rfl (rfl) rfl) ?_
                refine lw_on rfl rfl (not_t rfl) ?_
                refine lw_val rfl (run_not rfl) ?_
                first | refine lw_val rfl (run_pickT (v := .bool _) rfl (not_t rfl) rfl) ?_
                refine lw_nil ?_
                refine cw_iff rfl (not_f (decide_eq_true rfl)) ?_
                refine cw_skip ?_
                refine cw_region ?_
                first | refine lw_val rfl (run_move (v := .int .i64 _) rfl) ?_
                refine lw_val rfl (run_add64 rfl rfl rfl (inI (by omega) (by omega))) ?_
                first | refine lw_val rfl (run_assign (v := .int .i64 _) rfl) ?_
                refine lw_nil ?_
                exact ⟨x + 1, by omega, ⟨by omega, hs.tail⟩, ⟨rfl, trivial⟩, by repeat (first | exact Out.mix _ _ _ | refine Out.updo rfl ?_ | refine Out.upd rfl ?_ | refine Out.mixIn rfl ?_)⟩
            · intro h117
              have g117 := of_decide_eq_false h117
              refine cw_exit rfl ?_
              refine cw_seq ?_
              refine cw_region ?_
              first | refine lw_val rfl (run_assign (v := .bool _) rfl) ?_
              refine lw_nil ?_
              refine cw_ret ?_
              refine res1 (v := .bool _) rfl rfl ?_
              exact ⟨_, rfl, rfl, hs.nil⟩
        · intro h65
          have g65 := of_decide_eq_false h65
          refine lw_off rfl rfl rfl h65 ?_
          refine lw_off rfl rfl rfl h65 ?_
          refine lw_off rfl rfl rfl h65 ?_
          refine lw_off rfl rfl rfl h65 ?_
          first | refine lw_val rfl (run_pickF (v := .bool _) rfl h65 rfl) ?_
          first | refine lw_val rfl (run_move (v := .bool _) rfl) ?_
          refine lw_off rfl rfl rfl rfl ?_
          refine lw_off rfl rfl rfl rfl ?_
          refine lw_off rfl rfl rfl rfl ?_
          first | refine lw_val rfl (run_pickF (v := .bool _) rfl rfl rfl) ?_
          refine lw_nil ?_
          refine cw_iff rfl rfl ?_
          refine cw_exit rfl ?_
          refine cw_seq ?_
          refine cw_region ?_
          first | refine lw_val rfl (run_move (v := .pointer (some _)) rfl) ?_ | refine lw_val rfl (run_move (v := .pointer none) rfl) ?_
          first | refine lw_val rfl (run_move (v := .slice _ _ _) rfl) ?_
          refine lw_call rfl en42 (crash_sl hs (by omega) (picks := picks) (h3.rd _) rfl (by omega)) ?_
          clear hs
          rintro _ w ⟨rfl, hs⟩
          obtain ⟨G, hG, hGF⟩ := hD.crash picks
          refine lw_nil ?_
          refine cw_seq ?_
          refine cw_seq ?_
          refine cw_region ?_
          first | refine lw_val rfl (run_assign (v := .int .i64 _) rfl) ?_
          refine lw_nil ?_
          refine cw_block ?_
          refine cw_loop (X := Nat) [8, 20, 21, 22, 23, 116, 117, 118, 119, 120, 121, 122, 123, 124, 125, 126, 127, 128, 129, 130, 131, 132, 133, 134, 135, 136, 137, 138, 139, 140, 141, 142, 143, 144, 145, 146, 147, 148, 149, 150, 151, 152, 153, 154, 155, 156, 157, 158, 159, 160] (fun x => [(20, .int .i64 (x : Nat))]) (fun x w => x ≤ 4 ∧ Mem g w (DiskC p (d.crash picks) :: own (.slice (some ⟨b57, 0, none⟩) 4 4) (E.map fun e => Value.bool e.isSome) :: own (.slice (some ⟨b56, 0, none⟩) 4 4) (E.map hvE) :: cells b55 (nm4.map Value.string) 9 :: [])) (fun x => 4 - x) (0) ?_ ?_ ?_
          · exact ⟨rfl, trivial⟩
          · exact ⟨Nat.zero_le _, hs⟩
          clear hs
          rintro x ξ w hI
          obtain ⟨hx4, hs⟩ := hI
          have hx4 : x ≤ 4 := hx4
          show cw _ _ _ _ _ _ (updL (mix _ ξ _) [(20, .int .i64 (x : Nat))]) w
          refine cw_seq ?_
          refine cw_seq ?_
          refine cw_region ?_
          first | refine lw_val rfl (run_move (v := .int .i64 _) rfl) ?_
          refine lw_val rfl (run_lss rfl rfl) ?_
          refine lw_nil ?_
          refine cw_if rfl ?_ ?_
          · intro h117
            have g117 := of_decide_eq_true h117
            have hx : x < 4 := by omega
            obtain ⟨e1, he1⟩ : ∃ e1, E[x]? = some e1 := ⟨_, List.getElem?_eq_getElem (by rw [hPI.len]; omega)⟩
            have hrd := hG.read (nm4_in hx)
            have hea := hPI.each hGF he1
            obtain ⟨kr, br, hro1⟩ : ∃ kr br, readO (G (nmI x)) = (kr, br) := ⟨_, _, rfl⟩
            rw [hro1] at hrd
            obtain ⟨a1, n1, c1, bs, hve, hn1, hbs, hrv, hb60⟩ := hvE_form (g := g) e1 (fun y hy => ⟨h0.each y (hPI.mem y (hy ▸ List.mem_of_getElem? he1)), hz60 y (hPI.mem y (hy ▸ List.mem_of_getElem? he1))⟩)
            have hbr : br.length ≤ 60 := by rcases hea with h | ⟨y, _, _, hyz, h⟩; have := (old_fine h hro1).2; rw [this, ← hbs]; exact hb60; rw [h] at hro1; cases hro1; have := hz60 _ hyz; omega
            refine cw_skip ?_
            refine cw_seq ?_
            refine cw_block ?_
            refine cw_seq ?_
            refine cw_region ?_
            first | refine lw_val rfl (run_move (v := .pointer (some _)) rfl) ?_ | refine lw_val rfl (run_move (v := .pointer none) rfl) ?_
            first | refine lw_val rfl (run_move (v := .slice _ _ _) rfl) ?_
            first | refine lw_val rfl (run_move (v := .int .i64 _) rfl) ?_
            refine lw_val rfl (run_indexAddr Tryd.underlying69 sz9 rfl rfl rfl (by omega) rfl) ?_
            refine lw_val rfl (run_load (v := .string (nmI x)) Tryd.underlying9 rfl rfl (hs.cellAt 3 rfl (by rw [Nat.zero_add, List.getElem?_map, nm4_at hx]; rfl))) ?_
            refine lw_call rfl en31 (pread_sl hP hs (nmI x) hrd) ?_
            clear hs
            rintro _ w ⟨a126, c126, rfl, hs⟩
            first | refine lw_val rfl (run_move (v := .tuple _) rfl) ?_
            first | refine lw_val rfl (run_extract (v := .slice _ _ _) rfl rfl) ?_
            first | refine lw_val rfl (run_extract (v := errV ad _) rfl rfl) ?_ | refine lw_val rfl (run_extract (v := .nilIface) rfl rfl) ?_ | refine lw_val rfl (run_extract (v := eV ad _ _) rfl rfl) ?_ | refine lw_val rfl (run_extract (v := .iface _ (.pointer (some _))) rfl rfl) ?_
            first | refine lw_val rfl (run_assign (v := .slice _ _ _) rfl) ?_
            first | refine lw_val rfl (run_assign (v := errV ad _) rfl) ?_ | refine lw_val rfl (run_assign (v := .nilIface) rfl) ?_ | refine lw_val rfl (run_assign (v := eV ad _ _) rfl) ?_ | refine lw_val rfl (run_assign (v := .iface _ (.pointer (some _))) rfl) ?_
            refine lw_nil ?_
            refine cw_seq ?_
            refine cw_drawS mixes hs ?_
            intro w tr hK
            replace hs := tr _ hs
            clear tr
            first | refine aw_take 0 rfl (by kernel_rfl) (by kernel_rfl) (by kernel_rfl) rfl (fun w hs => run_move (v := errV ad _) rfl) hK ?_ | refine aw_take 0 rfl (by kernel_rfl) (by kernel_rfl) (by kernel_rfl) rfl (fun w hs => run_move (v := .nilIface) rfl) hK ?_ | refine aw_take 0 rfl (by kernel_rfl) (by kernel_rfl) (by kernel_rfl) rfl (fun w hs => run_move (v := eV ad _ _) rfl) hK ?_ | refine aw_take 0 rfl (by kernel_rfl) (by kernel_rfl) (by kernel_rfl) rfl (fun w hs => run_move (v := .iface _ (.pointer (some _))) rfl) hK ?_
            first | refine aw_take 1 rfl (by kernel_rfl) (by kernel_rfl) (by kernel_rfl) rfl (fun w hs => run_eqerrn (ad := ad) rfl) hK ?_ | refine aw_take 1 rfl (by kernel_rfl) (by kernel_rfl) (by kernel_rfl) rfl (fun w hs => run_eqnn rfl) hK ?_ | refine aw_take 1 rfl (by kernel_rfl) (by kernel_rfl) (by kernel_rfl) rfl (fun w hs => run_eqE (ad := ad) rfl) hK ?_
            first | refine aw_take 2 rfl (by kernel_rfl) (by kernel_rfl) (by kernel_rfl) rfl (fun w hs => run_move (v := .slice _ _ _) rfl) hK ?_
            first | refine aw_take 3 rfl (by kernel_rfl) (by kernel_rfl) (by kernel_rfl) rfl (fun w hs => run_move (v := .int .i64 _) rfl) hK ?_
            refine aw_take 4 rfl (by kernel_rfl) (by kernel_rfl) (by kernel_rfl) rfl (fun w hs => run_indexAddr Tryd.underlying70 sz4 rfl rfl rfl (by omega) rfl) hK ?_
            refine aw_take 5 rfl (by kernel_rfl) (by kernel_rfl) (by kernel_rfl) rfl (fun w hs => run_load Tryd.underlying4 rfl rfl (hs.ownAt (v := .bool e1.isSome) 2 rfl (j := x) (by rw [List.getElem?_map, he1]; rfl))) hK ?_
            refine aw_take 6 rfl (by kernel_rfl) (by kernel_rfl) (by kernel_rfl) rfl (fun w hs => run_eqb Tryd.underlying4 rfl rfl) hK ?_
            first | refine aw_take 7 rfl (by kernel_rfl) (by kernel_rfl) (by kernel_rfl) rfl (fun w hs => run_move (v := .bool _) rfl) hK ?_
            refine aw_split (t := _) (d := 136) rfl ?_ ?_
            · intro h135
              first | refine aw_takeOn 8 rfl (by kernel_rfl) (by kernel_rfl) (by kernel_rfl) rfl rfl rfl h135 (fun w hs => run_move (v := .slice _ _ _) rfl) hK ?_
              first | refine aw_takeOn 9 rfl (by kernel_rfl) (by kernel_rfl) (by kernel_rfl) rfl rfl rfl h135 (fun w hs => run_move (v := .slice _ _ _) rfl) hK ?_
              first | refine aw_takeOn 10 rfl (by kernel_rfl) (by kernel_rfl) (by kernel_rfl) rfl rfl rfl h135 (fun w hs => run_move (v := .int .i64 _) rfl) hK ?_
              refine aw_takeOn 11 rfl (by kernel_rfl) (by kernel_rfl) (by kernel_rfl) rfl rfl rfl h135 (fun w hs => run_indexAddr Tryd.underlying67 sz23 rfl rfl rfl (by omega) rfl) hK ?_
              refine aw_takeOn 12 rfl (by kernel_rfl) (by kernel_rfl) (by kernel_rfl) rfl rfl rfl h135 (fun w hs => run_load Tryd.underlying23 rfl rfl (hs.ownAt (v := .slice a1 n1 c1) 3 rfl (j := x) (by rw [List.getElem?_map, he1, Option.map_some, hve]))) hK ?_
              refine aw_ready [13] (by kernel_rfl) (by simp) ?_
              refine ⟨⟨_, rfl, ?_⟩, trivial⟩
              refine lw_on rfl rfl h135 ?_
              refine lw_call rfl en22 (sameB_sl hs (la := br) (lb := bs) (hs.rdOwn 0 rfl) (hrv _) rfl hn1 (by omega)) ?_
              clear hs
              rintro _ w ⟨rfl, hs⟩
              clear hK
              have hK := hs
              refine lw_nil ⟨hK, ?_⟩
              first | refine aw_take 14 rfl (by kernel_rfl) (by kernel_rfl) (by kernel_rfl) rfl (fun w hs => run_pickT (v := .bool _) rfl h135 rfl) hK ?_
              first | refine aw_take 15 rfl (by kernel_rfl) (by kernel_rfl) (by kernel_rfl) rfl (fun w hs => run_assign (v := .bool _) rfl) hK ?_
              refine aw_done (by kernel_rfl) ?_
              clear hK
              refine cw_seq ?_
              refine cw_region ?_
              first | refine lw_val rfl (run_move (v := .bool _) rfl) ?_
              refine lw_val rfl (run_not rfl) ?_
              first | refine lw_val rfl (run_move (v := .bool _) rfl) ?_
              refine lw_split (t := _) (d := 146) rfl ?_ ?_
              · intro h142
                replace h142 := not_b h142
                obtain ⟨y, rfl, hy1, hyz, hy⟩ := hea.resolve_left (fun h => (of_decide_eq_false h142) ((old_fine h hro1).2.trans hbs.symm))
                rw [hy] at hro1
                cases hro1
                refine lw_on rfl rfl (not_t h142) ?_
                first | refine lw_val rfl (run_move (v := .int .i64 _) rfl) ?_
                refine lw_on rfl rfl (not_t h142) ?_
                first | refine lw_val rfl (run_move (v := .int .i64 _) rfl) ?_
                refine lw_on rfl rfl (not_t h142) ?_
                refine lw_val rfl (run_eqi rfl rfl) ?_
                refine lw_on rfl rfl (not_t h142) ?_
                first | refine lw_val rfl (run_move (v := .bool _) rfl) ?_
                refine lw_on rfl rfl (decide_eq_true (by show ((x : Nat) : Int) = ((y.1 : Nat) : Int); rw [hy1])) ?_
                first | refine lw_val rfl (run_move (v := errV ad _) rfl) ?_ | refine lw_val rfl (run_move (v := .nilIface) rfl) ?_ | refine lw_val rfl (run_move (v := eV ad _ _) rfl) ?_ | refine lw_val rfl (run_move (v := .iface _ (.pointer (some _))) rfl) ?_
                refine lw_on rfl rfl (decide_eq_true (by show ((x : Nat) : Int) = ((y.1 : Nat) : Int); rw [hy1])) ?_
                first | refine lw_val rfl (run_eqerrn (ad := ad) rfl) ?_ | refine lw_val rfl (run_eqnn rfl) ?_ | refine lw_val rfl (run_eqE (ad := ad) rfl) ?_
                refine lw_on rfl rfl (not_t h142) ?_
                first | refine lw_val rfl (run_pickT (v := .bool _) rfl (decide_eq_true (by show ((x : Nat) : Int) = ((y.1 : Nat) : Int); rw [hy1])) rfl) ?_
                refine lw_on rfl rfl (not_t h142) ?_
                first | refine lw_val rfl (run_move (v := .bool _) rfl) ?_
                refine lw_on rfl rfl (rfl) ?_
                first | refine lw_val rfl (run_move (v := .slice _ _ _) rfl) ?_
                refine lw_on rfl rfl (rfl) ?_
                first | refine lw_val rfl (run_move (v := .slice _ _ _) rfl) ?_
                refine lw_on rfl rfl (rfl) ?_
                refine lw_call rfl en22 (sameB_sl hs (la := y.2.2.2) (lb := y.2.2.2) (hs.rdOwn 0 rfl) ((h0.each y.2 hyz).rd _) rfl rfl (by omega)) ?_
                clear hs
                rintro _ w ⟨rfl, hs⟩
                refine lw_on rfl rfl (not_t h142) ?_
                first | refine lw_val rfl (run_pickT (v := .bool _) rfl (rfl) rfl) ?_
                refine lw_on rfl rfl (not_t h142) ?_
                refine lw_val rfl (run_not rfl) ?_
                first | refine lw_val rfl (run_pickT (v := .bool _) rfl (not_t h142) rfl) ?_
                refine lw_nil ?_
                refine cw_iff rfl (not_f (decide_eq_true rfl)) ?_
                refine cw_skip ?_
                refine cw_region ?_
                first | refine lw_val rfl (run_move (v := .int .i64 _) rfl) ?_
                refine lw_val rfl (run_add64 rfl rfl rfl (inI (by omega) (by omega))) ?_
                first | refine lw_val rfl (run_assign (v := .int .i64 _) rfl) ?_
                refine lw_nil ?_
                exact ⟨x + 1, by omega, ⟨by omega, hs.tail⟩, ⟨rfl, trivial⟩, by repeat (first | exact Out.mix _ _ _ | refine Out.updo rfl ?_ | refine Out.upd rfl ?_ | refine Out.mixIn rfl ?_)⟩
              · intro h142
                replace h142 := not_c h142
                refine lw_off rfl rfl rfl (not_f h142) ?_
                refine lw_off rfl rfl rfl (not_f h142) ?_
                refine lw_off rfl rfl rfl (not_f h142) ?_
                refine lw_off rfl rfl rfl (not_f h142) ?_
                refine lw_offU rfl rfl rfl ?_
                refine lw_offU rfl rfl rfl ?_
                refine lw_off rfl rfl rfl (not_f h142) ?_
                refine lw_off rfl rfl rfl (not_f h142) ?_
                refine lw_offU rfl rfl rfl ?_
                refine lw_offU rfl rfl rfl ?_
                refine lw_offU rfl rfl rfl ?_
                refine lw_off rfl rfl rfl (not_f h142) ?_
                refine lw_off rfl rfl rfl (not_f h142) ?_
                first | refine lw_val rfl (run_pickF (v := .bool _) rfl (not_f h142) rfl) ?_
                refine lw_nil ?_
                refine cw_iff rfl rfl ?_
                refine cw_skip ?_
                refine cw_region ?_
                first | refine lw_val rfl (run_move (v := .int .i64 _) rfl) ?_
                refine lw_val rfl (run_add64 rfl rfl rfl (inI (by omega) (by omega))) ?_
                first | refine lw_val rfl (run_assign (v := .int .i64 _) rfl) ?_
                refine lw_nil ?_
                exact ⟨x + 1, by omega, ⟨by omega, hs.tail⟩, ⟨rfl, trivial⟩, by repeat (first | exact Out.mix _ _ _ | refine Out.updo rfl ?_ | refine Out.upd rfl ?_ | refine Out.mixIn rfl ?_)⟩
            · intro h135
              obtain ⟨y, rfl, hy1, hyz, hy⟩ := hea.resolve_left (fun h => by have := (old_fine h hro1).1; rw [h135] at this; cases this)
              rw [hy] at hro1
              cases hro1
              refine aw_takeOff 8 rfl (by kernel_rfl) (by kernel_rfl) (by kernel_rfl) rfl rfl rfl h135 hK ?_
              refine aw_takeOff 9 rfl (by kernel_rfl) (by kernel_rfl) (by kernel_rfl) rfl rfl rfl h135 hK ?_
              refine aw_takeOff 10 rfl (by kernel_rfl) (by kernel_rfl) (by kernel_rfl) rfl rfl rfl h135 hK ?_
              refine aw_takeOff 11 rfl (by kernel_rfl) (by kernel_rfl) (by kernel_rfl) rfl rfl rfl h135 hK ?_
              refine aw_takeOff 12 rfl (by kernel_rfl) (by kernel_rfl) (by kernel_rfl) rfl rfl rfl h135 hK ?_
              refine aw_takeOff 13 rfl (by kernel_rfl) (by kernel_rfl) (by kernel_rfl) rfl rfl rfl h135 hK ?_
              first | refine aw_take 14 rfl (by kernel_rfl) (by kernel_rfl) (by kernel_rfl) rfl (fun w hs => run_pickF (v := .bool _) rfl h135 rfl) hK ?_
              first | refine aw_take 15 rfl (by kernel_rfl) (by kernel_rfl) (by kernel_rfl) rfl (fun w hs => run_assign (v := .bool _) rfl) hK ?_
              refine aw_done (by kernel_rfl) ?_
              clear hK
              refine cw_seq ?_
              refine cw_region ?_
              first | refine lw_val rfl (run_move (v := .bool _) rfl) ?_
              refine lw_val rfl (run_not rfl) ?_
              first | refine lw_val rfl (run_move (v := .bool _) rfl) ?_
              refine lw_on rfl rfl (not_t rfl) ?_
              first | refine lw_val rfl (run_move (v := .int .i64 _) rfl) ?_
              refine lw_on rfl rfl (not_t rfl) ?_
              first | refine lw_val rfl (run_move (v := .int .i64 _) rfl) ?_
              refine lw_on rfl rfl (not_t rfl) ?_
              refine lw_val rfl (run_eqi rfl rfl) ?_
              refine lw_on rfl rfl (not_t rfl) ?_
              first | refine lw_val rfl (run_move (v := .bool _) rfl) ?_
              refine lw_on rfl rfl (decide_eq_true (by show ((x : Nat) : Int) = ((y.1 : Nat) : Int); rw [hy1])) ?_
              first | refine lw_val rfl (run_move (v := errV ad _) rfl) ?_ | refine lw_val rfl (run_move (v := .nilIface) rfl) ?_ | refine lw_val rfl (run_move (v := eV ad _ _) rfl) ?_ | refine lw_val rfl (run_move (v := .iface _ (.pointer (some _))) rfl) ?_
              refine lw_on rfl rfl (decide_eq_true (by show ((x : Nat) : Int) = ((y.1 : Nat) : Int); rw [hy1])) ?_
              first | refine lw_val rfl (run_eqerrn (ad := ad) rfl) ?_ | refine lw_val rfl (run_eqnn rfl) ?_ | refine lw_val rfl (run_eqE (ad := ad) rfl) ?_
              refine lw_on rfl rfl (not_t rfl) ?_
              first | refine lw_val rfl (run_pickT (v := .bool _) rfl (decide_eq_true (by show ((x : Nat) : Int) = ((y.1 : Nat) : Int); rw [hy1])) rfl) ?_
              refine lw_on rfl rfl (not_t rfl) ?_
              first | refine lw_val rfl (run_move (v := .bool _) rfl) ?_
              refine lw_on rfl rfl (rfl) ?_
              first | refine lw_val rfl (run_move (v := .slice _ _ _) rfl) ?_
              refine lw_on rfl rfl (rfl) ?_
              first | refine lw_val rfl (run_move (v := .slice _ _ _) rfl) ?_
              refine lw_on rfl rfl (rfl) ?_
              refine lw_call rfl en22 (sameB_sl hs (la := y.2.2.2) (lb := y.2.2.2) (hs.rdOwn 0 rfl) ((h0.each y.2 hyz).rd _) rfl rfl (by omega)) ?_
              clear hs
              rintro _ w ⟨rfl, hs⟩
              refine lw_on rfl rfl (not_t rfl) ?_
              first | refine lw_val rfl (run_pickT (v := .bool _) rfl (rfl) rfl) ?_
              refine lw_on rfl rfl (not_t rfl) ?_
              refine lw_val rfl (run_not rfl) ?_
              first | refine lw_val rfl (run_pickT (v := .bool _) rfl (not_t rfl) rfl) ?_
              refine lw_nil ?_
              refine cw_iff rfl (not_f (decide_eq_true rfl)) ?_
              refine cw_skip ?_
              refine cw_region ?_
              first | refine lw_val rfl (run_move (v := .int .i64 _) rfl) ?_
              refine lw_val rfl (run_add64 rfl rfl rfl (inI (by omega) (by omega))) ?_
              first | refine lw_val rfl (run_assign (v := .int .i64 _) rfl) ?_
              refine lw_nil ?_
              exact ⟨x + 1, by omega, ⟨by omega, hs.tail⟩, ⟨rfl, trivial⟩, by repeat (first | exact Out.mix _ _ _ | refine Out.updo rfl ?_ | refine Out.upd rfl ?_ | refine Out.mixIn rfl ?_)⟩
          · intro h117
            have g117 := of_decide_eq_false h117
            refine cw_exit rfl ?_
            refine cw_seq ?_
            refine cw_region ?_
            first | refine lw_val rfl (run_assign (v := .bool _) rfl) ?_
            refine lw_nil ?_
            refine cw_ret ?_
            refine res1 (v := .bool _) rfl rfl ?_
            exact ⟨_, rfl, rfl, hs.nil⟩
end Go.Proofs.YtmnfehbnjgmgjaaDoor
