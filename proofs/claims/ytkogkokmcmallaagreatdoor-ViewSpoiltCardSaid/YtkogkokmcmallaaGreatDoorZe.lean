/- The sums' plain law: four bits at a time are as one at a time. crc: halves, More, Of. -/
import Derived.Laws.Bits64
import Derived.Shelf.Spec.TrailingZeros
import Derived.Test.YtkogkokmcmallaaGreatDoorZa
import Derived.Deep.LoopGhost
namespace Go.Proofs.YtkogkokmcmallaaGreatDoor
set_option linter.all false

/-- A bit. -/
def crcStep (x : Nat) : Nat := (x / 2) ^^^ (if x % 2 = 1 then 2197175160 else 0)
def crc4 (x : Nat) : Nat := crcStep (crcStep (crcStep (crcStep x)))
theorem xor_swap (x y p : Nat) : x ^^^ (y ^^^ p) = y ^^^ (x ^^^ p) := by rw [← Nat.xor_assoc, Nat.xor_comm x y, Nat.xor_assoc]
theorem crcStep_xor (a b : Nat) : crcStep (a ^^^ b) = crcStep a ^^^ crcStep b := by
  have hm : (a ^^^ b) % 2 = (a % 2) ^^^ (b % 2) := by simpa using Nat.xor_mod_two_pow (a := a) (b := b) (n := 1)
  unfold crcStep
  rw [Nat.xor_div_two, hm]
  rcases Nat.mod_two_eq_zero_or_one a with ha | ha <;> rcases Nat.mod_two_eq_zero_or_one b with hb | hb <;> simp only [ha, hb]
  · simp
  · simp [Nat.xor_assoc]
  · simp only [Nat.reduceEqDiff, Nat.xor_zero, if_true, if_false, Nat.reduceXor, Nat.zero_ne_one]
    rw [Nat.xor_assoc, Nat.xor_assoc, Nat.xor_comm (b / 2)]
  · simp only [Nat.xor_self, Nat.reduceEqDiff, if_true]
    have : ∀ x y p : Nat, x ^^^ p ^^^ (y ^^^ p) = x ^^^ y := fun x y p => by
      rw [Nat.xor_assoc, xor_swap p y p, Nat.xor_self, Nat.xor_zero]
    rw [this]; simp
theorem crcStep_even (q : Nat) : crcStep (2 * q) = q := by simp [crcStep]
theorem crc4_xor (a b : Nat) : crc4 (a ^^^ b) = crc4 a ^^^ crc4 b := by simp only [crc4, crcStep_xor]
theorem crc4_sixteen (q : Nat) : crc4 (16 * q) = q := by
  unfold crc4
  rw [show 16 * q = 2 * (2 * (2 * (2 * q))) by omega, crcStep_even, crcStep_even, crcStep_even, crcStep_even]
theorem split16 (x : Nat) : 16 * (x / 16) ^^^ x % 16 = x := by
  have h1 : (16 * (x / 16) ^^^ x % 16) / 2 ^ 4 = x / 16 := by
    rw [Nat.xor_div_two_pow]
    have a : 16 * (x / 16) / 2 ^ 4 = x / 16 := by omega
    have b : x % 16 / 2 ^ 4 = 0 := by omega
    rw [a, b, Nat.xor_zero]
  have h2 : (16 * (x / 16) ^^^ x % 16) % 2 ^ 4 = x % 16 := by
    rw [Nat.xor_mod_two_pow]
    have a : 16 * (x / 16) % 2 ^ 4 = 0 := by omega
    have b : x % 16 % 2 ^ 4 = x % 16 := by omega
    rw [a, b, Nat.zero_xor]
  have h3 := Nat.div_add_mod (16 * (x / 16) ^^^ x % 16) (2 ^ 4)
  rw [h1, h2] at h3
  omega
theorem crc4_split (x : Nat) : crc4 x = (x / 16) ^^^ crc4 (x % 16) := by
  conv => lhs; rw [← split16 x]
  rw [crc4_xor, crc4_sixteen]
theorem crcStep_lt {x : Nat} (h : x < 4294967296) : crcStep x < 4294967296 := by
  unfold crcStep
  refine Nat.xor_lt_two_pow (n := 32) (by omega) ?_
  split <;> decide
theorem crc4_lt {x : Nat} (h : x < 4294967296) : crc4 x < 4294967296 := crcStep_lt (crcStep_lt (crcStep_lt (crcStep_lt h)))

/-- A byte. -/
def crcByte (s : Nat) (c : UInt8) : Nat := crc4 (crc4 (s ^^^ c.toNat))
theorem crcByte_lt {s : Nat} (h : s < 4294967296) (c : UInt8) : crcByte s c < 4294967296 :=
  crc4_lt (crc4_lt (Nat.xor_lt_two_pow (n := 32) (by omega) (Nat.lt_trans c.toNat_lt (by decide))))
def crcRun (s : Nat) (l : List UInt8) : Nat := l.foldl crcByte s
theorem crcRun_lt : ∀ (l : List UInt8) {s : Nat}, s < 4294967296 → crcRun s l < 4294967296
  | [], _, h => h
  | c :: l, _, h => crcRun_lt l (crcByte_lt h c)
/-- The sum of bytes with more behind. -/
def crcMore (s : Nat) (l : List UInt8) : Nat := 4294967295 ^^^ crcRun (4294967295 ^^^ s) l
theorem not_lt {s : Nat} (h : s < 4294967296) : 4294967295 ^^^ s < 4294967296 := Nat.xor_lt_two_pow (n := 32) (by omega) (by omega)
theorem crcMore_lt {s : Nat} (h : s < 4294967296) (l : List UInt8) : crcMore s l < 4294967296 := not_lt (crcRun_lt l (not_lt h))

theorem bits_xor_u32_nat (a b : Nat) (ha : a < 4294967296) (hb : b < 4294967296) : bits .xor .u32 (a : Int) (b : Int) = ((a ^^^ b : Nat) : Int) := by
  have hx : a ^^^ b < 2 ^ 32 := Nat.xor_lt_two_pow (by omega) (by omega)
  have h1 : (BitVec.ofInt 32 (a : Int)).toNat = a := by
    rw [BitVec.ofInt_natCast, BitVec.toNat_ofNat]; exact Nat.mod_eq_of_lt (by omega)
  have h2 : (BitVec.ofInt 32 (b : Int)).toNat = b := by
    rw [BitVec.ofInt_natCast, BitVec.toNat_ofNat]; exact Nat.mod_eq_of_lt (by omega)
  have hw : ∀ n : Int, IntKind.u32.wrap n = n % 4294967296 := fun n => by simp [IntKind.wrap, IntKind.bits, IntKind.signed]
  show IntKind.u32.wrap ((BitVec.ofInt 32 (a : Int) ^^^ BitVec.ofInt 32 (b : Int)).toNat : Int) = _
  rw [BitVec.toNat_xor, h1, h2, hw]
  omega
theorem not_u32 (s : Nat) (h : s < 4294967296) : bits .xor .u32 IntKind.u32.max (s : Int) = ((4294967295 ^^^ s : Nat) : Int) := by
  have : IntKind.u32.max = ((4294967295 : Nat) : Int) := by decide
  rw [this, bits_xor_u32_nat _ _ (by decide) h]
theorem half_step (y : Nat) (hy : y < 4294967296) : bits .xor .u32 ((y : Int) / 2) (bits .and .u32 (-bits .and .u32 (y : Int) 1 % 4294967296) 2197175160) = ((crcStep y : Nat) : Int) := by
  have e1 : bits .and .u32 (y : Int) 1 = ((y % 2 : Nat) : Int) := by
    have := bits_and_u32_nat y 1 hy (by decide)
    rw [show ((1 : Nat) : Int) = 1 from rfl] at this
    rw [this, show y &&& 1 = y % 2 from Nat.and_two_pow_sub_one_eq_mod y 1]
  rw [e1]
  have hd : ((y : Int) / 2) = ((y / 2 : Nat) : Int) := by omega
  rw [hd]
  unfold crcStep
  rcases Nat.mod_two_eq_zero_or_one y with h | h
  · rw [h]
    have e2 : bits .and .u32 (-((0 : Nat) : Int) % 4294967296) 2197175160 = ((0 : Nat) : Int) := by decide
    rw [e2, bits_xor_u32_nat _ _ (by omega) (by decide)]
    simp
  · rw [h]
    have e2 : bits .and .u32 (-((1 : Nat) : Int) % 4294967296) 2197175160 = ((2197175160 : Nat) : Int) := by decide
    rw [e2, bits_xor_u32_nat _ _ (by omega) (by decide)]
    simp
theorem low_four (y : Nat) (hy : y < 4294967296) : bits .and .u32 (y : Int) 15 = ((y % 16 : Nat) : Int) := by
  have := bits_and_u32_nat y 15 hy (by decide)
  rw [show ((15 : Nat) : Int) = 15 from rfl] at this
  rw [this, show y &&& 15 = y % 16 from Nat.and_two_pow_sub_one_eq_mod y 4]
theorem half_byte (y : Nat) (hy : y < 4294967296) : bits .xor .u32 ((y : Int) / 16) ((crc4 (y % 16) : Nat) : Int) = ((crc4 y : Nat) : Int) := by
  rw [show ((y : Int) / 16) = ((y / 16 : Nat) : Int) by omega, bits_xor_u32_nat _ _ (by omega) (crc4_lt (by omega)), ← crc4_split]
end Go.Proofs.YtkogkokmcmallaaGreatDoor
namespace Go.Proofs.YtkogkokmcmallaaGreatDoor
set_option linter.all false
open Go.RowKit

theorem oneU8c (l : List UInt8) {i : Nat} {v : Value} (h : (bytesL l)[i]? = some v) : ∃ x, l[i]? = some x ∧ v = .int .u8 x.toNat := by
  simp only [bytesL, List.getElem?_map, Option.map_eq_some_iff] at h
  obtain ⟨x, hx, rfl⟩ := h
  exact ⟨x, hx, rfl⟩

set_option maxRecDepth 100000 in
/-- So many bits of a number. -/
def crcN : Nat → Nat → Nat
  | 0, x => x
  | m + 1, x => crcStep (crcN m x)
theorem crcN_lt {x : Nat} (h : x < 4294967296) : ∀ m, crcN m x < 4294967296
  | 0 => h
  | m + 1 => crcStep_lt (crcN_lt h m)
/-- The table as far as k. -/
def halfCells (k : Nat) : Array Value := ((List.range 16).map fun i => .int .u32 ((if i < k then crc4 i else 0 : Nat) : Int)).toArray

theorem half_set : ∀ k, k < 16 → (halfCells k).setIfInBounds k (.int .u32 ((crcN 4 k : Nat) : Int)) = halfCells (k + 1)
  | 0, _ => rfl
  | 1, _ => rfl
  | 2, _ => rfl
  | 3, _ => rfl
  | 4, _ => rfl
  | 5, _ => rfl
  | 6, _ => rfl
  | 7, _ => rfl
  | 8, _ => rfl
  | 9, _ => rfl
  | 10, _ => rfl
  | 11, _ => rfl
  | 12, _ => rfl
  | 13, _ => rfl
  | 14, _ => rfl
  | 15, _ => rfl
  | n + 16, h => absurd h (by omega)
theorem half_at {k : Nat} (h : k < 16) : (halfCells 16)[k]? = some (.int .u32 ((crc4 k : Nat) : Int)) := by
  simp [halfCells, h]
theorem half_one : (halfCells 16).all (·.oneCell') = true := by simp [halfCells, Value.oneCell']
theorem size_u32 : (Tryz.prog.info? 39).map (·.size) = some 1 := by kernel_rfl
theorem size_tab (vs : Array Value) (h : vs.size = 16) : (Tryz.prog.info? 283).map (·.size) = some vs.size := by rw [h]; kernel_rfl
theorem agg_tab (w : World) : (isAgg 283).run Tryz.prog w = .ok true w := by simp [isAgg, run_underlying Tryz.underlying283]

def HalfPost (w : World) (e : Ending) (w' : World) : Prop := e = .returned (.agg (halfCells 16)) ∧ Below w.heap.size w w'
set_option maxRecDepth 100000 in
theorem halves_any {w : World} : Calls Tryz.prog 247 #[] w (HalfPost w) := by
  go_enter Tryz.func247, Tryz.ntmps247
  go_wp2
  go_loopg [4] 16 (fun g i wr => ∃ k : Nat, g = 16 - k ∧ k ≤ 16 ∧ i = .int .i64 k ∧ Below w.heap.size w wr ∧ wr.heap[w.heap.size + 1]? = some (.cells (halfCells k) 283 (0, 0)) ∧ ∃ z : Array Value, z.size = 16 ∧ wr.heap[w.heap.size]? = some (.cells z 283 (0, 0)))
  case atStart =>
    refine ⟨0, rfl, by omega, rfl, (((Keeps.refl (fun _ => False) w).alloc _).alloc _).below (Nat.le_refl _) fun _ _ => id, ?_, _, ?_, heap_alloc_old (World.alloc_heap_new w _)⟩
    · have := World.alloc_heap_new (w.alloc (.cells (halfCells 0) 283)) (.cells (halfCells 0) 283)
      show ((w.alloc (.cells (halfCells 0) 283)).alloc (.cells (halfCells 0) 283)).heap[w.heap.size + 1]? = some (.cells (halfCells 0) 283 (0, 0))
      simpa using this
    · rfl
  case round =>
    obtain ⟨k, hg, hk, rfl, hbel, hT, z, hz, hZ⟩ := hrel
    subst hg
    have HB := Lib.hid hbel
    have HT := Lib.hid hT
    have HZ := Lib.hid hZ
    have Hz := Lib.hid hz
    clear hbel hT hZ hz
    by_cases hk16 : k < 16
    · go_wp2
      rw [show decide ((k : Int) < 16) = true from by simp; omega]
      go_loopg [3, 9] 4 (fun g x i wi => wi = wr ∧ ∃ m : Nat, g = 4 - m ∧ m ≤ 4 ∧ i = .int .i64 m ∧ x = .int .u32 (crcN m k : Nat))
      case atStart => exact ⟨rfl, 0, rfl, by omega, rfl, rfl⟩
      case round =>
        obtain ⟨rfl, m, hg, hm, rfl, rfl⟩ := hrel
        subst hg
        have hlt := crcN_lt (show k < 4294967296 by omega) m
        by_cases hm4 : m < 4
        · go_wp2
          go_roundg (4 - (m + 1))
          case measure => omega
          case rel => exact ⟨rfl, m + 1, rfl, by omega, by go_num, by rw [half_step _ hlt]; rfl⟩
        · have hm4' : m = 4 := by omega
          subst hm4'
          go_wp2_with (refine wpList_storeCell rfl _ _ _ rfl (w.heap.size + 1) k (.int .u32 ((crcN 4 k : Nat) : Int)) rfl rfl HT.out size_u32 (by simp [halfCells]; omega) rfl ?_; intro w1 h1 k1 _; have H1 := Lib.hid h1; have K1 := Lib.hid k1; clear h1 k1)
          go_roundg (16 - (k + 1))
          case measure => omega
          case rel => exact ⟨k + 1, rfl, by omega, by go_num, HB.out.trans (K1.out.below HB.out.size fun i hi e => by omega), by rw [H1.out, half_set k hk16], z, Hz.out, K1.out.get HZ.out (by omega)⟩
    · have hk' : k = 16 := by omega
      subst hk'
      go_wp2_with (first
        | (refine wpList_load_row rfl _ _ rfl (w.heap.size + 1) rfl _ (halfCells 16) (0, 0) _ HT.out Tryz.underlying283 rfl (size_tab (halfCells 16) rfl) ?_)
        | (refine wpList_storeRow rfl _ _ _ rfl w.heap.size _ rfl rfl HZ.out (size_tab (halfCells 16) rfl) Hz.out half_one ?_; intro w2 h2 k2 _; have H2 := Lib.hid h2; have K2 := Lib.hid k2; clear h2 k2))
      refine bodyPost_ret (results_row rfl rfl (agg_tab _) (size_tab (halfCells 16) rfl) H2.out) rfl ⟨rfl, ?_⟩
      exact HB.out.trans (K2.out.below HB.out.size fun i hi e => by omega)

/-- What a byte's round needs of the arithmetic, its numbers as names. -/
structure Round (s : Nat) (x : UInt8) (y1 i1 t1 y2 i2 t2 y3 : Nat) : Prop where
  e1 : bits .xor .u32 (s : Int) ((x.toNat : Int) % 4294967296) = (y1 : Int)
  e2 : bits .and .u32 (y1 : Int) 15 = (i1 : Int)
  e3 : bits .xor .u32 ((y1 : Int) / 16) (t1 : Int) = (y2 : Int)
  e4 : bits .and .u32 (y2 : Int) 15 = (i2 : Int)
  e5 : bits .xor .u32 ((y2 : Int) / 16) (t2 : Int) = (y3 : Int)
  l1 : i1 < 16
  l2 : i2 < 16
  h0 : crc4 (crc4 y1) = y3
  h1 : t1 = crc4 i1
  h2 : t2 = crc4 i2
  h3 : y3 = crcByte s x
  b1 : y1 < 4294967296
  b2 : y2 < 4294967296
theorem round_at {s : Nat} (hs : s < 4294967296) (x : UInt8) : ∃ y1 i1 t1 y2 i2 t2 y3, Round s x y1 i1 t1 y2 i2 t2 y3 := by
  have hx : x.toNat < 4294967296 := Nat.lt_trans x.toNat_lt (by decide)
  have h1 : s ^^^ x.toNat < 4294967296 := Nat.xor_lt_two_pow (n := 32) (by omega) (by omega)
  have h2 := crc4_lt h1
  exact ⟨s ^^^ x.toNat, (s ^^^ x.toNat) % 16, crc4 ((s ^^^ x.toNat) % 16), crc4 (s ^^^ x.toNat), crc4 (s ^^^ x.toNat) % 16, crc4 (crc4 (s ^^^ x.toNat) % 16), crc4 (crc4 (s ^^^ x.toNat)),
    by rw [show ((x.toNat : Int) % 4294967296) = (x.toNat : Int) by omega]; exact bits_xor_u32_nat _ _ hs hx, low_four _ h1, half_byte _ h1, low_four _ h2, half_byte _ h2, Nat.mod_lt _ (by decide), Nat.mod_lt _ (by decide), rfl, rfl, rfl, rfl, h1, h2⟩

def SumPost (w : World) (n : Nat) (e : Ending) (w' : World) : Prop := e = .returned (.int .u32 (n : Int)) ∧ Below w.heap.size w w'
set_option maxRecDepth 100000 in
theorem more_any {w : World} {b : Value} {l : List UInt8} {s : Nat} (hs : s < 4294967296) (hb : seqV w b (bytesL l)) (hlen : l.length ≤ 1073741824) :
    Calls Tryz.prog 221 #[.int .u32 (s : Int), b] w (SumPost w (crcMore s l)) := by
  have HB := Lib.hid hb
  obtain ⟨a, n, c, rfl, hal, ha2⟩ := id hb
  have hal' : n = l.length := by simpa [bytesL] using hal
  clear hal
  subst hal'
  clear hb ha2
  go_enter Tryz.func221, Tryz.ntmps221
  go_wp2_with (first
    | (go_at_call 247; refine halves_any.mono ?_; rintro e w1 ⟨rfl, hb1⟩; have Hb1 := Lib.hid hb1; clear hb1)
    | (refine wpList_storeRow rfl _ _ _ rfl w1.heap.size _ rfl rfl (World.alloc_heap_new w1 _) (size_tab (halfCells 16) rfl) rfl half_one ?_; intro w2 h2 k2 _; have H2 := Lib.hid h2; have Hb2 := Lib.hid (Hb1.out.trans ((((Keeps.refl (fun i => i = w1.heap.size) w1).alloc _).trans k2).below Hb1.out.size fun i hi e => by have := Hb1.out.size; omega)); clear h2 k2))
  go_loopg [0, 13] l.length (fun g x i wr => wr = w2 ∧ ∃ k : Nat, g = l.length - k ∧ k ≤ l.length ∧ i = .int .i64 k ∧ x = .int .u32 ((crcRun (4294967295 ^^^ s) (l.take k) : Nat) : Int))
  case atStart => exact ⟨rfl, 0, rfl, Nat.zero_le _, rfl, by rw [not_u32 _ hs]; rfl⟩
  case round =>
    obtain ⟨rfl, k, hg, hk, rfl, rfl⟩ := hrel
    subst hg
    by_cases hkl : k < l.length
    · obtain ⟨bb, off, rfl, lt, hc⟩ := HB.out.cell hkl
      have hk' : k < (bytesL l).length := by simpa [bytesL] using hkl
      have cx := (Hb2.out.cell (p := ⟨bb, off + k, none⟩) lt).trans (hc k hk')
      obtain ⟨x, hlx, hx⟩ := oneU8c l (List.getElem?_eq_getElem hk')
      rw [hx] at cx
      clear hc hx hk'
      have hlt : crcRun (4294967295 ^^^ s) (l.take k) < 4294967296 := crcRun_lt _ (not_lt hs)
      obtain ⟨y1, i1, t1, y2, i2, t2, y3, R⟩ := round_at hlt x
      have hnext : crcRun (4294967295 ^^^ s) (l.take (k + 1)) = y3 := by
        rw [R.h3, List.take_add_one, hlx, crcRun, crcRun, List.foldl_append]; rfl
      have Hn := Lib.hid hnext
      obtain ⟨e1, e2, e3, e4, e5, l1, l2, h0, h1, h2, h3, b1, b2⟩ := R
      have c1 : wr.cell? ⟨w1.heap.size, i1, none⟩ = some (.int .u32 (t1 : Int)) := cell_at H2.out (by rw [h1]; exact half_at l1)
      have c2 : wr.cell? ⟨w1.heap.size, i2, none⟩ = some (.int .u32 (t2 : Int)) := cell_at H2.out (by rw [h2]; exact half_at l2)
      generalize crcRun (4294967295 ^^^ s) (l.take k) = z at *
      clear h0 h1 h2 h3 hnext hlx
      go_wp2
      go_roundg (l.length - (k + 1))
      case measure => omega
      case rel => exact ⟨rfl, k + 1, rfl, by omega, by go_num, by rw [Hn.out]⟩
    · have hk' : k = l.length := by omega
      subst hk'
      go_wp2
      go_ret
      refine ⟨?_, Hb2.out⟩
      show Ending.returned (.int .u32 (bits .xor .u32 IntKind.u32.max ((crcRun (4294967295 ^^^ s) l : Nat) : Int))) = _
      rw [not_u32 _ (crcRun_lt l (not_lt hs))]
      rfl

theorem stayB {w w' : World} {v : Value} {l : List Value} (h : seqV w v l) (k : Below w.heap.size w w') : seqV w' v l := by
  obtain ⟨a, n, c, rfl, hn, hc, ha, h⟩ := h
  refine ⟨a, n, c, rfl, hn, hc, ha, ?_⟩
  rcases h with h | ⟨b, off, cs, E, fz, rfl, hb, r⟩
  · exact .inl h
  · exact .inr ⟨b, off, cs, E, fz, rfl, (k.block b (lt_of_block hb)).trans hb, r⟩
set_option maxRecDepth 100000 in
theorem of_any0 {w : World} {pv b : Value} {l : List UInt8} (hp : seqV w pv [b]) (hb : seqV w b (bytesL l)) (hlen : l.length ≤ 1073741824) :
    Calls Tryz.prog 154 #[pv] w (SumPost w (crcMore 0 l)) := by
  have HP := Lib.hid hp
  have HB := Lib.hid hb
  obtain ⟨a, n, c, rfl, hal, ha2⟩ := id hp
  have hal' : n = 1 := by simpa using hal
  clear hal
  subst hal'
  obtain ⟨b1, off, rfl, lt, hc⟩ := HP.out.cell (i := 0) (by omega)
  have c0 : w.cell? ⟨b1, off, none⟩ = some b := hc 0 (by simp)
  obtain ⟨ba, bn, bc, rfl, hbl, hb2⟩ := id hb
  clear hp hb ha2 hc hbl hb2
  go_enter Tryz.func154, Tryz.ntmps154
  go_wp2
  go_loopg [3, 8] 1 (fun g x i wr => ∃ k : Nat, g = 1 - k ∧ k ≤ 1 ∧ i = .int .i64 k ∧ x = .int .u32 ((if k = 0 then 0 else crcMore 0 l : Nat) : Int) ∧ Below w.heap.size w wr)
  case atStart => exact ⟨0, rfl, by omega, rfl, rfl, Below.refl _ _⟩
  case round =>
    obtain ⟨k, hg, hk, rfl, rfl, hbel⟩ := hrel
    subst hg
    have HE := Lib.hid hbel
    clear hbel
    by_cases hk0 : k = 0
    · subst hk0
      have cw : wr.cell? ⟨b1, off, none⟩ = some (.slice ba bn bc) := (HE.out.cell (p := ⟨b1, off, none⟩) lt).trans c0
      go_wp2_with (first
        | (go_at_call 221; refine (more_any (s := 0) (l := l) (by decide) (stayB HB.out HE.out) hlen).mono ?_; rintro e w1 ⟨rfl, hb1⟩; have Hb1 := Lib.hid (HE.out.trans (hb1.mono HE.out.size)); clear hb1))
      go_roundg 0
      case measure => omega
      case rel => exact ⟨1, rfl, by omega, by go_num, rfl, Hb1.out⟩
    · have hk1 : k = 1 := by omega
      subst hk1
      go_wp2
      go_ret
      exact ⟨rfl, HE.out⟩
theorem of_any {w : World} {pv b : Value} {l : List UInt8} (hp : seqV w pv [b]) (_ : ∀ x, blk pv = some x → x < w.heap.size) (hb : seqV w b (bytesL l)) (_ : ∀ x, blk b = some x → x < w.heap.size) (hlen : l.length ≤ 1073741824) :
    Calls Tryz.prog 154 #[pv] w (SumPost w (crcMore 0 l)) := of_any0 hp hb hlen
end Go.Proofs.YtkogkokmcmallaaGreatDoor
