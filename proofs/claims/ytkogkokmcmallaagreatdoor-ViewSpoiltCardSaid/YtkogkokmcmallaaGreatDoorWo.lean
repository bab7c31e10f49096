/- Manifests in order: slices.SortFunc over rows of manifests. -/
import Derived.Test.YtkogkokmcmallaaGreatDoorSh0
import Derived.Test.YtkogkokmcmallaaGreatDoorWq
import Derived.LaidEql
namespace Go.Proofs.YtkogkokmcmallaaGreatDoor
set_option linter.all false
open Go.RowKit Go.Sort Go.Shelf
variable {g w : World} {L M : List HP} {ad : Nat → Addr} {p : Nat}

abbrev T3k := {t : T3 // idOk t.1}
theorem swo_cmpM : SWO (ltOf fun x y : T3k => cmpM x.1.1 y.1.1) := by
  refine ⟨fun x => ?_, fun x y z h1 h2 => ?_, fun x y z h1 h2 => ?_⟩
  · simp only [ltOf, decide_eq_false_iff_not, cmpM_neg]; omega
  · simp only [ltOf, decide_eq_true_eq, cmpM_neg] at *; omega
  · simp only [ltOf, decide_eq_false_iff_not, cmpM_neg] at *; omega
theorem len_flat {k : Nat} : ∀ {rows : List (List Value)}, (∀ r ∈ rows, r.length = k) → rows.flatten.length = rows.length * k
  | [], _ => by simp
  | r :: rows, h => by
    rw [List.flatten_cons, List.length_append, h r (List.mem_cons_self ..), len_flat (fun x hx => h x (List.mem_cons_of_mem _ hx)), List.length_cons, Nat.succ_mul]
    omega
section
variable {α : Type} [Inhabited α]
theorem flatK_list (enc : α → List Value) (k : Nat) (hk : ∀ x, (enc x).length = k) (d : Array α) : (flatK enc k d).toList = (d.toList.map enc).flatten := by
  have hl : ((d.toList.map enc).flatten).length = d.size * k := by
    rw [len_flat (k := k) (fun r hr => by obtain ⟨x, _, rfl⟩ := List.mem_map.1 hr; exact hk x)]; simp
  refine List.ext_getElem (by simp [hl]) fun i h1 h2 => ?_
  have hi : i < d.size * k := by simpa using h1
  have k0 : 0 < k := by rcases Nat.eq_zero_or_pos k with h | h; · subst h; simp at hi
                        · exact h
  have hq : i / k < d.size := Nat.div_lt_of_lt_mul (by rw [Nat.mul_comm]; exact hi)
  have hm := Nat.mod_lt i k0
  have hA : (flatK enc k d)[i]! = (enc d[i / k]!)[i % k]! := get_flatK enc k d i hi
  rw [getElem!_pos _ _ (by simpa using hi), getElem!_pos d _ hq, getElem!_pos (enc d[i / k]) _ (by rw [hk]; exact hm)] at hA
  have hB := flat_at (k := k) (rows := d.toList.map enc) (q := i / k) (j := i % k) (row := enc d[i / k]) (v := (enc d[i / k])[i % k]'(by rw [hk]; exact hm)) (fun r hr => by obtain ⟨x, _, rfl⟩ := List.mem_map.1 hr; exact hk x) (by simp [hq]) (List.getElem?_eq_getElem _)
  rw [Nat.div_add_mod' i k] at hB
  have hC := (List.getElem?_eq_some_iff.1 hB).2
  rw [hC, ← hA]
  simp
theorem flatK_at (enc : α → List Value) (k : Nat) (hk : ∀ x, (enc x).length = k) (d : Array α) (i : Nat) (hi : i < d.size * k) : (d.toList.map enc).flatten[i]? = some (flatK enc k d)[i]! := by
  rw [← flatK_list enc k hk d, getElem!_pos _ _ (by simpa using hi)]
  simp [hi]
end
theorem heap_sortWorldK {α : Type} [Inhabited α] (enc : α → List Value) (k : Nat) (w : World) (blk off m : Nat) (d : Array α) (os : Array Obj) {cs : Array Value} {E : TypeId} (hb : w.heap[blk]? = some (.cells cs E (0, 0))) : (sortWorldK enc k w blk off m d os).heap[blk]? = some (.cells (putCells id off (flatK enc k d) cs) E (0, 0)) := by
  have hlt := lt_of_block hb
  simp only [sortWorldK, putRowK, Go.Sort.grow, putRow, mapBlock, heap_ahead]
  rw [Array.getElem?_append_left (by simpa using hlt), Array.getElem?_modify, if_pos rfl, hb]
  rfl
theorem keeps_sortWorldK {α : Type} [Inhabited α] (enc : α → List Value) (k : Nat) (w : World) (blk off m : Nat) (d : Array α) (os : Array Obj) : Keeps (fun b => b = blk) w (sortWorldK enc k w blk off m d os) := by
  refine ⟨rfl, rfl, rfl, by simp [sortWorldK, Go.Sort.grow, putRowK], fun j hj hne => ?_⟩
  simp only [sortWorldK, putRowK, Go.Sort.grow, putRow, mapBlock, heap_ahead]
  rw [Array.getElem?_append_left (by simpa using hj), Array.getElem?_modify, if_neg (fun e => hne e.symm)]
theorem sortM_sl {a : Option Addr} {n c : Nat} {ts : List T3} (hs : Mem g w (rowK 6 (.slice a n c) (ts.map t3L) :: L)) (hid : ∀ t ∈ ts, idOk t.1) (hlen : ts.length < 4611686018427387904) :
    Calls Tryz.prog 215 #[.slice a n c, .func (.func 216) #[] #[]] w (Ret fun v w' => v = .tuple #[] ∧ ∃ ts' : List T3, ts'.Perm ts ∧ (ts'.map (·.1)).Pairwise (fun x y => ¬ cmpM y x < 0) ∧ Mem g w' (rowK 6 (.slice a n c) (ts'.map t3L) :: L)) := by
  obtain ⟨F, ⟨⟨a', n', c', hv, hn, hc, ha, hr, h⟩, hF⟩, hT⟩ := hs.turn (i := 0) rfl
  simp only [Value.slice.injEq] at hv
  obtain ⟨rfl, rfl, rfl⟩ := hv
  simp only [List.length_map] at hn
  by_cases h0 : ts = []
  · subst h0
    subst hn
    refine (AnyF.slices_SortFunc_none Tryz.sortf215 a c _ w).mono ?_
    rintro e w' ⟨rfl, rfl⟩
    exact ⟨_, rfl, rfl, [], List.Perm.refl _, List.Pairwise.nil, hs⟩
  have hpos : 0 < ts.length := by cases ts with | nil => exact absurd rfl h0 | cons x l => simp
  rcases h with h | ⟨b, off, cs, E, rfl, hb, hz, hcs⟩
  · omega
  letI : Inhabited T3k := ⟨⟨(Mf.z, (none, 0), (none, 0)), by simp [idOk, Mf.z]⟩⟩
  obtain ⟨ds, hds⟩ : ∃ ds : List T3k, ds.map (·.1) = ts := ⟨ts.pmap (fun t h => ⟨t, h⟩) hid, by simp [List.map_pmap]⟩
  have hdl : ds.length = ts.length := by rw [← hds]; simp
  have henc : ds.map (fun x : T3k => t3L x.1) = ts.map t3L := by rw [← hds, List.map_map]; rfl
  have hsz : ds.toArray.size = ts.length := by simp [hdl]
  have key := AnyQ.slices_SortFunc Tryz.sortf215 6 Tryz.isAgg36 Tryz.sizeOf36 (fun x : T3k => t3L x.1) (fun x => rfl) (fun x => t3L_one x.1) (fun x y => cmpM x.1.1 y.1.1) swo_cmpM 216 #[] b off c ds.toArray w
    en216 (fun m os dk hdk x y => cmpMR (w := sortWorldK _ _ _ _ _ _ _ _) (e := x.1.2.1) (o := x.1.2.2) (e2 := y.1.2.1) (o2 := y.1.2.2) x.2 y.2)
    (fun j hj => by
      rw [size_flatK, hsz] at hj
      refine ⟨?_, free_at hb⟩
      refine cell_at hb ?_
      rw [hcs j (by rw [hn]; exact hj), ← henc]
      exact flatK_at (fun x : T3k => t3L x.1) 6 (fun _ => rfl) ds.toArray j (by rw [hsz]; exact hj))
    (lt_of_block hb) (by rw [hsz]; omega)
  rw [hsz] at key
  subst hn
  refine key.mono ?_
  rintro e w' ⟨rfl, d', m, os, ⟨p1, p2, p3⟩, hso, rfl⟩
  rw [hsz] at p1
  have hperm : (d'.toList.map (·.1)).Perm ts := by
    have h3 := p3.map (·.1)
    simpa [Array.extract_eq_self_of_le, p1, hdl, hds] using h3
  refine ⟨_, rfl, rfl, d'.toList.map (·.1), hperm, ?_, ?_⟩
  · rw [List.pairwise_iff_getElem]
    intro i j hi hj hij
    simp only [List.length_map, Array.length_toList] at hi hj
    have := hso i j (Nat.zero_le _) hij (by omega)
    rw [getElem!_pos d' i hi, getElem!_pos d' j hj] at this
    simp only [ltOf, decide_eq_false_iff_not] at this
    simpa only [List.getElem_map, Array.getElem_toList] using this
  · have hl2 : ((d'.toList.map (·.1)).map t3L).length = ts.length := by simp [p1]
    have he2 : d'.toList.map (fun x : T3k => t3L x.1) = (d'.toList.map (·.1)).map t3L := by rw [List.map_map]; rfl
    refine hT _ _ F ⟨⟨_, _, c, rfl, hl2.symm, hc, ⟨fun h => (by cases h), fun q hq => ?_⟩, t3L_rows _, .inr ⟨b, off, putCells id off (flatK (fun x : T3k => t3L x.1) 6 d') cs, E, rfl, heap_sortWorldK _ _ _ _ _ _ _ _ hb, by simpa [putCells] using hz, fun j hj => ?_⟩⟩, hF⟩ (fun _ h => .inl h) ((keeps_sortWorldK _ _ _ _ _ _ _ _).mono fun x _ e => (hF x).2 (by rw [e]; rfl))
    · cases hq
      exact lt_of_block (heap_sortWorldK _ _ _ _ _ _ _ _ hb)
    · simp only [putCells, Array.getElem?_mapIdx]
      rw [hcs j hj, ← he2, flatK_at (fun x : T3k => t3L x.1) 6 (fun _ => rfl) d' j (by rw [p1]; exact hj), ← henc]
      rw [flatK_at (fun x : T3k => t3L x.1) 6 (fun _ => rfl) ds.toArray j (by rw [hsz]; exact hj)]
      simp only [Option.map_some, id_eq]
      rw [if_pos ⟨by omega, by simp only [size_flatK, p1]; omega⟩, show off + j - off = j by omega]
end Go.Proofs.YtkogkokmcmallaaGreatDoor
