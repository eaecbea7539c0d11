/- Words and walks of this claim, of the text SortW. -/
import Derived.Shelf.SlSortCmp.NoneTotal
import Derived.Shelf.SlicesG.Cmp
import Derived.Test.YtkcklnmbeinfkaaKdWKept
namespace Go.Proofs.Ytkcklnmbeinfkaa.SortW
open Go.Sort Go.Proofs.YtkcklnmbeinfkaaW.PrintWords
set_option linter.unusedVariables false
set_option linter.unusedSimpArgs false
section
variable {α : Type} [Inhabited α]
theorem flat_of_reps {R : α → List Value → Prop} {enc : α → List Value} {k : Nat} (hR : ∀ x cs, R x cs → cs = enc x) (hk : ∀ x, (enc x).length = k) {l : List α} {inner : List Value} (h : Reps R k l inner) : inner = (flatK enc k l.toArray).toList := by
  have hlen : inner.length = l.length * k := h.1
  apply List.ext_getElem
  · simp [hlen]
  · intro t h1 h2
    have ht : t < l.length * k := by rw [← hlen]; exact h1
    have hk0 : 0 < k := by rcases Nat.eq_zero_or_pos k with z | z; · subst z; simp at ht
                           · exact z
    have hq : t / k < l.length := Nat.div_lt_of_lt_mul (by rw [Nat.mul_comm]; exact ht)
    have he := hR _ _ (h.2 (t / k) _ (List.getElem?_eq_getElem hq))
    have hm : t % k < k := Nat.mod_lt _ hk0
    have hdm : t / k * k + t % k = t := by rw [Nat.mul_comm]; exact Nat.div_add_mod t k
    have e1 : inner[t]? = (enc l[t / k])[t % k]? := by
      rw [← he, List.getElem?_take_of_lt hm, List.getElem?_drop, hdm]
    have e2 : t % k < (enc l[t / k]).length := by rw [hk]; exact hm
    rw [List.getElem?_eq_getElem h1, List.getElem?_eq_getElem e2] at e1
    have e3 := Option.some.inj e1
    have e5 : (flatK enc k l.toArray).toList[t]'h2 = (flatK enc k l.toArray)[t]'(by simpa using h2) := Array.getElem_toList ..
    rw [e3, e5]
    have hF := get_flatK enc k l.toArray t (by simpa using ht)
    rw [getElem!_pos _ t (by simpa using ht)] at hF
    rw [hF]
    have e4 : l.toArray[t / k]! = l[t / k] := by rw [getElem!_pos _ _ (by simpa using hq)]; simp
    rw [e4, getElem!_pos (enc l[t / k]) (t % k) e2]
theorem reps_of_flat {R : α → List Value → Prop} {enc : α → List Value} {k : Nat} (hR : ∀ x, R x (enc x)) (hk : ∀ x, (enc x).length = k) (l : List α) : Reps R k l (flatK enc k l.toArray).toList := by
  refine ⟨by simp, fun j p hj => ?_⟩
  obtain ⟨hjl, hp⟩ := List.getElem?_eq_some_iff.1 hj
  have : (((flatK enc k l.toArray).toList.drop (j * k)).take k) = enc p := by
    have hle : j * k + k ≤ l.length * k := by rw [← Nat.succ_mul]; exact Nat.mul_le_mul_right _ hjl
    apply List.ext_getElem
    · simp [hk]; omega
    · intro t h1 h2
      have ht : t < k := by rw [hk] at h2; exact h2
      rw [List.getElem_take, List.getElem_drop, Array.getElem_toList]
      have hF := get_flatK enc k l.toArray (j * k + t) (by simp; omega)
      rw [getElem!_pos _ (j * k + t) (by simp; omega)] at hF
      rw [hF]
      have hd : (j * k + t) / k = j := by rw [Nat.mul_comm, Nat.mul_add_div (by omega), Nat.div_eq_of_lt ht, Nat.add_zero]
      have hmod : (j * k + t) % k = t := by rw [Nat.mul_comm, Nat.mul_add_mod]; exact Nat.mod_eq_of_lt ht
      rw [hd, hmod]
      have e4 : l.toArray[j]! = p := by rw [getElem!_pos _ _ (by simpa using hjl)]; simpa using hp
      rw [e4, getElem!_pos (enc p) t h2]
  rw [this]
  exact hR p
theorem holds_of_own {w : World} {base e k n g cap : Nat} {enc : α → List Value} {l : List α} {inner : List Value} (ho : w.ownsRow base e k (.slice (some ⟨g, 0, none⟩) n cap) n inner) (hn : n = l.length) (hi : inner = (flatK enc k l.toArray).toList) : HoldsK enc k w g 0 l.toArray := by
  intro j hj
  have hj' : j < inner.length := by rw [hi, Array.length_toList]; exact hj
  refine ⟨?_, ?_⟩
  · have hc := ho.cells (g := g) rfl j inner[j] (List.getElem?_eq_getElem hj')
    rw [add_plain] at hc
    rw [Nat.zero_add, hc]
    have : inner[j] = (flatK enc k l.toArray)[j]! := by
      rw [getElem!_pos _ j hj]
      simp [hi]
    rw [this]
    rfl
  · rcases ho.2 with ⟨h', _⟩ | ⟨g', cap', cur, h', _, hh, _⟩
    · cases h'
    · have : g = g' := by injection h' with h'; injection h' with h'; injection h' with h'
      subst this
      simp [World.frozen?, hh]
theorem heap_sorted_other (enc : α → List Value) (k : Nat) (w : World) (g n : Nat) (d : Array α) (os : Array Obj) (i : Nat) (hi : i < w.heap.size) (hne : i ≠ g) : (sortWorldK enc k w g 0 n d os).heap[i]? = w.heap[i]? := by
  show ((w.heap.modify g (onCells (putCells id 0 (flatK enc k d)))) ++ os)[i]? = _
  rw [Array.getElem?_append_left (by simpa using hi), Array.getElem?_modify, if_neg (Ne.symm hne)]
theorem heap_sorted_same (enc : α → List Value) (k : Nat) (w : World) (g n : Nat) (d : Array α) (os : Array Obj) (cur : Array Value) (e : TypeId) (fr : Nat × Nat) (h : w.heap[g]? = some (.cells cur e fr)) : (sortWorldK enc k w g 0 n d os).heap[g]? = some (.cells (putCells id 0 (flatK enc k d) cur) e fr) := by
  have hi := (Array.getElem?_eq_some_iff.1 h).1
  show ((w.heap.modify g (onCells (putCells id 0 (flatK enc k d)))) ++ os)[g]? = _
  rw [Array.getElem?_append_left (by simpa using hi), Array.getElem?_modify, if_pos rfl, h]
  rfl
theorem size_sorted (enc : α → List Value) (k : Nat) (w : World) (g n : Nat) (d : Array α) (os : Array Obj) : w.heap.size ≤ (sortWorldK enc k w g 0 n d os).heap.size := by
  show _ ≤ ((w.heap.modify g (onCells (putCells id 0 (flatK enc k d)))) ++ os).size
  simp
theorem own_sorted {w : World} {base e k n g cap : Nat} {enc : α → List Value} {inner : List Value} (ho : w.ownsRow base e k (.slice (some ⟨g, 0, none⟩) n cap) n inner) (m : Nat) (d : Array α) (os : Array Obj) (hd : d.size = n) :
    (sortWorldK enc k w g 0 m d os).ownsRow base e k (.slice (some ⟨g, 0, none⟩) n cap) n (flatK enc k d).toList := by
  rcases ho.2 with ⟨h', _⟩ | ⟨g', cap', cur, h', hb, hh, hnc, hcm, hcs, _⟩
  · cases h'
  · injection h' with h1 _ h2
    injection h1 with h1
    injection h1 with h1
    subst h1; subst h2
    refine ⟨by simp [hd], .inr ⟨g, cap, putCells id 0 (flatK enc k d) cur, rfl, hb, heap_sorted_same enc k w g m d os cur e _ hh, hnc, hcm, by simp [putCells, hcs], ?_⟩⟩
    have hle : n * k ≤ cur.size := by rw [hcs]; exact Nat.mul_le_mul_right _ hnc
    apply List.ext_getElem
    · simp [putCells, hd]; omega
    · intro t h1 h2
      have ht : t < (flatK enc k d).size := by simpa using h2
      rw [List.getElem_take, Array.getElem_toList, Array.getElem_toList]
      simp only [putCells, Array.getElem_mapIdx]
      rw [if_pos ⟨Nat.zero_le _, by simpa using ht⟩, getElem!_pos _ _ (by simpa using ht)]
      simp
theorem below_sorted {w0 w : World} {base : Nat} (HB : Go.RowKit.Below base w0 w) (hbase : base ≤ w.heap.size) (enc : α → List Value) (k g m : Nat) (hg : base ≤ g) (d : Array α) (os : Array Obj) : Go.RowKit.Below base w0 (sortWorldK enc k w g 0 m d os) :=
  ⟨HB.os, HB.tape, HB.output, Nat.le_trans HB.size (size_sorted enc k w g m d os), fun i hi => (heap_sorted_other enc k w g m d os i (by omega) (by omega)).trans (HB.block i hi)⟩
theorem kept_sorted (w : World) (enc : α → List Value) (k g m : Nat) (d : Array α) (os : Array Obj) (S : Nat → Prop) (hS : S g) : Kept w (sortWorldK enc k w g 0 m d os) S :=
  ⟨size_sorted enc k w g m d os, fun i hi hn => heap_sorted_other enc k w g m d os i hi (fun he => hn (by rw [he]; exact hS))⟩
end
end Go.Proofs.Ytkcklnmbeinfkaa.SortW
namespace Go.Proofs.Ytkcklnmbeinfkaa.KdCap
set_option linter.unusedVariables false
open Go.RowKit Go.Proofs.YtkcklnmbeinfkaaW.PrintWords
section
variable {P : Program} {ops : Array Oper} {rest : List Oper} {o : Oper} {a : Act} {Q : Exit → Act → World → Prop} {α : Type}
theorem R_makecap (d : Kd α) {w0 W : World} (base e : Nat) (hgd : o.guard = none) {N : Tmp} (hd : o.dst = some N) (t : TypeId) (x y : Operand) (ho : o.op = .makeSlice t x y) (n : Int) (hx : a.eval x = .int .i64 0) (hy : a.eval y = .int .i64 n)
    (ht : P.underlying t = some (.slice e)) (z : Value) (bytes : Nat) (hinfo : (P.info? e).map (fun i => (i.zero, i.size, i.bytes)) = some (some z, d.sz, bytes)) (hb0 : 0 < bytes)
    {ok okp : Nat → Prop} (hok : ∀ k, okp k → ok k) (hfresh : ok W.heap.size) (h0 : 0 ≤ n) (hl : n.toNat * bytes ≤ 281474976710656) (HB : Below base w0 W) (hbase : base ≤ W.heap.size)
    (h : ∀ v1 w1, d.R e w1 base ok v1 [] → Below base w0 w1 → W.grownBy w1 none → (∃ b, v1.ownBlock = some b ∧ W.heap.size ≤ b) → wpList P ops Q rest (a.put o.dst v1) w1) : wpList P ops Q (o :: rest) a W := by
  obtain ⟨m, rfl⟩ := Int.eq_ofNat_of_zero_le h0
  simp only [Int.toNat_natCast] at hl h
  obtain ⟨i0, hi, hzz⟩ := Option.map_eq_some_iff.1 hinfo
  simp only [Prod.mk.injEq] at hzz
  obtain ⟨hz0, hz1, hz2⟩ := hzz
  have hm : m ≤ 281474976710656 := Nat.le_trans (Nat.le_mul_of_pos_right _ hb0) hl
  have hr := run_make (P := P) W t e i0 z ht hi hz0 .i64 .i64 (0 : Int) (m : Int) (by omega) (by omega)
    (by
      have h3 : ((i0.bytes * m : Nat) : Int) ≤ 281474976710656 := by rw [hz2, Nat.mul_comm]; omega
      rwa [Int.natCast_mul] at h3) (by omega)
  simp only [Int.toNat_natCast, Int.toNat_zero] at hr
  rw [hz1] at hr
  refine Kd.event_run (v := .slice (some ⟨W.heap.size, 0, none⟩) 0 m) (w1 := W.alloc (.cells (madeCells z.cells (m * d.sz)) e)) hgd (by simp [execOp, ho, hx, hy, hr]) (h _ _ ⟨fun k hk => ?_, [], ⟨by simp, .inr ⟨W.heap.size, m, madeCells z.cells (m * d.sz), rfl, hbase, heap_alloc_new W _, Nat.zero_le _, by simp only [maxLen]; omega, by simp [size_madeCells], by simp⟩⟩, Reps.none _ _⟩ (HB.alloc hbase _) (World.grownBy_alloc W _ none) ⟨W.heap.size, by simp [Value.ownBlock], Nat.le_refl _⟩)
  have : W.heap.size = k := by simpa [Value.ownBlock] using hk
  subst this
  exact hfresh
end
end Go.Proofs.Ytkcklnmbeinfkaa.KdCap
