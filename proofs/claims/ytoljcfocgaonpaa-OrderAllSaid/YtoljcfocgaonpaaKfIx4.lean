/- Words and walks of this claim, of the text Ix4. -/
import Derived.Test.YtoljcfocgaonpaaKfQW0
import Derived.Test.YtoljcfocgaonpaaKfIx0
namespace Go.Proofs.Ytoljcfocgaonpaa.I
open Go.RowKit Go.Proofs.YtoljcfocgaonpaaW.PrintWords Go.Proofs.YtoljcfocgaonpaaW.PrintLast Go.Proofs.YtoljcfocgaonpaaW.PrintMore
attribute [local go_sem] max2_int min2_int max_two min_two max_three min_three max_four min_four
set_option linter.unusedVariables false
set_option linter.unusedSimpArgs false
def sortRun.enc (x : S133) : List Value := [.int .i64 x.f0, .int .i64 x.f1]
instance : Inhabited S133 := ⟨z133⟩
def sortRun.f (l0 : List (S133)) : Option (List (S133)) := if l0.length < 8796093022208 then some (Go.Sort.pdq (ltOf fun x y : S133 => Lib.compareInt x.f0 y.f0) l0.toArray 0 l0.toArray.size (Lib.bitLen l0.toArray.size) true true).toList else none
theorem sortRun.lt_iff (x y : S133) : ltOf (fun x y : S133 => Lib.compareInt x.f0 y.f0) x y = decide (x.f0 < y.f0) := by
 unfold ltOf Lib.compareInt; by_cases h1 : x.f0 < y.f0
 ·simp [h1]
 ·by_cases h2 : y.f0 < x.f0 <;> simp [h1, h2]
theorem sortRun.swo : Go.Sort.SWO (ltOf fun x y : S133 => Lib.compareInt x.f0 y.f0) where
 irrefl x := by rw [sortRun.lt_iff]; simp
 trans x y z h1 h2 := by rw [sortRun.lt_iff] at *; simp at *; omega
 ntrans x y z h1 h2 := by rw [sortRun.lt_iff] at *; simp at *; omega
theorem sortRun.some_of (l r : List (S133)) (h : sortRun.f l = some r) : l.length < 8796093022208 ∧ some (Go.Sort.pdq (ltOf fun x y : S133 => Lib.compareInt x.f0 y.f0) l.toArray 0 l.toArray.size (Lib.bitLen l.toArray.size) true true).toList = some r := by
 unfold sortRun.f at h; split at h
 ·rename_i hl; exact ⟨hl, h⟩
 ·cases h
theorem sortRun.spec (l r : List (S133)) (h : sortRun.f l = some r) : r.Perm l ∧ r.Pairwise (fun x y => x.f0 ≤ y.f0) := by
 replace h := (sortRun.some_of l r h).2; obtain rfl := Option.some.inj h; have hs := Go.Sort.pdq_sorts _ sortRun.swo l.toArray 0 l.toArray.size (Lib.bitLen l.toArray.size) true true (Nat.zero_le _) (Nat.le_refl _) (Or.inl rfl); generalize Go.Sort.pdq (ltOf fun x y : S133 => Lib.compareInt x.f0 y.f0) l.toArray 0 l.toArray.size (Lib.bitLen l.toArray.size) true true = d at hs ⊢; obtain ⟨⟨hsz, _, hperm⟩, hsorted⟩ := hs; refine ⟨?_, ?_⟩
 ·have e1 : d.extract 0 l.toArray.size = d := by rw [← hsz]; simp
  have e2 : l.toArray.extract 0 l.toArray.size = l.toArray := by simp
  rw [e1, e2] at hperm; simpa using hperm
 ·rw [List.pairwise_iff_getElem]; intro i j hi hj hij; have hj' : j < d.size := by simpa using hj
  have hi' : i < d.size := by simpa using hi
  have := hsorted i j (Nat.zero_le _) hij (by rw [← hsz]; exact hj'); rw [sortRun.lt_iff, getElem!_pos d i hi', getElem!_pos d j hj'] at this; simp at this; simpa using this
set_option maxHeartbeats 1000000 in
theorem sortRun.closure (x y : S133) (W : World) : Calls Try.prog 134 #[.agg (sortRun.enc x).toArray, .agg (sortRun.enc y).toArray] W fun e w' => e = .returned (.int .i64 (Lib.compareInt x.f0 y.f0)) ∧ ∃ q os', w' = Go.Sort.grow (W.drewN q) os' := by
 have hcon := fun W' => AnyG.cmp_Compare_int Try.cmpInt x.f0 y.f0 W'
 change ∀ W', Calls Try.prog 89 _ _ _ at hcon
 show Calls Try.prog 134 #[.agg #[.int .i64 x.f0, .int .i64 x.f1], .agg #[.int .i64 y.f0, .int .i64 y.f1]] W _; generalize Lib.compareInt x.f0 y.f0 = r at hcon ⊢; go_enter Try.func134, Try.ntmps134
 go_wp2_with (go_at_call 89; refine (hcon _).mono ?_; rintro e w' ⟨rfl, rfl⟩)
 go_ret
 exact ⟨rfl, 0, _, by rw [Go.Sort.alloc_eq_grow, Go.Sort.alloc_eq_grow, Go.Sort.grow_grow]; rfl⟩
set_option maxHeartbeats 1000000 in
theorem sortRun.calls (P0_ : Nat → Prop) (u9000_ : Value) (l0 : List (S133)) (r : List (S133)) (w0 w : World) (hB : Below w0.heap.size w0 w) (ho0 : Kd.R k133 133 w w0.heap.size P0_ u9000_ l0) (h : sortRun.f l0 = some r) :
 Calls Try.prog 133 #[u9000_, .func (.func 134) #[] #[]] w fun e w' => e = .returned (.tuple #[]) ∧ Kd.R k133 133 w' w0.heap.size (fun k_ => (P0_ k_ ∨ w0.heap.size ≤ k_)) u9000_ r ∧ Below w0.heap.size w0 w' ∧ Kept w w' (fun k_ => P0_ k_) := by
 have hM : ∀ (W : World) (b : Nat) (ok : Nat → Prop) (x : S133) (cs : List Value), k133.M W b ok x cs → cs = sortRun.enc x := fun _ _ _ _ _ h => k133_openM h
 have hM' : ∀ (W : World) (b : Nat) (ok : Nat → Prop) (x : S133), k133.M W b ok x (sortRun.enc x) := fun W b ok x => k133_mkM W b ok x
 have hk : ∀ x : S133, (sortRun.enc x).length = 2 := fun _ => rfl
 have hcell : ∀ x : S133, ∀ v ∈ sortRun.enc x, v.oneCell' = true := fun x v hv => by simp [sortRun.enc] at hv; rcases hv with rfl | rfl <;> rfl
 have hsm := (sortRun.some_of l0 r h).1; have hpm := sortRun.spec l0 r h; replace h := (sortRun.some_of l0 r h).2; obtain ⟨hP, inner, ho, hr⟩ := ho0; have ho' : w.ownsRow w0.heap.size 133 2 u9000_ l0.length inner := ho; have hflat := SortW.flat_of_reps (hM w w0.heap.size _) hk (show Reps _ 2 l0 inner from hr); rcases ho'.2 with ⟨hu, hn⟩ | ⟨g, cap, cur, hu, hg, hh, _, hcap, _⟩
 ·obtain rfl : l0 = [] := List.eq_nil_of_length_eq_zero hn; obtain rfl := Option.some.inj h; subst hu; refine (AnyF.slices_SortFunc_none Try.sortRunL none 0 (.func (.func 134) #[] #[]) w).mono ?_; rintro e w' ⟨rfl, rfl⟩; have h0 : Go.Sort.pdq (ltOf fun x y : S133 => Lib.compareInt x.f0 y.f0) ([] : List (S133)).toArray 0 ([] : List (S133)).toArray.size (Lib.bitLen ([] : List (S133)).toArray.size) true true = #[] := by
   have := (Go.Sort.pdq_sorts _ sortRun.swo (#[] : Array (S133)) 0 0 (Lib.bitLen 0) true true (Nat.zero_le _) (Nat.le_refl _) (Or.inl rfl)).1.1; exact Array.eq_empty_of_size_eq_zero this
  rw [h0]; exact ⟨rfl, Kd.R_nil _ _ _ _ _, hB, Kept.refl _ _⟩
 ·subst hu; have hH := SortW.holds_of_own ho' rfl hflat; have hlt : g < w.heap.size := (Array.getElem?_eq_some_iff.1 hh).1; have hsz : l0.toArray.size < 4611686018427387904 := by rw [List.size_toArray]; omega
  have hcon := AnyQ.slices_SortFunc_eq Try.sortRunL 2 Try.isAgg133 Try.sizeOf133 sortRun.enc hk hcell (fun x y : S133 => Lib.compareInt x.f0 y.f0) sortRun.swo 134 #[] g 0 cap l0.toArray w
   (enters_of Try.func134 zz rfl) (fun _ _ _ _ x y => sortRun.closure x y _) hH hlt hsz
  have hPg : P0_ g := hP g (by simp [Value.ownBlock]); obtain rfl := Option.some.inj h; refine (show Calls Try.prog 133 #[.slice (some ⟨g, 0, none⟩) l0.length cap, .func (.func 134) #[] #[]] w _ from hcon).mono ?_; rintro e w' ⟨rfl, n, os, rfl⟩; generalize Go.Sort.pdq (ltOf fun x y : S133 => Lib.compareInt x.f0 y.f0) l0.toArray 0 l0.toArray.size (Lib.bitLen l0.toArray.size) true true = d at hpm ⊢; have hds : d.size = l0.length := by simpa using hpm.1.length_eq
  refine ⟨rfl, ⟨fun k hk => .inl (hP k hk), (Go.Sort.flatK sortRun.enc 2 d).toList, ?_, ?_⟩, SortW.below_sorted hB hB.size sortRun.enc 2 g n hg d os, SortW.kept_sorted w sortRun.enc 2 g n d os _ hPg⟩
  ·have := SortW.own_sorted (enc := sortRun.enc) ho' n d os hds; rw [show d.toList.length = l0.length by simpa using hds]; exact this
  ·exact SortW.reps_of_flat (enc := sortRun.enc) (k := 2) (fun x => hM' _ _ _ x) hk d.toList
end Go.Proofs.Ytoljcfocgaonpaa.I
