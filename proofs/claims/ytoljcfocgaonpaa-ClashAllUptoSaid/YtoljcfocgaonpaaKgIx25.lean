/- Words and walks of this claim, of the text Ix25. -/
import Derived.Test.YtoljcfocgaonpaaKgQW0
import Derived.Test.YtoljcfocgaonpaaKgQW1
import Derived.Test.YtoljcfocgaonpaaKgIx0
namespace Go.Proofs.Ytoljcfocgaonpaa.I
open Go.RowKit Go.Proofs.YtoljcfocgaonpaaW.PrintWords Go.Proofs.YtoljcfocgaonpaaW.PrintLast Go.Proofs.YtoljcfocgaonpaaW.PrintMore
attribute [local go_sem] max2_int min2_int max_two min_two max_three min_three max_four min_four
set_option linter.unusedVariables false
set_option linter.unusedSimpArgs false
def ownOwnSpans.m1 (j : Nat) : List Value := [.int .i64 (-(j : Int) - 5), .int .i64 0]
def ownOwnSpans.m2 (j : Nat) : List Value := [.int .i64 ((j : Int) + 1), .int .i64 0]
def ownOwnInts.m1 (j : Nat) : List Value := [.int .i64 (-(j : Int) - 5)]
def ownOwnInts.m2 (j : Nat) : List Value := [.int .i64 ((j : Int) + 1)]
section
open Go.Sort
abbrev SE := S47 × Option Addr × Nat
def sortShape.enc (x : SE) : List Value := [.slice x.2.1 x.1.f0.length x.2.2, .int .i64 x.1.f1]
instance : Inhabited SE := ⟨(z47, none, 0)⟩
def sortShape.ok (l0 : List S47) : Bool := decide (l0.length < 8796093022208) && decide (l0.Pairwise fun x y => x.f1 ≠ y.f1)
def sortShape.f (l0 : List S47) : Option (List S47) := if sortShape.ok l0 = true then some (l0.mergeSort fun x y => decide (x.f1 ≤ y.f1)) else none
theorem sortShape.uniq : ∀ {a b : List S47}, a.Perm b → a.Pairwise (fun x y => x.f1 < y.f1) → b.Pairwise (fun x y => x.f1 < y.f1) → a = b
 | [], b, hp, _, _ => (List.nil_perm.1 hp).symm
 | x :: a, [], hp, _, _ => absurd hp.length_eq (by simp)
 | x :: a, y :: b, hp, ha, hb => by
  have ha' := List.pairwise_cons.1 ha; have hb' := List.pairwise_cons.1 hb; have e : x = y := by
   rcases List.mem_cons.1 (hp.subset List.mem_cons_self) with e | hx
   ·exact e
   ·rcases List.mem_cons.1 (hp.symm.subset List.mem_cons_self) with e | hy
    ·exact e.symm
    ·have h1 := hb'.1 x hx; have h2 := ha'.1 y hy; omega
  subst e; rw [sortShape.uniq (List.Perm.cons_inv hp) ha'.2 hb'.2]
theorem sortShape.merge {l r : List S47} (h : sortShape.f l = some r) : l.length < 8796093022208 ∧ r.Perm l ∧ r.Pairwise (fun x y => x.f1 < y.f1) ∧ l.Pairwise (fun x y => x.f1 ≠ y.f1) := by
 unfold sortShape.f at h; split at h
 ·rename_i ho
  simp only [sortShape.ok, Bool.and_eq_true, decide_eq_true_eq] at ho; obtain rfl := Option.some.inj h; have hp := List.mergeSort_perm l (fun x y => decide (x.f1 ≤ y.f1)); have hs : (l.mergeSort fun x y => decide (x.f1 ≤ y.f1)).Pairwise (fun x y => decide (x.f1 ≤ y.f1) = true) := List.pairwise_mergeSort (fun a b c h1 h2 => by simp only [decide_eq_true_eq] at *; omega) (fun a b => by simp only [Bool.or_eq_true, decide_eq_true_eq]; omega) l; have hd := (hp.pairwise_iff (R := fun x y : S47 => x.f1 ≠ y.f1) (fun h => Ne.symm h)).2 ho.2; refine ⟨ho.1, hp, (hs.and hd).imp ?_, ho.2⟩; rintro a b ⟨h1, h2⟩; simp only [decide_eq_true_eq] at h1; omega
 ·cases h
theorem sortShape.lt_iff (x y : SE) : ltOf (fun x y : SE => Lib.compareInt x.1.f1 y.1.f1) x y = decide (x.1.f1 < y.1.f1) := by
 unfold ltOf Lib.compareInt; by_cases h1 : x.1.f1 < y.1.f1
 ·simp [h1]
 ·by_cases h2 : y.1.f1 < x.1.f1 <;> simp [h1, h2]
theorem sortShape.swo : Go.Sort.SWO (ltOf fun x y : SE => Lib.compareInt x.1.f1 y.1.f1) where
 irrefl x := by rw [sortShape.lt_iff]; simp
 trans x y z h1 h2 := by rw [sortShape.lt_iff] at *; simp at *; omega
 ntrans x y z h1 h2 := by rw [sortShape.lt_iff] at *; simp at *; omega
theorem sortShape.spec (l : List SE) : (Go.Sort.pdq (ltOf fun x y : SE => Lib.compareInt x.1.f1 y.1.f1) l.toArray 0 l.toArray.size (Lib.bitLen l.toArray.size) true true).toList.Perm l ∧ (Go.Sort.pdq (ltOf fun x y : SE => Lib.compareInt x.1.f1 y.1.f1) l.toArray 0 l.toArray.size (Lib.bitLen l.toArray.size) true true).toList.Pairwise (fun x y => x.1.f1 ≤ y.1.f1) := by
 have hs := Go.Sort.pdq_sorts _ sortShape.swo l.toArray 0 l.toArray.size (Lib.bitLen l.toArray.size) true true (Nat.zero_le _) (Nat.le_refl _) (Or.inl rfl); generalize Go.Sort.pdq (ltOf fun x y : SE => Lib.compareInt x.1.f1 y.1.f1) l.toArray 0 l.toArray.size (Lib.bitLen l.toArray.size) true true = d at hs ⊢; obtain ⟨⟨hsz, _, hperm⟩, hsorted⟩ := hs; refine ⟨?_, ?_⟩
 ·have e1 : d.extract 0 l.toArray.size = d := by rw [← hsz]; simp
  have e2 : l.toArray.extract 0 l.toArray.size = l.toArray := by simp
  rw [e1, e2] at hperm; simpa using hperm
 ·rw [List.pairwise_iff_getElem]; intro i j hi hj hij; have hj' : j < d.size := by simpa using hj
  have hi' : i < d.size := by simpa using hi
  have := hsorted i j (Nat.zero_le _) hij (by rw [← hsz]; exact hj'); rw [sortShape.lt_iff, getElem!_pos d i hi', getElem!_pos d j hj'] at this; simp at this; simpa using this
theorem sortShape.is {l r : List S47} (h : sortShape.f l = some r) (d : List SE) (hd : d.map Prod.fst = l) : ((Go.Sort.pdq (ltOf fun x y : SE => Lib.compareInt x.1.f1 y.1.f1) d.toArray 0 d.toArray.size (Lib.bitLen d.toArray.size) true true).toList).map Prod.fst = r := by
 obtain ⟨_, h1, h2, h3⟩ := sortShape.merge h; obtain ⟨s1, s2⟩ := sortShape.spec d; generalize (Go.Sort.pdq (ltOf fun x y : SE => Lib.compareInt x.1.f1 y.1.f1) d.toArray 0 d.toArray.size (Lib.bitLen d.toArray.size) true true).toList = q at s1 s2 ⊢; have hp : (q.map Prod.fst).Perm l := by rw [← hd]; exact s1.map _
 refine sortShape.uniq (hp.trans h1.symm) ?_ h2; have hn := (hp.pairwise_iff (R := fun x y : S47 => x.f1 ≠ y.f1) (fun h => Ne.symm h)).2 h3; have hs : (q.map Prod.fst).Pairwise (fun x y => x.f1 ≤ y.f1) := by rw [List.pairwise_map]; exact s2
 refine (hs.and hn).imp ?_; rintro a b ⟨u, v⟩; omega
set_option maxHeartbeats 1000000 in
theorem sortShape.closure (x y : SE) (W : World) : Calls Try.prog 88 #[.agg (sortShape.enc x).toArray, .agg (sortShape.enc y).toArray] W fun e w' => e = .returned (.int .i64 (Lib.compareInt x.1.f1 y.1.f1)) ∧ ∃ q os', w' = Go.Sort.grow (W.drewN q) os' := by
 have hcon := fun W' => AnyG.cmp_Compare_int Try.cmpInt x.1.f1 y.1.f1 W'
 change ∀ W', Calls Try.prog 89 _ _ _ at hcon
 show Calls Try.prog 88 #[.agg #[.slice x.2.1 x.1.f0.length x.2.2, .int .i64 x.1.f1], .agg #[.slice y.2.1 y.1.f0.length y.2.2, .int .i64 y.1.f1]] W _; generalize Lib.compareInt x.1.f1 y.1.f1 = r at hcon ⊢; generalize x.1.f0.length = n1; generalize y.1.f0.length = n2; go_enter Try.func88, Try.ntmps88
 go_wp2_with (go_at_call 89; refine (hcon _).mono ?_; rintro e w' ⟨rfl, rfl⟩)
 go_ret
 exact ⟨rfl, 0, _, by rw [Go.Sort.alloc_eq_grow, Go.Sort.alloc_eq_grow, Go.Sort.grow_grow]; rfl⟩
theorem sortShape.pairs {W : World} {ok : Nat → Prop} : ∀ (l0 : List S47) (rows : List (List Value)), rows.length = l0.length → (∀ (j : Nat) (x : S47) (c : List Value), l0[j]? = some x → rows[j]? = some c → Kd.FK k47 W ok x c) → ∃ d : List SE, d.map Prod.fst = l0 ∧ rows = d.map sortShape.enc ∧ ∀ x ∈ d, Kd.FK k47 W ok x.1 (sortShape.enc x)
 | [], rows, hl, _ => ⟨[], rfl, by rw [List.eq_nil_of_length_eq_zero hl]; rfl, fun x hx => by cases hx⟩
 | p :: t, [], hl, _ => absurd hl (by simp)
 | p :: t, c :: rows, hl, h => by
  obtain ⟨d, d1, d2, d3⟩ := sortShape.pairs t rows (by simpa using hl) (fun j x c hx hc => h (j + 1) x c (by simpa using hx) (by simpa using hc)); have hf := h 0 p c rfl rfl; obtain ⟨A0, c0, e, _⟩ := k47_open (Kd.FK_now hf); refine ⟨(p, A0, c0) :: d, by simp [d1], by rw [e, d2]; rfl, fun x hx => ?_⟩; rcases List.mem_cons.1 hx with rfl | hx
  ·show Kd.FK k47 W ok p [.slice A0 p.f0.length c0, .int .i64 p.f1]; rw [← e]; exact hf
  ·exact d3 x hx
set_option maxHeartbeats 2000000 in
theorem sortShape.calls (u9000_ : Value) (l0 : List S47) (r : List S47) (w0 w : World) (hB : Below w0.heap.size w0 w) (ho0 : Kd.N k47 47 w w0.heap.size (fun _ => True) u9000_ l0) (h : sortShape.f l0 = some r) :
 Calls Try.prog 87 #[u9000_, .func (.func 88) #[] #[]] w fun e w' => e = .returned (.tuple #[]) ∧ Kd.N k47 47 w' w0.heap.size (fun _ => True) u9000_ r ∧ Below w0.heap.size w0 w' ∧ Kept w w' (fun k_ => some k_ = u9000_.ownBlock) := by
 have hk : ∀ x : SE, (sortShape.enc x).length = 2 := fun _ => rfl
 have hcell : ∀ x : SE, ∀ v ∈ sortShape.enc x, v.oneCell' = true := fun x v hv => by simp [sortShape.enc] at hv; rcases hv with rfl | rfl <;> rfl
 have hsm := (sortShape.merge h).1; obtain ⟨_, rows, hl, hR, hf⟩ := ho0; obtain ⟨d, d1, d2, d3⟩ := sortShape.pairs l0 rows hl hf; obtain ⟨_, inner, ho, hr⟩ := hR; have hdl : d.length = l0.length := by rw [← d1, List.length_map]
 have ho' : w.ownsRow w0.heap.size 47 2 u9000_ l0.length inner := by rw [← hl]; exact ho
 have hr' : Reps (fun (x : SE) cs => cs = sortShape.enc x) 2 d inner := ⟨by have := hr.1; rw [d2, List.length_map] at this; exact this, fun j x hx => (hr.2 j (sortShape.enc x) (by rw [d2, List.getElem?_map, hx]; rfl)).1⟩; have hflat := SortW.flat_of_reps (fun _ _ e => e) hk hr'; have hpm := sortShape.spec d; have his := sortShape.is h d d1; rcases ho'.2 with ⟨hu, hn⟩ | ⟨g, cap, cur, hu, hg, hh, _, hcap, _⟩
 ·obtain rfl : l0 = [] := List.eq_nil_of_length_eq_zero hn; obtain rfl : r = [] := List.eq_nil_of_length_eq_zero (by have := (sortShape.merge h).2.1.length_eq; simpa using this); subst hu; refine (AnyF.slices_SortFunc_none Try.sortShapeL none 0 (.func (.func 88) #[] #[]) w).mono ?_; rintro e w' ⟨rfl, rfl⟩; exact ⟨rfl, Kd.N_nil _ _ _ _ _, hB, Kept.refl _ _⟩
 ·subst hu; have hH := SortW.holds_of_own ho' hdl.symm hflat; have hlt : g < w.heap.size := (Array.getElem?_eq_some_iff.1 hh).1; have hsz : d.toArray.size < 4611686018427387904 := by rw [List.size_toArray]; omega
  have hcon := AnyQ.slices_SortFunc_eq Try.sortShapeL 2 Try.isAgg47 Try.sizeOf47 sortShape.enc hk hcell (fun x y : SE => Lib.compareInt x.1.f1 y.1.f1) sortShape.swo 88 #[] g 0 cap d.toArray w
   (enters_of Try.func88 zz rfl) (fun _ _ _ _ x y => sortShape.closure x y _) hH hlt hsz
  refine (show Calls Try.prog 87 #[.slice (some ⟨g, 0, none⟩) l0.length cap, .func (.func 88) #[] #[]] w _ from by rw [← hdl]; exact hcon).mono ?_; rintro e w' ⟨rfl, n, os, rfl⟩; generalize Go.Sort.pdq (ltOf fun x y : SE => Lib.compareInt x.1.f1 y.1.f1) d.toArray 0 d.toArray.size (Lib.bitLen d.toArray.size) true true = q at hpm his ⊢; have hds : q.size = l0.length := by rw [← hdl]; simpa using hpm.1.length_eq
  have hql : q.toList.length = l0.length := by simpa using hds
  have hrl : r.length = l0.length := by rw [← his, List.length_map]; exact hql
  have hflat' := SortW.reps_of_flat (R := fun (x : SE) cs => cs = sortShape.enc x) (enc := sortShape.enc) (k := 2) (fun _ => rfl) hk q.toList; refine ⟨rfl, ⟨fun _ _ => trivial, q.toList.map sortShape.enc, by rw [List.length_map, hql, hrl], ⟨fun k hk => hk.symm, (Go.Sort.flatK sortShape.enc 2 q).toList, ?_, ⟨by have := hflat'.1; rw [List.length_map]; exact this, fun j p hp => ?_⟩⟩, fun j x c hx hc => ?_⟩, SortW.below_sorted hB hB.size sortShape.enc 2 g n hg q os, SortW.kept_sorted w sortShape.enc 2 g n q os _ rfl⟩
  ·have := SortW.own_sorted (enc := sortShape.enc) ho' n q os hds; rw [List.length_map, hql]; exact this
  ·rw [List.getElem?_map] at hp; obtain ⟨x, hx, rfl⟩ := Option.map_eq_some_iff.1 hp; have e : List.take (Kd.raw k47.sz).sz (List.drop (j * (Kd.raw k47.sz).sz) (Go.Sort.flatK sortShape.enc 2 q).toList) = sortShape.enc x := hflat'.2 j x hx; rw [e]; exact ⟨rfl, rfl, hcell x⟩
  ·rw [← his, List.getElem?_map] at hx; obtain ⟨z, hz, rfl⟩ := Option.map_eq_some_iff.1 hx; rw [List.getElem?_map, hz] at hc; obtain rfl := Option.some.inj hc; have hzd : z ∈ d := hpm.1.subset (List.mem_of_getElem? hz); exact Kd.FK_step (d3 z hzd) (fun k hk hlt' => SortW.heap_sorted_other sortShape.enc 2 w g n q os k hlt' (fun e => hk.2 (by rw [e]; rfl)))
end
end Go.Proofs.Ytoljcfocgaonpaa.I
