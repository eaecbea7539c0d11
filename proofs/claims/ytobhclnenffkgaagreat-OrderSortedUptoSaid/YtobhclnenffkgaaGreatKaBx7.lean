/- Words and walks of this claim, of the text Bx7. -/
import Derived.Test.YtobhclnenffkgaaGreatKaQW0
import Derived.Test.YtobhclnenffkgaaGreatKaBx0
import Derived.Test.YtobhclnenffkgaaGreatKaBx2
import Derived.Test.YtobhclnenffkgaaGreatKaBx6
namespace Go.Proofs.YtobhclnenffkgaaGreat.B
open Go.RowKit Go.Proofs.YtobhclnenffkgaaGreatW.PrintWords Go.Proofs.YtobhclnenffkgaaGreatW.PrintLast Go.Proofs.YtobhclnenffkgaaGreatW.PrintMore
set_option maxHeartbeats 8000000
set_option maxRecDepth 100000
attribute [local go_sem] max2_int min2_int max_two min_two max_three min_three max_four min_four
set_option linter.unusedVariables false
set_option linter.unusedSimpArgs false
def cloneShape.f (l0 : List S48) : Option (List S48) := if l0.length * 32 ≤ 140737488355328 then some l0 else none
theorem cloneShape.row {ad : Addr} {w : World} {ok : Nat → Prop} : ∀ (l0 : List S48) (o : Nat), (∀ j p, l0[j]? = some p → ∃ c : List Value, c.length = 2 ∧ Kd.FK k48 w ok p c ∧ ∀ i u, c[i]? = some u → w.cell? (ad.add ((o + j) * 2 + i)) = some u) →
 ∃ rows : List (List Value), rows.length = l0.length ∧ (∀ (j : Nat) (x : S48) (c : List Value), l0[j]? = some x → rows[j]? = some c → c.length = 2 ∧ Kd.FK k48 w ok x c) ∧ (∀ c ∈ rows, c.length = 2 ∧ ∀ u ∈ c, u.oneCell' = true) ∧ ∀ j u, rows.flatten[j]? = some u → w.cell? (ad.add (o * 2 + j)) = some u
 | [], o, _ => ⟨[], rfl, fun j x c h => (by simp at h), fun c h => (by cases h), fun j u h => (by simp at h)⟩
 | p :: t, o, h => by
  obtain ⟨c, c1, c2, c3⟩ := h 0 p rfl; obtain ⟨rows, q1, q2, q4, q3⟩ := cloneShape.row t (o + 1) (fun j x hj => by
   obtain ⟨c, a1, a2, a3⟩ := h (j + 1) x (by simpa using hj); exact ⟨c, a1, a2, fun i u hu => by have := a3 i u hu; rwa [show o + (j + 1) = o + 1 + j by omega] at this⟩)
  refine ⟨c :: rows, by simp [q1], fun j x c' hx hc => ?_, fun c' hc => ?_, fun j u hu => ?_⟩
  ·cases j with
   | zero =>
    obtain rfl := Option.some.inj hx; obtain rfl := Option.some.inj hc; exact ⟨c1, c2⟩
   | succ j => exact q2 j x c' (by simpa using hx) (by simpa using hc)
  ·rcases List.mem_cons.1 hc with rfl | hc
   ·exact ⟨c1, k48.K_one (Foot.now c2)⟩
   ·exact q4 c' hc
  ·rw [List.flatten_cons] at hu; by_cases hj : j < 2
   ·rw [List.getElem?_append_left (by omega)] at hu; have := c3 j u hu; rwa [show (o + 0) * 2 + j = o * 2 + j by omega] at this
   ·rw [List.getElem?_append_right (by omega), c1] at hu; have := q3 (j - 2) u hu; rwa [show (o + 1) * 2 + (j - 2) = o * 2 + j by omega] at this
theorem cloneShape.chunk : ∀ (rows : List (List Value)), (∀ c ∈ rows, c.length = 2) → ∀ (j : Nat) (c : List Value), rows[j]? = some c → (rows.flatten.drop (j * 2)).take 2 = c
 | [], _, j, c, h => by simp at h
 | d :: rows, hl, 0, c, h => by
  obtain rfl := Option.some.inj h; have := hl d List.mem_cons_self; rw [List.flatten_cons, Nat.zero_mul, List.drop_zero, List.take_append_of_le_length (by omega), List.take_of_length_le (by omega)]
 | d :: rows, hl, j + 1, c, h => by
  have h2 := hl d List.mem_cons_self; have ih := cloneShape.chunk rows (fun c hc => hl c (List.mem_cons_of_mem _ hc)) j c (by simpa using h); rw [List.flatten_cons, show (j + 1) * 2 = d.length + j * 2 by omega, List.drop_append]; simpa [List.drop_of_length_le] using ih
theorem cloneShape.flat (rows : List (List Value)) (h : ∀ c ∈ rows, c.length = 2) : rows.flatten.length = rows.length * 2 := by
 induction rows with
 | nil => rfl
 | cons d rows ih =>
  have h2 := h d List.mem_cons_self; rw [List.flatten_cons, List.length_append, ih (fun c hc => h c (List.mem_cons_of_mem _ hc)), h2, List.length_cons]; omega
set_option maxHeartbeats 4000000 in
theorem cloneShape.calls (A0 : Option Addr) (c0 : Nat) (l0 r : List S48) (w : World) (hr0 : Kd.C k48 w A0 l0.length l0) (hc0 : l0.length ≤ c0) (h : cloneShape.f l0 = some r) :
 Calls Tryz.prog 26 #[.slice A0 l0.length c0] w fun e w' => ∃ v, e = .returned v ∧ Kd.N k48 48 w' w.heap.size (fun _ => True) v r ∧ Below w.heap.size w w' := by
 unfold cloneShape.f at h; split at h
 case isFalse => cases h
 case isTrue hbig =>
 obtain rfl := Option.some.inj h; have hrows := Kd.F_rows (Kd.C_F k48_heap hr0); cases A0 with
 | none =>
  have h0 : l0 = [] := by
   rcases Nat.eq_zero_or_pos l0.length with h0 | hp
   ·exact List.eq_nil_of_length_eq_zero h0
   ·obtain ⟨ad, e, _⟩ := hrows.2.2 hp; cases e
  subst h0; refine (AnyE.slices_Clone_nil Tryz.cloneShapeL 0 c0 w).mono ?_; rintro e w' ⟨rfl, rfl⟩; exact ⟨_, rfl, Kd.N_nil _ _ _ _ _, Below.refl _ _⟩
 | some ad =>
  obtain ⟨rows, q1, q2, q4, q3⟩ := cloneShape.row (ad := ad) (w := w) (ok := fun k => k < w.heap.size) l0 0 (fun j p hj => by
   have hp : 0 < l0.length := Nat.lt_of_le_of_lt (Nat.zero_le _) (List.getElem?_eq_some_iff.1 hj).1; obtain ⟨ad', e, hc⟩ := hrows.2.2 hp; injection e with e
   subst e; obtain ⟨c, a1, a2, a3⟩ := hc j p hj; exact ⟨c, a1, a2, fun i u hu => by rw [Nat.zero_add]; exact a3 i u hu⟩)
  have q3' : Aside0 (∀ j u, rows.flatten[j]? = some u → w.cell? (ad.add j) = some u) := ⟨fun j u hu => by have := q3 j u hu; rwa [Nat.zero_mul, Nat.zero_add] at this⟩; have q5 := zk (fun u (hu : u ∈ rows.flatten) => (show u.oneCell' = true from by
   obtain ⟨c, hc, hu⟩ := List.mem_flatten.1 hu; exact (q4 c hc).2 u hu))
  have hfl := cloneShape.flat rows (fun c hc => (q4 c hc).1); clear q3; have hi := info48; generalize hI : Tryz.prog.info? 48 = I at hi; cases I with
  | none => cases hi
  | some i0 =>
  simp only [Option.map_some, Option.some.injEq, Prod.mk.injEq] at hi; obtain ⟨hz0, hz1, hz2⟩ := hi; have hl2 : rows.flatten.length = l0.length * 2 := by rw [hfl, q1]
  have key : Calls Tryz.prog 26 #[.slice (some ad) l0.length c0] w fun e w' => ∃ v', e = .returned v' ∧ w'.ownsRow w.heap.size 48 2 v' l0.length rows.flatten ∧ Below w.heap.size w w' := by
   have hbig' : l0.length * 32 ≤ 140737488355328 := hbig; generalize l0.length = n at hl2 hbig' ⊢; generalize rows.flatten = news at q3' q5 hl2 ⊢; have q22 : ∀ (w : World) (a : Option Addr) (n c n' c' : Nat), (binOp .eql 22 (.slice a n c) (.slice none n' c')).run Tryz.prog w = .ok (.bool a.isNone) w := fun w a n c n' c' => Lib.run_eql_slice_nil w _ _ a n c n' c' Tryz.underlying22
   go_enter Tryz.func26, Tryz.ntmps26
   go_wp2_with (at_builtin; refine wpList_append_own _ rfl _ _ 22 rfl w.heap.size 48 i0 (.agg #[(.slice none 0 0), (.int .i64 0)]) 2 32 Tryz.underlying22 hI hz0 hz1 hz2 rfl (by decide) _ _ _ rfl (World.ownsRow_made w #[] 0 (Nat.le_refl _) (Nat.zero_le _) (by simp)) ad n c0 news rfl ?qc1 ?qc2 ?qc3 ?qc4 ?qc5 ?qc6 ?_)
   (try (case qc1 => exact hl2))
   (try (case qc2 => intro j u hj; exact Lib.cell?_alloc_some _ (q3'.out j u hj)))
   (try (case qc3 => exact q5.out))
   (try (case qc4 => (try rw [Nat.zero_add]); exact Nat.le_trans (show n ≤ 4398046511104 by omega) (by decide)))
   (try (case qc5 => (try rw [Nat.zero_add]); exact hbig'))
   (try (case qc6 => simp))
   intro v' w1 hown hgrow hnil; go_wp2
   go_ret
   refine ⟨v', rfl, by simpa using hown, ?_⟩; exact ((Below.refl _ w).alloc (Nat.le_refl _) _).grown hgrow (by simp) (by intro k hk; simp [Value.ownBlock] at hk; omega)
  refine key.mono ?_; rintro e w' ⟨v, rfl, hown, hb⟩; refine ⟨v, rfl, ⟨fun _ _ => trivial, rows, q1, ⟨fun k hk => hk.symm, rows.flatten, by rw [q1]; exact hown, ⟨by rw [hfl]; rfl, fun j c hj => ?_⟩⟩, fun j x c hx hc => ?_⟩, hb⟩
  ·have hc := q4 c (List.mem_of_getElem? hj); have e := cloneShape.chunk rows (fun c hc => (q4 c hc).1) j c hj; rw [show (List.take (Kd.raw k48.sz).sz (List.drop (j * (Kd.raw k48.sz).sz) rows.flatten)) = c from e]; exact ⟨rfl, hc.1, hc.2⟩
  ·have hf := (q2 j x c hx hc).2; refine Kd.FK_mono (Kd.FK_step (Kd.FK_bound hf) (fun k hk hlt => hb.block k hlt)) (fun k hk => ⟨trivial, fun he => ?_⟩); have h1 := own_base hown k he.symm; have h2 := hk.2; omega
section
open Go.Sort
abbrev SE := S48 × Option Addr × Nat
def sortShape.enc (x : SE) : List Value := [.slice x.2.1 x.1.f0.length x.2.2, .int .i64 x.1.f1]
instance : Inhabited SE := ⟨(z48, none, 0)⟩
def sortShape.ok (l0 : List S48) : Bool := decide (l0.length < 8796093022208) && decide (l0.Pairwise fun x y => x.f1 ≠ y.f1)
def sortShape.f (l0 : List S48) : Option (List S48) := if sortShape.ok l0 = true then some (l0.mergeSort fun x y => decide (x.f1 ≤ y.f1)) else none
theorem sortShape.uniq : ∀ {a b : List S48}, a.Perm b → a.Pairwise (fun x y => x.f1 < y.f1) → b.Pairwise (fun x y => x.f1 < y.f1) → a = b
 | [], b, hp, _, _ => (List.nil_perm.1 hp).symm
 | x :: a, [], hp, _, _ => absurd hp.length_eq (by simp)
 | x :: a, y :: b, hp, ha, hb => by
  have ha' := List.pairwise_cons.1 ha; have hb' := List.pairwise_cons.1 hb; have e : x = y := by
   rcases List.mem_cons.1 (hp.subset List.mem_cons_self) with e | hx
   ·exact e
   ·rcases List.mem_cons.1 (hp.symm.subset List.mem_cons_self) with e | hy
    ·exact e.symm
    ·have h1 := hb'.1 x hx; have h2 := ha'.1 y hy; omega
  subst e; rw [sortShape.uniq (List.Perm.cons_inv hp) ha'.2 hb'.2]
theorem sortShape.merge {l r : List S48} (h : sortShape.f l = some r) : l.length < 8796093022208 ∧ r.Perm l ∧ r.Pairwise (fun x y => x.f1 < y.f1) ∧ l.Pairwise (fun x y => x.f1 ≠ y.f1) := by
 unfold sortShape.f at h; split at h
 ·rename_i ho
  simp only [sortShape.ok, Bool.and_eq_true, decide_eq_true_eq] at ho; obtain rfl := Option.some.inj h; have hp := List.mergeSort_perm l (fun x y => decide (x.f1 ≤ y.f1)); have hs : (l.mergeSort fun x y => decide (x.f1 ≤ y.f1)).Pairwise (fun x y => decide (x.f1 ≤ y.f1) = true) := List.pairwise_mergeSort (fun a b c h1 h2 => by simp only [decide_eq_true_eq] at *; omega) (fun a b => by simp only [Bool.or_eq_true, decide_eq_true_eq]; omega) l; have hd := (hp.pairwise_iff (R := fun x y : S48 => x.f1 ≠ y.f1) (fun h => Ne.symm h)).2 ho.2; refine ⟨ho.1, hp, (hs.and hd).imp ?_, ho.2⟩; rintro a b ⟨h1, h2⟩; simp only [decide_eq_true_eq] at h1; omega
 ·cases h
theorem sortShape.lt_iff (x y : SE) : ltOf (fun x y : SE => Lib.compareInt x.1.f1 y.1.f1) x y = decide (x.1.f1 < y.1.f1) := by
 unfold ltOf Lib.compareInt; by_cases h1 : x.1.f1 < y.1.f1
 ·simp [h1]
 ·by_cases h2 : y.1.f1 < x.1.f1 <;> simp [h1, h2]
theorem sortShape.swo : Go.Sort.SWO (ltOf fun x y : SE => Lib.compareInt x.1.f1 y.1.f1) where
 irrefl x := by rw [sortShape.lt_iff]; simp
 trans x y z h1 h2 := by rw [sortShape.lt_iff] at *; simp at *; omega
 ntrans x y z h1 h2 := by rw [sortShape.lt_iff] at *; simp at *; omega
theorem sortShape.spec (l : List SE) : (Go.Sort.pdq (ltOf fun x y : SE => Lib.compareInt x.1.f1 y.1.f1) l.toArray 0 l.toArray.size (Lib.bitLen l.toArray.size) true true).toList.Perm l ∧ (Go.Sort.pdq (ltOf fun x y : SE => Lib.compareInt x.1.f1 y.1.f1) l.toArray 0 l.toArray.size (Lib.bitLen l.toArray.size) true true).toList.Pairwise (fun x y => x.1.f1 ≤ y.1.f1) := by
 have hs := Go.Sort.pdq_sorts _ sortShape.swo l.toArray 0 l.toArray.size (Lib.bitLen l.toArray.size) true true (Nat.zero_le _) (Nat.le_refl _) (Or.inl rfl); generalize Go.Sort.pdq (ltOf fun x y : SE => Lib.compareInt x.1.f1 y.1.f1) l.toArray 0 l.toArray.size (Lib.bitLen l.toArray.size) true true = d at hs ⊢; obtain ⟨⟨hsz, _, hperm⟩, hsorted⟩ := hs; refine ⟨?_, ?_⟩
 ·have e1 : d.extract 0 l.toArray.size = d := by rw [← hsz]; simp
  have e2 : l.toArray.extract 0 l.toArray.size = l.toArray := by simp
  rw [e1, e2] at hperm; simpa using hperm
 ·rw [List.pairwise_iff_getElem]; intro i j hi hj hij; have hj' : j < d.size := by simpa using hj
  have hi' : i < d.size := by simpa using hi
  have := hsorted i j (Nat.zero_le _) hij (by rw [← hsz]; exact hj'); rw [sortShape.lt_iff, getElem!_pos d i hi', getElem!_pos d j hj'] at this; simp at this; simpa using this
theorem sortShape.is {l r : List S48} (h : sortShape.f l = some r) (d : List SE) (hd : d.map Prod.fst = l) : ((Go.Sort.pdq (ltOf fun x y : SE => Lib.compareInt x.1.f1 y.1.f1) d.toArray 0 d.toArray.size (Lib.bitLen d.toArray.size) true true).toList).map Prod.fst = r := by
 obtain ⟨_, h1, h2, h3⟩ := sortShape.merge h; obtain ⟨s1, s2⟩ := sortShape.spec d; generalize (Go.Sort.pdq (ltOf fun x y : SE => Lib.compareInt x.1.f1 y.1.f1) d.toArray 0 d.toArray.size (Lib.bitLen d.toArray.size) true true).toList = q at s1 s2 ⊢; have hp : (q.map Prod.fst).Perm l := by rw [← hd]; exact s1.map _
 refine sortShape.uniq (hp.trans h1.symm) ?_ h2; have hn := (hp.pairwise_iff (R := fun x y : S48 => x.f1 ≠ y.f1) (fun h => Ne.symm h)).2 h3; have hs : (q.map Prod.fst).Pairwise (fun x y => x.f1 ≤ y.f1) := by rw [List.pairwise_map]; exact s2
 refine (hs.and hn).imp ?_; rintro a b ⟨u, v⟩; omega
set_option maxHeartbeats 1000000 in
theorem sortShape.closure (x y : SE) (W : World) : Calls Tryz.prog 28 #[.agg (sortShape.enc x).toArray, .agg (sortShape.enc y).toArray] W fun e w' => e = .returned (.int .i64 (Lib.compareInt x.1.f1 y.1.f1)) ∧ ∃ q os', w' = Go.Sort.grow (W.drewN q) os' := by
 have hcon := fun W' => AnyG.cmp_Compare_int Tryz.cmpInt x.1.f1 y.1.f1 W'
 change ∀ W', Calls Tryz.prog 20 _ _ _ at hcon
 show Calls Tryz.prog 28 #[.agg #[.slice x.2.1 x.1.f0.length x.2.2, .int .i64 x.1.f1], .agg #[.slice y.2.1 y.1.f0.length y.2.2, .int .i64 y.1.f1]] W _; generalize Lib.compareInt x.1.f1 y.1.f1 = r at hcon ⊢; generalize x.1.f0.length = n1; generalize y.1.f0.length = n2; go_enter Tryz.func28, Tryz.ntmps28
 go_wp2_with (go_at_call 20; refine (hcon _).mono ?_; rintro e w' ⟨rfl, rfl⟩)
 go_ret
 exact ⟨rfl, 0, _, by rw [Go.Sort.alloc_eq_grow, Go.Sort.alloc_eq_grow, Go.Sort.grow_grow]; rfl⟩
theorem sortShape.pairs {W : World} {ok : Nat → Prop} : ∀ (l0 : List S48) (rows : List (List Value)), rows.length = l0.length → (∀ (j : Nat) (x : S48) (c : List Value), l0[j]? = some x → rows[j]? = some c → Kd.FK k48 W ok x c) → ∃ d : List SE, d.map Prod.fst = l0 ∧ rows = d.map sortShape.enc ∧ ∀ x ∈ d, Kd.FK k48 W ok x.1 (sortShape.enc x)
 | [], rows, hl, _ => ⟨[], rfl, by rw [List.eq_nil_of_length_eq_zero hl]; rfl, fun x hx => by cases hx⟩
 | p :: t, [], hl, _ => absurd hl (by simp)
 | p :: t, c :: rows, hl, h => by
  obtain ⟨d, d1, d2, d3⟩ := sortShape.pairs t rows (by simpa using hl) (fun j x c hx hc => h (j + 1) x c (by simpa using hx) (by simpa using hc)); have hf := h 0 p c rfl rfl; obtain ⟨A0, c0, e, _⟩ := k48_open (Kd.FK_now hf); refine ⟨(p, A0, c0) :: d, by simp [d1], by rw [e, d2]; rfl, fun x hx => ?_⟩; rcases List.mem_cons.1 hx with rfl | hx
  ·show Kd.FK k48 W ok p [.slice A0 p.f0.length c0, .int .i64 p.f1]; rw [← e]; exact hf
  ·exact d3 x hx
set_option maxHeartbeats 2000000 in
theorem sortShape.calls (u9000_ : Value) (l0 : List S48) (r : List S48) (w0 w : World) (hB : Below w0.heap.size w0 w) (ho0 : Kd.N k48 48 w w0.heap.size (fun _ => True) u9000_ l0) (h : sortShape.f l0 = some r) :
 Calls Tryz.prog 27 #[u9000_, .func (.func 28) #[] #[]] w fun e w' => e = .returned (.tuple #[]) ∧ Kd.N k48 48 w' w0.heap.size (fun _ => True) u9000_ r ∧ Below w0.heap.size w0 w' ∧ Kept w w' (fun k_ => some k_ = u9000_.ownBlock) := by
 have hk : ∀ x : SE, (sortShape.enc x).length = 2 := fun _ => rfl
 have hcell : ∀ x : SE, ∀ v ∈ sortShape.enc x, v.oneCell' = true := fun x v hv => by simp [sortShape.enc] at hv; rcases hv with rfl | rfl <;> rfl
 have hsm := (sortShape.merge h).1; obtain ⟨_, rows, hl, hR, hf⟩ := ho0; obtain ⟨d, d1, d2, d3⟩ := sortShape.pairs l0 rows hl hf; obtain ⟨_, inner, ho, hr⟩ := hR; have hdl : d.length = l0.length := by rw [← d1, List.length_map]
 have ho' : w.ownsRow w0.heap.size 48 2 u9000_ l0.length inner := by rw [← hl]; exact ho
 have hr' : Reps (fun (x : SE) cs => cs = sortShape.enc x) 2 d inner := ⟨by have := hr.1; rw [d2, List.length_map] at this; exact this, fun j x hx => (hr.2 j (sortShape.enc x) (by rw [d2, List.getElem?_map, hx]; rfl)).1⟩; have hflat := SortW.flat_of_reps (fun _ _ e => e) hk hr'; have hpm := sortShape.spec d; have his := sortShape.is h d d1; rcases ho'.2 with ⟨hu, hn⟩ | ⟨g, cap, cur, hu, hg, hh, _, hcap, _⟩
 ·obtain rfl : l0 = [] := List.eq_nil_of_length_eq_zero hn; obtain rfl : r = [] := List.eq_nil_of_length_eq_zero (by have := (sortShape.merge h).2.1.length_eq; simpa using this); subst hu; refine (AnyF.slices_SortFunc_none Tryz.sortShapeL none 0 (.func (.func 28) #[] #[]) w).mono ?_; rintro e w' ⟨rfl, rfl⟩; exact ⟨rfl, Kd.N_nil _ _ _ _ _, hB, Kept.refl _ _⟩
 ·subst hu; have hH := SortW.holds_of_own ho' hdl.symm hflat; have hlt : g < w.heap.size := (Array.getElem?_eq_some_iff.1 hh).1; have hsz : d.toArray.size < 4611686018427387904 := by rw [List.size_toArray]; omega
  have hcon := AnyQ.slices_SortFunc_eq Tryz.sortShapeL 2 Tryz.isAgg48 Tryz.sizeOf48 sortShape.enc hk hcell (fun x y : SE => Lib.compareInt x.1.f1 y.1.f1) sortShape.swo 28 #[] g 0 cap d.toArray w
   (enters_of Tryz.func28 zz rfl) (fun _ _ _ _ x y => sortShape.closure x y _) hH hlt hsz
  refine (show Calls Tryz.prog 27 #[.slice (some ⟨g, 0, none⟩) l0.length cap, .func (.func 28) #[] #[]] w _ from by rw [← hdl]; exact hcon).mono ?_; rintro e w' ⟨rfl, n, os, rfl⟩; generalize Go.Sort.pdq (ltOf fun x y : SE => Lib.compareInt x.1.f1 y.1.f1) d.toArray 0 d.toArray.size (Lib.bitLen d.toArray.size) true true = q at hpm his ⊢; have hds : q.size = l0.length := by rw [← hdl]; simpa using hpm.1.length_eq
  have hql : q.toList.length = l0.length := by simpa using hds
  have hrl : r.length = l0.length := by rw [← his, List.length_map]; exact hql
  have hflat' := SortW.reps_of_flat (R := fun (x : SE) cs => cs = sortShape.enc x) (enc := sortShape.enc) (k := 2) (fun _ => rfl) hk q.toList; refine ⟨rfl, ⟨fun _ _ => trivial, q.toList.map sortShape.enc, by rw [List.length_map, hql, hrl], ⟨fun k hk => hk.symm, (Go.Sort.flatK sortShape.enc 2 q).toList, ?_, ⟨by have := hflat'.1; rw [List.length_map]; exact this, fun j p hp => ?_⟩⟩, fun j x c hx hc => ?_⟩, SortW.below_sorted hB hB.size sortShape.enc 2 g n hg q os, SortW.kept_sorted w sortShape.enc 2 g n q os _ rfl⟩
  ·have := SortW.own_sorted (enc := sortShape.enc) ho' n q os hds; rw [List.length_map, hql]; exact this
  ·rw [List.getElem?_map] at hp; obtain ⟨x, hx, rfl⟩ := Option.map_eq_some_iff.1 hp; have e : List.take (Kd.raw k48.sz).sz (List.drop (j * (Kd.raw k48.sz).sz) (Go.Sort.flatK sortShape.enc 2 q).toList) = sortShape.enc x := hflat'.2 j x hx; rw [e]; exact ⟨rfl, rfl, hcell x⟩
  ·rw [← his, List.getElem?_map] at hx; obtain ⟨z, hz, rfl⟩ := Option.map_eq_some_iff.1 hx; rw [List.getElem?_map, hz] at hc; obtain rfl := Option.some.inj hc; have hzd : z ∈ d := hpm.1.subset (List.mem_of_getElem? hz); exact Kd.FK_step (d3 z hzd) (fun k hk hlt' => SortW.heap_sorted_other sortShape.enc 2 w g n q os k hlt' (fun e => hk.2 (by rw [e]; rfl)))
end
def shape_Valid.f (k : Nat) (l0_0 : List (List (S69))) (a0_1 : Int) : Option (Bool) := (scheme_Valid.f k (([(⟨l0_0, a0_1⟩ : S48)] : List (S48)))).bind fun t242 => (some t242)
theorem shape_Valid.mono : ∀ a0 a1 k, LeO (shape_Valid.f k a0 a1) (shape_Valid.f (k + 1) a0 a1) := by
 intro a0 a1 k; unfold shape_Valid.f; repeat' first
  | (with_reducible exact scheme_Valid.mono _ _)
  | (with_reducible exact LeO.refl _)
  | (with_reducible exact LeO.none _)
  | (with_reducible refine LeO.ite ?_ ?_)
  | (with_reducible refine LeO.bind ?_ (fun _ => ?_))
  | exact scheme_Valid.mono _ _
  | exact LeO.none _
  | refine LeO.ite ?_ ?_
  | refine LeO.bind ?_ (fun _ => ?_)
theorem shape_Valid.calls (k : Nat) (P0_0_ : Nat → Prop) (A0_0 : Option Addr) (c0_0 : Nat) (l0_0 : List (List (S69))) (a0_1 : Int) (r : Bool) (w : World) (hs0_0 : Kd.V (Kd.slice 69 k69) 70 w w.heap.size (fun k_ => P0_0_ k_) (.slice A0_0 l0_0.length c0_0) l0_0) (h : shape_Valid.f k l0_0 a0_1 = some r) :
 Calls Tryz.prog 47 #[.agg #[.slice A0_0 l0_0.length c0_0, .int .i64 a0_1]] w fun e w' => e = .returned (.bool r) ∧ Below w.heap.size w w' := by
 have hu48 := Tryz.underlying48; have hu24 := Tryz.underlying24; have HO0_0 := zk (show Kd.V (Kd.slice 69 k69) 70 w w.heap.size (fun k_ => (P0_0_ k_ ∨ w.heap.size ≤ k_)) (.slice A0_0 l0_0.length c0_0) l0_0 from Kd.V_mono hs0_0 (fun k_ hk => .inl hk)); have HB := zk (Below.refl w.heap.size w); have H : ((scheme_Valid.f k (([(⟨l0_0, a0_1⟩ : S48)] : List (S48)))).bind fun t242 => (some t242)) = some r := h; clear h; obtain ⟨y239, hy239⟩ : ∃ y_ : List (S48), y_ = (([(⟨l0_0, a0_1⟩ : S48)] : List (S48))) := ⟨_, rfl⟩
 replace H : ((scheme_Valid.f k y239).bind fun t242 => (some t242)) = some r := by first | (rw [hy239]; with_reducible exact H) | (have H2_ := (Option.bind_some _ _).symm.trans H; rw [hy239]; with_reducible exact H2_) | (have H2_ := (Option.bind_some _ _).symm.trans H; with_reducible exact H2_) | with_reducible exact H | (rw [hy239]; exact H) | exact H
 have Ny239 := zk hy239; clear hy239; replace H := Option.bind_eq_some_iff.mp H; obtain ⟨t242, A20, H⟩ := H; replace H : (some t242) = some r := H; have A2 := zk A20; clear A20; obtain rfl := Option.some.inj H; go_enter Tryz.func47, Tryz.ntmps47
 go_wp2_with (first | ((with_reducible refine gate_dst (N := 1) rfl ?_); refine box_event ?hg (N := 1) ?hd (cs := #[.slice A0_0 l0_0.length c0_0, .int .i64 a0_1]) (t := 48) ?hr ?_; (case hd => rfl); (case hg => rfl); (case hr => first | (go_simp; done) | (go_simp; rfl)); intro gb238 hg w3 hbox hb; replace HO0_0 := zk (Kd.V_below (Kd.V_elderB (by (with_reducible repeat (first | apply Kd.V_alloc | apply Kd.V_drewN | apply Kd.V_drew)); exact HO0_0.out) gb238 (Nat.le_of_eq hg.symm)) hb); have BK238 := zk (hbox); have GE238 := zk ((zg hg HB.out : w.heap.size ≤ gb238)); replace HB := zs HB hb;  clear hb hbox hg; have hcz4_0 : w3.cell? ⟨gb238, 0, none⟩ = some (.slice A0_0 l0_0.length c0_0) := zh BK238.out 0; have hcz4_1 : w3.cell? ⟨gb238, 1, none⟩ = some (.int .i64 a0_1) := zh BK238.out 1; have hfz4_0 := blk_frozen BK238.out 0; have hfz4_1 := blk_frozen BK238.out 1) | ((with_reducible refine gate_dst (N := 4) rfl ?_); refine Kd.N_lit k48 _ 48 ?hg (N' := 4) ?hd (xs := ([(⟨l0_0, a0_1⟩ : S48)] : List (S48))) (inner := [.slice A0_0 l0_0.length c0_0, .int .i64 a0_1]) (ok := (fun k_ => (P0_0_ k_ ∨ w.heap.size ≤ k_) ∧ k_ ≠ gb238)) (okp := (fun k_ => (P0_0_ k_ ∨ w.heap.size ≤ k_) ∧ k_ ≠ gb238)) ?hr ?hp (fun _ hk => hk) ((show ∀ k_, w3.heap.size ≤ k_ → (fun k_ => (P0_0_ k_ ∨ w.heap.size ≤ k_) ∧ k_ ≠ gb238) k_ from fun k_ hk => ⟨(.inr (Nat.le_trans (below_size (zU HB.out)) hk)), Kd.freshB (g := gb238) (o := .cells #[.slice A0_0 l0_0.length c0_0, .int .i64 a0_1] 48 (0, 0)) (zb BK238.out) k_ hk⟩) _ (Nat.le_refl _)) (Below.refl _ _) (Nat.le_refl _) (by simp) ?_; (case hd => rfl); (case hg => rfl); (case hr => first | (go_simp; done) | (go_simp; rfl)); (case hp => exact (Reps.c2 (show Kd.FK k48 _ _ (⟨l0_0, a0_1⟩ : S48) [.slice A0_0 l0_0.length c0_0, .int .i64 a0_1] from (k48_mkF _ _ (⟨l0_0, a0_1⟩ : S48) (Kd.V_reads' (Kd.V_mono (ok' := (fun k_ => (P0_0_ k_ ∨ w.heap.size ≤ k_) ∧ k_ ≠ gb238)) (HO0_0.out) (fun k_ hk => ⟨hk.1, hk.2⟩))).2.1 (Kd.V_F (Kd.V_mono (ok' := (fun k_ => (P0_0_ k_ ∨ w.heap.size ≤ k_) ∧ k_ ≠ gb238)) (HO0_0.out) (fun k_ hk => ⟨hk.1, hk.2⟩))))) (Reps.none _ _))); intro v240 w5 ho6 hb hg_ hnew_; clear hg_ hnew_; (first | rw [← Ny239.out] at ho6 | (simp only [Int.reduceToNat] at ho6; rw [← Ny239.out] at ho6)); replace HO0_0 := zk (Kd.V_elder' (by (with_reducible repeat (first | apply Kd.V_alloc | apply Kd.V_drewN | apply Kd.V_drew)); exact HO0_0.out) (Kd.N_base ho6) hb); have HO241 := zk (Kd.N_lower ho6 (below_size (zU HB.out))); replace BK238 := zk (zbb BK238.out hb); replace HB := zs HB hb;  clear hb ho6; obtain ⟨Ao7, co7, eo7⟩ := Kd.N_slice HO241.out; subst eo7) | ((with_reducible refine gate_callee (f := 14) rfl ?_); refine goesL_ (some 6) rfl rfl Tryz.func14 zz rfl #[.agg #[.slice Ao7 y239.length co7]] rfl zM ?_; (with_reducible refine (scheme_Valid.calls k _ _ y239 t242 _ ?side1 ?side2 A2.out).mono ?_); (case side1 => repeat (first | exact (Kd.N_reads' HO241.out).2.2 | (with_reducible refine Kd.C_alloc ?_ _) | (with_reducible refine Kd.C_drewN ?_ _) | (with_reducible refine Kd.C_drew ?_))); (case side2 => exact (Kd.N_reads' HO241.out).2.1); rintro e w8 ⟨rfl, hb⟩; refine ⟨_, rfl, ?_⟩; replace HO0_0 := zk (Kd.V_below (by (with_reducible repeat (first | apply Kd.V_alloc | apply Kd.V_drewN | apply Kd.V_drew)); exact HO0_0.out) hb); replace HO241 := zk (Kd.N_below (zn HO241.out) hb); replace BK238 := zk (zbb BK238.out hb); replace HB := zs HB hb;  (try clear hb); (try clear hb2); (try clear hk); (try clear hi)))
 go_ret
 exact ⟨ze, zU HB.out⟩
def shape_steps.l0 : Nat → Int → Int → List Int → List (List (S69)) → Int → Option (List Int)
 | 0, _, _, _, _, _ => none
 | k + 1, x4, x5, x10, x244000, x244001 => if x5 > 0 then (if 0 ≤ x5 then (if x5 < (x10.length : Int) then (if 0 ≤ (wrap64 (x5 - 1)) then (if (wrap64 (x5 - 1)) < (x244000.length : Int) then ((spans_Size.f k (rd_L3 x244000 (wrap64 (x5 - 1)))).bind fun t249 => (shape_steps.l0 k (wrap64 (x4 * t249)) (wrap64 (x5 - 1)) (x10.set (x5 : Int).toNat x4) x244000 x244001)) else (none)) else (none)) else (none)) else (none)) else (if 0 < (x10.length : Int) then (some (x10.set (0 : Int).toNat x4)) else (none))
def shape_steps.f (k : Nat) (l0_0 : List (List (S69))) (a0_1 : Int) : Option (List Int) := if 0 ≤ (wrap64 ((l0_0.length : Int) + 1)) then (if (wrap64 ((l0_0.length : Int) + 1) : Int).toNat ≤ 35184372088832 then (shape_steps.l0 k 1 (l0_0.length : Int) (List.replicate (wrap64 ((l0_0.length : Int) + 1) : Int).toNat 0) l0_0 a0_1) else (none)) else (none)
theorem shape_steps.mono_l : ∀ k, (∀ y0 y1 y2 y3 y4, LeO (shape_steps.l0 k y0 y1 y2 y3 y4) (shape_steps.l0 (k + 1) y0 y1 y2 y3 y4))
 | 0 => fun _ _ _ _ _ r h => by simp [shape_steps.l0] at h
 | k + 1 => by
  have ih0 := shape_steps.mono_l k
  ·intro y0 y1 y2 y3 y4; unfold shape_steps.l0; repeat' first
   | (with_reducible exact ih0 _ _ _ _ _)
   | (with_reducible exact spans_Size.mono _ _)
   | (with_reducible exact LeO.refl _)
   | (with_reducible exact LeO.none _)
   | (with_reducible refine LeO.ite ?_ ?_)
   | (with_reducible refine LeO.bind ?_ (fun _ => ?_))
   | exact ih0 _ _ _ _ _
   | exact spans_Size.mono _ _
   | exact LeO.none _
   | refine LeO.ite ?_ ?_
   | refine LeO.bind ?_ (fun _ => ?_)
theorem shape_steps.mono : ∀ a0 a1 k, LeO (shape_steps.f k a0 a1) (shape_steps.f (k + 1) a0 a1) := by
 intro a0 a1 k; have ih0 := shape_steps.mono_l k; unfold shape_steps.f; repeat' first
  | (with_reducible exact ih0 _ _ _ _ _)
  | (with_reducible exact spans_Size.mono _ _)
  | (with_reducible exact LeO.refl _)
  | (with_reducible exact LeO.none _)
  | (with_reducible refine LeO.ite ?_ ?_)
  | (with_reducible refine LeO.bind ?_ (fun _ => ?_))
  | exact ih0 _ _ _ _ _
  | exact spans_Size.mono _ _
  | exact LeO.none _
  | refine LeO.ite ?_ ?_
  | refine LeO.bind ?_ (fun _ => ?_)
theorem shape_steps.calls (k : Nat) (A0_0 : Option Addr) (c0_0 : Nat) (l0_0 : List (List (S69))) (a0_1 : Int) (r : List Int) (w : World) (hr0_0 : Kd.C (Kd.slice 69 k69) w A0_0 l0_0.length l0_0) (hc0_0 : l0_0.length ≤ c0_0) (h : shape_steps.f k l0_0 a0_1 = some r) :
 Calls Tryz.prog 48 #[.agg #[.slice A0_0 l0_0.length c0_0, .int .i64 a0_1]] w fun e w' => ∃ v0_ : Value, e = .returned (v0_) ∧ Kd.R (Kd.int .i64) 3 w' w.heap.size (fun _ => True) v0_ r ∧ Below w.heap.size w w' := by
 have hu48 := Tryz.underlying48; have HR0_0 := zk hr0_0; have HC0_0 := zk hc0_0; clear hr0_0 hc0_0; have HB := zk (Below.refl w.heap.size w); have H : (if 0 ≤ (wrap64 ((l0_0.length : Int) + 1)) then (if (wrap64 ((l0_0.length : Int) + 1) : Int).toNat ≤ 35184372088832 then (shape_steps.l0 k 1 (l0_0.length : Int) (List.replicate (wrap64 ((l0_0.length : Int) + 1) : Int).toNat 0) l0_0 a0_1) else (none)) else (none)) = some r := h; clear h; obtain ⟨ji2, hji2⟩ : ∃ j_ : Int, (wrap64 ((l0_0.length : Int) + 1)) = j_ := ⟨_, rfl⟩
 replace H : (if 0 ≤ (ji2) then (if (ji2 : Int).toNat ≤ 35184372088832 then (shape_steps.l0 k 1 (l0_0.length : Int) (List.replicate (ji2 : Int).toNat 0) l0_0 a0_1) else (none)) else (none)) = some r := by first | (rw [hji2] at H; exact H) | (simp only [hji2] at H ⊢; exact H)
 have hji2w : (IntKind.i64.wrap ((l0_0.length : Int) + 1)) = ji2 := (i64_w _).trans hji2; by_cases c3 : 0 ≤ (ji2)
 ·rw [if_pos c3] at H; have c3b0 := eq_true c3; have c3b1 : decide (0 ≤ (ji2)) = true := decide_eq_true c3; clear c3; by_cases c4 : (ji2 : Int).toNat ≤ 35184372088832
  ·rw [if_pos c4] at H; have c4b0 := eq_true c4; have c4b1 : decide ((ji2 : Int).toNat ≤ 35184372088832) = true := decide_eq_true c4; clear c4; obtain ⟨y244, hy244⟩ : ∃ y_ : List Int, y_ = (List.replicate (ji2 : Int).toNat 0) := ⟨_, rfl⟩
   replace H : (shape_steps.l0 k 1 (l0_0.length : Int) y244 l0_0 a0_1) = some r := by first | (rw [hy244]; with_reducible exact H) | (have H2_ := (Option.bind_some _ _).symm.trans H; rw [hy244]; with_reducible exact H2_) | (have H2_ := (Option.bind_some _ _).symm.trans H; with_reducible exact H2_) | with_reducible exact H | (rw [hy244]; exact H) | exact H
   have Ny244 := zk hy244; clear hy244; have H' := zk H; clear H; go_enter Tryz.func48, Tryz.ntmps48
   go_wp2_with (first | ((with_reducible refine gate_dst (N := 1) rfl ?_); refine box_event ?hg (N := 1) ?hd (cs := #[.slice A0_0 l0_0.length c0_0, .int .i64 a0_1]) (t := 48) ?hr ?_; (case hd => rfl); (case hg => rfl); (case hr => first | (go_simp; done) | (go_simp; rfl)); intro gb243 hg w5 hbox hb; have BK243 := zk (hbox); have GE243 := zk ((zg hg HB.out : w.heap.size ≤ gb243)); replace HB := zs HB hb;  clear hb hbox hg; have hcz6_0 : w5.cell? ⟨gb243, 0, none⟩ = some (.slice A0_0 l0_0.length c0_0) := zh BK243.out 0; have hcz6_1 : w5.cell? ⟨gb243, 1, none⟩ = some (.int .i64 a0_1) := zh BK243.out 1; have hfz6_0 := blk_frozen BK243.out 0; have hfz6_1 := blk_frozen BK243.out 1) | ((with_reducible refine gate_dst (N := 10) rfl ?_); refine Kd.R_make (Kd.int .i64) _ 3 rfl (N := 10) rfl 25 _ _ rfl ji2 rfl rfl Tryz.underlying25 (.int .i64 0) 8 info3 rfl (by decide) (by omega) 0 (ok := fun _ => True) (okp := fun _ => True) rfl (fun _ hk => hk) trivial zT (Nat.le_trans (Nat.mul_le_mul_right _ (zT : ji2.toNat ≤ 35184372088832)) (by omega)) (Below.refl _ _) (Nat.le_refl _) ?_; intro v245 w7 ho8 hb hg_ hnew_; clear hg_ hnew_; (first | rw [← Ny244.out] at ho8 | (simp only [Int.reduceToNat] at ho8; rw [← Ny244.out] at ho8)); have HO246 := zk (Kd.R_lower ho8 (below_size (zU HB.out))); replace BK243 := zk (zbb BK243.out hb); replace HB := zs HB hb;  clear hb ho8; have hcz9_0 : w7.cell? ⟨gb243, 0, none⟩ = some (.slice A0_0 l0_0.length c0_0) := zh BK243.out 0; have hcz9_1 : w7.cell? ⟨gb243, 1, none⟩ = some (.int .i64 a0_1) := zh BK243.out 1; have hfz9_0 := blk_frozen BK243.out 0; have hfz9_1 := blk_frozen BK243.out 1))
   go_loopg [4, 5] k (fun kq v4 v5 w' => ∃ (x4_1 : Int) (x5_1 : Int) (x10_1 : List Int), v4 = .int .i64 x4_1 ∧ v5 = .int .i64 x5_1 ∧ Aside0 (shape_steps.l0 kq x4_1 x5_1 x10_1 l0_0 a0_1 = some r) ∧ Aside0 (kq ≤ k) ∧ Aside0 (Kd.R (Kd.int .i64) 3 w' w.heap.size (fun _ => True) v245 x10_1) ∧ Aside0 (w'.heap[gb243]? = some (.cells #[(.slice A0_0 l0_0.length c0_0), .int .i64 a0_1] 48 (0, 0))) ∧ Aside0 (Below w.heap.size w w'))
   case atStart => exact ⟨(1), ((l0_0.length : Int)), (y244), zR, zR, H', ⟨Nat.le_refl _⟩, ⟨by (with_reducible repeat (first | apply zA | apply zB | apply zC)); exact HO246.out⟩, ⟨zb BK243.out⟩, ⟨zU HB.out⟩⟩
   case round =>
    clear H'; (try clear p2); (try clear c3); (try clear c3b0); (try clear c3b1); (try clear c4); (try clear c4b0); (try clear c4b1); (try clear p6); (try clear hcz6_0); (try clear hcz6_1); (try clear hcz9_0); (try clear hcz9_1); (try clear hfz6_0); (try clear hfz6_1); (try clear hfz9_0); (try clear hfz9_1); obtain ⟨x4_1, x5_1, x10_1, rfl, rfl, HA, HK1, HO_10, BK243, HB⟩ := hrel
    cases gk with
    | zero => exact absurd HA.out (by simp [shape_steps.l0])
    | succ k1 =>
     have H := HA.out; clear HA; simp only [shape_steps.l0] at H; by_cases c10 : x5_1 > 0
     ·rw [if_pos c10] at H; have c10b0 : decide (0 < x5_1) = true := decide_eq_true c10; clear c10; by_cases c11 : 0 ≤ x5_1
      ·rw [if_pos c11] at H; have c11b0 : decide (0 ≤ x5_1) = true := decide_eq_true c11; clear c11; by_cases c12 : x5_1 < (x10_1.length : Int)
       ·rw [if_pos c12] at H; have c12b0 : decide (x5_1 < (x10_1.length : Int)) = true := decide_eq_true c12; clear c12; obtain ⟨y247, hy247⟩ : ∃ y_ : List Int, y_ = (x10_1.set (x5_1 : Int).toNat x4_1) := ⟨_, rfl⟩
        replace H : (if 0 ≤ (wrap64 (x5_1 - 1)) then (if (wrap64 (x5_1 - 1)) < (l0_0.length : Int) then ((spans_Size.f k1 (rd_L3 l0_0 (wrap64 (x5_1 - 1)))).bind fun t249 => (shape_steps.l0 k1 (wrap64 (x4_1 * t249)) (wrap64 (x5_1 - 1)) y247 l0_0 a0_1)) else (none)) else (none)) = some r := by first | (rw [hy247]; with_reducible exact H) | (have H2_ := (Option.bind_some _ _).symm.trans H; rw [hy247]; with_reducible exact H2_) | (have H2_ := (Option.bind_some _ _).symm.trans H; with_reducible exact H2_) | with_reducible exact H | (rw [hy247]; exact H) | exact H
        have Ny247 := zk hy247; clear hy247; obtain ⟨ji14, hji14⟩ : ∃ j_ : Int, (wrap64 (x5_1 - 1)) = j_ := ⟨_, rfl⟩
        replace H : (if 0 ≤ (ji14) then (if (ji14) < (l0_0.length : Int) then ((spans_Size.f k1 (rd_L3 l0_0 (ji14))).bind fun t249 => (shape_steps.l0 k1 (wrap64 (x4_1 * t249)) ji14 y247 l0_0 a0_1)) else (none)) else (none)) = some r := by first | (rw [hji14] at H; exact H) | (simp only [hji14] at H ⊢; exact H)
        have hji14w : (IntKind.i64.wrap (x5_1 - 1)) = ji14 := (i64_w _).trans hji14; by_cases c15 : 0 ≤ (ji14)
        ·rw [if_pos c15] at H; have c15b0 : decide (0 ≤ (ji14)) = true := decide_eq_true c15; clear c15; by_cases c16 : (ji14) < (l0_0.length : Int)
         ·rw [if_pos c16] at H; have c16b0 : decide ((ji14) < (l0_0.length : Int)) = true := decide_eq_true c16; clear c16; replace H := Option.bind_eq_some_iff.mp H; obtain ⟨t249, A170, H⟩ := H; replace H : (shape_steps.l0 k1 (wrap64 (x4_1 * t249)) ji14 y247 l0_0 a0_1) = some r := H; have A17 := zk A170; clear A170; have H' := zk H; clear H; have p13 : 0 ≤ (x5_1 : Int) := zT; have q13 : (x5_1 : Int) < ((x10_1.length : Int) : Int) := zT; obtain ⟨go13, co13, eo13, gb13, gl13, cl13, HG13⟩ := Kd.R_form HO_10.out (by omega)
          (first | cases eo13 | (injection eo13 with ea_ en_ ec_; (first | subst ea_ | (injection ea_ with ea_; subst ea_)); subst ec_; clear en_))
          have GB13 := zk gb13; have GG13 := zk HG13; clear gb13 gl13 HG13; obtain ⟨hx13_0, hf13_0⟩ := Kd.R_celln 0 HO_10.out (x5_1 : Int) p13 q13; replace p13 := eq_true p13; replace q13 := eq_true q13; have HP18 := Kd.R_putg HO_10.out (x5_1 : Int) x4_1; go_wp2_with (first | ((with_reducible refine gate_store (t := 3) (p := 21) rfl ?_); refine store_event (t := 3) (p := 21) (v := ?vo_w19) (w1 := (wr.setCell ⟨go13, (x5_1 : Int).toNat, none⟩ (.int .i64 x4_1))) ?hg ?ho ?hn ?hr ?_; (case ho => rfl); (case hg => rfl); (case hn => rfl); (case hr => first | (go_simp; done) | (go_simp; rfl)); intro w19 hw; have hg : wr.grownBy w19 (some go13) := (by rw [hw]; exact HP18.2); have hp_ : Kd.R (Kd.int .i64) 3 w19 w.heap.size (fun _ => True) (.slice (some ⟨go13, 0, none⟩) x10_1.length co13) y247 := (by rw [hw, Ny247.out]; exact HP18.1); clear HP18; replace BK243 := zk (blk_grown (g := gb243) (o := .cells #[.slice A0_0 l0_0.length c0_0, .int .i64 a0_1] 48 (0, 0)) (zb BK243.out) hg (Kd.R_ne HO_10.out BK243.out (by decide))); replace HO_10 := zk (hp_); replace HB := zk ((by rw [hw]; exact below_set (HB.out) GB13.out : Below w.heap.size w w19));  clear hg hw hp_; have hcz20_0 : w19.cell? ⟨gb243, 0, none⟩ = some (.slice A0_0 l0_0.length c0_0) := zh BK243.out 0; have hcz20_1 : w19.cell? ⟨gb243, 1, none⟩ = some (.int .i64 a0_1) := zh BK243.out 1; have hfz20_0 := blk_frozen BK243.out 0; have hfz20_1 := blk_frozen BK243.out 1; have p248 : 0 ≤ ((ji14) : Int) := zT; have q248 : (ji14) < (l0_0.length : Int) := zT; obtain ⟨ad248, A248_0, c248_0, e248, hx248_0, hl248_0, hi248_0⟩ := at_L3 HR0_0.out (ji14) p248 q248; cases e248; replace hx248_0 := zcl HB.out hx248_0; have HR248_0 := zk hi248_0; have HC248_0 := zk hl248_0; clear hi248_0 hl248_0; replace p248 := eq_true p248; replace q248 := eq_true q248) | ((with_reducible refine gate_callee (f := 52) rfl ?_); refine goesL_ (some 29) rfl rfl Tryz.func52 zz rfl #[.slice A248_0 (rd_L3 l0_0 (ji14)).length c248_0] rfl (by (try simp only [List.map_toArray, List.map_cons, List.map_nil]); first | done | (simp only [hji14]; rfl) | rfl | (simp only [List.length_drop, List.length_take]; rfl)) ?_; (with_reducible refine (spans_Size.calls k1 _ _ (rd_L3 l0_0 (ji14)) t249 _ ?side1 ?side2 A17.out).mono ?_); (case side1 => exact zc (Kd.C_below HR248_0.out HB.out)); (case side2 => exact HC248_0.out); rintro e w21 ⟨rfl, hb⟩; refine ⟨_, rfl, ?_⟩; replace HO_10 := zk (Kd.R_below (zr HO_10.out) hb); replace BK243 := zk (zbb BK243.out hb); replace HB := zs HB hb;  (try clear hb); (try clear hb2); (try clear hk); (try clear hi)))
          go_roundg k1
          case measure => have := HK1.out; omega
          case rel => exact ⟨(wrap64 (x4_1 * t249)), (ji14), (y247), zR, (by first | rfl | (simp; done) | (rw [← hji14_, if_pos (by omega)]; first | done | rfl) | (rw [← hji14_, if_neg (by omega)]; first | done | rfl) | (simp only [← hji14] <;> (first | rfl | simp)) | (simp [*]; done)), H', ⟨by have := HK1.out; omega⟩, ⟨by (with_reducible repeat (first | apply zA | apply zB | apply zC)); exact HO_10.out⟩, ⟨zb BK243.out⟩, ⟨zU HB.out⟩⟩
         ·rw [if_neg c16] at H; cases H
        ·rw [if_neg c15] at H; cases H
       ·rw [if_neg c12] at H; cases H
      ·rw [if_neg c11] at H; cases H
     ·rw [if_neg c10] at H; have c10b0 : decide (0 < x5_1) = false := decide_eq_false c10; clear c10; by_cases c22 : 0 < (x10_1.length : Int)
      ·rw [if_pos c22] at H; have c22b0 : decide (0 < (x10_1.length : Int)) = true := decide_eq_true c22; have c22b1 : decide (0 < x10_1.length) = true := decide_eq_true (by omega); clear c22; obtain ⟨y250, hy250⟩ : ∃ y_ : List Int, y_ = (x10_1.set (0 : Int).toNat x4_1) := ⟨_, rfl⟩
       replace H : (some y250) = some r := by first | (rw [hy250]; with_reducible exact H) | (have H2_ := (Option.bind_some _ _).symm.trans H; rw [hy250]; with_reducible exact H2_) | (have H2_ := (Option.bind_some _ _).symm.trans H; with_reducible exact H2_) | with_reducible exact H | (rw [hy250]; exact H) | exact H
       have Ny250 := zk hy250; clear hy250; obtain rfl := Option.some.inj H; have p23 : 0 ≤ (0 : Int) := (by omega); have q23 : (0 : Int) < ((x10_1.length : Int) : Int) := zT; have qi23 : (0 < x10_1.length) = True := eq_true (by omega); obtain ⟨go23, co23, eo23, gb23, gl23, cl23, HG23⟩ := Kd.R_form HO_10.out (by omega)
       (first | cases eo23 | (injection eo23 with ea_ en_ ec_; (first | subst ea_ | (injection ea_ with ea_; subst ea_)); subst ec_; clear en_))
       have GB23 := zk gb23; have GG23 := zk HG23; clear gb23 gl23 HG23; obtain ⟨hx23_0, hf23_0⟩ := Kd.R_celln 0 HO_10.out (0 : Int) p23 q23; (try rw [show ((0 : Int)).toNat = 0 from rfl] at hx23_0)
       (try simp only [Nat.reduceMul, Nat.zero_mul, Nat.zero_add, Nat.reduceAdd] at hx23_0)
       (try rw [show ((0 : Int)).toNat = 0 from rfl] at hf23_0)
       (try simp only [Nat.reduceMul, Nat.zero_mul, Nat.zero_add, Nat.reduceAdd] at hf23_0)
       replace p23 := eq_true p23; replace q23 := eq_true q23; have HP24 := Kd.R_putg HO_10.out (0 : Int) x4_1; go_wp2_with (first | ((with_reducible refine gate_store (t := 3) (p := 33) rfl ?_); refine store_event (t := 3) (p := 33) (v := ?vo_w25) (w1 := (wr.setCell ⟨go23, (0 : Int).toNat, none⟩ (.int .i64 x4_1))) ?hg ?ho ?hn ?hr ?_; (case ho => rfl); (case hg => rfl); (case hn => rfl); (case hr => first | (go_simp; done) | (go_simp; rfl)); intro w25 hw; have hg : wr.grownBy w25 (some go23) := (by rw [hw]; exact HP24.2); have hp_ : Kd.R (Kd.int .i64) 3 w25 w.heap.size (fun _ => True) (.slice (some ⟨go23, 0, none⟩) x10_1.length co23) y250 := (by rw [hw, Ny250.out]; exact HP24.1); clear HP24; replace BK243 := zk (blk_grown (g := gb243) (o := .cells #[.slice A0_0 l0_0.length c0_0, .int .i64 a0_1] 48 (0, 0)) (zb BK243.out) hg (Kd.R_ne HO_10.out BK243.out (by decide))); replace HO_10 := zk (hp_); replace HB := zk ((by rw [hw]; exact below_set (HB.out) GB23.out : Below w.heap.size w w25));  clear hg hw hp_))
       go_ret
       exact ⟨_, by first | rfl | (simp [errW_none, errW_some] <;> rfl) | (simp only [← hji2]; first | rfl | (simp [errW_none, errW_some] <;> rfl)) | (simp [*, errW_none, errW_some] <;> rfl), by (with_reducible repeat (first | apply zA | apply zB | apply zC)); exact HO_10.out, zU HB.out⟩
      ·rw [if_neg c22] at H; cases H
  ·rw [if_neg c4] at H; cases H
 ·rw [if_neg c3] at H; cases H
def shape_Count.f (k : Nat) (l0_0 : List (List (S69))) (a0_1 : Int) : Option (Int) := (shape_Valid.f k l0_0 a0_1).bind fun t252 => (if t252 = true then ((shape_steps.f k l0_0 a0_1).bind fun t253 => (if 0 < (t253.length : Int) then (some (rd t253 0)) else (none))) else (some 0))
theorem shape_Count.mono : ∀ a0 a1 k, LeO (shape_Count.f k a0 a1) (shape_Count.f (k + 1) a0 a1) := by
 intro a0 a1 k; unfold shape_Count.f; repeat' first
  | (with_reducible exact shape_Valid.mono _ _ _)
  | (with_reducible exact shape_steps.mono _ _ _)
  | (with_reducible exact LeO.refl _)
  | (with_reducible exact LeO.none _)
  | (with_reducible refine LeO.ite ?_ ?_)
  | (with_reducible refine LeO.bind ?_ (fun _ => ?_))
  | exact shape_Valid.mono _ _ _
  | exact shape_steps.mono _ _ _
  | exact LeO.none _
  | refine LeO.ite ?_ ?_
  | refine LeO.bind ?_ (fun _ => ?_)
theorem shape_Count.calls (k : Nat) (A0_0 : Option Addr) (c0_0 : Nat) (l0_0 : List (List (S69))) (a0_1 : Int) (r : Int) (w : World) (hr0_0 : Kd.C (Kd.slice 69 k69) w A0_0 l0_0.length l0_0) (hc0_0 : l0_0.length ≤ c0_0) (h : shape_Count.f k l0_0 a0_1 = some r) :
 Calls Tryz.prog 29 #[.agg #[.slice A0_0 l0_0.length c0_0, .int .i64 a0_1]] w fun e w' => e = .returned (.int .i64 r) ∧ Below w.heap.size w w' := by
 have hu48 := Tryz.underlying48; have HR0_0 := zk hr0_0; have HC0_0 := zk hc0_0; clear hr0_0 hc0_0; have HB := zk (Below.refl w.heap.size w); have H : ((shape_Valid.f k l0_0 a0_1).bind fun t252 => (if t252 = true then ((shape_steps.f k l0_0 a0_1).bind fun t253 => (if 0 < (t253.length : Int) then (some (rd t253 0)) else (none))) else (some 0))) = some r := h; clear h; replace H := Option.bind_eq_some_iff.mp H; obtain ⟨t252, A20, H⟩ := H; replace H : (if t252 = true then ((shape_steps.f k l0_0 a0_1).bind fun t253 => (if 0 < (t253.length : Int) then (some (rd t253 0)) else (none))) else (some 0)) = some r := H; have A2 := zk A20; clear A20; by_cases c3 : t252 = true
 ·subst c3; have H1 : ((shape_steps.f k l0_0 a0_1).bind fun t253 => (if 0 < (t253.length : Int) then (some (rd t253 0)) else (none))) = some r := by rw [if_pos rfl] at H; exact H
  clear H; have H := H1; clear H1; replace H := Option.bind_eq_some_iff.mp H; obtain ⟨t253, A40, H⟩ := H; replace H : (if 0 < (t253.length : Int) then (some (rd t253 0)) else (none)) = some r := H; have A4 := zk A40; clear A40; by_cases c5 : 0 < (t253.length : Int)
  ·rw [if_pos c5] at H; have c5b0 : decide (0 < (t253.length : Int)) = true := decide_eq_true c5; have c5b1 : decide (0 < t253.length) = true := decide_eq_true (by omega); clear c5; obtain rfl := Option.some.inj H; go_enter Tryz.func29, Tryz.ntmps29
   go_wp2_with (first | ((with_reducible refine gate_dst (N := 1) rfl ?_); refine box_event ?hg (N := 1) ?hd (cs := #[.slice A0_0 l0_0.length c0_0, .int .i64 a0_1]) (t := 48) ?hr ?_; (case hd => rfl); (case hg => rfl); (case hr => first | (go_simp; done) | (go_simp; rfl)); intro gb251 hg w6 hbox hb; have BK251 := zk (hbox); have GE251 := zk ((zg hg HB.out : w.heap.size ≤ gb251)); replace HB := zs HB hb;  clear hb hbox hg; have hcz7_0 : w6.cell? ⟨gb251, 0, none⟩ = some (.slice A0_0 l0_0.length c0_0) := zh BK251.out 0; have hcz7_1 : w6.cell? ⟨gb251, 1, none⟩ = some (.int .i64 a0_1) := zh BK251.out 1; have hfz7_0 := blk_frozen BK251.out 0; have hfz7_1 := blk_frozen BK251.out 1) | ((with_reducible refine gate_callee (f := 47) rfl ?_); refine goesL_ (some 4) rfl rfl Tryz.func47 zz rfl #[.agg #[.slice A0_0 l0_0.length c0_0, .int .i64 a0_1]] rfl zM ?_; (with_reducible refine (shape_Valid.calls k (fun k_ => k_ < w.heap.size) _ _ l0_0 a0_1 true _ ?side1 A2.out).mono ?_); (case side1 => exact Kd.V_mk HC0_0.out (Kd.F_below (Kd.C_F (Kd.heap_slice 69 k69_heap) HR0_0.out) (zU HB.out))); rintro e w8 ⟨rfl, hb⟩; refine ⟨_, rfl, ?_⟩; replace BK251 := zk (zbb BK251.out hb); replace HB := zs HB hb;  (try clear hb); (try clear hb2); (try clear hk); (try clear hi); have hcz9_0 : w8.cell? ⟨gb251, 0, none⟩ = some (.slice A0_0 l0_0.length c0_0) := zh BK251.out 0; have hcz9_1 : w8.cell? ⟨gb251, 1, none⟩ = some (.int .i64 a0_1) := zh BK251.out 1; have hfz9_0 := blk_frozen BK251.out 0; have hfz9_1 := blk_frozen BK251.out 1) | ((with_reducible refine gate_callee (f := 48) rfl ?_); refine goesL_ (some 7) rfl rfl Tryz.func48 zz rfl #[.agg #[.slice A0_0 l0_0.length c0_0, .int .i64 a0_1]] rfl zM ?_; (with_reducible refine (shape_steps.calls k _ _ l0_0 a0_1 t253 _ ?side1 ?side2 A4.out).mono ?_); (case side1 => exact zc (Kd.C_below HR0_0.out HB.out)); (case side2 => exact HC0_0.out); rintro e w10 ⟨v254, rfl, ho0, hb⟩; refine ⟨_, rfl, ?_⟩; have HO255 := zk (Kd.R_lower ho0 (below_size (zU HB.out))); replace BK251 := zk (zbb BK251.out hb); replace HB := zs HB hb;  (try clear hb); (try clear hb2); (try clear hk); (try clear hi); (try clear ho0); obtain ⟨Ao11, co11, eo11⟩ := Kd.R_slice HO255.out; subst eo11; have p256 : 0 ≤ (0 : Int) := (by omega); have q256 : 0 < (t253.length : Int) := zT; obtain ⟨ad256, e256, hx256_0⟩ := Kd.at_int (Kd.R_reads' HO255.out).2.2 0 p256 q256; cases e256; have qi256 : (0 < t253.length) = True := eq_true (by omega); (try rw [show ((0 : Int)).toNat = 0 from rfl] at hx256_0); (try rw [Addr.add_zero'] at hx256_0); replace p256 := eq_true p256; replace q256 := eq_true q256))
   go_ret
   exact ⟨ze, zU HB.out⟩
  ·rw [if_neg c5] at H; cases H
 ·replace c3 := Bool.eq_false_iff.mpr c3; subst c3; have H1 : (some 0) = some r := by rw [if_neg (show ¬ (false = true) by decide)] at H; exact H
  clear H; have H := H1; clear H1; obtain rfl := Option.some.inj H; go_enter Tryz.func29, Tryz.ntmps29
  go_wp2_with (first | ((with_reducible refine gate_dst (N := 1) rfl ?_); refine box_event ?hg (N := 1) ?hd (cs := #[.slice A0_0 l0_0.length c0_0, .int .i64 a0_1]) (t := 48) ?hr ?_; (case hd => rfl); (case hg => rfl); (case hr => first | (go_simp; done) | (go_simp; rfl)); intro gb251 hg w12 hbox hb; have BK251 := zk (hbox); have GE251 := zk ((zg hg HB.out : w.heap.size ≤ gb251)); replace HB := zs HB hb;  clear hb hbox hg; have hcz13_0 : w12.cell? ⟨gb251, 0, none⟩ = some (.slice A0_0 l0_0.length c0_0) := zh BK251.out 0; have hcz13_1 : w12.cell? ⟨gb251, 1, none⟩ = some (.int .i64 a0_1) := zh BK251.out 1; have hfz13_0 := blk_frozen BK251.out 0; have hfz13_1 := blk_frozen BK251.out 1) | ((with_reducible refine gate_callee (f := 47) rfl ?_); refine goesL_ (some 4) rfl rfl Tryz.func47 zz rfl #[.agg #[.slice A0_0 l0_0.length c0_0, .int .i64 a0_1]] rfl zM ?_; (with_reducible refine (shape_Valid.calls k (fun k_ => k_ < w.heap.size) _ _ l0_0 a0_1 false _ ?side1 A2.out).mono ?_); (case side1 => exact Kd.V_mk HC0_0.out (Kd.F_below (Kd.C_F (Kd.heap_slice 69 k69_heap) HR0_0.out) (zU HB.out))); rintro e w14 ⟨rfl, hb⟩; refine ⟨_, rfl, ?_⟩; replace BK251 := zk (zbb BK251.out hb); replace HB := zs HB hb;  (try clear hb); (try clear hb2); (try clear hk); (try clear hi)))
  go_ret
  exact ⟨ze, zU HB.out⟩
def sets_Select.l0 : Nat → Int → List (S115) → Int → Int → Option (Int × Bool)
 | 0, _, _, _, _ => none
 | k + 1, x1, x10, x11, x12 => if x12 < x11 then (if 0 ≤ x12 then (if x12 < (x10.length : Int) then (if x1 ≤ (wrap64 (((rd_T115 x10 x12).f1) - ((rd_T115 x10 x12).f0))) then (some (wrap64 (((rd_T115 x10 x12).f0) + x1), true)) else (sets_Select.l0 k (wrap64 (x1 - (wrap64 ((wrap64 (((rd_T115 x10 x12).f1) - ((rd_T115 x10 x12).f0))) + 1)))) x10 x11 (wrap64 (x12 + 1)))) else (none)) else (none)) else (some (0, false))
def sets_Select.f (k : Nat) (l0 : List (S115)) (a1 : Int) : Option (Int × Bool) := if a1 < 0 then (some (0, false)) else (sets_Select.l0 k a1 l0 (l0.length : Int) 0)
theorem sets_Select.mono_l : ∀ k, (∀ y0 y1 y2 y3, LeO (sets_Select.l0 k y0 y1 y2 y3) (sets_Select.l0 (k + 1) y0 y1 y2 y3))
 | 0 => fun _ _ _ _ r h => by simp [sets_Select.l0] at h
 | k + 1 => by
  have ih0 := sets_Select.mono_l k
  ·intro y0 y1 y2 y3; unfold sets_Select.l0; repeat' first
   | (with_reducible exact ih0 _ _ _ _)
   | (with_reducible exact LeO.refl _)
   | (with_reducible exact LeO.none _)
   | (with_reducible refine LeO.ite ?_ ?_)
   | (with_reducible refine LeO.bind ?_ (fun _ => ?_))
   | exact ih0 _ _ _ _
   | exact LeO.none _
   | refine LeO.ite ?_ ?_
   | refine LeO.bind ?_ (fun _ => ?_)
theorem sets_Select.mono : ∀ a0 a1 k, LeO (sets_Select.f k a0 a1) (sets_Select.f (k + 1) a0 a1) := by
 intro a0 a1 k; have ih0 := sets_Select.mono_l k; unfold sets_Select.f; repeat' first
  | (with_reducible exact ih0 _ _ _ _)
  | (with_reducible exact LeO.refl _)
  | (with_reducible exact LeO.none _)
  | (with_reducible refine LeO.ite ?_ ?_)
  | (with_reducible refine LeO.bind ?_ (fun _ => ?_))
  | exact ih0 _ _ _ _
  | exact LeO.none _
  | refine LeO.ite ?_ ?_
  | refine LeO.bind ?_ (fun _ => ?_)
theorem sets_Select.calls (k : Nat) (A0 : Option Addr) (c0 : Nat) (l0 : List (S115)) (a1 : Int) (r1 : Int) (r2 : Bool) (w : World) (hr0 : Kd.C k115 w A0 l0.length l0) (hc0 : l0.length ≤ c0) (h : sets_Select.f k l0 a1 = some (r1, r2)) :
 Calls Tryz.prog 77 #[.slice A0 l0.length c0, .int .i64 a1] w fun e w' => e = .returned (.tuple #[.int .i64 r1, .bool r2]) ∧ Below w.heap.size w w' := by
 have hu115 := Tryz.underlying115; have HR0 := zk hr0; have HC0 := zk hc0; clear hr0 hc0; have HB := zk (Below.refl w.heap.size w); have H : (if a1 < 0 then (some (0, false)) else (sets_Select.l0 k a1 l0 (l0.length : Int) 0)) = some (r1, r2) := h; clear h; by_cases c3 : a1 < 0
 ·rw [if_pos c3] at H; have c3b0 : decide (a1 < 0) = true := decide_eq_true c3; clear c3; simp only [Option.some.injEq, Prod.mk.injEq] at H; obtain ⟨rfl, rfl⟩ := H; go_enter Tryz.func77, Tryz.ntmps77
  go_wp2
  go_ret2
  exact ⟨ze, zU HB.out⟩
 ·rw [if_neg c3] at H; have c3b0 : decide (a1 < 0) = false := decide_eq_false c3; clear c3; have H' := zk H; clear H; go_enter Tryz.func77, Tryz.ntmps77
  go_wp2
  go_loopg [1, 12] k (fun kq v1 v12 w' => ∃ (x1_1 : Int) (x12_1 : Int), v1 = .int .i64 x1_1 ∧ v12 = .int .i64 x12_1 ∧ Aside0 (sets_Select.l0 kq x1_1 l0 (l0.length : Int) x12_1 = some (r1, r2)) ∧ Aside0 (kq ≤ k) ∧ Aside0 (Below w.heap.size w w'))
  case atStart => exact ⟨(a1), (0), zR, zR, H', ⟨Nat.le_refl _⟩, ⟨zU HB.out⟩⟩
  case round =>
   clear H'; (try clear p2); (try clear c3); (try clear c3b0); obtain ⟨x1_1, x12_1, rfl, rfl, HA, HK1, HB⟩ := hrel
   cases gk with
   | zero => exact absurd HA.out (by simp [sets_Select.l0])
   | succ k1 =>
    have H := HA.out; clear HA; simp only [sets_Select.l0] at H; by_cases c4 : x12_1 < (l0.length : Int)
    ·rw [if_pos c4] at H; have c4b0 : decide (x12_1 < (l0.length : Int)) = true := decide_eq_true c4; clear c4; by_cases c5 : 0 ≤ x12_1
     ·rw [if_pos c5] at H; have c5b0 : decide (0 ≤ x12_1) = true := decide_eq_true c5; clear c5; by_cases c6 : x12_1 < (l0.length : Int)
      ·rw [if_pos c6] at H; have c6b0 : decide (x12_1 < (l0.length : Int)) = true := decide_eq_true c6; clear c6; by_cases c7 : x1_1 ≤ (wrap64 (((rd_T115 l0 x12_1).f1) - ((rd_T115 l0 x12_1).f0)))
       ·rw [if_pos c7] at H; have c7b0 : decide (x1_1 ≤ (wrap64 (((rd_T115 l0 x12_1).f1) - ((rd_T115 l0 x12_1).f0)))) = true := decide_eq_true c7; clear c7; simp only [Option.some.injEq, Prod.mk.injEq] at H; obtain ⟨rfl, rfl⟩ := H; have p257 : 0 ≤ (x12_1 : Int) := zT; have q257 : x12_1 < (l0.length : Int) := zT; obtain ⟨ad257, e257, hx257_0, hx257_1⟩ := at_T115 HR0.out x12_1 p257 q257; cases e257; replace hx257_0 := zcl HB.out hx257_0; replace hx257_1 := zcl HB.out hx257_1; replace p257 := eq_true p257; replace q257 := eq_true q257; go_wp2_with (first | ((with_reducible refine gate_dst (N := 7) rfl ?_); refine box_event ?hg (N := 7) ?hd (cs := #[.int .i64 0, .int .i64 0]) (t := 115) ?hr ?_; (case hd => rfl); (case hg => rfl); (case hr => first | (go_simp; done) | (go_simp; rfl)); intro gb258 hg w8 hbox hb; have BK258 := zk (hbox); have GE258 := zk ((zg hg HB.out : w.heap.size ≤ gb258)); replace HB := zs HB hb;  clear hb hbox hg; have hcz9_0 : w8.cell? ⟨gb258, 0, none⟩ = some (.int .i64 0) := zh BK258.out 0; have hcz9_1 : w8.cell? ⟨gb258, 1, none⟩ = some (.int .i64 0) := zh BK258.out 1; have hfz9_0 := blk_frozen BK258.out 0; have hfz9_1 := blk_frozen BK258.out 1))
        go_ret2
        exact ⟨ze, zU HB.out⟩
       ·rw [if_neg c7] at H; have c7b0 : decide (x1_1 ≤ (wrap64 (((rd_T115 l0 x12_1).f1) - ((rd_T115 l0 x12_1).f0)))) = false := decide_eq_false c7; clear c7; have H' := zk H; clear H; have p257 : 0 ≤ (x12_1 : Int) := zT; have q257 : x12_1 < (l0.length : Int) := zT; obtain ⟨ad257, e257, hx257_0, hx257_1⟩ := at_T115 HR0.out x12_1 p257 q257; cases e257; replace hx257_0 := zcl HB.out hx257_0; replace hx257_1 := zcl HB.out hx257_1; replace p257 := eq_true p257; replace q257 := eq_true q257; go_wp2_with (first | ((with_reducible refine gate_dst (N := 7) rfl ?_); refine box_event ?hg (N := 7) ?hd (cs := #[.int .i64 0, .int .i64 0]) (t := 115) ?hr ?_; (case hd => rfl); (case hg => rfl); (case hr => first | (go_simp; done) | (go_simp; rfl)); intro gb258 hg w10 hbox hb; have BK258 := zk (hbox); have GE258 := zk ((zg hg HB.out : w.heap.size ≤ gb258)); replace HB := zs HB hb;  clear hb hbox hg; have hcz11_0 : w10.cell? ⟨gb258, 0, none⟩ = some (.int .i64 0) := zh BK258.out 0; have hcz11_1 : w10.cell? ⟨gb258, 1, none⟩ = some (.int .i64 0) := zh BK258.out 1; have hfz11_0 := blk_frozen BK258.out 0; have hfz11_1 := blk_frozen BK258.out 1))
        go_roundg k1
        case measure => have := HK1.out; omega
        case rel => exact ⟨(wrap64 (x1_1 - (wrap64 ((wrap64 (((rd_T115 l0 x12_1).f1) - ((rd_T115 l0 x12_1).f0))) + 1)))), (wrap64 (x12_1 + 1)), zR, zR, H', ⟨by have := HK1.out; omega⟩, ⟨zU HB.out⟩⟩
      ·rw [if_neg c6] at H; cases H
     ·rw [if_neg c5] at H; cases H
    ·rw [if_neg c4] at H; have c4b0 : decide (x12_1 < (l0.length : Int)) = false := decide_eq_false c4; clear c4; simp only [Option.some.injEq, Prod.mk.injEq] at H; obtain ⟨rfl, rfl⟩ := H; go_wp2
     go_ret2
     exact ⟨ze, zU HB.out⟩
def spans_Select.f (k : Nat) (l0 : List (S69)) (a1 : Int) : Option (Int × Bool) := (spans_set.f k l0).bind fun t259 => ((sets_Select.f k t259 a1).bind fun bt262 => (some (bt262.1, bt262.2)))
theorem spans_Select.mono : ∀ a0 a1 k, LeO (spans_Select.f k a0 a1) (spans_Select.f (k + 1) a0 a1) := by
 intro a0 a1 k; unfold spans_Select.f; repeat' first
  | (with_reducible exact sets_Select.mono _ _ _)
  | (with_reducible exact spans_set.mono _ _)
  | (with_reducible exact LeO.refl _)
  | (with_reducible exact LeO.none _)
  | (with_reducible refine LeO.ite ?_ ?_)
  | (with_reducible refine LeO.bind ?_ (fun _ => ?_))
  | exact sets_Select.mono _ _ _
  | exact spans_set.mono _ _
  | exact LeO.none _
  | refine LeO.ite ?_ ?_
  | refine LeO.bind ?_ (fun _ => ?_)
theorem spans_Select.calls (k : Nat) (A0 : Option Addr) (c0 : Nat) (l0 : List (S69)) (a1 : Int) (r1 : Int) (r2 : Bool) (w : World) (hr0 : Kd.C k69 w A0 l0.length l0) (hc0 : l0.length ≤ c0) (h : spans_Select.f k l0 a1 = some (r1, r2)) :
 Calls Tryz.prog 49 #[.slice A0 l0.length c0, .int .i64 a1] w fun e w' => e = .returned (.tuple #[.int .i64 r1, .bool r2]) ∧ Below w.heap.size w w' := by
 have HR0 := zk hr0; have HC0 := zk hc0; clear hr0 hc0; have HB := zk (Below.refl w.heap.size w); have H : ((spans_set.f k l0).bind fun t259 => ((sets_Select.f k t259 a1).bind fun bt262 => (some (bt262.1, bt262.2)))) = some (r1, r2) := h; clear h; replace H := Option.bind_eq_some_iff.mp H; obtain ⟨t259, A30, H⟩ := H; replace H : ((sets_Select.f k t259 a1).bind fun bt262 => (some (bt262.1, bt262.2))) = some (r1, r2) := H; have A3 := zk A30; clear A30; replace H := Option.bind_eq_some_iff.mp H; obtain ⟨⟨t262, t263⟩, A40, H⟩ := H; replace H : (some (t262, t263)) = some (r1, r2) := H; have A4 := zk A40; clear A40; simp only [Option.some.injEq, Prod.mk.injEq] at H; obtain ⟨rfl, rfl⟩ := H; go_enter Tryz.func49, Tryz.ntmps49
 go_wp2_with (first | ((with_reducible refine gate_callee (f := 78) rfl ?_); refine goesL_ (some 7) rfl rfl Tryz.func78 zz rfl #[.slice A0 l0.length c0] rfl zM ?_; (with_reducible refine (spans_set.calls k _ _ l0 t259 _ ?side1 ?side2 A3.out).mono ?_); (case side1 => exact zc HR0.out); (case side2 => exact HC0.out); rintro e w5 ⟨v260, rfl, ho0, hb⟩; refine ⟨_, rfl, ?_⟩; have HO261 := zk (Kd.R_lower ho0 (below_size (zU HB.out))); replace HB := zs HB hb;  (try clear hb); (try clear hb2); (try clear hk); (try clear hi); (try clear ho0); obtain ⟨Ao6, co6, eo6⟩ := Kd.R_slice HO261.out; subst eo6) | ((with_reducible refine gate_callee (f := 77) rfl ?_); refine goesL_ (some 9) rfl rfl Tryz.func77 zz rfl #[.slice Ao6 t259.length co6, .int .i64 a1] rfl zM ?_; (with_reducible refine (sets_Select.calls k _ _ t259 a1 t262 t263 _ ?side1 ?side2 A4.out).mono ?_); (case side1 => exact zc (Kd.R_reads' HO261.out).2.2); (case side2 => exact (Kd.R_reads' HO261.out).2.1); rintro e w7 ⟨rfl, hb⟩; refine ⟨_, rfl, ?_⟩; replace HO261 := zk (Kd.R_below (zr HO261.out) hb); replace HB := zs HB hb;  (try clear hb); (try clear hb2); (try clear hk); (try clear hi)))
 go_ret2
 exact ⟨ze, zU HB.out⟩
end Go.Proofs.YtobhclnenffkgaaGreat.B
