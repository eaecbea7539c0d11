/- Words and walks of this claim, of the text Bx4. -/
import Derived.Test.YtobhclnenffkgaaGreatKaQW0
import Derived.Test.YtobhclnenffkgaaGreatKaBx0
import Derived.Test.YtobhclnenffkgaaGreatKaBx2
import Derived.Test.YtobhclnenffkgaaGreatKaBx3
namespace Go.Proofs.YtobhclnenffkgaaGreat.B
open Go.RowKit Go.Proofs.YtobhclnenffkgaaGreatW.PrintWords Go.Proofs.YtobhclnenffkgaaGreatW.PrintLast Go.Proofs.YtobhclnenffkgaaGreatW.PrintMore
set_option maxHeartbeats 8000000
set_option maxRecDepth 100000
attribute [local go_sem] max2_int min2_int max_two min_two max_three min_three max_four min_four
set_option linter.unusedVariables false
set_option linter.unusedSimpArgs false
def scalars_set.f (k : Nat) (l0 : List (S74)) : Option ((List (S115))) := (api_Range.f k l0).bind fun t179 => ((sets_Valid.f k t179 1073741823).bind fun t182 => (if t182 = true then (some t179) else (some ([] : List (S115)))))
theorem scalars_set.mono : ∀ a0 k, LeO (scalars_set.f k a0) (scalars_set.f (k + 1) a0) := by
 intro a0 k; unfold scalars_set.f; repeat' first
  | (with_reducible exact api_Range.mono _ _)
  | (with_reducible exact sets_Valid.mono _ _ _)
  | (with_reducible exact LeO.refl _)
  | (with_reducible exact LeO.none _)
  | (with_reducible refine LeO.ite ?_ ?_)
  | (with_reducible refine LeO.bind ?_ (fun _ => ?_))
  | exact api_Range.mono _ _
  | exact sets_Valid.mono _ _ _
  | exact LeO.none _
  | refine LeO.ite ?_ ?_
  | refine LeO.bind ?_ (fun _ => ?_)
theorem scalars_set.calls (k : Nat) (A0 : Option Addr) (c0 : Nat) (l0 : List (S74)) (r : List (S115)) (w : World) (hr0 : Kd.C k74 w A0 l0.length l0) (hc0 : l0.length ≤ c0) (h : scalars_set.f k l0 = some r) :
 Calls Tryz.prog 55 #[.slice A0 l0.length c0] w fun e w' => ∃ v0_ : Value, e = .returned (v0_) ∧ Kd.R k115 115 w' w.heap.size (fun _ => True) v0_ r ∧ Below w.heap.size w w' := by
 have HR0 := zk hr0; have HC0 := zk hc0; clear hr0 hc0; have HB := zk (Below.refl w.heap.size w); have H : ((api_Range.f k l0).bind fun t179 => ((sets_Valid.f k t179 1073741823).bind fun t182 => (if t182 = true then (some t179) else (some ([] : List (S115)))))) = some r := h; clear h; replace H := Option.bind_eq_some_iff.mp H; obtain ⟨t179, A20, H⟩ := H; replace H : ((sets_Valid.f k t179 1073741823).bind fun t182 => (if t182 = true then (some t179) else (some ([] : List (S115))))) = some r := H; have A2 := zk A20; clear A20; replace H := Option.bind_eq_some_iff.mp H; obtain ⟨t182, A30, H⟩ := H; replace H : (if t182 = true then (some t179) else (some ([] : List (S115)))) = some r := H; have A3 := zk A30; clear A30; by_cases c4 : t182 = true
 ·subst c4; have H1 : (some t179) = some r := by rw [if_pos rfl] at H; exact H
  clear H; have H := H1; clear H1; obtain rfl := Option.some.inj H; go_enter Tryz.func55, Tryz.ntmps55
  go_wp2_with (first | ((with_reducible refine gate_callee (f := 83) rfl ?_); refine goesL_ (some 5) rfl rfl Tryz.func83 zz rfl #[.slice A0 l0.length c0] rfl zM ?_; (with_reducible refine (api_Range.calls k _ _ l0 t179 _ ?side1 ?side2 A2.out).mono ?_); (case side1 => exact zc HR0.out); (case side2 => exact HC0.out); rintro e w5 ⟨v180, rfl, ho0, hb⟩; refine ⟨_, rfl, ?_⟩; have HO181 := zk (Kd.R_lower ho0 (below_size (zU HB.out))); replace HB := zs HB hb;  (try clear hb); (try clear hb2); (try clear hk); (try clear hi); (try clear ho0); obtain ⟨Ao6, co6, eo6⟩ := Kd.R_slice HO181.out; subst eo6) | ((with_reducible refine gate_callee (f := 79) rfl ?_); refine goesL_ (some 7) rfl rfl Tryz.func79 zz rfl #[.slice Ao6 t179.length co6, .int .i64 1073741823] rfl zM ?_; (with_reducible refine (sets_Valid.calls k _ _ t179 1073741823 true _ ?side1 ?side2 A3.out).mono ?_); (case side1 => exact zc (Kd.R_reads' HO181.out).2.2); (case side2 => exact (Kd.R_reads' HO181.out).2.1); rintro e w7 ⟨rfl, hb⟩; refine ⟨_, rfl, ?_⟩; replace HO181 := zk (Kd.R_below (zr HO181.out) hb); replace HB := zs HB hb;  (try clear hb); (try clear hb2); (try clear hk); (try clear hi)))
  go_ret
  exact ⟨_, ze, by (with_reducible repeat (first | apply zA | apply zB | apply zC)); exact HO181.out, zU HB.out⟩
 ·replace c4 := Bool.eq_false_iff.mpr c4; subst c4; have H1 : (some ([] : List (S115))) = some r := by rw [if_neg (show ¬ (false = true) by decide)] at H; exact H
  clear H; have H := H1; clear H1; obtain rfl := Option.some.inj H; go_enter Tryz.func55, Tryz.ntmps55
  go_wp2_with (first | ((with_reducible refine gate_callee (f := 83) rfl ?_); refine goesL_ (some 5) rfl rfl Tryz.func83 zz rfl #[.slice A0 l0.length c0] rfl zM ?_; (with_reducible refine (api_Range.calls k _ _ l0 t179 _ ?side1 ?side2 A2.out).mono ?_); (case side1 => exact zc HR0.out); (case side2 => exact HC0.out); rintro e w8 ⟨v180, rfl, ho0, hb⟩; refine ⟨_, rfl, ?_⟩; have HO181 := zk (Kd.R_lower ho0 (below_size (zU HB.out))); replace HB := zs HB hb;  (try clear hb); (try clear hb2); (try clear hk); (try clear hi); (try clear ho0); obtain ⟨Ao9, co9, eo9⟩ := Kd.R_slice HO181.out; subst eo9) | ((with_reducible refine gate_callee (f := 79) rfl ?_); refine goesL_ (some 7) rfl rfl Tryz.func79 zz rfl #[.slice Ao9 t179.length co9, .int .i64 1073741823] rfl zM ?_; (with_reducible refine (sets_Valid.calls k _ _ t179 1073741823 false _ ?side1 ?side2 A3.out).mono ?_); (case side1 => exact zc (Kd.R_reads' HO181.out).2.2); (case side2 => exact (Kd.R_reads' HO181.out).2.1); rintro e w10 ⟨rfl, hb⟩; refine ⟨_, rfl, ?_⟩; replace HO181 := zk (Kd.R_below (zr HO181.out) hb); replace HB := zs HB hb;  (try clear hb); (try clear hb2); (try clear hk); (try clear hi)))
  go_ret
  exact ⟨_, ze, by first | exact Kd.R_nil _ _ _ _ _ | exact Kd.N_nil _ _ _ _ _ | exact Kd.V_nil _ _ _ _ _ | exact Kd.Q_nil _ _ _ _ _ | exact Kd.S_nil _ _ _ _ _, zU HB.out⟩
def scalars_Meet.f (k : Nat) (l0 : List (S74)) (l1 : List (S74)) : Option ((List (S74))) := (scalars_set.f k l0).bind fun t183 => ((scalars_set.f k l1).bind fun t186 => ((sets_Meet.f k t183 t186).bind fun t189 => ((scalars_back.f k t189).bind fun t192 => (some t192))))
theorem scalars_Meet.mono : ∀ a0 a1 k, LeO (scalars_Meet.f k a0 a1) (scalars_Meet.f (k + 1) a0 a1) := by
 intro a0 a1 k; unfold scalars_Meet.f; repeat' first
  | (with_reducible exact scalars_back.mono _ _)
  | (with_reducible exact scalars_set.mono _ _)
  | (with_reducible exact sets_Meet.mono _ _ _)
  | (with_reducible exact LeO.refl _)
  | (with_reducible exact LeO.none _)
  | (with_reducible refine LeO.ite ?_ ?_)
  | (with_reducible refine LeO.bind ?_ (fun _ => ?_))
  | exact scalars_back.mono _ _
  | exact scalars_set.mono _ _
  | exact sets_Meet.mono _ _ _
  | exact LeO.none _
  | refine LeO.ite ?_ ?_
  | refine LeO.bind ?_ (fun _ => ?_)
theorem scalars_Meet.calls (k : Nat) (A0 : Option Addr) (c0 : Nat) (l0 : List (S74)) (A1 : Option Addr) (c1 : Nat) (l1 : List (S74)) (r : List (S74)) (w : World) (hr0 : Kd.C k74 w A0 l0.length l0) (hc0 : l0.length ≤ c0) (hr1 : Kd.C k74 w A1 l1.length l1) (hc1 : l1.length ≤ c1) (h : scalars_Meet.f k l0 l1 = some r) :
 Calls Tryz.prog 34 #[.slice A0 l0.length c0, .slice A1 l1.length c1] w fun e w' => ∃ v0_ : Value, e = .returned (v0_) ∧ Kd.R k74 74 w' w.heap.size (fun _ => True) v0_ r ∧ Below w.heap.size w w' := by
 have HR0 := zk hr0; have HC0 := zk hc0; clear hr0 hc0; have HR1 := zk hr1; have HC1 := zk hc1; clear hr1 hc1; have HB := zk (Below.refl w.heap.size w); have H : ((scalars_set.f k l0).bind fun t183 => ((scalars_set.f k l1).bind fun t186 => ((sets_Meet.f k t183 t186).bind fun t189 => ((scalars_back.f k t189).bind fun t192 => (some t192))))) = some r := h; clear h; replace H := Option.bind_eq_some_iff.mp H; obtain ⟨t183, A30, H⟩ := H; replace H : ((scalars_set.f k l1).bind fun t186 => ((sets_Meet.f k t183 t186).bind fun t189 => ((scalars_back.f k t189).bind fun t192 => (some t192)))) = some r := H; have A3 := zk A30; clear A30; replace H := Option.bind_eq_some_iff.mp H; obtain ⟨t186, A40, H⟩ := H; replace H : ((sets_Meet.f k t183 t186).bind fun t189 => ((scalars_back.f k t189).bind fun t192 => (some t192))) = some r := H; have A4 := zk A40; clear A40; replace H := Option.bind_eq_some_iff.mp H; obtain ⟨t189, A50, H⟩ := H; replace H : ((scalars_back.f k t189).bind fun t192 => (some t192)) = some r := H; have A5 := zk A50; clear A50; replace H := Option.bind_eq_some_iff.mp H; obtain ⟨t192, A60, H⟩ := H; replace H : (some t192) = some r := H; have A6 := zk A60; clear A60; obtain rfl := Option.some.inj H; go_enter Tryz.func34, Tryz.ntmps34
 go_wp2_with (first | ((with_reducible refine gate_callee (f := 55) rfl ?_); refine goesL_ (some 6) rfl rfl Tryz.func55 zz rfl #[.slice A0 l0.length c0] rfl zM ?_; (with_reducible refine (scalars_set.calls k _ _ l0 t183 _ ?side1 ?side2 A3.out).mono ?_); (case side1 => exact zc HR0.out); (case side2 => exact HC0.out); rintro e w7 ⟨v184, rfl, ho0, hb⟩; refine ⟨_, rfl, ?_⟩; have HO185 := zk (Kd.R_lower ho0 (below_size (zU HB.out))); replace HB := zs HB hb;  (try clear hb); (try clear hb2); (try clear hk); (try clear hi); (try clear ho0)) | ((with_reducible refine gate_callee (f := 55) rfl ?_); refine goesL_ (some 8) rfl rfl Tryz.func55 zz rfl #[.slice A1 l1.length c1] rfl zM ?_; (with_reducible refine (scalars_set.calls k _ _ l1 t186 _ ?side1 ?side2 A4.out).mono ?_); (case side1 => exact zc (Kd.C_below HR1.out HB.out)); (case side2 => exact HC1.out); rintro e w8 ⟨v187, rfl, ho0, hb⟩; refine ⟨_, rfl, ?_⟩; have HO188 := zk (Kd.R_lower (Kd.R_new' ho0 (Kd.R_lt (zr HO185.out))) (below_size (zU HB.out))); replace HO185 := zk (Kd.R_elder' (zr HO185.out) (Kd.R_base ho0) hb); replace HB := zs HB hb;  (try clear hb); (try clear hb2); (try clear hk); (try clear hi); (try clear ho0); obtain ⟨Ao9, co9, eo9⟩ := Kd.R_slice HO185.out; subst eo9; obtain ⟨Ao10, co10, eo10⟩ := Kd.R_slice HO188.out; subst eo10) | ((with_reducible refine gate_callee (f := 54) rfl ?_); refine goesL_ (some 9) rfl rfl Tryz.func54 zz rfl #[.slice Ao9 t183.length co9, .slice Ao10 t186.length co10] rfl zM ?_; (with_reducible refine (sets_Meet.calls k (fun k_ => some k_ = (.slice Ao9 t183.length co9 : Value).ownBlock) _ _ t183 (fun k_ => some k_ = (.slice Ao10 t186.length co10 : Value).ownBlock) _ _ t186 t189 _ ?side1 ?side2 A5.out).mono ?_); (case side1 => exact Kd.R_V (Kd.R_tight rfl (HO185.out))); (case side2 => exact Kd.R_V (Kd.R_tight rfl (HO188.out))); rintro e w11 ⟨v190, rfl, ho0, hb⟩; refine ⟨_, rfl, ?_⟩; have HO191 := zk (Kd.R_lower (Kd.R_new' (Kd.R_new' (Kd.R_mono (ok' := fun k_ => True) ho0 (fun _ hk_ => trivial)) (Kd.R_lt (zr HO185.out))) (Kd.R_lt (zr HO188.out))) (below_size (zU HB.out))); replace HO185 := zk (Kd.R_elder' (zr HO185.out) (Kd.R_base ho0) hb); replace HO188 := zk (Kd.R_elder' (zr HO188.out) (Kd.R_base ho0) hb); replace HB := zs HB hb;  (try clear hb); (try clear hb2); (try clear hk); (try clear hi); (try clear ho0); obtain ⟨Ao12, co12, eo12⟩ := Kd.R_slice HO191.out; subst eo12) | ((with_reducible refine gate_callee (f := 53) rfl ?_); refine goesL_ (some 10) rfl rfl Tryz.func53 zz rfl #[.slice Ao12 t189.length co12] rfl zM ?_; (with_reducible refine (scalars_back.calls k _ _ t189 t192 _ ?side1 ?side2 A6.out).mono ?_); (case side1 => exact zc (Kd.R_reads' HO191.out).2.2); (case side2 => exact (Kd.R_reads' HO191.out).2.1); rintro e w13 ⟨v193, rfl, ho0, hb⟩; refine ⟨_, rfl, ?_⟩; replace HO185 := zk (Kd.R_below (zr HO185.out) hb); replace HO188 := zk (Kd.R_below (zr HO188.out) hb); replace HO191 := zk (Kd.R_below (zr HO191.out) hb); have HO194 := zk (Kd.R_lower ho0 (below_size (zU HB.out))); replace HB := zs HB hb;  (try clear hb); (try clear hb2); (try clear hk); (try clear hi); (try clear ho0)))
 go_ret
 exact ⟨_, ze, by (with_reducible repeat (first | apply zA | apply zB | apply zC)); exact HO194.out, zU HB.out⟩
def sortRun.enc (x : S115) : List Value := [.int .i64 x.f0, .int .i64 x.f1]
instance : Inhabited S115 := ⟨z115⟩
def sortRun.f (l0 : List (S115)) : Option (List (S115)) := if l0.length < 8796093022208 then some (Go.Sort.pdq (ltOf fun x y : S115 => Lib.compareInt x.f0 y.f0) l0.toArray 0 l0.toArray.size (Lib.bitLen l0.toArray.size) true true).toList else none
theorem sortRun.lt_iff (x y : S115) : ltOf (fun x y : S115 => Lib.compareInt x.f0 y.f0) x y = decide (x.f0 < y.f0) := by
 unfold ltOf Lib.compareInt; by_cases h1 : x.f0 < y.f0
 ·simp [h1]
 ·by_cases h2 : y.f0 < x.f0 <;> simp [h1, h2]
theorem sortRun.swo : Go.Sort.SWO (ltOf fun x y : S115 => Lib.compareInt x.f0 y.f0) where
 irrefl x := by rw [sortRun.lt_iff]; simp
 trans x y z h1 h2 := by rw [sortRun.lt_iff] at *; simp at *; omega
 ntrans x y z h1 h2 := by rw [sortRun.lt_iff] at *; simp at *; omega
theorem sortRun.some_of (l r : List (S115)) (h : sortRun.f l = some r) : l.length < 8796093022208 ∧ some (Go.Sort.pdq (ltOf fun x y : S115 => Lib.compareInt x.f0 y.f0) l.toArray 0 l.toArray.size (Lib.bitLen l.toArray.size) true true).toList = some r := by
 unfold sortRun.f at h; split at h
 ·rename_i hl; exact ⟨hl, h⟩
 ·cases h
theorem sortRun.spec (l r : List (S115)) (h : sortRun.f l = some r) : r.Perm l ∧ r.Pairwise (fun x y => x.f0 ≤ y.f0) := by
 replace h := (sortRun.some_of l r h).2; obtain rfl := Option.some.inj h; have hs := Go.Sort.pdq_sorts _ sortRun.swo l.toArray 0 l.toArray.size (Lib.bitLen l.toArray.size) true true (Nat.zero_le _) (Nat.le_refl _) (Or.inl rfl); generalize Go.Sort.pdq (ltOf fun x y : S115 => Lib.compareInt x.f0 y.f0) l.toArray 0 l.toArray.size (Lib.bitLen l.toArray.size) true true = d at hs ⊢; obtain ⟨⟨hsz, _, hperm⟩, hsorted⟩ := hs; refine ⟨?_, ?_⟩
 ·have e1 : d.extract 0 l.toArray.size = d := by rw [← hsz]; simp
  have e2 : l.toArray.extract 0 l.toArray.size = l.toArray := by simp
  rw [e1, e2] at hperm; simpa using hperm
 ·rw [List.pairwise_iff_getElem]; intro i j hi hj hij; have hj' : j < d.size := by simpa using hj
  have hi' : i < d.size := by simpa using hi
  have := hsorted i j (Nat.zero_le _) hij (by rw [← hsz]; exact hj'); rw [sortRun.lt_iff, getElem!_pos d i hi', getElem!_pos d j hj'] at this; simp at this; simpa using this
set_option maxHeartbeats 1000000 in
theorem sortRun.closure (x y : S115) (W : World) : Calls Tryz.prog 85 #[.agg (sortRun.enc x).toArray, .agg (sortRun.enc y).toArray] W fun e w' => e = .returned (.int .i64 (Lib.compareInt x.f0 y.f0)) ∧ ∃ q os', w' = Go.Sort.grow (W.drewN q) os' := by
 have hcon := fun W' => AnyG.cmp_Compare_int Tryz.cmpInt x.f0 y.f0 W'
 change ∀ W', Calls Tryz.prog 20 _ _ _ at hcon
 show Calls Tryz.prog 85 #[.agg #[.int .i64 x.f0, .int .i64 x.f1], .agg #[.int .i64 y.f0, .int .i64 y.f1]] W _; generalize Lib.compareInt x.f0 y.f0 = r at hcon ⊢; go_enter Tryz.func85, Tryz.ntmps85
 go_wp2_with (go_at_call 20; refine (hcon _).mono ?_; rintro e w' ⟨rfl, rfl⟩)
 go_ret
 exact ⟨rfl, 0, _, by rw [Go.Sort.alloc_eq_grow, Go.Sort.alloc_eq_grow, Go.Sort.grow_grow]; rfl⟩
set_option maxHeartbeats 1000000 in
theorem sortRun.calls (P0_ : Nat → Prop) (u9000_ : Value) (l0 : List (S115)) (r : List (S115)) (w0 w : World) (hB : Below w0.heap.size w0 w) (ho0 : Kd.R k115 115 w w0.heap.size P0_ u9000_ l0) (h : sortRun.f l0 = some r) :
 Calls Tryz.prog 84 #[u9000_, .func (.func 85) #[] #[]] w fun e w' => e = .returned (.tuple #[]) ∧ Kd.R k115 115 w' w0.heap.size (fun k_ => (P0_ k_ ∨ w0.heap.size ≤ k_)) u9000_ r ∧ Below w0.heap.size w0 w' ∧ Kept w w' (fun k_ => P0_ k_) := by
 have hM : ∀ (W : World) (b : Nat) (ok : Nat → Prop) (x : S115) (cs : List Value), k115.M W b ok x cs → cs = sortRun.enc x := fun _ _ _ _ _ h => k115_openM h
 have hM' : ∀ (W : World) (b : Nat) (ok : Nat → Prop) (x : S115), k115.M W b ok x (sortRun.enc x) := fun W b ok x => k115_mkM W b ok x
 have hk : ∀ x : S115, (sortRun.enc x).length = 2 := fun _ => rfl
 have hcell : ∀ x : S115, ∀ v ∈ sortRun.enc x, v.oneCell' = true := fun x v hv => by simp [sortRun.enc] at hv; rcases hv with rfl | rfl <;> rfl
 have hsm := (sortRun.some_of l0 r h).1; have hpm := sortRun.spec l0 r h; replace h := (sortRun.some_of l0 r h).2; obtain ⟨hP, inner, ho, hr⟩ := ho0; have ho' : w.ownsRow w0.heap.size 115 2 u9000_ l0.length inner := ho; have hflat := SortW.flat_of_reps (hM w w0.heap.size _) hk (show Reps _ 2 l0 inner from hr); rcases ho'.2 with ⟨hu, hn⟩ | ⟨g, cap, cur, hu, hg, hh, _, hcap, _⟩
 ·obtain rfl : l0 = [] := List.eq_nil_of_length_eq_zero hn; obtain rfl := Option.some.inj h; subst hu; refine (AnyF.slices_SortFunc_none Tryz.sortRunL none 0 (.func (.func 85) #[] #[]) w).mono ?_; rintro e w' ⟨rfl, rfl⟩; have h0 : Go.Sort.pdq (ltOf fun x y : S115 => Lib.compareInt x.f0 y.f0) ([] : List (S115)).toArray 0 ([] : List (S115)).toArray.size (Lib.bitLen ([] : List (S115)).toArray.size) true true = #[] := by
   have := (Go.Sort.pdq_sorts _ sortRun.swo (#[] : Array (S115)) 0 0 (Lib.bitLen 0) true true (Nat.zero_le _) (Nat.le_refl _) (Or.inl rfl)).1.1; exact Array.eq_empty_of_size_eq_zero this
  rw [h0]; exact ⟨rfl, Kd.R_nil _ _ _ _ _, hB, Kept.refl _ _⟩
 ·subst hu; have hH := SortW.holds_of_own ho' rfl hflat; have hlt : g < w.heap.size := (Array.getElem?_eq_some_iff.1 hh).1; have hsz : l0.toArray.size < 4611686018427387904 := by rw [List.size_toArray]; omega
  have hcon := AnyQ.slices_SortFunc_eq Tryz.sortRunL 2 Tryz.isAgg115 Tryz.sizeOf115 sortRun.enc hk hcell (fun x y : S115 => Lib.compareInt x.f0 y.f0) sortRun.swo 85 #[] g 0 cap l0.toArray w
   (enters_of Tryz.func85 zz rfl) (fun _ _ _ _ x y => sortRun.closure x y _) hH hlt hsz
  have hPg : P0_ g := hP g (by simp [Value.ownBlock]); obtain rfl := Option.some.inj h; refine (show Calls Tryz.prog 84 #[.slice (some ⟨g, 0, none⟩) l0.length cap, .func (.func 85) #[] #[]] w _ from hcon).mono ?_; rintro e w' ⟨rfl, n, os, rfl⟩; generalize Go.Sort.pdq (ltOf fun x y : S115 => Lib.compareInt x.f0 y.f0) l0.toArray 0 l0.toArray.size (Lib.bitLen l0.toArray.size) true true = d at hpm ⊢; have hds : d.size = l0.length := by simpa using hpm.1.length_eq
  refine ⟨rfl, ⟨fun k hk => .inl (hP k hk), (Go.Sort.flatK sortRun.enc 2 d).toList, ?_, ?_⟩, SortW.below_sorted hB hB.size sortRun.enc 2 g n hg d os, SortW.kept_sorted w sortRun.enc 2 g n d os _ hPg⟩
  ·have := SortW.own_sorted (enc := sortRun.enc) ho' n d os hds; rw [show d.toList.length = l0.length by simpa using hds]; exact this
  ·exact SortW.reps_of_flat (enc := sortRun.enc) (k := 2) (fun x => hM' _ _ _ x) hk d.toList
end Go.Proofs.YtobhclnenffkgaaGreat.B
