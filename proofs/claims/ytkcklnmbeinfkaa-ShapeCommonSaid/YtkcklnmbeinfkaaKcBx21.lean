/- Words and walks of this claim, of the text Bx21. -/
import Derived.Test.YtkcklnmbeinfkaaKcBx0
import Derived.Test.YtkcklnmbeinfkaaKcBx10
import Derived.Test.YtkcklnmbeinfkaaKcBx19
import Derived.Test.YtkcklnmbeinfkaaKcBx20
namespace Go.Proofs.Ytkcklnmbeinfkaa.B
open Go.RowKit Go.Proofs.YtkcklnmbeinfkaaW.PrintWords Go.Proofs.YtkcklnmbeinfkaaW.PrintLast Go.Proofs.YtkcklnmbeinfkaaW.PrintMore
attribute [local go_sem] max2_int min2_int max_two min_two max_three min_three max_four min_four
set_option linter.unusedVariables false
set_option linter.unusedSimpArgs false
def leadtraillaw09_ShapeCommon.f (k : Nat) (l0_0 : List (List (S113))) (a0_1 : Int) (l1_0 : List (List (S113))) (a1_1 : Int) (a2 : Int) : Option (Bool) := (leadtraillaw09_fixed.f k).bind fun t490 => (if t490 = true then ((leadtrailref08_CopyShape.f k l0_0 a0_1).bind fun bt491 => ((leadtrailref08_CopyShape.f k l1_0 a1_1).bind fun bt495 => ((shape_Common.f k bt491.1 bt491.2 bt495.1 bt495.2 a2).bind fun bt499 => ((leadtrailref08_CopyShape.f k l1_0 a1_1).bind fun bt503 => ((leadtrailref08_CopyShape.f k l0_0 a0_1).bind fun bt507 => ((shape_Common.f k bt503.1 bt503.2 bt507.1 bt507.2 a2).bind fun bt511 => ((leadtrailref09_Common.f k l0_0 a0_1 l1_0 a1_1 a2).bind fun bt515 => (if (strOfNums bt499.1).toList = (strOfNums bt515.1).toList then (if (bt499.2 == bt515.2) = true then (if (strOfNums bt511.1).toList = (strOfNums bt515.1).toList then (some (bt511.2 == bt515.2)) else (none)) else (none)) else (none))))))))) else (none))
def leadtraillaw09_ShapeCommon.T3 : Bool × List (List Nat × List Nat) := (true, [([], []), ([0], [0]), ([], []), ([2, 1], [2]), ([], []), ([1, 3, 4, 3], [1, 3, 4]), ([5], [5]), ([6], [6]), ([6], [6]), ([7, 5, 0, 1, 2, 3, 4, 5, 6, 7], [7]), ([8, 9, 0, 1, 2, 3, 4, 5, 6, 7, 8, 9], [8])])
def leadtraillaw09_ShapeCommon.B3 : List Nat := [0, 1, 0, 7, 0, 31, 63, 127, 127, 255, 1023]
theorem leadtraillaw09_ShapeCommon.tab3 : rtab .any (opsOf Try.f9 3) = leadtraillaw09_ShapeCommon.T3 := by kernel_rfl
theorem leadtraillaw09_ShapeCommon.bits3 : waitsOk leadtraillaw09_ShapeCommon.T3.2 leadtraillaw09_ShapeCommon.B3 = true := by kernel_rfl
def leadtraillaw09_ShapeCommon.T4 : Bool × List (List Nat × List Nat) := (true, [([], []), ([0], [0]), ([], []), ([2, 1], [2]), ([], []), ([1, 3, 4, 3], [1, 3, 4]), ([5], [5]), ([6], [6]), ([6], [6]), ([7, 5, 0, 1, 2, 3, 4, 5, 6, 7], [7]), ([8, 9, 0, 1, 2, 3, 4, 5, 6, 7, 8, 9], [8])])
def leadtraillaw09_ShapeCommon.B4 : List Nat := [0, 1, 0, 7, 0, 31, 63, 127, 127, 255, 1023]
theorem leadtraillaw09_ShapeCommon.tab4 : rtab .any (opsOf Try.f9 4) = leadtraillaw09_ShapeCommon.T4 := by kernel_rfl
theorem leadtraillaw09_ShapeCommon.bits4 : waitsOk leadtraillaw09_ShapeCommon.T4.2 leadtraillaw09_ShapeCommon.B4 = true := by kernel_rfl
set_option maxHeartbeats 8000000 in
set_option maxRecDepth 100000 in
theorem leadtraillaw09_ShapeCommon.calls (k : Nat) (A0_0 : Option Addr) (c0_0 : Nat) (l0_0 : List (List (S113))) (a0_1 : Int) (A1_0 : Option Addr) (c1_0 : Nat) (l1_0 : List (List (S113))) (a1_1 : Int) (a2 : Int) (r : Bool) (w : World) (hr0_0 : Kd.C (Kd.slice 113 k113) w A0_0 l0_0.length l0_0) (hc0_0 : l0_0.length ≤ c0_0) (hr1_0 : Kd.C (Kd.slice 113 k113) w A1_0 l1_0.length l1_0) (hc1_0 : l1_0.length ≤ c1_0) (h : leadtraillaw09_ShapeCommon.f k l0_0 a0_1 l1_0 a1_1 a2 = some r) :
    Calls Try.prog 9 #[.agg #[.slice A0_0 l0_0.length c0_0, .int .i64 a0_1], .agg #[.slice A1_0 l1_0.length c1_0, .int .i64 a1_1], .int .i64 a2] w fun e w' => e = .returned (.bool r) ∧ Below w.heap.size w w' := by
  have hu50 := Try.underlying50
  have HR0_0 := Aside0.mk hr0_0
  have HC0_0 := Aside0.mk hc0_0
  clear hr0_0 hc0_0
  have HR1_0 := Aside0.mk hr1_0
  have HC1_0 := Aside0.mk hc1_0
  clear hr1_0 hc1_0
  have HB := Aside0.mk (Below.refl w.heap.size w)
  have H : ((leadtraillaw09_fixed.f k).bind fun t490 => (if t490 = true then ((leadtrailref08_CopyShape.f k l0_0 a0_1).bind fun bt491 => ((leadtrailref08_CopyShape.f k l1_0 a1_1).bind fun bt495 => ((shape_Common.f k bt491.1 bt491.2 bt495.1 bt495.2 a2).bind fun bt499 => ((leadtrailref08_CopyShape.f k l1_0 a1_1).bind fun bt503 => ((leadtrailref08_CopyShape.f k l0_0 a0_1).bind fun bt507 => ((shape_Common.f k bt503.1 bt503.2 bt507.1 bt507.2 a2).bind fun bt511 => ((leadtrailref09_Common.f k l0_0 a0_1 l1_0 a1_1 a2).bind fun bt515 => (if (strOfNums bt499.1).toList = (strOfNums bt515.1).toList then (if (bt499.2 == bt515.2) = true then (if (strOfNums bt511.1).toList = (strOfNums bt515.1).toList then (some (bt511.2 == bt515.2)) else (none)) else (none)) else (none))))))))) else (none))) = some r := h
  clear h
  replace H := Option.bind_eq_some_iff.mp H
  obtain ⟨t490, A40, H⟩ := H
  replace H : (if t490 = true then ((leadtrailref08_CopyShape.f k l0_0 a0_1).bind fun bt491 => ((leadtrailref08_CopyShape.f k l1_0 a1_1).bind fun bt495 => ((shape_Common.f k bt491.1 bt491.2 bt495.1 bt495.2 a2).bind fun bt499 => ((leadtrailref08_CopyShape.f k l1_0 a1_1).bind fun bt503 => ((leadtrailref08_CopyShape.f k l0_0 a0_1).bind fun bt507 => ((shape_Common.f k bt503.1 bt503.2 bt507.1 bt507.2 a2).bind fun bt511 => ((leadtrailref09_Common.f k l0_0 a0_1 l1_0 a1_1 a2).bind fun bt515 => (if (strOfNums bt499.1).toList = (strOfNums bt515.1).toList then (if (bt499.2 == bt515.2) = true then (if (strOfNums bt511.1).toList = (strOfNums bt515.1).toList then (some (bt511.2 == bt515.2)) else (none)) else (none)) else (none))))))))) else (none)) = some r := H
  have A4 := Aside0.mk A40
  clear A40
  by_cases c5 : t490 = true
  · subst c5
    have H1 : ((leadtrailref08_CopyShape.f k l0_0 a0_1).bind fun bt491 => ((leadtrailref08_CopyShape.f k l1_0 a1_1).bind fun bt495 => ((shape_Common.f k bt491.1 bt491.2 bt495.1 bt495.2 a2).bind fun bt499 => ((leadtrailref08_CopyShape.f k l1_0 a1_1).bind fun bt503 => ((leadtrailref08_CopyShape.f k l0_0 a0_1).bind fun bt507 => ((shape_Common.f k bt503.1 bt503.2 bt507.1 bt507.2 a2).bind fun bt511 => ((leadtrailref09_Common.f k l0_0 a0_1 l1_0 a1_1 a2).bind fun bt515 => (if (strOfNums bt499.1).toList = (strOfNums bt515.1).toList then (if (bt499.2 == bt515.2) = true then (if (strOfNums bt511.1).toList = (strOfNums bt515.1).toList then (some (bt511.2 == bt515.2)) else (none)) else (none)) else (none))))))))) = some r := by rw [if_pos rfl] at H; exact H
    clear H
    have H := H1
    clear H1
    replace H := Option.bind_eq_some_iff.mp H
    obtain ⟨⟨t491, t494⟩, A60, H⟩ := H
    replace H : ((leadtrailref08_CopyShape.f k l1_0 a1_1).bind fun bt495 => ((shape_Common.f k t491 t494 bt495.1 bt495.2 a2).bind fun bt499 => ((leadtrailref08_CopyShape.f k l1_0 a1_1).bind fun bt503 => ((leadtrailref08_CopyShape.f k l0_0 a0_1).bind fun bt507 => ((shape_Common.f k bt503.1 bt503.2 bt507.1 bt507.2 a2).bind fun bt511 => ((leadtrailref09_Common.f k l0_0 a0_1 l1_0 a1_1 a2).bind fun bt515 => (if (strOfNums bt499.1).toList = (strOfNums bt515.1).toList then (if (bt499.2 == bt515.2) = true then (if (strOfNums bt511.1).toList = (strOfNums bt515.1).toList then (some (bt511.2 == bt515.2)) else (none)) else (none)) else (none)))))))) = some r := H
    have A6 := Aside0.mk A60
    clear A60
    replace H := Option.bind_eq_some_iff.mp H
    obtain ⟨⟨t495, t498⟩, A70, H⟩ := H
    replace H : ((shape_Common.f k t491 t494 t495 t498 a2).bind fun bt499 => ((leadtrailref08_CopyShape.f k l1_0 a1_1).bind fun bt503 => ((leadtrailref08_CopyShape.f k l0_0 a0_1).bind fun bt507 => ((shape_Common.f k bt503.1 bt503.2 bt507.1 bt507.2 a2).bind fun bt511 => ((leadtrailref09_Common.f k l0_0 a0_1 l1_0 a1_1 a2).bind fun bt515 => (if (strOfNums bt499.1).toList = (strOfNums bt515.1).toList then (if (bt499.2 == bt515.2) = true then (if (strOfNums bt511.1).toList = (strOfNums bt515.1).toList then (some (bt511.2 == bt515.2)) else (none)) else (none)) else (none))))))) = some r := H
    have A7 := Aside0.mk A70
    clear A70
    replace H := Option.bind_eq_some_iff.mp H
    obtain ⟨⟨t499, t502⟩, A80, H⟩ := H
    replace H : ((leadtrailref08_CopyShape.f k l1_0 a1_1).bind fun bt503 => ((leadtrailref08_CopyShape.f k l0_0 a0_1).bind fun bt507 => ((shape_Common.f k bt503.1 bt503.2 bt507.1 bt507.2 a2).bind fun bt511 => ((leadtrailref09_Common.f k l0_0 a0_1 l1_0 a1_1 a2).bind fun bt515 => (if (strOfNums t499).toList = (strOfNums bt515.1).toList then (if (t502 == bt515.2) = true then (if (strOfNums bt511.1).toList = (strOfNums bt515.1).toList then (some (bt511.2 == bt515.2)) else (none)) else (none)) else (none)))))) = some r := H
    have A8 := Aside0.mk A80
    clear A80
    replace H := Option.bind_eq_some_iff.mp H
    obtain ⟨⟨t503, t506⟩, A90, H⟩ := H
    replace H : ((leadtrailref08_CopyShape.f k l0_0 a0_1).bind fun bt507 => ((shape_Common.f k t503 t506 bt507.1 bt507.2 a2).bind fun bt511 => ((leadtrailref09_Common.f k l0_0 a0_1 l1_0 a1_1 a2).bind fun bt515 => (if (strOfNums t499).toList = (strOfNums bt515.1).toList then (if (t502 == bt515.2) = true then (if (strOfNums bt511.1).toList = (strOfNums bt515.1).toList then (some (bt511.2 == bt515.2)) else (none)) else (none)) else (none))))) = some r := H
    have A9 := Aside0.mk A90
    clear A90
    replace H := Option.bind_eq_some_iff.mp H
    obtain ⟨⟨t507, t510⟩, A100, H⟩ := H
    replace H : ((shape_Common.f k t503 t506 t507 t510 a2).bind fun bt511 => ((leadtrailref09_Common.f k l0_0 a0_1 l1_0 a1_1 a2).bind fun bt515 => (if (strOfNums t499).toList = (strOfNums bt515.1).toList then (if (t502 == bt515.2) = true then (if (strOfNums bt511.1).toList = (strOfNums bt515.1).toList then (some (bt511.2 == bt515.2)) else (none)) else (none)) else (none)))) = some r := H
    have A10 := Aside0.mk A100
    clear A100
    replace H := Option.bind_eq_some_iff.mp H
    obtain ⟨⟨t511, t514⟩, A110, H⟩ := H
    replace H : ((leadtrailref09_Common.f k l0_0 a0_1 l1_0 a1_1 a2).bind fun bt515 => (if (strOfNums t499).toList = (strOfNums bt515.1).toList then (if (t502 == bt515.2) = true then (if (strOfNums t511).toList = (strOfNums bt515.1).toList then (some (t514 == bt515.2)) else (none)) else (none)) else (none))) = some r := H
    have A11 := Aside0.mk A110
    clear A110
    replace H := Option.bind_eq_some_iff.mp H
    obtain ⟨⟨t515, t518⟩, A120, H⟩ := H
    replace H : (if (strOfNums t499).toList = (strOfNums t515).toList then (if (t502 == t518) = true then (if (strOfNums t511).toList = (strOfNums t515).toList then (some (t514 == t518)) else (none)) else (none)) else (none)) = some r := H
    have A12 := Aside0.mk A120
    clear A120
    by_cases c13 : (strOfNums t499).toList = (strOfNums t515).toList
    · rw [if_pos c13] at H
      have c13b0 : ((strOfNums t499).toList == (strOfNums t515).toList) = true := beq_iff_eq.mpr c13
      have c13b1 : ((strOfNums t499).toList != (strOfNums t515).toList) = false := bne_eq_false_iff_eq.mpr c13
      clear c13
      by_cases c14 : (t502 == t518) = true
      · rw [if_pos c14] at H
        have c14b0 : (t502 == t518) = true := c14
        (try (have c14b1 : decide (t502 = t518) = true := by simpa using c14))
        (try (have c14b2 : (t502 == t518) = true := by simpa using c14))
        clear c14
        by_cases c15 : (strOfNums t511).toList = (strOfNums t515).toList
        · rw [if_pos c15] at H
          have c15b0 : ((strOfNums t511).toList == (strOfNums t515).toList) = true := beq_iff_eq.mpr c15
          have c15b1 : ((strOfNums t511).toList != (strOfNums t515).toList) = false := bne_eq_false_iff_eq.mpr c15
          clear c15
          obtain rfl := Option.some.inj H
          go_enter Try.func9, Try.ntmps9
          try go_wp2_with (first | ((with_reducible refine gate_dst (N := 3) rfl ?_); refine box_event ?hg (N := 3) ?hd (cs := #[.slice A0_0 l0_0.length c0_0, .int .i64 a0_1]) (t := 50) ?hr ?_; (case hd => rfl); (case hg => rfl); (case hr => first | (go_simp; done) | (go_simp; rfl)); intro gb488 hg w16 hbox hb; have n0_ := Aside0.mk (below_step (by repeat (first | (with_reducible first | exact HB.out | apply below_alloc | apply pw_below_drewN | apply below_drew1) | exact HB.out)) hb); have n1_ := Aside0.mk (hbox); have n2_ := Aside0.mk ((by rw [hg]; exact (below_size (by repeat (first | (with_reducible first | exact HB.out | apply below_alloc | apply pw_below_drewN | apply below_drew1) | exact HB.out))) : w.heap.size ≤ gb488)); have n3_ := Aside0.mk ((by rw [hg]; exact (below_size (by repeat (first | (with_reducible first | exact HB.out | apply below_alloc | apply pw_below_drewN | apply below_drew1) | exact HB.out))) : w.heap.size ≤ gb488)); clear HB; have HB := n0_; have BK488 := n1_; have GW488 := n2_; have GE488 := n3_; clear n0_ n1_ n2_ n3_; clear hb hbox hg) | ((with_reducible refine gate_dst (N := 4) rfl ?_); refine box_event ?hg (N := 4) ?hd (cs := #[.slice A1_0 l1_0.length c1_0, .int .i64 a1_1]) (t := 50) ?hr ?_; (case hd => rfl); (case hg => rfl); (case hr => first | (go_simp; done) | (go_simp; rfl)); intro gb489 hg w17 hbox hb; have n0_ := Aside0.mk (blk_below (g := gb488) (o := .cells #[.slice A0_0 l0_0.length c0_0, .int .i64 a0_1] 50 (0, 0)) (by (with_reducible repeat (first | refine blk_drewN ?_ _ | refine blk_drew ?_ | refine blk_alloc ?_ _)); exact BK488.out) hb); have n1_ := Aside0.mk (below_step (by repeat (first | (with_reducible first | exact HB.out | apply below_alloc | apply pw_below_drewN | apply below_drew1 | refine below_set ?_ GE488.out) | exact HB.out)) hb); have n2_ := Aside0.mk (hbox); have n3_ := Aside0.mk ((by rw [hg]; exact (below_size (by repeat (first | (with_reducible first | exact HB.out | apply below_alloc | apply pw_below_drewN | apply below_drew1 | refine below_set ?_ GE488.out) | exact HB.out))) : w.heap.size ≤ gb489)); have n4_ := Aside0.mk ((by rw [hg]; exact (below_size (by repeat (first | (with_reducible first | exact HB.out | apply below_alloc | apply pw_below_drewN | apply below_drew1 | refine below_set ?_ GE488.out) | exact HB.out))) : w.heap.size ≤ gb489)); have n5_ := Aside0.mk ((by rw [hg]; exact Nat.ne_of_lt (blk_lt (g := gb488) (o := .cells #[.slice A0_0 l0_0.length c0_0, .int .i64 a0_1] 50 (0, 0)) (by (with_reducible repeat (first | refine blk_drewN ?_ _ | refine blk_drew ?_ | refine blk_alloc ?_ _)); exact BK488.out)) : gb488 ≠ gb489)); have n6_ := Aside0.mk ((by rw [hg]; exact Nat.ne_of_gt (blk_lt (g := gb488) (o := .cells #[.slice A0_0 l0_0.length c0_0, .int .i64 a0_1] 50 (0, 0)) (by (with_reducible repeat (first | refine blk_drewN ?_ _ | refine blk_drew ?_ | refine blk_alloc ?_ _)); exact BK488.out)) : gb489 ≠ gb488)); clear BK488; clear HB; have BK488 := n0_; have HB := n1_; have BK489 := n2_; have GW489 := n3_; have GE489 := n4_; have NB488_489 := n5_; have NB489_488 := n6_; clear n0_ n1_ n2_ n3_ n4_ n5_ n6_; clear hb hbox hg) | ((with_reducible refine gate_callee (f := 32) rfl ?_); refine goesL_ (some 13) rfl rfl Try.func32 (by kernel_rfl) rfl #[] rfl (by (try simp only [List.map_toArray, List.map_cons, List.map_nil]); first | done | rfl | (simp only [List.length_drop, List.length_take]; rfl)) ?_; (with_reducible refine (leadtraillaw09_fixed.calls k  true _ A4.out).mono ?_); rintro e w18 ⟨rfl, hb⟩; refine ⟨_, rfl, ?_⟩; have n0_ := Aside0.mk (blk_below (g := gb488) (o := .cells #[.slice A0_0 l0_0.length c0_0, .int .i64 a0_1] 50 (0, 0)) (by (with_reducible repeat (first | refine blk_drewN ?_ _ | refine blk_drew ?_ | refine blk_alloc ?_ _)); exact BK488.out) hb); have n1_ := Aside0.mk (blk_below (g := gb489) (o := .cells #[.slice A1_0 l1_0.length c1_0, .int .i64 a1_1] 50 (0, 0)) (by (with_reducible repeat (first | refine blk_drewN ?_ _ | refine blk_drew ?_ | refine blk_alloc ?_ _)); exact BK489.out) hb); have n2_ := Aside0.mk (below_step (by repeat (first | (with_reducible first | exact HB.out | apply below_alloc | apply pw_below_drewN | apply below_drew1 | refine below_set ?_ GE488.out | refine below_set ?_ GE489.out) | exact HB.out)) hb); clear BK488; clear BK489; clear HB; have BK488 := n0_; have BK489 := n1_; have HB := n2_; clear n0_ n1_ n2_; (try clear hb); (try clear hb2); (try clear hk); (try clear hi)))
          have n0_ := Aside0.mk (blk_drew BK488.out)
          have n1_ := Aside0.mk (blk_drew BK489.out)
          have n2_ := Aside0.mk (below_drew1 HB.out)
          clear BK488
          clear BK489
          clear HB
          have BK488 := n0_
          have BK489 := n1_
          have HB := n2_
          clear n0_ n1_ n2_
          refine start_ (n := 11) (S := fun w' => w'.cell? ⟨gb488, 0, none⟩ = some (.slice A0_0 l0_0.length c0_0) ∧ w'.cell? ⟨gb488, 1, none⟩ = some (.int .i64 a0_1) ∧ w'.cell? ⟨gb489, 0, none⟩ = some (.slice A1_0 l1_0.length c1_0) ∧ w'.cell? ⟨gb489, 1, none⟩ = some (.int .i64 a1_1)) (ds := []) #[false, false, false, false, false, false, false, false, false, false, false] (by kernel_rfl) rfl rfl ⟨(blk_cell BK488.out 0).trans rfl, (blk_cell BK488.out 1).trans rfl, (blk_cell BK489.out 0).trans rfl, (blk_cell BK489.out 1).trans rfl⟩ (fun hHeld => ?_); refine with_tabW leadtraillaw09_ShapeCommon.tab3 leadtraillaw09_ShapeCommon.bits3 (fun HT_ HW_ => ?_)
          generalize w18.drew = w19 at BK488 BK489 HB hHeld ⊢
          refine pure_ (i := 4) (N := some 20) (v := ?_) (a' := ?_) #[false, false, false, false, true, false, false, false, false, false, false] rfl rfl (any_of HT_.out (by kernel_rfl)) (fun _ _ _ h => h) (Or.inl ⟨by rfl, ?_⟩) ?_ ?_
          rotate_left
          · intro w'
            go_simp
            with_reducible rfl
          rotate_left
          · simp only [Act.put, List.setIfInBounds_toArray, List.set_cons_zero, List.set_cons_succ, i64_w, i32_w]
            rfl
          refine take_ (i := 0) (N := some 16) (v := ?_) (a' := ?_) #[true, false, false, false, true, false, false, false, false, false, false] rfl rfl (take_ofW HT_.out HW_.out (by kernel_rfl)) (fun _ _ _ h => h) (Or.inl ⟨by rfl, ?_⟩) hHeld ?_ ?_
          rotate_left
          · rintro w' ⟨s0, s1, s2, s3⟩
            go_simp
            with_reducible rfl
          rotate_left
          · simp only [Act.put, List.setIfInBounds_toArray, List.set_cons_zero, List.set_cons_succ, i64_w, i32_w]
            rfl
          refine take_ (i := 2) (N := some 18) (v := ?_) (a' := ?_) #[true, false, true, false, true, false, false, false, false, false, false] rfl rfl (take_ofW HT_.out HW_.out (by kernel_rfl)) (fun _ _ _ h => h) (Or.inl ⟨by rfl, ?_⟩) hHeld ?_ ?_
          rotate_left
          · rintro w' ⟨s0, s1, s2, s3⟩
            go_simp
            with_reducible rfl
          rotate_left
          · simp only [Act.put, List.setIfInBounds_toArray, List.set_cons_zero, List.set_cons_succ, i64_w, i32_w]
            rfl
          refine one_ (i := 1) (N := some 17) #[true, true, true, false, true, false, false, false, false, false, false] rfl rfl (one_of HT_.out (by kernel_rfl)) (by decide) (fun K hK => ?_)
          refine goes_ Try.func48 (by kernel_rfl) rfl #[.agg #[.slice A0_0 l0_0.length c0_0, .int .i64 a0_1]] (by rfl) rfl rfl (by (try simp only [List.map_toArray, List.map_cons, List.map_nil]); first | done | rfl | (simp only [List.length_drop, List.length_take]; rfl)) ?_
          with_reducible refine (leadtrailref08_CopyShape.calls k _ _ l0_0 a0_1 t491 t494 _ ?side1 ?side2 A6.out).mono ?_
          (case side1 => repeat (first | exact (Kd.C_below HR0_0.out HB.out) | (with_reducible refine Kd.C_alloc ?_ _) | (with_reducible refine Kd.C_drewN ?_ _) | (with_reducible refine Kd.C_drew ?_)))
          (case side2 => exact HC0_0.out)
          rintro e w20 ⟨v492, rfl, ho0, hb⟩
          refine ⟨_, rfl, ?_⟩
          have n0_ := Aside0.mk (Kd.S_lower ho0 (below_size (by repeat (first | (with_reducible first | exact HB.out | apply below_alloc | apply pw_below_drewN | apply below_drew1 | refine below_set ?_ GE488.out | refine below_set ?_ GE489.out) | exact HB.out))))
          have n1_ := Aside0.mk (blk_below (g := gb488) (o := .cells #[.slice A0_0 l0_0.length c0_0, .int .i64 a0_1] 50 (0, 0)) (by (with_reducible repeat (first | refine blk_drewN ?_ _ | refine blk_drew ?_ | refine blk_alloc ?_ _)); exact BK488.out) hb)
          have n2_ := Aside0.mk (blk_below (g := gb489) (o := .cells #[.slice A1_0 l1_0.length c1_0, .int .i64 a1_1] 50 (0, 0)) (by (with_reducible repeat (first | refine blk_drewN ?_ _ | refine blk_drew ?_ | refine blk_alloc ?_ _)); exact BK489.out) hb)
          have n3_ := Aside0.mk (below_step (by repeat (first | (with_reducible first | exact HB.out | apply below_alloc | apply pw_below_drewN | apply below_drew1 | refine below_set ?_ GE488.out | refine below_set ?_ GE489.out) | exact HB.out)) hb)
          clear BK488
          clear BK489
          clear HB
          have HO493 := n0_
          have BK488 := n1_
          have BK489 := n2_
          have HB := n3_
          clear n0_ n1_ n2_ n3_
          (try clear hb)
          (try clear hb2)
          (try clear hk)
          (try clear hi)
          (try clear ho0)
          refine hK.out _ _ ⟨(blk_cell BK488.out 0).trans rfl, (blk_cell BK488.out 1).trans rfl, (blk_cell BK489.out 0).trans rfl, (blk_cell BK489.out 1).trans rfl⟩ (fun hHeld => ?_)
          clear hK K
          refine norm_ (a' := ?_) ?_ ?_
          rotate_left
          · show Act.put _ (some 17) _ = _
            simp only [Act.put, List.setIfInBounds_toArray, List.set_cons_zero, List.set_cons_succ, i64_w, i32_w]
            rfl
          refine one_ (i := 3) (N := some 19) #[true, true, true, true, true, false, false, false, false, false, false] rfl rfl (one_of HT_.out (by kernel_rfl)) (by decide) (fun K hK => ?_)
          refine goes_ Try.func48 (by kernel_rfl) rfl #[.agg #[.slice A1_0 l1_0.length c1_0, .int .i64 a1_1]] (by rfl) rfl rfl (by (try simp only [List.map_toArray, List.map_cons, List.map_nil]); first | done | rfl | (simp only [List.length_drop, List.length_take]; rfl)) ?_
          with_reducible refine (leadtrailref08_CopyShape.calls k _ _ l1_0 a1_1 t495 t498 _ ?side1 ?side2 A7.out).mono ?_
          (case side1 => repeat (first | exact (Kd.C_below HR1_0.out HB.out) | (with_reducible refine Kd.C_alloc ?_ _) | (with_reducible refine Kd.C_drewN ?_ _) | (with_reducible refine Kd.C_drew ?_)))
          (case side2 => exact HC1_0.out)
          rintro e w21 ⟨v496, rfl, ho0, hb⟩
          refine ⟨_, rfl, ?_⟩
          have n0_ := Aside0.mk (Kd.S_elder' (by (with_reducible repeat (first | apply Kd.S_alloc | apply Kd.S_drewN | apply Kd.S_drew)); exact HO493.out) (Kd.S_base ho0) hb)
          have n1_ := Aside0.mk (Kd.S_lower (Kd.S_new' ho0 (Kd.S_lt (by (with_reducible repeat (first | apply Kd.S_alloc | apply Kd.S_drewN | apply Kd.S_drew)); exact HO493.out))) (below_size (by repeat (first | (with_reducible first | exact HB.out | apply below_alloc | apply pw_below_drewN | apply below_drew1 | refine below_set ?_ GE488.out | refine below_set ?_ GE489.out) | exact HB.out))))
          have n2_ := Aside0.mk (blk_below (g := gb488) (o := .cells #[.slice A0_0 l0_0.length c0_0, .int .i64 a0_1] 50 (0, 0)) (by (with_reducible repeat (first | refine blk_drewN ?_ _ | refine blk_drew ?_ | refine blk_alloc ?_ _)); exact BK488.out) hb)
          have n3_ := Aside0.mk (blk_below (g := gb489) (o := .cells #[.slice A1_0 l1_0.length c1_0, .int .i64 a1_1] 50 (0, 0)) (by (with_reducible repeat (first | refine blk_drewN ?_ _ | refine blk_drew ?_ | refine blk_alloc ?_ _)); exact BK489.out) hb)
          have n4_ := Aside0.mk (below_step (by repeat (first | (with_reducible first | exact HB.out | apply below_alloc | apply pw_below_drewN | apply below_drew1 | refine below_set ?_ GE488.out | refine below_set ?_ GE489.out) | exact HB.out)) hb)
          clear HO493
          clear BK488
          clear BK489
          clear HB
          have HO493 := n0_
          have HO497 := n1_
          have BK488 := n2_
          have BK489 := n3_
          have HB := n4_
          clear n0_ n1_ n2_ n3_ n4_
          (try clear hb)
          (try clear hb2)
          (try clear hk)
          (try clear hi)
          (try clear ho0)
          obtain ⟨Ao22, co22, eo22⟩ := Kd.S_slice HO493.out
          (first | subst eo22 | (injection eo22 with f1_ f2_ f3_; have f4_ := f1_.symm; have f5_ := f3_.symm; clear f1_ f2_ f3_; subst f4_; subst f5_))
          obtain ⟨Ao23, co23, eo23⟩ := Kd.S_slice HO497.out
          (first | subst eo23 | (injection eo23 with f1_ f2_ f3_; have f4_ := f1_.symm; have f5_ := f3_.symm; clear f1_ f2_ f3_; subst f4_; subst f5_))
          refine hK.out _ _ ⟨(blk_cell BK488.out 0).trans rfl, (blk_cell BK488.out 1).trans rfl, (blk_cell BK489.out 0).trans rfl, (blk_cell BK489.out 1).trans rfl⟩ (fun hHeld => ?_)
          clear hK K
          refine norm_ (a' := ?_) ?_ ?_
          rotate_left
          · show Act.put _ (some 19) _ = _
            simp only [Act.put, List.setIfInBounds_toArray, List.set_cons_zero, List.set_cons_succ, i64_w, i32_w]
            rfl
          refine one_ (i := 5) (N := some 21) #[true, true, true, true, true, true, false, false, false, false, false] rfl rfl (one_of HT_.out (by kernel_rfl)) (by decide) (fun K hK => ?_)
          refine goes_ Try.func57 (by kernel_rfl) rfl #[.agg #[.slice Ao22 t491.length co22, .int .i64 t494], .agg #[.slice Ao23 t495.length co23, .int .i64 t498], .int .i64 a2] (by rfl) rfl rfl (by (try simp only [List.map_toArray, List.map_cons, List.map_nil]); first | done | rfl | (simp only [List.length_drop, List.length_take]; rfl)) ?_
          with_reducible refine (shape_Common.calls k _ _ t491 t494 _ _ t495 t498 a2 t499 t502 _ ?side1 ?side2 ?side3 ?side4 A8.out).mono ?_
          (case side1 => repeat (first | exact (Kd.S_reads' HO493.out).2.2 | (with_reducible refine Kd.C_alloc ?_ _) | (with_reducible refine Kd.C_drewN ?_ _) | (with_reducible refine Kd.C_drew ?_)))
          (case side2 => exact (Kd.S_reads' HO493.out).2.1)
          (case side3 => repeat (first | exact (Kd.S_reads' HO497.out).2.2 | (with_reducible refine Kd.C_alloc ?_ _) | (with_reducible refine Kd.C_drewN ?_ _) | (with_reducible refine Kd.C_drew ?_)))
          (case side4 => exact (Kd.S_reads' HO497.out).2.1)
          rintro e w24 ⟨v500, rfl, ho0, hb⟩
          refine ⟨_, rfl, ?_⟩
          have n0_ := Aside0.mk (Kd.S_below (by (with_reducible repeat (first | apply Kd.S_alloc | apply Kd.S_drewN | apply Kd.S_drew)); exact HO493.out) hb)
          have n1_ := Aside0.mk (Kd.S_below (by (with_reducible repeat (first | apply Kd.S_alloc | apply Kd.S_drewN | apply Kd.S_drew)); exact HO497.out) hb)
          have n2_ := Aside0.mk (Kd.R_lower ho0 (below_size (by repeat (first | (with_reducible first | exact HB.out | apply below_alloc | apply pw_below_drewN | apply below_drew1 | refine below_set ?_ GE488.out | refine below_set ?_ GE489.out) | exact HB.out))))
          have n3_ := Aside0.mk (blk_below (g := gb488) (o := .cells #[.slice A0_0 l0_0.length c0_0, .int .i64 a0_1] 50 (0, 0)) (by (with_reducible repeat (first | refine blk_drewN ?_ _ | refine blk_drew ?_ | refine blk_alloc ?_ _)); exact BK488.out) hb)
          have n4_ := Aside0.mk (blk_below (g := gb489) (o := .cells #[.slice A1_0 l1_0.length c1_0, .int .i64 a1_1] 50 (0, 0)) (by (with_reducible repeat (first | refine blk_drewN ?_ _ | refine blk_drew ?_ | refine blk_alloc ?_ _)); exact BK489.out) hb)
          have n5_ := Aside0.mk (below_step (by repeat (first | (with_reducible first | exact HB.out | apply below_alloc | apply pw_below_drewN | apply below_drew1 | refine below_set ?_ GE488.out | refine below_set ?_ GE489.out) | exact HB.out)) hb)
          clear HO493
          clear HO497
          clear BK488
          clear BK489
          clear HB
          have HO493 := n0_
          have HO497 := n1_
          have HO501 := n2_
          have BK488 := n3_
          have BK489 := n4_
          have HB := n5_
          clear n0_ n1_ n2_ n3_ n4_ n5_
          (try clear hb)
          (try clear hb2)
          (try clear hk)
          (try clear hi)
          (try clear ho0)
          refine hK.out _ _ ⟨(blk_cell BK488.out 0).trans rfl, (blk_cell BK488.out 1).trans rfl, (blk_cell BK489.out 0).trans rfl, (blk_cell BK489.out 1).trans rfl⟩ (fun hHeld => ?_)
          clear hK K
          refine norm_ (a' := ?_) ?_ ?_
          rotate_left
          · show Act.put _ (some 21) _ = _
            simp only [Act.put, List.setIfInBounds_toArray, List.set_cons_zero, List.set_cons_succ, i64_w, i32_w]
            rfl
          refine pure_ (i := 6) (N := some 15) (v := ?_) (a' := ?_) #[true, true, true, true, true, true, true, false, false, false, false] rfl rfl (any_of HT_.out (by kernel_rfl)) (fun _ _ _ h => h) (Or.inl ⟨by rfl, ?_⟩) ?_ ?_
          rotate_left
          · intro w'
            go_simp
            with_reducible rfl
          rotate_left
          · simp only [Act.put, List.setIfInBounds_toArray, List.set_cons_zero, List.set_cons_succ, i64_w, i32_w]
            rfl
          refine pure_ (i := 7) (N := some 22) (v := ?_) (a' := ?_) #[true, true, true, true, true, true, true, true, false, false, false] rfl rfl (any_of HT_.out (by kernel_rfl)) (fun _ _ _ h => h) (Or.inl ⟨by rfl, ?_⟩) ?_ ?_
          rotate_left
          · intro w'
            go_simp
            with_reducible rfl
          rotate_left
          · simp only [Act.put, List.setIfInBounds_toArray, List.set_cons_zero, List.set_cons_succ, i64_w, i32_w]
            rfl
          refine pure_ (i := 8) (N := some 23) (v := ?_) (a' := ?_) #[true, true, true, true, true, true, true, true, true, false, false] rfl rfl (any_of HT_.out (by kernel_rfl)) (fun _ _ _ h => h) (Or.inl ⟨by rfl, ?_⟩) ?_ ?_
          rotate_left
          · intro w'
            go_simp
            with_reducible rfl
          rotate_left
          · simp only [Act.put, List.setIfInBounds_toArray, List.set_cons_zero, List.set_cons_succ, i64_w, i32_w]
            rfl
          refine pure_ (i := 9) (N := some 7) (v := ?_) (a' := ?_) #[true, true, true, true, true, true, true, true, true, true, false] rfl rfl (any_of HT_.out (by kernel_rfl)) (fun _ _ _ h => h) (Or.inl ⟨by rfl, ?_⟩) ?_ ?_
          rotate_left
          · intro w'
            go_simp
            with_reducible rfl
          rotate_left
          · simp only [Act.put, List.setIfInBounds_toArray, List.set_cons_zero, List.set_cons_succ, i64_w, i32_w]
            rfl
          refine pure_ (i := 10) (N := some 8) (v := ?_) (a' := ?_) #[true, true, true, true, true, true, true, true, true, true, true] rfl rfl (any_of HT_.out (by kernel_rfl)) (fun _ _ _ h => h) (Or.inl ⟨by rfl, ?_⟩) ?_ ?_
          rotate_left
          · intro w'
            go_simp
            with_reducible rfl
          rotate_left
          · simp only [Act.put, List.setIfInBounds_toArray, List.set_cons_zero, List.set_cons_succ, i64_w, i32_w]
            rfl
          refine done_ (done_of HT_.out (by kernel_rfl)) ?_
          try go_wp2
          have n0_ := Aside0.mk (Kd.S_drew HO493.out)
          have n1_ := Aside0.mk (Kd.S_drew HO497.out)
          have n2_ := Aside0.mk (Kd.R_drew HO501.out)
          have n3_ := Aside0.mk (blk_drew BK488.out)
          have n4_ := Aside0.mk (blk_drew BK489.out)
          have n5_ := Aside0.mk (below_drew1 HB.out)
          clear HO493
          clear HO497
          clear HO501
          clear BK488
          clear BK489
          clear HB
          have HO493 := n0_
          have HO497 := n1_
          have HO501 := n2_
          have BK488 := n3_
          have BK489 := n4_
          have HB := n5_
          clear n0_ n1_ n2_ n3_ n4_ n5_
          refine start_ (n := 11) (S := fun w' => w'.cell? ⟨gb489, 0, none⟩ = some (.slice A1_0 l1_0.length c1_0) ∧ w'.cell? ⟨gb489, 1, none⟩ = some (.int .i64 a1_1) ∧ w'.cell? ⟨gb488, 0, none⟩ = some (.slice A0_0 l0_0.length c0_0) ∧ w'.cell? ⟨gb488, 1, none⟩ = some (.int .i64 a0_1)) (ds := []) #[false, false, false, false, false, false, false, false, false, false, false] (by kernel_rfl) rfl rfl ⟨(blk_cell BK489.out 0).trans rfl, (blk_cell BK489.out 1).trans rfl, (blk_cell BK488.out 0).trans rfl, (blk_cell BK488.out 1).trans rfl⟩ (fun hHeld => ?_); refine with_tabW leadtraillaw09_ShapeCommon.tab4 leadtraillaw09_ShapeCommon.bits4 (fun HT_ HW_ => ?_)
          generalize w24.drew = w25 at HO493 HO497 HO501 BK488 BK489 HB hHeld ⊢
          refine pure_ (i := 4) (N := some 29) (v := ?_) (a' := ?_) #[false, false, false, false, true, false, false, false, false, false, false] rfl rfl (any_of HT_.out (by kernel_rfl)) (fun _ _ _ h => h) (Or.inl ⟨by rfl, ?_⟩) ?_ ?_
          rotate_left
          · intro w'
            go_simp
            with_reducible rfl
          rotate_left
          · simp only [Act.put, List.setIfInBounds_toArray, List.set_cons_zero, List.set_cons_succ, i64_w, i32_w]
            rfl
          refine take_ (i := 0) (N := some 25) (v := ?_) (a' := ?_) #[true, false, false, false, true, false, false, false, false, false, false] rfl rfl (take_ofW HT_.out HW_.out (by kernel_rfl)) (fun _ _ _ h => h) (Or.inl ⟨by rfl, ?_⟩) hHeld ?_ ?_
          rotate_left
          · rintro w' ⟨s0, s1, s2, s3⟩
            go_simp
            with_reducible rfl
          rotate_left
          · simp only [Act.put, List.setIfInBounds_toArray, List.set_cons_zero, List.set_cons_succ, i64_w, i32_w]
            rfl
          refine take_ (i := 2) (N := some 27) (v := ?_) (a' := ?_) #[true, false, true, false, true, false, false, false, false, false, false] rfl rfl (take_ofW HT_.out HW_.out (by kernel_rfl)) (fun _ _ _ h => h) (Or.inl ⟨by rfl, ?_⟩) hHeld ?_ ?_
          rotate_left
          · rintro w' ⟨s0, s1, s2, s3⟩
            go_simp
            with_reducible rfl
          rotate_left
          · simp only [Act.put, List.setIfInBounds_toArray, List.set_cons_zero, List.set_cons_succ, i64_w, i32_w]
            rfl
          refine one_ (i := 1) (N := some 26) #[true, true, true, false, true, false, false, false, false, false, false] rfl rfl (one_of HT_.out (by kernel_rfl)) (by decide) (fun K hK => ?_)
          refine goes_ Try.func48 (by kernel_rfl) rfl #[.agg #[.slice A1_0 l1_0.length c1_0, .int .i64 a1_1]] (by rfl) rfl rfl (by (try simp only [List.map_toArray, List.map_cons, List.map_nil]); first | done | rfl | (simp only [List.length_drop, List.length_take]; rfl)) ?_
          with_reducible refine (leadtrailref08_CopyShape.calls k _ _ l1_0 a1_1 t503 t506 _ ?side1 ?side2 A9.out).mono ?_
          (case side1 => repeat (first | exact (Kd.C_below HR1_0.out HB.out) | (with_reducible refine Kd.C_alloc ?_ _) | (with_reducible refine Kd.C_drewN ?_ _) | (with_reducible refine Kd.C_drew ?_)))
          (case side2 => exact HC1_0.out)
          rintro e w26 ⟨v504, rfl, ho0, hb⟩
          refine ⟨_, rfl, ?_⟩
          have n0_ := Aside0.mk (Kd.S_elder' (by (with_reducible repeat (first | apply Kd.S_alloc | apply Kd.S_drewN | apply Kd.S_drew)); exact HO493.out) (Kd.S_base ho0) hb)
          have n1_ := Aside0.mk (Kd.S_elder' (by (with_reducible repeat (first | apply Kd.S_alloc | apply Kd.S_drewN | apply Kd.S_drew)); exact HO497.out) (Kd.S_base ho0) hb)
          have n2_ := Aside0.mk (Kd.R_below (by (with_reducible repeat (first | apply Kd.R_alloc | apply Kd.R_drewN | apply Kd.R_drew)); exact HO501.out) hb)
          have n3_ := Aside0.mk (Kd.S_lower (Kd.S_new' (Kd.S_new' ho0 (Kd.S_lt (by (with_reducible repeat (first | apply Kd.S_alloc | apply Kd.S_drewN | apply Kd.S_drew)); exact HO493.out))) (Kd.S_lt (by (with_reducible repeat (first | apply Kd.S_alloc | apply Kd.S_drewN | apply Kd.S_drew)); exact HO497.out))) (below_size (by repeat (first | (with_reducible first | exact HB.out | apply below_alloc | apply pw_below_drewN | apply below_drew1 | refine below_set ?_ GE488.out | refine below_set ?_ GE489.out) | exact HB.out))))
          have n4_ := Aside0.mk (blk_below (g := gb488) (o := .cells #[.slice A0_0 l0_0.length c0_0, .int .i64 a0_1] 50 (0, 0)) (by (with_reducible repeat (first | refine blk_drewN ?_ _ | refine blk_drew ?_ | refine blk_alloc ?_ _)); exact BK488.out) hb)
          have n5_ := Aside0.mk (blk_below (g := gb489) (o := .cells #[.slice A1_0 l1_0.length c1_0, .int .i64 a1_1] 50 (0, 0)) (by (with_reducible repeat (first | refine blk_drewN ?_ _ | refine blk_drew ?_ | refine blk_alloc ?_ _)); exact BK489.out) hb)
          have n6_ := Aside0.mk (below_step (by repeat (first | (with_reducible first | exact HB.out | apply below_alloc | apply pw_below_drewN | apply below_drew1 | refine below_set ?_ GE488.out | refine below_set ?_ GE489.out) | exact HB.out)) hb)
          clear HO493
          clear HO497
          clear HO501
          clear BK488
          clear BK489
          clear HB
          have HO493 := n0_
          have HO497 := n1_
          have HO501 := n2_
          have HO505 := n3_
          have BK488 := n4_
          have BK489 := n5_
          have HB := n6_
          clear n0_ n1_ n2_ n3_ n4_ n5_ n6_
          (try clear hb)
          (try clear hb2)
          (try clear hk)
          (try clear hi)
          (try clear ho0)
          refine hK.out _ _ ⟨(blk_cell BK489.out 0).trans rfl, (blk_cell BK489.out 1).trans rfl, (blk_cell BK488.out 0).trans rfl, (blk_cell BK488.out 1).trans rfl⟩ (fun hHeld => ?_)
          clear hK K
          refine norm_ (a' := ?_) ?_ ?_
          rotate_left
          · show Act.put _ (some 26) _ = _
            simp only [Act.put, List.setIfInBounds_toArray, List.set_cons_zero, List.set_cons_succ, i64_w, i32_w]
            rfl
          refine one_ (i := 3) (N := some 28) #[true, true, true, true, true, false, false, false, false, false, false] rfl rfl (one_of HT_.out (by kernel_rfl)) (by decide) (fun K hK => ?_)
          refine goes_ Try.func48 (by kernel_rfl) rfl #[.agg #[.slice A0_0 l0_0.length c0_0, .int .i64 a0_1]] (by rfl) rfl rfl (by (try simp only [List.map_toArray, List.map_cons, List.map_nil]); first | done | rfl | (simp only [List.length_drop, List.length_take]; rfl)) ?_
          with_reducible refine (leadtrailref08_CopyShape.calls k _ _ l0_0 a0_1 t507 t510 _ ?side1 ?side2 A10.out).mono ?_
          (case side1 => repeat (first | exact (Kd.C_below HR0_0.out HB.out) | (with_reducible refine Kd.C_alloc ?_ _) | (with_reducible refine Kd.C_drewN ?_ _) | (with_reducible refine Kd.C_drew ?_)))
          (case side2 => exact HC0_0.out)
          rintro e w27 ⟨v508, rfl, ho0, hb⟩
          refine ⟨_, rfl, ?_⟩
          have n0_ := Aside0.mk (Kd.S_elder' (by (with_reducible repeat (first | apply Kd.S_alloc | apply Kd.S_drewN | apply Kd.S_drew)); exact HO493.out) (Kd.S_base ho0) hb)
          have n1_ := Aside0.mk (Kd.S_elder' (by (with_reducible repeat (first | apply Kd.S_alloc | apply Kd.S_drewN | apply Kd.S_drew)); exact HO497.out) (Kd.S_base ho0) hb)
          have n2_ := Aside0.mk (Kd.R_below (by (with_reducible repeat (first | apply Kd.R_alloc | apply Kd.R_drewN | apply Kd.R_drew)); exact HO501.out) hb)
          have n3_ := Aside0.mk (Kd.S_elder' (by (with_reducible repeat (first | apply Kd.S_alloc | apply Kd.S_drewN | apply Kd.S_drew)); exact HO505.out) (Kd.S_base ho0) hb)
          have n4_ := Aside0.mk (Kd.S_lower (Kd.S_new' (Kd.S_new' (Kd.S_new' ho0 (Kd.S_lt (by (with_reducible repeat (first | apply Kd.S_alloc | apply Kd.S_drewN | apply Kd.S_drew)); exact HO493.out))) (Kd.S_lt (by (with_reducible repeat (first | apply Kd.S_alloc | apply Kd.S_drewN | apply Kd.S_drew)); exact HO497.out))) (Kd.S_lt (by (with_reducible repeat (first | apply Kd.S_alloc | apply Kd.S_drewN | apply Kd.S_drew)); exact HO505.out))) (below_size (by repeat (first | (with_reducible first | exact HB.out | apply below_alloc | apply pw_below_drewN | apply below_drew1 | refine below_set ?_ GE488.out | refine below_set ?_ GE489.out) | exact HB.out))))
          have n5_ := Aside0.mk (blk_below (g := gb488) (o := .cells #[.slice A0_0 l0_0.length c0_0, .int .i64 a0_1] 50 (0, 0)) (by (with_reducible repeat (first | refine blk_drewN ?_ _ | refine blk_drew ?_ | refine blk_alloc ?_ _)); exact BK488.out) hb)
          have n6_ := Aside0.mk (blk_below (g := gb489) (o := .cells #[.slice A1_0 l1_0.length c1_0, .int .i64 a1_1] 50 (0, 0)) (by (with_reducible repeat (first | refine blk_drewN ?_ _ | refine blk_drew ?_ | refine blk_alloc ?_ _)); exact BK489.out) hb)
          have n7_ := Aside0.mk (below_step (by repeat (first | (with_reducible first | exact HB.out | apply below_alloc | apply pw_below_drewN | apply below_drew1 | refine below_set ?_ GE488.out | refine below_set ?_ GE489.out) | exact HB.out)) hb)
          clear HO493
          clear HO497
          clear HO501
          clear HO505
          clear BK488
          clear BK489
          clear HB
          have HO493 := n0_
          have HO497 := n1_
          have HO501 := n2_
          have HO505 := n3_
          have HO509 := n4_
          have BK488 := n5_
          have BK489 := n6_
          have HB := n7_
          clear n0_ n1_ n2_ n3_ n4_ n5_ n6_ n7_
          (try clear hb)
          (try clear hb2)
          (try clear hk)
          (try clear hi)
          (try clear ho0)
          obtain ⟨Ao28, co28, eo28⟩ := Kd.S_slice HO505.out
          (first | subst eo28 | (injection eo28 with f1_ f2_ f3_; have f4_ := f1_.symm; have f5_ := f3_.symm; clear f1_ f2_ f3_; subst f4_; subst f5_))
          obtain ⟨Ao29, co29, eo29⟩ := Kd.S_slice HO509.out
          (first | subst eo29 | (injection eo29 with f1_ f2_ f3_; have f4_ := f1_.symm; have f5_ := f3_.symm; clear f1_ f2_ f3_; subst f4_; subst f5_))
          refine hK.out _ _ ⟨(blk_cell BK489.out 0).trans rfl, (blk_cell BK489.out 1).trans rfl, (blk_cell BK488.out 0).trans rfl, (blk_cell BK488.out 1).trans rfl⟩ (fun hHeld => ?_)
          clear hK K
          refine norm_ (a' := ?_) ?_ ?_
          rotate_left
          · show Act.put _ (some 28) _ = _
            simp only [Act.put, List.setIfInBounds_toArray, List.set_cons_zero, List.set_cons_succ, i64_w, i32_w]
            rfl
          refine one_ (i := 5) (N := some 30) #[true, true, true, true, true, true, false, false, false, false, false] rfl rfl (one_of HT_.out (by kernel_rfl)) (by decide) (fun K hK => ?_)
          refine goes_ Try.func57 (by kernel_rfl) rfl #[.agg #[.slice Ao28 t503.length co28, .int .i64 t506], .agg #[.slice Ao29 t507.length co29, .int .i64 t510], .int .i64 a2] (by rfl) rfl rfl (by (try simp only [List.map_toArray, List.map_cons, List.map_nil]); first | done | rfl | (simp only [List.length_drop, List.length_take]; rfl)) ?_
          with_reducible refine (shape_Common.calls k _ _ t503 t506 _ _ t507 t510 a2 t511 t514 _ ?side1 ?side2 ?side3 ?side4 A11.out).mono ?_
          (case side1 => repeat (first | exact (Kd.S_reads' HO505.out).2.2 | (with_reducible refine Kd.C_alloc ?_ _) | (with_reducible refine Kd.C_drewN ?_ _) | (with_reducible refine Kd.C_drew ?_)))
          (case side2 => exact (Kd.S_reads' HO505.out).2.1)
          (case side3 => repeat (first | exact (Kd.S_reads' HO509.out).2.2 | (with_reducible refine Kd.C_alloc ?_ _) | (with_reducible refine Kd.C_drewN ?_ _) | (with_reducible refine Kd.C_drew ?_)))
          (case side4 => exact (Kd.S_reads' HO509.out).2.1)
          rintro e w30 ⟨v512, rfl, ho0, hb⟩
          refine ⟨_, rfl, ?_⟩
          have n0_ := Aside0.mk (Kd.S_below (by (with_reducible repeat (first | apply Kd.S_alloc | apply Kd.S_drewN | apply Kd.S_drew)); exact HO493.out) hb)
          have n1_ := Aside0.mk (Kd.S_below (by (with_reducible repeat (first | apply Kd.S_alloc | apply Kd.S_drewN | apply Kd.S_drew)); exact HO497.out) hb)
          have n2_ := Aside0.mk (Kd.R_elder' (by (with_reducible repeat (first | apply Kd.R_alloc | apply Kd.R_drewN | apply Kd.R_drew)); exact HO501.out) (Kd.R_base ho0) hb)
          have n3_ := Aside0.mk (Kd.S_below (by (with_reducible repeat (first | apply Kd.S_alloc | apply Kd.S_drewN | apply Kd.S_drew)); exact HO505.out) hb)
          have n4_ := Aside0.mk (Kd.S_below (by (with_reducible repeat (first | apply Kd.S_alloc | apply Kd.S_drewN | apply Kd.S_drew)); exact HO509.out) hb)
          have n5_ := Aside0.mk (Kd.R_lower (Kd.R_new' ho0 (Kd.R_lt (by (with_reducible repeat (first | apply Kd.R_alloc | apply Kd.R_drewN | apply Kd.R_drew)); exact HO501.out))) (below_size (by repeat (first | (with_reducible first | exact HB.out | apply below_alloc | apply pw_below_drewN | apply below_drew1 | refine below_set ?_ GE488.out | refine below_set ?_ GE489.out) | exact HB.out))))
          have n6_ := Aside0.mk (blk_below (g := gb488) (o := .cells #[.slice A0_0 l0_0.length c0_0, .int .i64 a0_1] 50 (0, 0)) (by (with_reducible repeat (first | refine blk_drewN ?_ _ | refine blk_drew ?_ | refine blk_alloc ?_ _)); exact BK488.out) hb)
          have n7_ := Aside0.mk (blk_below (g := gb489) (o := .cells #[.slice A1_0 l1_0.length c1_0, .int .i64 a1_1] 50 (0, 0)) (by (with_reducible repeat (first | refine blk_drewN ?_ _ | refine blk_drew ?_ | refine blk_alloc ?_ _)); exact BK489.out) hb)
          have n8_ := Aside0.mk (below_step (by repeat (first | (with_reducible first | exact HB.out | apply below_alloc | apply pw_below_drewN | apply below_drew1 | refine below_set ?_ GE488.out | refine below_set ?_ GE489.out) | exact HB.out)) hb)
          clear HO493
          clear HO497
          clear HO501
          clear HO505
          clear HO509
          clear BK488
          clear BK489
          clear HB
          have HO493 := n0_
          have HO497 := n1_
          have HO501 := n2_
          have HO505 := n3_
          have HO509 := n4_
          have HO513 := n5_
          have BK488 := n6_
          have BK489 := n7_
          have HB := n8_
          clear n0_ n1_ n2_ n3_ n4_ n5_ n6_ n7_ n8_
          (try clear hb)
          (try clear hb2)
          (try clear hk)
          (try clear hi)
          (try clear ho0)
          refine hK.out _ _ ⟨(blk_cell BK489.out 0).trans rfl, (blk_cell BK489.out 1).trans rfl, (blk_cell BK488.out 0).trans rfl, (blk_cell BK488.out 1).trans rfl⟩ (fun hHeld => ?_)
          clear hK K
          refine norm_ (a' := ?_) ?_ ?_
          rotate_left
          · show Act.put _ (some 30) _ = _
            simp only [Act.put, List.setIfInBounds_toArray, List.set_cons_zero, List.set_cons_succ, i64_w, i32_w]
            rfl
          refine pure_ (i := 6) (N := some 24) (v := ?_) (a' := ?_) #[true, true, true, true, true, true, true, false, false, false, false] rfl rfl (any_of HT_.out (by kernel_rfl)) (fun _ _ _ h => h) (Or.inl ⟨by rfl, ?_⟩) ?_ ?_
          rotate_left
          · intro w'
            go_simp
            with_reducible rfl
          rotate_left
          · simp only [Act.put, List.setIfInBounds_toArray, List.set_cons_zero, List.set_cons_succ, i64_w, i32_w]
            rfl
          refine pure_ (i := 7) (N := some 31) (v := ?_) (a' := ?_) #[true, true, true, true, true, true, true, true, false, false, false] rfl rfl (any_of HT_.out (by kernel_rfl)) (fun _ _ _ h => h) (Or.inl ⟨by rfl, ?_⟩) ?_ ?_
          rotate_left
          · intro w'
            go_simp
            with_reducible rfl
          rotate_left
          · simp only [Act.put, List.setIfInBounds_toArray, List.set_cons_zero, List.set_cons_succ, i64_w, i32_w]
            rfl
          refine pure_ (i := 8) (N := some 32) (v := ?_) (a' := ?_) #[true, true, true, true, true, true, true, true, true, false, false] rfl rfl (any_of HT_.out (by kernel_rfl)) (fun _ _ _ h => h) (Or.inl ⟨by rfl, ?_⟩) ?_ ?_
          rotate_left
          · intro w'
            go_simp
            with_reducible rfl
          rotate_left
          · simp only [Act.put, List.setIfInBounds_toArray, List.set_cons_zero, List.set_cons_succ, i64_w, i32_w]
            rfl
          refine pure_ (i := 9) (N := some 9) (v := ?_) (a' := ?_) #[true, true, true, true, true, true, true, true, true, true, false] rfl rfl (any_of HT_.out (by kernel_rfl)) (fun _ _ _ h => h) (Or.inl ⟨by rfl, ?_⟩) ?_ ?_
          rotate_left
          · intro w'
            go_simp
            with_reducible rfl
          rotate_left
          · simp only [Act.put, List.setIfInBounds_toArray, List.set_cons_zero, List.set_cons_succ, i64_w, i32_w]
            rfl
          refine pure_ (i := 10) (N := some 10) (v := ?_) (a' := ?_) #[true, true, true, true, true, true, true, true, true, true, true] rfl rfl (any_of HT_.out (by kernel_rfl)) (fun _ _ _ h => h) (Or.inl ⟨by rfl, ?_⟩) ?_ ?_
          rotate_left
          · intro w'
            go_simp
            with_reducible rfl
          rotate_left
          · simp only [Act.put, List.setIfInBounds_toArray, List.set_cons_zero, List.set_cons_succ, i64_w, i32_w]
            rfl
          refine done_ (done_of HT_.out (by kernel_rfl)) ?_
          have hnb31 := NB488_489.out
          have hnc31 := NB489_488.out
          have hcz32_0 : w30.cell? ⟨gb488, 0, none⟩ = some (.slice A0_0 l0_0.length c0_0) := (blk_cell BK488.out 0).trans rfl
          have hcz32_1 : w30.cell? ⟨gb488, 1, none⟩ = some (.int .i64 a0_1) := (blk_cell BK488.out 1).trans rfl
          have hfz32_0 := blk_frozen BK488.out 0
          have hfz32_1 := blk_frozen BK488.out 1
          have hcz33_0 : w30.cell? ⟨gb489, 0, none⟩ = some (.slice A1_0 l1_0.length c1_0) := (blk_cell BK489.out 0).trans rfl
          have hcz33_1 : w30.cell? ⟨gb489, 1, none⟩ = some (.int .i64 a1_1) := (blk_cell BK489.out 1).trans rfl
          have hfz33_0 := blk_frozen BK489.out 0
          have hfz33_1 := blk_frozen BK489.out 1
          try go_wp2_with (first | ((with_reducible refine gate_callee (f := 58) rfl ?_); refine goesL_ (some 37) rfl rfl Try.func58 (by kernel_rfl) rfl #[.agg #[.slice A0_0 l0_0.length c0_0, .int .i64 a0_1], .agg #[.slice A1_0 l1_0.length c1_0, .int .i64 a1_1], .int .i64 a2] rfl (by (try simp only [List.map_toArray, List.map_cons, List.map_nil]); first | done | rfl | (simp only [List.length_drop, List.length_take]; rfl)) ?_; (with_reducible refine (leadtrailref09_Common.calls k _ _ l0_0 a0_1 _ _ l1_0 a1_1 a2 t515 t518 _ ?side1 ?side2 ?side3 ?side4 A12.out).mono ?_); (case side1 => repeat (first | exact (Kd.C_below HR0_0.out HB.out) | (with_reducible refine Kd.C_alloc ?_ _) | (with_reducible refine Kd.C_drewN ?_ _) | (with_reducible refine Kd.C_drew ?_))); (case side2 => exact HC0_0.out); (case side3 => repeat (first | exact (Kd.C_below HR1_0.out HB.out) | (with_reducible refine Kd.C_alloc ?_ _) | (with_reducible refine Kd.C_drewN ?_ _) | (with_reducible refine Kd.C_drew ?_))); (case side4 => exact HC1_0.out); rintro e w34 ⟨v516, rfl, ho0, hb⟩; refine ⟨_, rfl, ?_⟩; have n0_ := Aside0.mk (Kd.S_below (by (with_reducible repeat (first | apply Kd.S_alloc | apply Kd.S_drewN | apply Kd.S_drew)); exact HO493.out) hb); have n1_ := Aside0.mk (Kd.S_below (by (with_reducible repeat (first | apply Kd.S_alloc | apply Kd.S_drewN | apply Kd.S_drew)); exact HO497.out) hb); have n2_ := Aside0.mk (Kd.R_elder' (by (with_reducible repeat (first | apply Kd.R_alloc | apply Kd.R_drewN | apply Kd.R_drew)); exact HO501.out) (Kd.R_base ho0) hb); have n3_ := Aside0.mk (Kd.S_below (by (with_reducible repeat (first | apply Kd.S_alloc | apply Kd.S_drewN | apply Kd.S_drew)); exact HO505.out) hb); have n4_ := Aside0.mk (Kd.S_below (by (with_reducible repeat (first | apply Kd.S_alloc | apply Kd.S_drewN | apply Kd.S_drew)); exact HO509.out) hb); have n5_ := Aside0.mk (Kd.R_elder' (by (with_reducible repeat (first | apply Kd.R_alloc | apply Kd.R_drewN | apply Kd.R_drew)); exact HO513.out) (Kd.R_base ho0) hb); have n6_ := Aside0.mk (Kd.R_lower (Kd.R_new' (Kd.R_new' ho0 (Kd.R_lt (by (with_reducible repeat (first | apply Kd.R_alloc | apply Kd.R_drewN | apply Kd.R_drew)); exact HO501.out))) (Kd.R_lt (by (with_reducible repeat (first | apply Kd.R_alloc | apply Kd.R_drewN | apply Kd.R_drew)); exact HO513.out))) (below_size (by repeat (first | (with_reducible first | exact HB.out | apply below_alloc | apply pw_below_drewN | apply below_drew1 | refine below_set ?_ GE488.out | refine below_set ?_ GE489.out) | exact HB.out)))); have n7_ := Aside0.mk (blk_below (g := gb488) (o := .cells #[.slice A0_0 l0_0.length c0_0, .int .i64 a0_1] 50 (0, 0)) (by (with_reducible repeat (first | refine blk_drewN ?_ _ | refine blk_drew ?_ | refine blk_alloc ?_ _)); exact BK488.out) hb); have n8_ := Aside0.mk (blk_below (g := gb489) (o := .cells #[.slice A1_0 l1_0.length c1_0, .int .i64 a1_1] 50 (0, 0)) (by (with_reducible repeat (first | refine blk_drewN ?_ _ | refine blk_drew ?_ | refine blk_alloc ?_ _)); exact BK489.out) hb); have n9_ := Aside0.mk (below_step (by repeat (first | (with_reducible first | exact HB.out | apply below_alloc | apply pw_below_drewN | apply below_drew1 | refine below_set ?_ GE488.out | refine below_set ?_ GE489.out) | exact HB.out)) hb); clear HO493; clear HO497; clear HO501; clear HO505; clear HO509; clear HO513; clear BK488; clear BK489; clear HB; have HO493 := n0_; have HO497 := n1_; have HO501 := n2_; have HO505 := n3_; have HO509 := n4_; have HO513 := n5_; have HO517 := n6_; have BK488 := n7_; have BK489 := n8_; have HB := n9_; clear n0_ n1_ n2_ n3_ n4_ n5_ n6_ n7_ n8_ n9_; (try clear hb); (try clear hb2); (try clear hk); (try clear hi); (try clear ho0); have hcv35 := own_string (P := Try.prog) Try.underlying52 Try.underlying5 Try.underlying9 (Kd.own_of_R HO501.out); have hcv36 := own_string (P := Try.prog) Try.underlying52 Try.underlying5 Try.underlying9 (Kd.own_of_R HO517.out); have hcv37 := own_string (P := Try.prog) Try.underlying52 Try.underlying5 Try.underlying9 (Kd.own_of_R HO513.out); have hcv38 := own_string (P := Try.prog) Try.underlying52 Try.underlying5 Try.underlying9 (Kd.own_of_R HO517.out)))
          go_ret
          exact ⟨by first | rfl | (simp [errW_none, errW_some] <;> rfl) | (simp [*, errW_none, errW_some] <;> rfl), by repeat (first | (with_reducible first | exact HB.out | apply below_alloc | apply pw_below_drewN | apply below_drew1 | refine below_set ?_ GE488.out | refine below_set ?_ GE489.out) | exact HB.out)⟩
        · rw [if_neg c15] at H
          exact absurd H (by simp)
      · rw [if_neg c14] at H
        exact absurd H (by simp)
    · rw [if_neg c13] at H
      exact absurd H (by simp)
  · replace c5 := Bool.eq_false_iff.mpr c5
    subst c5
    have H1 : (none) = some r := by rw [if_neg (show ¬ (false = true) by decide)] at H; exact H
    clear H
    have H := H1
    clear H1
    exact absurd H (by simp)
def leadtrailref08_Copy.T5 : Bool × List (List Nat × List Nat) := (true, [([], []), ([0], [0]), ([], []), ([2], [2]), ([], []), ([3, 4], [3, 4]), ([5], [5]), ([6], [6]), ([7], [7]), ([1, 8, 7], [1, 8]), ([0, 1, 2, 3, 4, 5, 6, 7, 8, 9], []), ([10, 9, 9, 0, 1, 2, 3, 4, 5, 6, 7, 8, 9], [9, 10])])
def leadtrailref08_Copy.B5 : List Nat := [0, 1, 0, 4, 0, 28, 60, 124, 252, 511, 1023, 2047]
theorem leadtrailref08_Copy.tab5 : rtab .any (opsOf Try.f20 5) = leadtrailref08_Copy.T5 := by kernel_rfl
theorem leadtrailref08_Copy.bits5 : waitsOk leadtrailref08_Copy.T5.2 leadtrailref08_Copy.B5 = true := by kernel_rfl
end Go.Proofs.Ytkcklnmbeinfkaa.B
