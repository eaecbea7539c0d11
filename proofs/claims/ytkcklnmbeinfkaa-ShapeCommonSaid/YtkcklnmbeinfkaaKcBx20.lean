/- Words and walks of this claim, of the text Bx20. -/
import Derived.Test.YtkcklnmbeinfkaaKcBx0
import Derived.Test.YtkcklnmbeinfkaaKcBx12
namespace Go.Proofs.Ytkcklnmbeinfkaa.B
open Go.RowKit Go.Proofs.YtkcklnmbeinfkaaW.PrintWords Go.Proofs.YtkcklnmbeinfkaaW.PrintLast Go.Proofs.YtkcklnmbeinfkaaW.PrintMore
attribute [local go_sem] max2_int min2_int max_two min_two max_three min_three max_four min_four
set_option linter.unusedVariables false
set_option linter.unusedSimpArgs false
mutual
def leadtrailref09_Common.j0 : Nat → Int → Bool → List (List (S113)) → Int → List (List (S113)) → Int → Option (List Int × Bool)
  | 0, _, _, _, _, _, _ => none
  | k + 1, x2, x36, x475000, x475001, x476000, x476001 => if x36 = true then (some (([] : List Int), false)) else (leadtrailref09_Common.l0 k x2 ([] : List Int) 0 x475000 x475001 x476000 x476001)
def leadtrailref09_Common.l0 : Nat → Int → List Int → Int → List (List (S113)) → Int → List (List (S113)) → Int → Option (List Int × Bool)
  | 0, _, _, _, _, _, _, _ => none
  | k + 1, x2, x8, x9, x475000, x475001, x476000, x476001 => if x9 < x2 then (leadtrailref09_Common.l1 k x2 x8 x9 0 x475000 x475001 x476000 x476001) else (some (x8, true))
def leadtrailref09_Common.l1 : Nat → Int → List Int → Int → Int → List (List (S113)) → Int → List (List (S113)) → Int → Option (List Int × Bool)
  | 0, _, _, _, _, _, _, _, _ => none
  | k + 1, x2, x8, x9, x10, x475000, x475001, x476000, x476001 => if x10 < 256 then (if 0 ≤ x9 then (if x9 < (x475000.length : Int) then ((leadtrailref03_Has.f k (rd_L4 x475000 x9) x10).bind fun t479 => (if t479 = true then (if x9 < (x476000.length : Int) then ((leadtrailref03_Has.f k (rd_L4 x476000 x9) x10).bind fun t481 => (if t481 = true then (if x10 = 256 then (some (([] : List Int), false)) else (if x8.length < 140737488355328 then (leadtrailref09_Common.l0 k x2 (x8 ++ [(x10) % 256]) (wrap64 (x9 + 1)) x475000 x475001 x476000 x476001) else (none))) else (leadtrailref09_Common.l1 k x2 x8 x9 (wrap64 (x10 + 1)) x475000 x475001 x476000 x476001))) else (none)) else (leadtrailref09_Common.l1 k x2 x8 x9 (wrap64 (x10 + 1)) x475000 x475001 x476000 x476001))) else (none)) else (none)) else (if x10 = 256 then (some (([] : List Int), false)) else (if x8.length < 140737488355328 then (leadtrailref09_Common.l0 k x2 (x8 ++ [(x10) % 256]) (wrap64 (x9 + 1)) x475000 x475001 x476000 x476001) else (none)))
end
def leadtrailref09_Common.f (k : Nat) (l0_0 : List (List (S113))) (a0_1 : Int) (l1_0 : List (List (S113))) (a1_1 : Int) (a2 : Int) : Option (List Int × Bool) := (leadtrailref09_Count.f k l0_0 a0_1).bind fun t476 => (if t476 = 0 then (leadtrailref09_Common.j0 k a2 true l0_0 a0_1 l1_0 a1_1) else ((leadtrailref09_Count.f k l1_0 a1_1).bind fun t477 => (if t477 = 0 then (leadtrailref09_Common.j0 k a2 true l0_0 a0_1 l1_0 a1_1) else (if a2 < 0 then (leadtrailref09_Common.j0 k a2 true l0_0 a0_1 l1_0 a1_1) else (if a2 > (l0_0.length : Int) then (leadtrailref09_Common.j0 k a2 true l0_0 a0_1 l1_0 a1_1) else (leadtrailref09_Common.j0 k a2 (decide (a2 > (l1_0.length : Int))) l0_0 a0_1 l1_0 a1_1))))))
set_option maxHeartbeats 8000000 in
set_option maxRecDepth 100000 in
theorem leadtrailref09_Common.calls (k : Nat) (A0_0 : Option Addr) (c0_0 : Nat) (l0_0 : List (List (S113))) (a0_1 : Int) (A1_0 : Option Addr) (c1_0 : Nat) (l1_0 : List (List (S113))) (a1_1 : Int) (a2 : Int) (r1 : List Int) (r2 : Bool) (w : World) (hr0_0 : Kd.C (Kd.slice 113 k113) w A0_0 l0_0.length l0_0) (hc0_0 : l0_0.length ≤ c0_0) (hr1_0 : Kd.C (Kd.slice 113 k113) w A1_0 l1_0.length l1_0) (hc1_0 : l1_0.length ≤ c1_0) (h : leadtrailref09_Common.f k l0_0 a0_1 l1_0 a1_1 a2 = some (r1, r2)) :
    Calls Try.prog 58 #[.agg #[.slice A0_0 l0_0.length c0_0, .int .i64 a0_1], .agg #[.slice A1_0 l1_0.length c1_0, .int .i64 a1_1], .int .i64 a2] w fun e w' => ∃ v0_ : Value, e = .returned (.tuple #[v0_, .bool r2]) ∧ Kd.R (Kd.int .u8) 5 w' w.heap.size (fun _ => True) v0_ r1 ∧ Below w.heap.size w w' := by
  have hu50 := Try.underlying50
  have HR0_0 := Aside0.mk hr0_0
  have HC0_0 := Aside0.mk hc0_0
  clear hr0_0 hc0_0
  have HR1_0 := Aside0.mk hr1_0
  have HC1_0 := Aside0.mk hc1_0
  clear hr1_0 hc1_0
  have HB := Aside0.mk (Below.refl w.heap.size w)
  have H : ((leadtrailref09_Count.f k l0_0 a0_1).bind fun t476 => (if t476 = 0 then (leadtrailref09_Common.j0 k a2 true l0_0 a0_1 l1_0 a1_1) else ((leadtrailref09_Count.f k l1_0 a1_1).bind fun t477 => (if t477 = 0 then (leadtrailref09_Common.j0 k a2 true l0_0 a0_1 l1_0 a1_1) else (if a2 < 0 then (leadtrailref09_Common.j0 k a2 true l0_0 a0_1 l1_0 a1_1) else (if a2 > (l0_0.length : Int) then (leadtrailref09_Common.j0 k a2 true l0_0 a0_1 l1_0 a1_1) else (leadtrailref09_Common.j0 k a2 (decide (a2 > (l1_0.length : Int))) l0_0 a0_1 l1_0 a1_1))))))) = some (r1, r2) := h
  clear h
  have HC4 := Aside0.mk H
  clear H
  go_enter Try.func58, Try.ntmps58
  go_upto_region 1 with (first | ((with_reducible refine gate_dst (N := 3) rfl ?_); (try (refine gate_guard (by rfl) ?_; dsimp only)); refine box_event ?hg (N := 3) ?hd (cs := #[.slice A0_0 l0_0.length c0_0, .int .i64 a0_1]) (t := 50) ?hr ?_; (case hd => rfl); (case hg => rfl); (case hr => first | (go_simp; done) | (go_simp; rfl)); intro gb474 hg w5 hbox hb; have n0_ := Aside0.mk (below_step (by repeat (first | (with_reducible first | exact HB.out | apply below_alloc | apply pw_below_drewN | apply below_drew1) | exact HB.out)) hb); have n1_ := Aside0.mk (hbox); have n2_ := Aside0.mk ((by rw [hg]; exact (below_size (by repeat (first | (with_reducible first | exact HB.out | apply below_alloc | apply pw_below_drewN | apply below_drew1) | exact HB.out))) : w.heap.size ≤ gb474)); have n3_ := Aside0.mk ((by rw [hg]; exact (below_size (by repeat (first | (with_reducible first | exact HB.out | apply below_alloc | apply pw_below_drewN | apply below_drew1) | exact HB.out))) : w.heap.size ≤ gb474)); clear HB; have HB := n0_; have BK474 := n1_; have GW474 := n2_; have GE474 := n3_; clear n0_ n1_ n2_ n3_; clear hb hbox hg) | ((with_reducible refine gate_dst (N := 4) rfl ?_); (try (refine gate_guard (by rfl) ?_; dsimp only)); refine box_event ?hg (N := 4) ?hd (cs := #[.slice A1_0 l1_0.length c1_0, .int .i64 a1_1]) (t := 50) ?hr ?_; (case hd => rfl); (case hg => rfl); (case hr => first | (go_simp; done) | (go_simp; rfl)); intro gb475 hg w6 hbox hb; have n0_ := Aside0.mk (blk_below (g := gb474) (o := .cells #[.slice A0_0 l0_0.length c0_0, .int .i64 a0_1] 50 (0, 0)) (by (with_reducible repeat (first | refine blk_drewN ?_ _ | refine blk_drew ?_ | refine blk_alloc ?_ _)); exact BK474.out) hb); have n1_ := Aside0.mk (below_step (by repeat (first | (with_reducible first | exact HB.out | apply below_alloc | apply pw_below_drewN | apply below_drew1 | refine below_set ?_ GE474.out) | exact HB.out)) hb); have n2_ := Aside0.mk (hbox); have n3_ := Aside0.mk ((by rw [hg]; exact (below_size (by repeat (first | (with_reducible first | exact HB.out | apply below_alloc | apply pw_below_drewN | apply below_drew1 | refine below_set ?_ GE474.out) | exact HB.out))) : w.heap.size ≤ gb475)); have n4_ := Aside0.mk ((by rw [hg]; exact (below_size (by repeat (first | (with_reducible first | exact HB.out | apply below_alloc | apply pw_below_drewN | apply below_drew1 | refine below_set ?_ GE474.out) | exact HB.out))) : w.heap.size ≤ gb475)); have n5_ := Aside0.mk ((by rw [hg]; exact Nat.ne_of_lt (blk_lt (g := gb474) (o := .cells #[.slice A0_0 l0_0.length c0_0, .int .i64 a0_1] 50 (0, 0)) (by (with_reducible repeat (first | refine blk_drewN ?_ _ | refine blk_drew ?_ | refine blk_alloc ?_ _)); exact BK474.out)) : gb474 ≠ gb475)); have n6_ := Aside0.mk ((by rw [hg]; exact Nat.ne_of_gt (blk_lt (g := gb474) (o := .cells #[.slice A0_0 l0_0.length c0_0, .int .i64 a0_1] 50 (0, 0)) (by (with_reducible repeat (first | refine blk_drewN ?_ _ | refine blk_drew ?_ | refine blk_alloc ?_ _)); exact BK474.out)) : gb475 ≠ gb474)); clear BK474; clear HB; have BK474 := n0_; have HB := n1_; have BK475 := n2_; have GW475 := n3_; have GE475 := n4_; have NB474_475 := n5_; have NB475_474 := n6_; clear n0_ n1_ n2_ n3_ n4_ n5_ n6_; clear hb hbox hg))
  (try simp only [Act.put, List.setIfInBounds_toArray, List.set_cons_zero, List.set_cons_succ])
  go_cut [36] (fun v36 wc => ∃ (kq : Nat) (x36_3 : Bool), v36 = .bool x36_3 ∧ Aside0 (leadtrailref09_Common.j0 kq a2 x36_3 l0_0 a0_1 l1_0 a1_1 = some (r1, r2)) ∧ Aside0 (kq ≤ k) ∧ Aside0 (wc.heap[gb474]? = some (.cells #[(.slice A0_0 l0_0.length c0_0), .int .i64 a0_1] 50 (0, 0))) ∧ Aside0 (wc.heap[gb475]? = some (.cells #[(.slice A1_0 l1_0.length c1_0), .int .i64 a1_1] 50 (0, 0))) ∧ Aside0 (Below w.heap.size w wc))
  case first =>
    have H := HC4.out
    clear HC4
    replace H := Option.bind_eq_some_iff.mp H
    obtain ⟨t476, A70, H⟩ := H
    replace H : (if t476 = 0 then (leadtrailref09_Common.j0 k a2 true l0_0 a0_1 l1_0 a1_1) else ((leadtrailref09_Count.f k l1_0 a1_1).bind fun t477 => (if t477 = 0 then (leadtrailref09_Common.j0 k a2 true l0_0 a0_1 l1_0 a1_1) else (if a2 < 0 then (leadtrailref09_Common.j0 k a2 true l0_0 a0_1 l1_0 a1_1) else (if a2 > (l0_0.length : Int) then (leadtrailref09_Common.j0 k a2 true l0_0 a0_1 l1_0 a1_1) else (leadtrailref09_Common.j0 k a2 (decide (a2 > (l1_0.length : Int))) l0_0 a0_1 l1_0 a1_1)))))) = some (r1, r2) := H
    have A7 := Aside0.mk A70
    clear A70
    by_cases c8 : t476 = 0
    · rw [if_pos c8] at H
      have c8b0 : (t476 == 0) = true := beq_iff_eq.mpr c8
      have c8b1 : (t476 != 0) = false := bne_eq_false_iff_eq.mpr c8
      clear c8
      (first | rw [c8b0] | (simp only [i64_w, i32_w]; rw [c8b0]) | skip)
      have H' := Aside0.mk H
      clear H
      have hnb9 := NB474_475.out
      have hnc9 := NB475_474.out
      have hcz10_0 : w6.cell? ⟨gb474, 0, none⟩ = some (.slice A0_0 l0_0.length c0_0) := (blk_cell BK474.out 0).trans rfl
      have hcz10_1 : w6.cell? ⟨gb474, 1, none⟩ = some (.int .i64 a0_1) := (blk_cell BK474.out 1).trans rfl
      have hfz10_0 := blk_frozen BK474.out 0
      have hfz10_1 := blk_frozen BK474.out 1
      go_wp2_with (first | ((with_reducible refine gate_callee (f := 53) rfl ?_); refine goesL_ (some 12) rfl rfl Try.func53 (by kernel_rfl) rfl #[.agg #[.slice A0_0 l0_0.length c0_0, .int .i64 a0_1]] rfl (by (try simp only [List.map_toArray, List.map_cons, List.map_nil]); first | done | rfl | (simp only [List.length_drop, List.length_take]; rfl)) ?_; (with_reducible refine (leadtrailref09_Count.calls k _ _ l0_0 a0_1 t476 _ ?side1 ?side2 A7.out).mono ?_); (case side1 => repeat (first | exact (Kd.C_below HR0_0.out HB.out) | (with_reducible refine Kd.C_alloc ?_ _) | (with_reducible refine Kd.C_drewN ?_ _) | (with_reducible refine Kd.C_drew ?_))); (case side2 => exact HC0_0.out); rintro e w11 ⟨rfl, hb⟩; refine ⟨_, rfl, ?_⟩; have n0_ := Aside0.mk (blk_below (g := gb474) (o := .cells #[.slice A0_0 l0_0.length c0_0, .int .i64 a0_1] 50 (0, 0)) (by (with_reducible repeat (first | refine blk_drewN ?_ _ | refine blk_drew ?_ | refine blk_alloc ?_ _)); exact BK474.out) hb); have n1_ := Aside0.mk (blk_below (g := gb475) (o := .cells #[.slice A1_0 l1_0.length c1_0, .int .i64 a1_1] 50 (0, 0)) (by (with_reducible repeat (first | refine blk_drewN ?_ _ | refine blk_drew ?_ | refine blk_alloc ?_ _)); exact BK475.out) hb); have n2_ := Aside0.mk (below_step (by repeat (first | (with_reducible first | exact HB.out | apply below_alloc | apply pw_below_drewN | apply below_drew1 | refine below_set ?_ GE474.out | refine below_set ?_ GE475.out) | exact HB.out)) hb); clear BK474; clear BK475; clear HB; have BK474 := n0_; have BK475 := n1_; have HB := n2_; clear n0_ n1_ n2_; (try clear hb); (try clear hb2); (try clear hk); (try clear hi)))
      go_meet
      case rel => exact ⟨_, (true), (by first | rfl | (simp; done) | (simp [*]; done)), H', ⟨by first | omega | exact Nat.le_refl _⟩, ⟨by (with_reducible repeat (first | refine blk_drewN ?_ _ | refine blk_drew ?_ | refine blk_alloc ?_ _)); exact BK474.out⟩, ⟨by (with_reducible repeat (first | refine blk_drewN ?_ _ | refine blk_drew ?_ | refine blk_alloc ?_ _)); exact BK475.out⟩, ⟨by repeat (first | (with_reducible first | exact HB.out | apply below_alloc | apply pw_below_drewN | apply below_drew1 | refine below_set ?_ GE474.out | refine below_set ?_ GE475.out) | exact HB.out)⟩⟩
    · rw [if_neg c8] at H
      have c8b0 : (t476 == 0) = false := beq_eq_false_iff_ne.mpr c8
      have c8b1 : (t476 != 0) = true := bne_iff_ne.mpr c8
      (first | rw [c8b0] | (simp only [i64_w, i32_w]; rw [c8b0]) | skip)
      replace H := Option.bind_eq_some_iff.mp H
      obtain ⟨t477, A120, H⟩ := H
      replace H : (if t477 = 0 then (leadtrailref09_Common.j0 k a2 true l0_0 a0_1 l1_0 a1_1) else (if a2 < 0 then (leadtrailref09_Common.j0 k a2 true l0_0 a0_1 l1_0 a1_1) else (if a2 > (l0_0.length : Int) then (leadtrailref09_Common.j0 k a2 true l0_0 a0_1 l1_0 a1_1) else (leadtrailref09_Common.j0 k a2 (decide (a2 > (l1_0.length : Int))) l0_0 a0_1 l1_0 a1_1)))) = some (r1, r2) := H
      have A12 := Aside0.mk A120
      clear A120
      by_cases c13 : t477 = 0
      · rw [if_pos c13] at H
        have c13b0 : (t477 == 0) = true := beq_iff_eq.mpr c13
        have c13b1 : (t477 != 0) = false := bne_eq_false_iff_eq.mpr c13
        clear c13
        have H' := Aside0.mk H
        clear H
        have hnb14 := NB474_475.out
        have hnc14 := NB475_474.out
        have hcz15_0 : w6.cell? ⟨gb474, 0, none⟩ = some (.slice A0_0 l0_0.length c0_0) := (blk_cell BK474.out 0).trans rfl
        have hcz15_1 : w6.cell? ⟨gb474, 1, none⟩ = some (.int .i64 a0_1) := (blk_cell BK474.out 1).trans rfl
        have hfz15_0 := blk_frozen BK474.out 0
        have hfz15_1 := blk_frozen BK474.out 1
        go_wp2_with (first | ((with_reducible refine gate_callee (f := 53) rfl ?_); refine goesL_ (some 12) rfl rfl Try.func53 (by kernel_rfl) rfl #[.agg #[.slice A0_0 l0_0.length c0_0, .int .i64 a0_1]] rfl (by (try simp only [List.map_toArray, List.map_cons, List.map_nil]); first | done | rfl | (simp only [List.length_drop, List.length_take]; rfl)) ?_; (with_reducible refine (leadtrailref09_Count.calls k _ _ l0_0 a0_1 t476 _ ?side1 ?side2 A7.out).mono ?_); (case side1 => repeat (first | exact (Kd.C_below HR0_0.out HB.out) | (with_reducible refine Kd.C_alloc ?_ _) | (with_reducible refine Kd.C_drewN ?_ _) | (with_reducible refine Kd.C_drew ?_))); (case side2 => exact HC0_0.out); rintro e w16 ⟨rfl, hb⟩; refine ⟨_, rfl, ?_⟩; have n0_ := Aside0.mk (blk_below (g := gb474) (o := .cells #[.slice A0_0 l0_0.length c0_0, .int .i64 a0_1] 50 (0, 0)) (by (with_reducible repeat (first | refine blk_drewN ?_ _ | refine blk_drew ?_ | refine blk_alloc ?_ _)); exact BK474.out) hb); have n1_ := Aside0.mk (blk_below (g := gb475) (o := .cells #[.slice A1_0 l1_0.length c1_0, .int .i64 a1_1] 50 (0, 0)) (by (with_reducible repeat (first | refine blk_drewN ?_ _ | refine blk_drew ?_ | refine blk_alloc ?_ _)); exact BK475.out) hb); have n2_ := Aside0.mk (below_step (by repeat (first | (with_reducible first | exact HB.out | apply below_alloc | apply pw_below_drewN | apply below_drew1 | refine below_set ?_ GE474.out | refine below_set ?_ GE475.out) | exact HB.out)) hb); clear BK474; clear BK475; clear HB; have BK474 := n0_; have BK475 := n1_; have HB := n2_; clear n0_ n1_ n2_; (try clear hb); (try clear hb2); (try clear hk); (try clear hi); have hcz17_0 : w16.cell? ⟨gb475, 0, none⟩ = some (.slice A1_0 l1_0.length c1_0) := (blk_cell BK475.out 0).trans rfl; have hcz17_1 : w16.cell? ⟨gb475, 1, none⟩ = some (.int .i64 a1_1) := (blk_cell BK475.out 1).trans rfl; have hfz17_0 := blk_frozen BK475.out 0; have hfz17_1 := blk_frozen BK475.out 1) | (go_at_call 53; (with_reducible refine (leadtrailref09_Count.calls k _ _ l1_0 a1_1 t477 _ ?side1 ?side2 A12.out).mono ?_); (case side1 => repeat (first | exact (Kd.C_below HR1_0.out HB.out) | (with_reducible refine Kd.C_alloc ?_ _) | (with_reducible refine Kd.C_drewN ?_ _) | (with_reducible refine Kd.C_drew ?_))); (case side2 => exact HC1_0.out); rintro e w18 ⟨rfl, hb⟩; have n0_ := Aside0.mk (blk_below (g := gb474) (o := .cells #[.slice A0_0 l0_0.length c0_0, .int .i64 a0_1] 50 (0, 0)) (by (with_reducible repeat (first | refine blk_drewN ?_ _ | refine blk_drew ?_ | refine blk_alloc ?_ _)); exact BK474.out) hb); have n1_ := Aside0.mk (blk_below (g := gb475) (o := .cells #[.slice A1_0 l1_0.length c1_0, .int .i64 a1_1] 50 (0, 0)) (by (with_reducible repeat (first | refine blk_drewN ?_ _ | refine blk_drew ?_ | refine blk_alloc ?_ _)); exact BK475.out) hb); have n2_ := Aside0.mk (below_step (by repeat (first | (with_reducible first | exact HB.out | apply below_alloc | apply pw_below_drewN | apply below_drew1 | refine below_set ?_ GE474.out | refine below_set ?_ GE475.out) | exact HB.out)) hb); clear BK474; clear BK475; clear HB; have BK474 := n0_; have BK475 := n1_; have HB := n2_; clear n0_ n1_ n2_; (try clear hb); (try clear hb2); (try clear hk); (try clear hi)))
        go_meet
        case rel => exact ⟨_, (true), (by first | rfl | (simp; done) | (simp [*]; done)), H', ⟨by first | omega | exact Nat.le_refl _⟩, ⟨by (with_reducible repeat (first | refine blk_drewN ?_ _ | refine blk_drew ?_ | refine blk_alloc ?_ _)); exact BK474.out⟩, ⟨by (with_reducible repeat (first | refine blk_drewN ?_ _ | refine blk_drew ?_ | refine blk_alloc ?_ _)); exact BK475.out⟩, ⟨by repeat (first | (with_reducible first | exact HB.out | apply below_alloc | apply pw_below_drewN | apply below_drew1 | refine below_set ?_ GE474.out | refine below_set ?_ GE475.out) | exact HB.out)⟩⟩
      · rw [if_neg c13] at H
        have c13b0 : (t477 == 0) = false := beq_eq_false_iff_ne.mpr c13
        have c13b1 : (t477 != 0) = true := bne_iff_ne.mpr c13
        by_cases c19 : a2 < 0
        · rw [if_pos c19] at H
          have c19b0 : decide (a2 < 0) = true := decide_eq_true c19
          clear c19
          have H' := Aside0.mk H
          clear H
          have hnb20 := NB474_475.out
          have hnc20 := NB475_474.out
          have hcz21_0 : w6.cell? ⟨gb474, 0, none⟩ = some (.slice A0_0 l0_0.length c0_0) := (blk_cell BK474.out 0).trans rfl
          have hcz21_1 : w6.cell? ⟨gb474, 1, none⟩ = some (.int .i64 a0_1) := (blk_cell BK474.out 1).trans rfl
          have hfz21_0 := blk_frozen BK474.out 0
          have hfz21_1 := blk_frozen BK474.out 1
          go_wp2_with (first | ((with_reducible refine gate_callee (f := 53) rfl ?_); refine goesL_ (some 12) rfl rfl Try.func53 (by kernel_rfl) rfl #[.agg #[.slice A0_0 l0_0.length c0_0, .int .i64 a0_1]] rfl (by (try simp only [List.map_toArray, List.map_cons, List.map_nil]); first | done | rfl | (simp only [List.length_drop, List.length_take]; rfl)) ?_; (with_reducible refine (leadtrailref09_Count.calls k _ _ l0_0 a0_1 t476 _ ?side1 ?side2 A7.out).mono ?_); (case side1 => repeat (first | exact (Kd.C_below HR0_0.out HB.out) | (with_reducible refine Kd.C_alloc ?_ _) | (with_reducible refine Kd.C_drewN ?_ _) | (with_reducible refine Kd.C_drew ?_))); (case side2 => exact HC0_0.out); rintro e w22 ⟨rfl, hb⟩; refine ⟨_, rfl, ?_⟩; have n0_ := Aside0.mk (blk_below (g := gb474) (o := .cells #[.slice A0_0 l0_0.length c0_0, .int .i64 a0_1] 50 (0, 0)) (by (with_reducible repeat (first | refine blk_drewN ?_ _ | refine blk_drew ?_ | refine blk_alloc ?_ _)); exact BK474.out) hb); have n1_ := Aside0.mk (blk_below (g := gb475) (o := .cells #[.slice A1_0 l1_0.length c1_0, .int .i64 a1_1] 50 (0, 0)) (by (with_reducible repeat (first | refine blk_drewN ?_ _ | refine blk_drew ?_ | refine blk_alloc ?_ _)); exact BK475.out) hb); have n2_ := Aside0.mk (below_step (by repeat (first | (with_reducible first | exact HB.out | apply below_alloc | apply pw_below_drewN | apply below_drew1 | refine below_set ?_ GE474.out | refine below_set ?_ GE475.out) | exact HB.out)) hb); clear BK474; clear BK475; clear HB; have BK474 := n0_; have BK475 := n1_; have HB := n2_; clear n0_ n1_ n2_; (try clear hb); (try clear hb2); (try clear hk); (try clear hi); have hcz23_0 : w22.cell? ⟨gb475, 0, none⟩ = some (.slice A1_0 l1_0.length c1_0) := (blk_cell BK475.out 0).trans rfl; have hcz23_1 : w22.cell? ⟨gb475, 1, none⟩ = some (.int .i64 a1_1) := (blk_cell BK475.out 1).trans rfl; have hfz23_0 := blk_frozen BK475.out 0; have hfz23_1 := blk_frozen BK475.out 1) | (go_at_call 53; (with_reducible refine (leadtrailref09_Count.calls k _ _ l1_0 a1_1 t477 _ ?side1 ?side2 A12.out).mono ?_); (case side1 => repeat (first | exact (Kd.C_below HR1_0.out HB.out) | (with_reducible refine Kd.C_alloc ?_ _) | (with_reducible refine Kd.C_drewN ?_ _) | (with_reducible refine Kd.C_drew ?_))); (case side2 => exact HC1_0.out); rintro e w24 ⟨rfl, hb⟩; have n0_ := Aside0.mk (blk_below (g := gb474) (o := .cells #[.slice A0_0 l0_0.length c0_0, .int .i64 a0_1] 50 (0, 0)) (by (with_reducible repeat (first | refine blk_drewN ?_ _ | refine blk_drew ?_ | refine blk_alloc ?_ _)); exact BK474.out) hb); have n1_ := Aside0.mk (blk_below (g := gb475) (o := .cells #[.slice A1_0 l1_0.length c1_0, .int .i64 a1_1] 50 (0, 0)) (by (with_reducible repeat (first | refine blk_drewN ?_ _ | refine blk_drew ?_ | refine blk_alloc ?_ _)); exact BK475.out) hb); have n2_ := Aside0.mk (below_step (by repeat (first | (with_reducible first | exact HB.out | apply below_alloc | apply pw_below_drewN | apply below_drew1 | refine below_set ?_ GE474.out | refine below_set ?_ GE475.out) | exact HB.out)) hb); clear BK474; clear BK475; clear HB; have BK474 := n0_; have BK475 := n1_; have HB := n2_; clear n0_ n1_ n2_; (try clear hb); (try clear hb2); (try clear hk); (try clear hi)))
          go_meet
          case rel => exact ⟨_, (true), (by first | rfl | (simp; done) | (simp [*]; done)), H', ⟨by first | omega | exact Nat.le_refl _⟩, ⟨by (with_reducible repeat (first | refine blk_drewN ?_ _ | refine blk_drew ?_ | refine blk_alloc ?_ _)); exact BK474.out⟩, ⟨by (with_reducible repeat (first | refine blk_drewN ?_ _ | refine blk_drew ?_ | refine blk_alloc ?_ _)); exact BK475.out⟩, ⟨by repeat (first | (with_reducible first | exact HB.out | apply below_alloc | apply pw_below_drewN | apply below_drew1 | refine below_set ?_ GE474.out | refine below_set ?_ GE475.out) | exact HB.out)⟩⟩
        · rw [if_neg c19] at H
          have c19b0 : decide (a2 < 0) = false := decide_eq_false c19
          clear c19
          by_cases c25 : a2 > (l0_0.length : Int)
          · rw [if_pos c25] at H
            have c25b0 : decide ((l0_0.length : Int) < a2) = true := decide_eq_true c25
            clear c25
            have H' := Aside0.mk H
            clear H
            have hnb26 := NB474_475.out
            have hnc26 := NB475_474.out
            have hcz27_0 : w6.cell? ⟨gb474, 0, none⟩ = some (.slice A0_0 l0_0.length c0_0) := (blk_cell BK474.out 0).trans rfl
            have hcz27_1 : w6.cell? ⟨gb474, 1, none⟩ = some (.int .i64 a0_1) := (blk_cell BK474.out 1).trans rfl
            have hfz27_0 := blk_frozen BK474.out 0
            have hfz27_1 := blk_frozen BK474.out 1
            go_wp2_with (first | ((with_reducible refine gate_callee (f := 53) rfl ?_); refine goesL_ (some 12) rfl rfl Try.func53 (by kernel_rfl) rfl #[.agg #[.slice A0_0 l0_0.length c0_0, .int .i64 a0_1]] rfl (by (try simp only [List.map_toArray, List.map_cons, List.map_nil]); first | done | rfl | (simp only [List.length_drop, List.length_take]; rfl)) ?_; (with_reducible refine (leadtrailref09_Count.calls k _ _ l0_0 a0_1 t476 _ ?side1 ?side2 A7.out).mono ?_); (case side1 => repeat (first | exact (Kd.C_below HR0_0.out HB.out) | (with_reducible refine Kd.C_alloc ?_ _) | (with_reducible refine Kd.C_drewN ?_ _) | (with_reducible refine Kd.C_drew ?_))); (case side2 => exact HC0_0.out); rintro e w28 ⟨rfl, hb⟩; refine ⟨_, rfl, ?_⟩; have n0_ := Aside0.mk (blk_below (g := gb474) (o := .cells #[.slice A0_0 l0_0.length c0_0, .int .i64 a0_1] 50 (0, 0)) (by (with_reducible repeat (first | refine blk_drewN ?_ _ | refine blk_drew ?_ | refine blk_alloc ?_ _)); exact BK474.out) hb); have n1_ := Aside0.mk (blk_below (g := gb475) (o := .cells #[.slice A1_0 l1_0.length c1_0, .int .i64 a1_1] 50 (0, 0)) (by (with_reducible repeat (first | refine blk_drewN ?_ _ | refine blk_drew ?_ | refine blk_alloc ?_ _)); exact BK475.out) hb); have n2_ := Aside0.mk (below_step (by repeat (first | (with_reducible first | exact HB.out | apply below_alloc | apply pw_below_drewN | apply below_drew1 | refine below_set ?_ GE474.out | refine below_set ?_ GE475.out) | exact HB.out)) hb); clear BK474; clear BK475; clear HB; have BK474 := n0_; have BK475 := n1_; have HB := n2_; clear n0_ n1_ n2_; (try clear hb); (try clear hb2); (try clear hk); (try clear hi); have hcz29_0 : w28.cell? ⟨gb475, 0, none⟩ = some (.slice A1_0 l1_0.length c1_0) := (blk_cell BK475.out 0).trans rfl; have hcz29_1 : w28.cell? ⟨gb475, 1, none⟩ = some (.int .i64 a1_1) := (blk_cell BK475.out 1).trans rfl; have hfz29_0 := blk_frozen BK475.out 0; have hfz29_1 := blk_frozen BK475.out 1) | (go_at_call 53; (with_reducible refine (leadtrailref09_Count.calls k _ _ l1_0 a1_1 t477 _ ?side1 ?side2 A12.out).mono ?_); (case side1 => repeat (first | exact (Kd.C_below HR1_0.out HB.out) | (with_reducible refine Kd.C_alloc ?_ _) | (with_reducible refine Kd.C_drewN ?_ _) | (with_reducible refine Kd.C_drew ?_))); (case side2 => exact HC1_0.out); rintro e w30 ⟨rfl, hb⟩; have n0_ := Aside0.mk (blk_below (g := gb474) (o := .cells #[.slice A0_0 l0_0.length c0_0, .int .i64 a0_1] 50 (0, 0)) (by (with_reducible repeat (first | refine blk_drewN ?_ _ | refine blk_drew ?_ | refine blk_alloc ?_ _)); exact BK474.out) hb); have n1_ := Aside0.mk (blk_below (g := gb475) (o := .cells #[.slice A1_0 l1_0.length c1_0, .int .i64 a1_1] 50 (0, 0)) (by (with_reducible repeat (first | refine blk_drewN ?_ _ | refine blk_drew ?_ | refine blk_alloc ?_ _)); exact BK475.out) hb); have n2_ := Aside0.mk (below_step (by repeat (first | (with_reducible first | exact HB.out | apply below_alloc | apply pw_below_drewN | apply below_drew1 | refine below_set ?_ GE474.out | refine below_set ?_ GE475.out) | exact HB.out)) hb); clear BK474; clear BK475; clear HB; have BK474 := n0_; have BK475 := n1_; have HB := n2_; clear n0_ n1_ n2_; (try clear hb); (try clear hb2); (try clear hk); (try clear hi); have hcz31_0 : w30.cell? ⟨gb474, 0, none⟩ = some (.slice A0_0 l0_0.length c0_0) := (blk_cell BK474.out 0).trans rfl; have hcz31_1 : w30.cell? ⟨gb474, 1, none⟩ = some (.int .i64 a0_1) := (blk_cell BK474.out 1).trans rfl; have hfz31_0 := blk_frozen BK474.out 0; have hfz31_1 := blk_frozen BK474.out 1))
            go_meet
            case rel => exact ⟨_, (true), (by first | rfl | (simp; done) | (simp [*]; done)), H', ⟨by first | omega | exact Nat.le_refl _⟩, ⟨by (with_reducible repeat (first | refine blk_drewN ?_ _ | refine blk_drew ?_ | refine blk_alloc ?_ _)); exact BK474.out⟩, ⟨by (with_reducible repeat (first | refine blk_drewN ?_ _ | refine blk_drew ?_ | refine blk_alloc ?_ _)); exact BK475.out⟩, ⟨by repeat (first | (with_reducible first | exact HB.out | apply below_alloc | apply pw_below_drewN | apply below_drew1 | refine below_set ?_ GE474.out | refine below_set ?_ GE475.out) | exact HB.out)⟩⟩
          · rw [if_neg c25] at H
            have c25b0 : decide ((l0_0.length : Int) < a2) = false := decide_eq_false c25
            clear c25
            have H' := Aside0.mk H
            clear H
            have hnb32 := NB474_475.out
            have hnc32 := NB475_474.out
            have hcz33_0 : w6.cell? ⟨gb474, 0, none⟩ = some (.slice A0_0 l0_0.length c0_0) := (blk_cell BK474.out 0).trans rfl
            have hcz33_1 : w6.cell? ⟨gb474, 1, none⟩ = some (.int .i64 a0_1) := (blk_cell BK474.out 1).trans rfl
            have hfz33_0 := blk_frozen BK474.out 0
            have hfz33_1 := blk_frozen BK474.out 1
            go_wp2_with (first | ((with_reducible refine gate_callee (f := 53) rfl ?_); refine goesL_ (some 12) rfl rfl Try.func53 (by kernel_rfl) rfl #[.agg #[.slice A0_0 l0_0.length c0_0, .int .i64 a0_1]] rfl (by (try simp only [List.map_toArray, List.map_cons, List.map_nil]); first | done | rfl | (simp only [List.length_drop, List.length_take]; rfl)) ?_; (with_reducible refine (leadtrailref09_Count.calls k _ _ l0_0 a0_1 t476 _ ?side1 ?side2 A7.out).mono ?_); (case side1 => repeat (first | exact (Kd.C_below HR0_0.out HB.out) | (with_reducible refine Kd.C_alloc ?_ _) | (with_reducible refine Kd.C_drewN ?_ _) | (with_reducible refine Kd.C_drew ?_))); (case side2 => exact HC0_0.out); rintro e w34 ⟨rfl, hb⟩; refine ⟨_, rfl, ?_⟩; have n0_ := Aside0.mk (blk_below (g := gb474) (o := .cells #[.slice A0_0 l0_0.length c0_0, .int .i64 a0_1] 50 (0, 0)) (by (with_reducible repeat (first | refine blk_drewN ?_ _ | refine blk_drew ?_ | refine blk_alloc ?_ _)); exact BK474.out) hb); have n1_ := Aside0.mk (blk_below (g := gb475) (o := .cells #[.slice A1_0 l1_0.length c1_0, .int .i64 a1_1] 50 (0, 0)) (by (with_reducible repeat (first | refine blk_drewN ?_ _ | refine blk_drew ?_ | refine blk_alloc ?_ _)); exact BK475.out) hb); have n2_ := Aside0.mk (below_step (by repeat (first | (with_reducible first | exact HB.out | apply below_alloc | apply pw_below_drewN | apply below_drew1 | refine below_set ?_ GE474.out | refine below_set ?_ GE475.out) | exact HB.out)) hb); clear BK474; clear BK475; clear HB; have BK474 := n0_; have BK475 := n1_; have HB := n2_; clear n0_ n1_ n2_; (try clear hb); (try clear hb2); (try clear hk); (try clear hi); have hcz35_0 : w34.cell? ⟨gb475, 0, none⟩ = some (.slice A1_0 l1_0.length c1_0) := (blk_cell BK475.out 0).trans rfl; have hcz35_1 : w34.cell? ⟨gb475, 1, none⟩ = some (.int .i64 a1_1) := (blk_cell BK475.out 1).trans rfl; have hfz35_0 := blk_frozen BK475.out 0; have hfz35_1 := blk_frozen BK475.out 1) | (go_at_call 53; (with_reducible refine (leadtrailref09_Count.calls k _ _ l1_0 a1_1 t477 _ ?side1 ?side2 A12.out).mono ?_); (case side1 => repeat (first | exact (Kd.C_below HR1_0.out HB.out) | (with_reducible refine Kd.C_alloc ?_ _) | (with_reducible refine Kd.C_drewN ?_ _) | (with_reducible refine Kd.C_drew ?_))); (case side2 => exact HC1_0.out); rintro e w36 ⟨rfl, hb⟩; have n0_ := Aside0.mk (blk_below (g := gb474) (o := .cells #[.slice A0_0 l0_0.length c0_0, .int .i64 a0_1] 50 (0, 0)) (by (with_reducible repeat (first | refine blk_drewN ?_ _ | refine blk_drew ?_ | refine blk_alloc ?_ _)); exact BK474.out) hb); have n1_ := Aside0.mk (blk_below (g := gb475) (o := .cells #[.slice A1_0 l1_0.length c1_0, .int .i64 a1_1] 50 (0, 0)) (by (with_reducible repeat (first | refine blk_drewN ?_ _ | refine blk_drew ?_ | refine blk_alloc ?_ _)); exact BK475.out) hb); have n2_ := Aside0.mk (below_step (by repeat (first | (with_reducible first | exact HB.out | apply below_alloc | apply pw_below_drewN | apply below_drew1 | refine below_set ?_ GE474.out | refine below_set ?_ GE475.out) | exact HB.out)) hb); clear BK474; clear BK475; clear HB; have BK474 := n0_; have BK475 := n1_; have HB := n2_; clear n0_ n1_ n2_; (try clear hb); (try clear hb2); (try clear hk); (try clear hi); have hcz37_0 : w36.cell? ⟨gb474, 0, none⟩ = some (.slice A0_0 l0_0.length c0_0) := (blk_cell BK474.out 0).trans rfl; have hcz37_1 : w36.cell? ⟨gb474, 1, none⟩ = some (.int .i64 a0_1) := (blk_cell BK474.out 1).trans rfl; have hfz37_0 := blk_frozen BK474.out 0; have hfz37_1 := blk_frozen BK474.out 1; have hcz38_0 : w36.cell? ⟨gb475, 0, none⟩ = some (.slice A1_0 l1_0.length c1_0) := (blk_cell BK475.out 0).trans rfl; have hcz38_1 : w36.cell? ⟨gb475, 1, none⟩ = some (.int .i64 a1_1) := (blk_cell BK475.out 1).trans rfl; have hfz38_0 := blk_frozen BK475.out 0; have hfz38_1 := blk_frozen BK475.out 1))
            go_meet
            case rel => exact ⟨_, (decide (a2 > (l1_0.length : Int))), (by first | rfl | (simp; done) | (simp [*]; done)), H', ⟨by first | omega | exact Nat.le_refl _⟩, ⟨by (with_reducible repeat (first | refine blk_drewN ?_ _ | refine blk_drew ?_ | refine blk_alloc ?_ _)); exact BK474.out⟩, ⟨by (with_reducible repeat (first | refine blk_drewN ?_ _ | refine blk_drew ?_ | refine blk_alloc ?_ _)); exact BK475.out⟩, ⟨by repeat (first | (with_reducible first | exact HB.out | apply below_alloc | apply pw_below_drewN | apply below_drew1 | refine below_set ?_ GE474.out | refine below_set ?_ GE475.out) | exact HB.out)⟩⟩
  case rest =>
    clear HC4
    try clear c1
    try clear c2
    try clear p2
    try clear c3
    try clear c5
    try clear c8
    try clear c8b0
    try clear c8b1
    try clear c9
    try clear c13
    try clear c13b0
    try clear c13b1
    try clear c14
    try clear c19
    try clear c19b0
    try clear c20
    try clear c25
    try clear c25b0
    try clear c26
    try clear c32
    try clear hcz10_0
    try clear hcz10_1
    try clear hcz15_0
    try clear hcz15_1
    try clear hcz17_0
    try clear hcz17_1
    try clear hcz21_0
    try clear hcz21_1
    try clear hcz23_0
    try clear hcz23_1
    try clear hcz27_0
    try clear hcz27_1
    try clear hcz29_0
    try clear hcz29_1
    try clear hcz31_0
    try clear hcz31_1
    try clear hcz33_0
    try clear hcz33_1
    try clear hcz35_0
    try clear hcz35_1
    try clear hcz37_0
    try clear hcz37_1
    try clear hcz38_0
    try clear hcz38_1
    try clear hfz10_0
    try clear hfz10_1
    try clear hfz15_0
    try clear hfz15_1
    try clear hfz17_0
    try clear hfz17_1
    try clear hfz21_0
    try clear hfz21_1
    try clear hfz23_0
    try clear hfz23_1
    try clear hfz27_0
    try clear hfz27_1
    try clear hfz29_0
    try clear hfz29_1
    try clear hfz31_0
    try clear hfz31_1
    try clear hfz33_0
    try clear hfz33_1
    try clear hfz35_0
    try clear hfz35_1
    try clear hfz37_0
    try clear hfz37_1
    try clear hfz38_0
    try clear hfz38_1
    obtain ⟨kq, x36_3, rfl, HA, HJ3, BK474, BK475, HB⟩ := hcut
    cases kq with
    | zero => exact absurd HA.out (by simp [leadtrailref09_Common.j0])
    | succ kj3 =>
      have H := HA.out
      clear HA
      simp only [leadtrailref09_Common.j0] at H
      by_cases c39 : x36_3 = true
      · subst c39
        have H1 : (some (([] : List Int), false)) = some (r1, r2) := by rw [if_pos rfl] at H; exact H
        clear H
        have H := H1
        clear H1
        simp only [Option.some.injEq, Prod.mk.injEq] at H
        obtain ⟨rfl, rfl⟩ := H
        go_wp2
        go_ret2
        exact ⟨_, by first | rfl | (simp [errW_none, errW_some] <;> rfl) | (simp [*, errW_none, errW_some] <;> rfl), by first | exact Kd.R_nil _ _ _ _ _ | exact Kd.N_nil _ _ _ _ _ | exact Kd.V_nil _ _ _ _ _ | exact Kd.Q_nil _ _ _ _ _ | exact Kd.S_nil _ _ _ _ _, by repeat (first | (with_reducible first | exact HB.out | apply below_alloc | apply pw_below_drewN | apply below_drew1 | refine below_set ?_ GE474.out | refine below_set ?_ GE475.out) | exact HB.out)⟩
      · replace c39 := Bool.eq_false_iff.mpr c39
        subst c39
        have H1 : (leadtrailref09_Common.l0 kj3 a2 ([] : List Int) 0 l0_0 a0_1 l1_0 a1_1) = some (r1, r2) := by rw [if_neg (show ¬ (false = true) by decide)] at H; exact H
        clear H
        have H := H1
        clear H1
        have H' := Aside0.mk H
        clear H
        go_wp2
        go_loopg [8, 9] kj3 (fun kq v8 v9 w' => ∃ (x8_2 : List Int) (x9_2 : Int), v9 = .int .i64 x9_2 ∧ Aside0 (leadtrailref09_Common.l0 kq a2 x8_2 x9_2 l0_0 a0_1 l1_0 a1_1 = some (r1, r2)) ∧ Aside0 (kq ≤ kj3) ∧ Aside0 (Kd.R (Kd.int .u8) 5 w' w.heap.size (fun _ => True) v8 x8_2) ∧ Aside0 (w'.heap[gb474]? = some (.cells #[(.slice A0_0 l0_0.length c0_0), .int .i64 a0_1] 50 (0, 0))) ∧ Aside0 (w'.heap[gb475]? = some (.cells #[(.slice A1_0 l1_0.length c1_0), .int .i64 a1_1] 50 (0, 0))) ∧ Aside0 (Below w.heap.size w w'))
        case atStart => exact ⟨(([] : List Int)), (0), (by first | rfl | (simp; done) | (simp [*]; done)), H', ⟨Nat.le_refl _⟩, ⟨by first | exact Kd.R_nil _ _ _ _ _ | exact Kd.N_nil _ _ _ _ _ | exact Kd.V_nil _ _ _ _ _ | exact Kd.Q_nil _ _ _ _ _ | exact Kd.S_nil _ _ _ _ _⟩, ⟨by (with_reducible repeat (first | refine blk_drewN ?_ _ | refine blk_drew ?_ | refine blk_alloc ?_ _)); exact BK474.out⟩, ⟨by (with_reducible repeat (first | refine blk_drewN ?_ _ | refine blk_drew ?_ | refine blk_alloc ?_ _)); exact BK475.out⟩, ⟨by repeat (first | (with_reducible first | exact HB.out | apply below_alloc | apply pw_below_drewN | apply below_drew1 | refine below_set ?_ GE474.out | refine below_set ?_ GE475.out) | exact HB.out)⟩⟩
        case round =>
          clear H'
          try clear c1
          try clear c2
          try clear p2
          try clear c3
          try clear c5
          try clear c8
          try clear c8b0
          try clear c8b1
          try clear c9
          try clear c13
          try clear c13b0
          try clear c13b1
          try clear c14
          try clear c19
          try clear c19b0
          try clear c20
          try clear c25
          try clear c25b0
          try clear c26
          try clear c32
          try clear c39
          try clear hcz10_0
          try clear hcz10_1
          try clear hcz15_0
          try clear hcz15_1
          try clear hcz17_0
          try clear hcz17_1
          try clear hcz21_0
          try clear hcz21_1
          try clear hcz23_0
          try clear hcz23_1
          try clear hcz27_0
          try clear hcz27_1
          try clear hcz29_0
          try clear hcz29_1
          try clear hcz31_0
          try clear hcz31_1
          try clear hcz33_0
          try clear hcz33_1
          try clear hcz35_0
          try clear hcz35_1
          try clear hcz37_0
          try clear hcz37_1
          try clear hcz38_0
          try clear hcz38_1
          try clear hfz10_0
          try clear hfz10_1
          try clear hfz15_0
          try clear hfz15_1
          try clear hfz17_0
          try clear hfz17_1
          try clear hfz21_0
          try clear hfz21_1
          try clear hfz23_0
          try clear hfz23_1
          try clear hfz27_0
          try clear hfz27_1
          try clear hfz29_0
          try clear hfz29_1
          try clear hfz31_0
          try clear hfz31_1
          try clear hfz33_0
          try clear hfz33_1
          try clear hfz35_0
          try clear hfz35_1
          try clear hfz37_0
          try clear hfz37_1
          try clear hfz38_0
          try clear hfz38_1
          try clear p2
          obtain ⟨x8_2, x9_2, rfl, HA, HK2, HO_8, BK474, BK475, HB⟩ := hrel
          cases gk with
          | zero => exact absurd HA.out (by simp [leadtrailref09_Common.l0])
          | succ k2 =>
            have H := HA.out
            clear HA
            simp only [leadtrailref09_Common.l0] at H
            by_cases c40 : x9_2 < a2
            · rw [if_pos c40] at H
              have c40b0 : decide (x9_2 < a2) = true := decide_eq_true c40
              clear c40
              have H' := Aside0.mk H
              clear H
              go_wp2
              go_loopg [10] k2 (fun kq v10 w' => ∃ (x10_3 : Int), v10 = .int .i64 x10_3 ∧ Aside0 (leadtrailref09_Common.l1 kq a2 x8_2 x9_2 x10_3 l0_0 a0_1 l1_0 a1_1 = some (r1, r2)) ∧ Aside0 (kq ≤ k2) ∧ Aside0 (Kd.R (Kd.int .u8) 5 w' w.heap.size (fun _ => True) u8 x8_2) ∧ Aside0 (w'.heap[gb474]? = some (.cells #[(.slice A0_0 l0_0.length c0_0), .int .i64 a0_1] 50 (0, 0))) ∧ Aside0 (w'.heap[gb475]? = some (.cells #[(.slice A1_0 l1_0.length c1_0), .int .i64 a1_1] 50 (0, 0))) ∧ Aside0 (Below w.heap.size w w'))
              case atStart => exact ⟨(0), (by first | rfl | (simp; done) | (simp [*]; done)), H', ⟨Nat.le_refl _⟩, ⟨by (with_reducible repeat (first | apply Kd.R_alloc | apply Kd.R_drewN | apply Kd.R_drew)); exact HO_8.out⟩, ⟨by (with_reducible repeat (first | refine blk_drewN ?_ _ | refine blk_drew ?_ | refine blk_alloc ?_ _)); exact BK474.out⟩, ⟨by (with_reducible repeat (first | refine blk_drewN ?_ _ | refine blk_drew ?_ | refine blk_alloc ?_ _)); exact BK475.out⟩, ⟨by repeat (first | (with_reducible first | exact HB.out | apply below_alloc | apply pw_below_drewN | apply below_drew1 | refine below_set ?_ GE474.out | refine below_set ?_ GE475.out) | exact HB.out)⟩⟩
              case round =>
                clear H'
                try clear c1
                try clear c2
                try clear p2
                try clear c3
                try clear c4
                try clear c5
                try clear c8
                try clear c8b0
                try clear c8b1
                try clear c9
                try clear c13
                try clear c13b0
                try clear c13b1
                try clear c14
                try clear c19
                try clear c19b0
                try clear c20
                try clear c25
                try clear c25b0
                try clear c26
                try clear c32
                try clear c39
                try clear c40
                try clear c40b0
                try clear hcz10_0
                try clear hcz10_1
                try clear hcz15_0
                try clear hcz15_1
                try clear hcz17_0
                try clear hcz17_1
                try clear hcz21_0
                try clear hcz21_1
                try clear hcz23_0
                try clear hcz23_1
                try clear hcz27_0
                try clear hcz27_1
                try clear hcz29_0
                try clear hcz29_1
                try clear hcz31_0
                try clear hcz31_1
                try clear hcz33_0
                try clear hcz33_1
                try clear hcz35_0
                try clear hcz35_1
                try clear hcz37_0
                try clear hcz37_1
                try clear hcz38_0
                try clear hcz38_1
                try clear hfz10_0
                try clear hfz10_1
                try clear hfz15_0
                try clear hfz15_1
                try clear hfz17_0
                try clear hfz17_1
                try clear hfz21_0
                try clear hfz21_1
                try clear hfz23_0
                try clear hfz23_1
                try clear hfz27_0
                try clear hfz27_1
                try clear hfz29_0
                try clear hfz29_1
                try clear hfz31_0
                try clear hfz31_1
                try clear hfz33_0
                try clear hfz33_1
                try clear hfz35_0
                try clear hfz35_1
                try clear hfz37_0
                try clear hfz37_1
                try clear hfz38_0
                try clear hfz38_1
                try clear p2
                obtain ⟨x10_3, rfl, HA, HK3, HO_8, BK474, BK475, HB⟩ := hrel
                cases gk with
                | zero => exact absurd HA.out (by simp [leadtrailref09_Common.l1])
                | succ k3 =>
                  have H := HA.out
                  clear HA
                  simp only [leadtrailref09_Common.l1] at H
                  by_cases c41 : x10_3 < 256
                  · rw [if_pos c41] at H
                    have c41b0 : decide (x10_3 < 256) = true := decide_eq_true c41
                    clear c41
                    by_cases c42 : 0 ≤ x9_2
                    · rw [if_pos c42] at H
                      have c42b0 : decide (0 ≤ x9_2) = true := decide_eq_true c42
                      clear c42
                      by_cases c43 : x9_2 < (l0_0.length : Int)
                      · rw [if_pos c43] at H
                        have c43b0 : decide (x9_2 < (l0_0.length : Int)) = true := decide_eq_true c43
                        clear c43
                        replace H := Option.bind_eq_some_iff.mp H
                        obtain ⟨t479, A440, H⟩ := H
                        replace H : (if t479 = true then (if x9_2 < (l1_0.length : Int) then ((leadtrailref03_Has.f k3 (rd_L4 l1_0 x9_2) x10_3).bind fun t481 => (if t481 = true then (if x10_3 = 256 then (some (([] : List Int), false)) else (if x8_2.length < 140737488355328 then (leadtrailref09_Common.l0 k3 a2 (x8_2 ++ [(x10_3) % 256]) (wrap64 (x9_2 + 1)) l0_0 a0_1 l1_0 a1_1) else (none))) else (leadtrailref09_Common.l1 k3 a2 x8_2 x9_2 (wrap64 (x10_3 + 1)) l0_0 a0_1 l1_0 a1_1))) else (none)) else (leadtrailref09_Common.l1 k3 a2 x8_2 x9_2 (wrap64 (x10_3 + 1)) l0_0 a0_1 l1_0 a1_1)) = some (r1, r2) := H
                        have A44 := Aside0.mk A440
                        clear A440
                        by_cases c45 : t479 = true
                        · subst c45
                          have H1 : (if x9_2 < (l1_0.length : Int) then ((leadtrailref03_Has.f k3 (rd_L4 l1_0 x9_2) x10_3).bind fun t481 => (if t481 = true then (if x10_3 = 256 then (some (([] : List Int), false)) else (if x8_2.length < 140737488355328 then (leadtrailref09_Common.l0 k3 a2 (x8_2 ++ [(x10_3) % 256]) (wrap64 (x9_2 + 1)) l0_0 a0_1 l1_0 a1_1) else (none))) else (leadtrailref09_Common.l1 k3 a2 x8_2 x9_2 (wrap64 (x10_3 + 1)) l0_0 a0_1 l1_0 a1_1))) else (none)) = some (r1, r2) := by rw [if_pos rfl] at H; exact H
                          clear H
                          have H := H1
                          clear H1
                          by_cases c46 : x9_2 < (l1_0.length : Int)
                          · rw [if_pos c46] at H
                            have c46b0 : decide (x9_2 < (l1_0.length : Int)) = true := decide_eq_true c46
                            clear c46
                            replace H := Option.bind_eq_some_iff.mp H
                            obtain ⟨t481, A470, H⟩ := H
                            replace H : (if t481 = true then (if x10_3 = 256 then (some (([] : List Int), false)) else (if x8_2.length < 140737488355328 then (leadtrailref09_Common.l0 k3 a2 (x8_2 ++ [(x10_3) % 256]) (wrap64 (x9_2 + 1)) l0_0 a0_1 l1_0 a1_1) else (none))) else (leadtrailref09_Common.l1 k3 a2 x8_2 x9_2 (wrap64 (x10_3 + 1)) l0_0 a0_1 l1_0 a1_1)) = some (r1, r2) := H
                            have A47 := Aside0.mk A470
                            clear A470
                            by_cases c48 : t481 = true
                            · subst c48
                              have H1 : (if x10_3 = 256 then (some (([] : List Int), false)) else (if x8_2.length < 140737488355328 then (leadtrailref09_Common.l0 k3 a2 (x8_2 ++ [(x10_3) % 256]) (wrap64 (x9_2 + 1)) l0_0 a0_1 l1_0 a1_1) else (none))) = some (r1, r2) := by rw [if_pos rfl] at H; exact H
                              clear H
                              have H := H1
                              clear H1
                              by_cases c49 : x10_3 = 256
                              · rw [if_pos c49] at H
                                have c49b0 : (x10_3 == 256) = true := beq_iff_eq.mpr c49
                                have c49b1 : (x10_3 != 256) = false := bne_eq_false_iff_eq.mpr c49
                                clear c49
                                simp only [Option.some.injEq, Prod.mk.injEq] at H
                                obtain ⟨rfl, rfl⟩ := H
                                have hnb50 := NB474_475.out
                                have hnc50 := NB475_474.out
                                have hcz51_0 : wr.cell? ⟨gb474, 0, none⟩ = some (.slice A0_0 l0_0.length c0_0) := (blk_cell BK474.out 0).trans rfl
                                have hcz51_1 : wr.cell? ⟨gb474, 1, none⟩ = some (.int .i64 a0_1) := (blk_cell BK474.out 1).trans rfl
                                have hfz51_0 := blk_frozen BK474.out 0
                                have hfz51_1 := blk_frozen BK474.out 1
                                have p478 : 0 ≤ (x9_2 : Int) := of_decide_eq_true (by first | (with_reducible assumption) | assumption)
                                have q478 : x9_2 < (l0_0.length : Int) := of_decide_eq_true (by first | (with_reducible assumption) | assumption)
                                obtain ⟨ad478, A478_0, c478_0, e478, hx478_0, hl478_0, hi478_0⟩ := at_L4 HR0_0.out x9_2 p478 q478
                                cases e478
                                replace hx478_0 := (HB.out.cell (World.block_lt_of_cell? w _ hx478_0)).trans hx478_0
                                have HR478_0 := Aside0.mk hi478_0
                                have HC478_0 := Aside0.mk hl478_0
                                clear hi478_0 hl478_0
                                replace p478 := eq_true p478
                                replace q478 := eq_true q478
                                go_wp2_with (first | (go_at_call 73; (with_reducible refine (leadtrailref03_Has.calls k3 _ _ (rd_L4 l0_0 x9_2) x10_3 true _ ?side1 ?side2 A44.out).mono ?_); (case side1 => repeat (first | exact (Kd.C_below HR478_0.out HB.out) | (with_reducible refine Kd.C_alloc ?_ _) | (with_reducible refine Kd.C_drewN ?_ _) | (with_reducible refine Kd.C_drew ?_))); (case side2 => exact HC478_0.out); rintro e w52 ⟨rfl, hb⟩; have n0_ := Aside0.mk (Kd.R_below (by (with_reducible repeat (first | apply Kd.R_alloc | apply Kd.R_drewN | apply Kd.R_drew)); exact HO_8.out) hb); have n1_ := Aside0.mk (blk_below (g := gb474) (o := .cells #[.slice (some ad478) l0_0.length c0_0, .int .i64 a0_1] 50 (0, 0)) (by (with_reducible repeat (first | refine blk_drewN ?_ _ | refine blk_drew ?_ | refine blk_alloc ?_ _)); exact BK474.out) hb); have n2_ := Aside0.mk (blk_below (g := gb475) (o := .cells #[.slice A1_0 l1_0.length c1_0, .int .i64 a1_1] 50 (0, 0)) (by (with_reducible repeat (first | refine blk_drewN ?_ _ | refine blk_drew ?_ | refine blk_alloc ?_ _)); exact BK475.out) hb); have n3_ := Aside0.mk (below_step (by repeat (first | (with_reducible first | exact HB.out | apply below_alloc | apply pw_below_drewN | apply below_drew1 | refine below_set ?_ GE474.out | refine below_set ?_ GE475.out) | exact HB.out)) hb); clear HO_8; clear BK474; clear BK475; clear HB; have HO_8 := n0_; have BK474 := n1_; have BK475 := n2_; have HB := n3_; clear n0_ n1_ n2_ n3_; (try clear hb); (try clear hb2); (try clear hk); (try clear hi); have hcz53_0 : w52.cell? ⟨gb475, 0, none⟩ = some (.slice A1_0 l1_0.length c1_0) := (blk_cell BK475.out 0).trans rfl; have hcz53_1 : w52.cell? ⟨gb475, 1, none⟩ = some (.int .i64 a1_1) := (blk_cell BK475.out 1).trans rfl; have hfz53_0 := blk_frozen BK475.out 0; have hfz53_1 := blk_frozen BK475.out 1; have p480 : 0 ≤ (x9_2 : Int) := of_decide_eq_true (by first | (with_reducible assumption) | assumption); have q480 : x9_2 < (l1_0.length : Int) := of_decide_eq_true (by first | (with_reducible assumption) | assumption); obtain ⟨ad480, A480_0, c480_0, e480, hx480_0, hl480_0, hi480_0⟩ := at_L4 HR1_0.out x9_2 p480 q480; cases e480; replace hx480_0 := (HB.out.cell (World.block_lt_of_cell? w _ hx480_0)).trans hx480_0; have HR480_0 := Aside0.mk hi480_0; have HC480_0 := Aside0.mk hl480_0; clear hi480_0 hl480_0; replace p480 := eq_true p480; replace q480 := eq_true q480) | (go_at_call 73; (with_reducible refine (leadtrailref03_Has.calls k3 _ _ (rd_L4 l1_0 x9_2) x10_3 true _ ?side1 ?side2 A47.out).mono ?_); (case side1 => repeat (first | exact (Kd.C_below HR480_0.out HB.out) | (with_reducible refine Kd.C_alloc ?_ _) | (with_reducible refine Kd.C_drewN ?_ _) | (with_reducible refine Kd.C_drew ?_))); (case side2 => exact HC480_0.out); rintro e w54 ⟨rfl, hb⟩; have n0_ := Aside0.mk (Kd.R_below (by (with_reducible repeat (first | apply Kd.R_alloc | apply Kd.R_drewN | apply Kd.R_drew)); exact HO_8.out) hb); have n1_ := Aside0.mk (blk_below (g := gb474) (o := .cells #[.slice (some ad478) l0_0.length c0_0, .int .i64 a0_1] 50 (0, 0)) (by (with_reducible repeat (first | refine blk_drewN ?_ _ | refine blk_drew ?_ | refine blk_alloc ?_ _)); exact BK474.out) hb); have n2_ := Aside0.mk (blk_below (g := gb475) (o := .cells #[.slice (some ad480) l1_0.length c1_0, .int .i64 a1_1] 50 (0, 0)) (by (with_reducible repeat (first | refine blk_drewN ?_ _ | refine blk_drew ?_ | refine blk_alloc ?_ _)); exact BK475.out) hb); have n3_ := Aside0.mk (below_step (by repeat (first | (with_reducible first | exact HB.out | apply below_alloc | apply pw_below_drewN | apply below_drew1 | refine below_set ?_ GE474.out | refine below_set ?_ GE475.out) | exact HB.out)) hb); clear HO_8; clear BK474; clear BK475; clear HB; have HO_8 := n0_; have BK474 := n1_; have BK475 := n2_; have HB := n3_; clear n0_ n1_ n2_ n3_; (try clear hb); (try clear hb2); (try clear hk); (try clear hi)))
                                go_ret2
                                exact ⟨_, by first | rfl | (simp [errW_none, errW_some] <;> rfl) | (simp [*, errW_none, errW_some] <;> rfl), by first | exact Kd.R_nil _ _ _ _ _ | exact Kd.N_nil _ _ _ _ _ | exact Kd.V_nil _ _ _ _ _ | exact Kd.Q_nil _ _ _ _ _ | exact Kd.S_nil _ _ _ _ _, by repeat (first | (with_reducible first | exact HB.out | apply below_alloc | apply pw_below_drewN | apply below_drew1 | refine below_set ?_ GE474.out | refine below_set ?_ GE475.out) | exact HB.out)⟩
                              · rw [if_neg c49] at H
                                have c49b0 : (x10_3 == 256) = false := beq_eq_false_iff_ne.mpr c49
                                have c49b1 : (x10_3 != 256) = true := bne_iff_ne.mpr c49
                                by_cases c55 : x8_2.length < 140737488355328
                                · rw [if_pos c55] at H
                                  have LMc55 := Aside0.mk c55
                                  clear c55
                                  obtain ⟨y482, hy482⟩ : ∃ y_ : List Int, y_ = (x8_2 ++ [(x10_3) % 256]) := ⟨_, rfl⟩
                                  replace H : (leadtrailref09_Common.l0 k3 a2 y482 (wrap64 (x9_2 + 1)) l0_0 a0_1 l1_0 a1_1) = some (r1, r2) := by first | (rw [hy482]; with_reducible exact H) | (have H2_ := (Option.bind_some _ _).symm.trans H; rw [hy482]; with_reducible exact H2_) | (have H2_ := (Option.bind_some _ _).symm.trans H; with_reducible exact H2_) | with_reducible exact H | (rw [hy482]; exact H) | exact H
                                  have Ny482 := Aside0.mk hy482
                                  clear hy482
                                  have H' := Aside0.mk H
                                  clear H
                                  have hnb56 := NB474_475.out
                                  have hnc56 := NB475_474.out
                                  have hcz57_0 : wr.cell? ⟨gb474, 0, none⟩ = some (.slice A0_0 l0_0.length c0_0) := (blk_cell BK474.out 0).trans rfl
                                  have hcz57_1 : wr.cell? ⟨gb474, 1, none⟩ = some (.int .i64 a0_1) := (blk_cell BK474.out 1).trans rfl
                                  have hfz57_0 := blk_frozen BK474.out 0
                                  have hfz57_1 := blk_frozen BK474.out 1
                                  have p478 : 0 ≤ (x9_2 : Int) := of_decide_eq_true (by first | (with_reducible assumption) | assumption)
                                  have q478 : x9_2 < (l0_0.length : Int) := of_decide_eq_true (by first | (with_reducible assumption) | assumption)
                                  obtain ⟨ad478, A478_0, c478_0, e478, hx478_0, hl478_0, hi478_0⟩ := at_L4 HR0_0.out x9_2 p478 q478
                                  cases e478
                                  replace hx478_0 := (HB.out.cell (World.block_lt_of_cell? w _ hx478_0)).trans hx478_0
                                  have HR478_0 := Aside0.mk hi478_0
                                  have HC478_0 := Aside0.mk hl478_0
                                  clear hi478_0 hl478_0
                                  replace p478 := eq_true p478
                                  replace q478 := eq_true q478
                                  go_wp2_with (first | (go_at_call 73; (with_reducible refine (leadtrailref03_Has.calls k3 _ _ (rd_L4 l0_0 x9_2) x10_3 true _ ?side1 ?side2 A44.out).mono ?_); (case side1 => repeat (first | exact (Kd.C_below HR478_0.out HB.out) | (with_reducible refine Kd.C_alloc ?_ _) | (with_reducible refine Kd.C_drewN ?_ _) | (with_reducible refine Kd.C_drew ?_))); (case side2 => exact HC478_0.out); rintro e w58 ⟨rfl, hb⟩; have n0_ := Aside0.mk (Kd.R_below (by (with_reducible repeat (first | apply Kd.R_alloc | apply Kd.R_drewN | apply Kd.R_drew)); exact HO_8.out) hb); have n1_ := Aside0.mk (blk_below (g := gb474) (o := .cells #[.slice (some ad478) l0_0.length c0_0, .int .i64 a0_1] 50 (0, 0)) (by (with_reducible repeat (first | refine blk_drewN ?_ _ | refine blk_drew ?_ | refine blk_alloc ?_ _)); exact BK474.out) hb); have n2_ := Aside0.mk (blk_below (g := gb475) (o := .cells #[.slice A1_0 l1_0.length c1_0, .int .i64 a1_1] 50 (0, 0)) (by (with_reducible repeat (first | refine blk_drewN ?_ _ | refine blk_drew ?_ | refine blk_alloc ?_ _)); exact BK475.out) hb); have n3_ := Aside0.mk (below_step (by repeat (first | (with_reducible first | exact HB.out | apply below_alloc | apply pw_below_drewN | apply below_drew1 | refine below_set ?_ GE474.out | refine below_set ?_ GE475.out) | exact HB.out)) hb); clear HO_8; clear BK474; clear BK475; clear HB; have HO_8 := n0_; have BK474 := n1_; have BK475 := n2_; have HB := n3_; clear n0_ n1_ n2_ n3_; (try clear hb); (try clear hb2); (try clear hk); (try clear hi); have hcz59_0 : w58.cell? ⟨gb475, 0, none⟩ = some (.slice A1_0 l1_0.length c1_0) := (blk_cell BK475.out 0).trans rfl; have hcz59_1 : w58.cell? ⟨gb475, 1, none⟩ = some (.int .i64 a1_1) := (blk_cell BK475.out 1).trans rfl; have hfz59_0 := blk_frozen BK475.out 0; have hfz59_1 := blk_frozen BK475.out 1; have p480 : 0 ≤ (x9_2 : Int) := of_decide_eq_true (by first | (with_reducible assumption) | assumption); have q480 : x9_2 < (l1_0.length : Int) := of_decide_eq_true (by first | (with_reducible assumption) | assumption); obtain ⟨ad480, A480_0, c480_0, e480, hx480_0, hl480_0, hi480_0⟩ := at_L4 HR1_0.out x9_2 p480 q480; cases e480; replace hx480_0 := (HB.out.cell (World.block_lt_of_cell? w _ hx480_0)).trans hx480_0; have HR480_0 := Aside0.mk hi480_0; have HC480_0 := Aside0.mk hl480_0; clear hi480_0 hl480_0; replace p480 := eq_true p480; replace q480 := eq_true q480) | (go_at_call 73; (with_reducible refine (leadtrailref03_Has.calls k3 _ _ (rd_L4 l1_0 x9_2) x10_3 true _ ?side1 ?side2 A47.out).mono ?_); (case side1 => repeat (first | exact (Kd.C_below HR480_0.out HB.out) | (with_reducible refine Kd.C_alloc ?_ _) | (with_reducible refine Kd.C_drewN ?_ _) | (with_reducible refine Kd.C_drew ?_))); (case side2 => exact HC480_0.out); rintro e w60 ⟨rfl, hb⟩; have n0_ := Aside0.mk (Kd.R_below (by (with_reducible repeat (first | apply Kd.R_alloc | apply Kd.R_drewN | apply Kd.R_drew)); exact HO_8.out) hb); have n1_ := Aside0.mk (blk_below (g := gb474) (o := .cells #[.slice (some ad478) l0_0.length c0_0, .int .i64 a0_1] 50 (0, 0)) (by (with_reducible repeat (first | refine blk_drewN ?_ _ | refine blk_drew ?_ | refine blk_alloc ?_ _)); exact BK474.out) hb); have n2_ := Aside0.mk (blk_below (g := gb475) (o := .cells #[.slice (some ad480) l1_0.length c1_0, .int .i64 a1_1] 50 (0, 0)) (by (with_reducible repeat (first | refine blk_drewN ?_ _ | refine blk_drew ?_ | refine blk_alloc ?_ _)); exact BK475.out) hb); have n3_ := Aside0.mk (below_step (by repeat (first | (with_reducible first | exact HB.out | apply below_alloc | apply pw_below_drewN | apply below_drew1 | refine below_set ?_ GE474.out | refine below_set ?_ GE475.out) | exact HB.out)) hb); clear HO_8; clear BK474; clear BK475; clear HB; have HO_8 := n0_; have BK474 := n1_; have BK475 := n2_; have HB := n3_; clear n0_ n1_ n2_ n3_; (try clear hb); (try clear hb2); (try clear hk); (try clear hi)) | ((with_reducible refine gate_builtin (b := .append) (xs := #[.tmp 67, .tmp 70]) rfl ?_); (try (refine gate_guard (by rfl) ?_; dsimp only)); at_builtin; refine Kd.R_append (Kd.int .u8) (w0 := w) w.heap.size rfl (.tmp 67) (.tmp 70) 52 5 (.int .u8 0) 1 rfl Try.underlying52 info5 rfl (by decide) (by omega) u8 x8_2 ((x10_3) % 256) [.int .u8 ((x10_3) % 256)] (fun _ => True) (fun _ => False) rfl rfl ?aP (fun _ hk => hk.elim) ?aF ?aO ?aB ?aS ?aL ?_; (case aP => exact rfl); (case aB => exact (by repeat (first | (with_reducible first | exact HB.out | apply below_alloc | apply pw_below_drewN | apply below_drew1 | refine below_set ?_ GE474.out | refine below_set ?_ GE475.out) | exact HB.out))); (case aF => exact (fun _ _ => trivial)); (case aO => exact (by (with_reducible repeat (first | apply Kd.R_alloc | apply Kd.R_drewN | apply Kd.R_drew)); exact HO_8.out)); (case aS => exact (below_size (by repeat (first | (with_reducible first | exact HB.out | apply below_alloc | apply pw_below_drewN | apply below_drew1 | refine below_set ?_ GE474.out | refine below_set ?_ GE475.out) | exact HB.out)))); (case aL => have := LMc55.out; omega); intro v483 w61 ho hb hg hat; rw [← Ny482.out] at ho; have n0_ := Aside0.mk (blk_grown (g := gb474) (o := .cells #[.slice (some ad478) l0_0.length c0_0, .int .i64 a0_1] 50 (0, 0)) (by (with_reducible repeat (first | refine blk_drewN ?_ _ | refine blk_drew ?_ | refine blk_alloc ?_ _)); exact BK474.out) hg (Kd.R_ne HO_8.out BK474.out (by decide))); have n1_ := Aside0.mk (blk_grown (g := gb475) (o := .cells #[.slice (some ad480) l1_0.length c1_0, .int .i64 a1_1] 50 (0, 0)) (by (with_reducible repeat (first | refine blk_drewN ?_ _ | refine blk_drew ?_ | refine blk_alloc ?_ _)); exact BK475.out) hg (Kd.R_ne HO_8.out BK475.out (by decide))); have n2_ := Aside0.mk (hb); have n3_ := Aside0.mk (ho); clear BK474; clear BK475; clear HB; clear HO_8; have BK474 := n0_; have BK475 := n1_; have HB := n2_; have HO484 := n3_; clear n0_ n1_ n2_ n3_; clear ho hb hg hat))
                                  go_roundg k3
                                  case measure => have := HJ3.out; have := HK2.out; have := HK3.out; omega
                                  case rel => exact ⟨(y482), (wrap64 (x9_2 + 1)), (by first | rfl | (simp; done) | (simp [*]; done)), H', ⟨by have := HJ3.out; have := HK2.out; have := HK3.out; omega⟩, ⟨by (with_reducible repeat (first | apply Kd.R_alloc | apply Kd.R_drewN | apply Kd.R_drew)); exact HO484.out⟩, ⟨by (with_reducible repeat (first | refine blk_drewN ?_ _ | refine blk_drew ?_ | refine blk_alloc ?_ _)); exact BK474.out⟩, ⟨by (with_reducible repeat (first | refine blk_drewN ?_ _ | refine blk_drew ?_ | refine blk_alloc ?_ _)); exact BK475.out⟩, ⟨by repeat (first | (with_reducible first | exact HB.out | apply below_alloc | apply pw_below_drewN | apply below_drew1 | refine below_set ?_ GE474.out | refine below_set ?_ GE475.out) | exact HB.out)⟩⟩
                                · rw [if_neg c55] at H
                                  exact absurd H (by simp)
                            · replace c48 := Bool.eq_false_iff.mpr c48
                              subst c48
                              have H1 : (leadtrailref09_Common.l1 k3 a2 x8_2 x9_2 (wrap64 (x10_3 + 1)) l0_0 a0_1 l1_0 a1_1) = some (r1, r2) := by rw [if_neg (show ¬ (false = true) by decide)] at H; exact H
                              clear H
                              have H := H1
                              clear H1
                              have H' := Aside0.mk H
                              clear H
                              have hnb62 := NB474_475.out
                              have hnc62 := NB475_474.out
                              have hcz63_0 : wr.cell? ⟨gb474, 0, none⟩ = some (.slice A0_0 l0_0.length c0_0) := (blk_cell BK474.out 0).trans rfl
                              have hcz63_1 : wr.cell? ⟨gb474, 1, none⟩ = some (.int .i64 a0_1) := (blk_cell BK474.out 1).trans rfl
                              have hfz63_0 := blk_frozen BK474.out 0
                              have hfz63_1 := blk_frozen BK474.out 1
                              have p478 : 0 ≤ (x9_2 : Int) := of_decide_eq_true (by first | (with_reducible assumption) | assumption)
                              have q478 : x9_2 < (l0_0.length : Int) := of_decide_eq_true (by first | (with_reducible assumption) | assumption)
                              obtain ⟨ad478, A478_0, c478_0, e478, hx478_0, hl478_0, hi478_0⟩ := at_L4 HR0_0.out x9_2 p478 q478
                              cases e478
                              replace hx478_0 := (HB.out.cell (World.block_lt_of_cell? w _ hx478_0)).trans hx478_0
                              have HR478_0 := Aside0.mk hi478_0
                              have HC478_0 := Aside0.mk hl478_0
                              clear hi478_0 hl478_0
                              replace p478 := eq_true p478
                              replace q478 := eq_true q478
                              go_wp2_with (first | (go_at_call 73; (with_reducible refine (leadtrailref03_Has.calls k3 _ _ (rd_L4 l0_0 x9_2) x10_3 true _ ?side1 ?side2 A44.out).mono ?_); (case side1 => repeat (first | exact (Kd.C_below HR478_0.out HB.out) | (with_reducible refine Kd.C_alloc ?_ _) | (with_reducible refine Kd.C_drewN ?_ _) | (with_reducible refine Kd.C_drew ?_))); (case side2 => exact HC478_0.out); rintro e w64 ⟨rfl, hb⟩; have n0_ := Aside0.mk (Kd.R_below (by (with_reducible repeat (first | apply Kd.R_alloc | apply Kd.R_drewN | apply Kd.R_drew)); exact HO_8.out) hb); have n1_ := Aside0.mk (blk_below (g := gb474) (o := .cells #[.slice (some ad478) l0_0.length c0_0, .int .i64 a0_1] 50 (0, 0)) (by (with_reducible repeat (first | refine blk_drewN ?_ _ | refine blk_drew ?_ | refine blk_alloc ?_ _)); exact BK474.out) hb); have n2_ := Aside0.mk (blk_below (g := gb475) (o := .cells #[.slice A1_0 l1_0.length c1_0, .int .i64 a1_1] 50 (0, 0)) (by (with_reducible repeat (first | refine blk_drewN ?_ _ | refine blk_drew ?_ | refine blk_alloc ?_ _)); exact BK475.out) hb); have n3_ := Aside0.mk (below_step (by repeat (first | (with_reducible first | exact HB.out | apply below_alloc | apply pw_below_drewN | apply below_drew1 | refine below_set ?_ GE474.out | refine below_set ?_ GE475.out) | exact HB.out)) hb); clear HO_8; clear BK474; clear BK475; clear HB; have HO_8 := n0_; have BK474 := n1_; have BK475 := n2_; have HB := n3_; clear n0_ n1_ n2_ n3_; (try clear hb); (try clear hb2); (try clear hk); (try clear hi); have hcz65_0 : w64.cell? ⟨gb475, 0, none⟩ = some (.slice A1_0 l1_0.length c1_0) := (blk_cell BK475.out 0).trans rfl; have hcz65_1 : w64.cell? ⟨gb475, 1, none⟩ = some (.int .i64 a1_1) := (blk_cell BK475.out 1).trans rfl; have hfz65_0 := blk_frozen BK475.out 0; have hfz65_1 := blk_frozen BK475.out 1; have p480 : 0 ≤ (x9_2 : Int) := of_decide_eq_true (by first | (with_reducible assumption) | assumption); have q480 : x9_2 < (l1_0.length : Int) := of_decide_eq_true (by first | (with_reducible assumption) | assumption); obtain ⟨ad480, A480_0, c480_0, e480, hx480_0, hl480_0, hi480_0⟩ := at_L4 HR1_0.out x9_2 p480 q480; cases e480; replace hx480_0 := (HB.out.cell (World.block_lt_of_cell? w _ hx480_0)).trans hx480_0; have HR480_0 := Aside0.mk hi480_0; have HC480_0 := Aside0.mk hl480_0; clear hi480_0 hl480_0; replace p480 := eq_true p480; replace q480 := eq_true q480) | (go_at_call 73; (with_reducible refine (leadtrailref03_Has.calls k3 _ _ (rd_L4 l1_0 x9_2) x10_3 false _ ?side1 ?side2 A47.out).mono ?_); (case side1 => repeat (first | exact (Kd.C_below HR480_0.out HB.out) | (with_reducible refine Kd.C_alloc ?_ _) | (with_reducible refine Kd.C_drewN ?_ _) | (with_reducible refine Kd.C_drew ?_))); (case side2 => exact HC480_0.out); rintro e w66 ⟨rfl, hb⟩; have n0_ := Aside0.mk (Kd.R_below (by (with_reducible repeat (first | apply Kd.R_alloc | apply Kd.R_drewN | apply Kd.R_drew)); exact HO_8.out) hb); have n1_ := Aside0.mk (blk_below (g := gb474) (o := .cells #[.slice (some ad478) l0_0.length c0_0, .int .i64 a0_1] 50 (0, 0)) (by (with_reducible repeat (first | refine blk_drewN ?_ _ | refine blk_drew ?_ | refine blk_alloc ?_ _)); exact BK474.out) hb); have n2_ := Aside0.mk (blk_below (g := gb475) (o := .cells #[.slice (some ad480) l1_0.length c1_0, .int .i64 a1_1] 50 (0, 0)) (by (with_reducible repeat (first | refine blk_drewN ?_ _ | refine blk_drew ?_ | refine blk_alloc ?_ _)); exact BK475.out) hb); have n3_ := Aside0.mk (below_step (by repeat (first | (with_reducible first | exact HB.out | apply below_alloc | apply pw_below_drewN | apply below_drew1 | refine below_set ?_ GE474.out | refine below_set ?_ GE475.out) | exact HB.out)) hb); clear HO_8; clear BK474; clear BK475; clear HB; have HO_8 := n0_; have BK474 := n1_; have BK475 := n2_; have HB := n3_; clear n0_ n1_ n2_ n3_; (try clear hb); (try clear hb2); (try clear hk); (try clear hi)))
                              go_roundg k3
                              case measure => have := HJ3.out; have := HK2.out; have := HK3.out; omega
                              case rel => exact ⟨(wrap64 (x10_3 + 1)), (by first | rfl | (simp; done) | (simp [*]; done)), H', ⟨by have := HJ3.out; have := HK2.out; have := HK3.out; omega⟩, ⟨by (with_reducible repeat (first | apply Kd.R_alloc | apply Kd.R_drewN | apply Kd.R_drew)); exact HO_8.out⟩, ⟨by (with_reducible repeat (first | refine blk_drewN ?_ _ | refine blk_drew ?_ | refine blk_alloc ?_ _)); exact BK474.out⟩, ⟨by (with_reducible repeat (first | refine blk_drewN ?_ _ | refine blk_drew ?_ | refine blk_alloc ?_ _)); exact BK475.out⟩, ⟨by repeat (first | (with_reducible first | exact HB.out | apply below_alloc | apply pw_below_drewN | apply below_drew1 | refine below_set ?_ GE474.out | refine below_set ?_ GE475.out) | exact HB.out)⟩⟩
                          · rw [if_neg c46] at H
                            exact absurd H (by simp)
                        · replace c45 := Bool.eq_false_iff.mpr c45
                          subst c45
                          have H1 : (leadtrailref09_Common.l1 k3 a2 x8_2 x9_2 (wrap64 (x10_3 + 1)) l0_0 a0_1 l1_0 a1_1) = some (r1, r2) := by rw [if_neg (show ¬ (false = true) by decide)] at H; exact H
                          clear H
                          have H := H1
                          clear H1
                          have H' := Aside0.mk H
                          clear H
                          have hnb67 := NB474_475.out
                          have hnc67 := NB475_474.out
                          have hcz68_0 : wr.cell? ⟨gb474, 0, none⟩ = some (.slice A0_0 l0_0.length c0_0) := (blk_cell BK474.out 0).trans rfl
                          have hcz68_1 : wr.cell? ⟨gb474, 1, none⟩ = some (.int .i64 a0_1) := (blk_cell BK474.out 1).trans rfl
                          have hfz68_0 := blk_frozen BK474.out 0
                          have hfz68_1 := blk_frozen BK474.out 1
                          have p478 : 0 ≤ (x9_2 : Int) := of_decide_eq_true (by first | (with_reducible assumption) | assumption)
                          have q478 : x9_2 < (l0_0.length : Int) := of_decide_eq_true (by first | (with_reducible assumption) | assumption)
                          obtain ⟨ad478, A478_0, c478_0, e478, hx478_0, hl478_0, hi478_0⟩ := at_L4 HR0_0.out x9_2 p478 q478
                          cases e478
                          replace hx478_0 := (HB.out.cell (World.block_lt_of_cell? w _ hx478_0)).trans hx478_0
                          have HR478_0 := Aside0.mk hi478_0
                          have HC478_0 := Aside0.mk hl478_0
                          clear hi478_0 hl478_0
                          replace p478 := eq_true p478
                          replace q478 := eq_true q478
                          go_wp2_with (first | (go_at_call 73; (with_reducible refine (leadtrailref03_Has.calls k3 _ _ (rd_L4 l0_0 x9_2) x10_3 false _ ?side1 ?side2 A44.out).mono ?_); (case side1 => repeat (first | exact (Kd.C_below HR478_0.out HB.out) | (with_reducible refine Kd.C_alloc ?_ _) | (with_reducible refine Kd.C_drewN ?_ _) | (with_reducible refine Kd.C_drew ?_))); (case side2 => exact HC478_0.out); rintro e w69 ⟨rfl, hb⟩; have n0_ := Aside0.mk (Kd.R_below (by (with_reducible repeat (first | apply Kd.R_alloc | apply Kd.R_drewN | apply Kd.R_drew)); exact HO_8.out) hb); have n1_ := Aside0.mk (blk_below (g := gb474) (o := .cells #[.slice (some ad478) l0_0.length c0_0, .int .i64 a0_1] 50 (0, 0)) (by (with_reducible repeat (first | refine blk_drewN ?_ _ | refine blk_drew ?_ | refine blk_alloc ?_ _)); exact BK474.out) hb); have n2_ := Aside0.mk (blk_below (g := gb475) (o := .cells #[.slice A1_0 l1_0.length c1_0, .int .i64 a1_1] 50 (0, 0)) (by (with_reducible repeat (first | refine blk_drewN ?_ _ | refine blk_drew ?_ | refine blk_alloc ?_ _)); exact BK475.out) hb); have n3_ := Aside0.mk (below_step (by repeat (first | (with_reducible first | exact HB.out | apply below_alloc | apply pw_below_drewN | apply below_drew1 | refine below_set ?_ GE474.out | refine below_set ?_ GE475.out) | exact HB.out)) hb); clear HO_8; clear BK474; clear BK475; clear HB; have HO_8 := n0_; have BK474 := n1_; have BK475 := n2_; have HB := n3_; clear n0_ n1_ n2_ n3_; (try clear hb); (try clear hb2); (try clear hk); (try clear hi)))
                          go_roundg k3
                          case measure => have := HJ3.out; have := HK2.out; have := HK3.out; omega
                          case rel => exact ⟨(wrap64 (x10_3 + 1)), (by first | rfl | (simp; done) | (simp [*]; done)), H', ⟨by have := HJ3.out; have := HK2.out; have := HK3.out; omega⟩, ⟨by (with_reducible repeat (first | apply Kd.R_alloc | apply Kd.R_drewN | apply Kd.R_drew)); exact HO_8.out⟩, ⟨by (with_reducible repeat (first | refine blk_drewN ?_ _ | refine blk_drew ?_ | refine blk_alloc ?_ _)); exact BK474.out⟩, ⟨by (with_reducible repeat (first | refine blk_drewN ?_ _ | refine blk_drew ?_ | refine blk_alloc ?_ _)); exact BK475.out⟩, ⟨by repeat (first | (with_reducible first | exact HB.out | apply below_alloc | apply pw_below_drewN | apply below_drew1 | refine below_set ?_ GE474.out | refine below_set ?_ GE475.out) | exact HB.out)⟩⟩
                      · rw [if_neg c43] at H
                        exact absurd H (by simp)
                    · rw [if_neg c42] at H
                      exact absurd H (by simp)
                  · rw [if_neg c41] at H
                    have c41b0 : decide (x10_3 < 256) = false := decide_eq_false c41
                    clear c41
                    by_cases c70 : x10_3 = 256
                    · rw [if_pos c70] at H
                      have c70b0 : (x10_3 == 256) = true := beq_iff_eq.mpr c70
                      have c70b1 : (x10_3 != 256) = false := bne_eq_false_iff_eq.mpr c70
                      clear c70
                      simp only [Option.some.injEq, Prod.mk.injEq] at H
                      obtain ⟨rfl, rfl⟩ := H
                      go_wp2
                      go_ret2
                      exact ⟨_, by first | rfl | (simp [errW_none, errW_some] <;> rfl) | (simp [*, errW_none, errW_some] <;> rfl), by first | exact Kd.R_nil _ _ _ _ _ | exact Kd.N_nil _ _ _ _ _ | exact Kd.V_nil _ _ _ _ _ | exact Kd.Q_nil _ _ _ _ _ | exact Kd.S_nil _ _ _ _ _, by repeat (first | (with_reducible first | exact HB.out | apply below_alloc | apply pw_below_drewN | apply below_drew1 | refine below_set ?_ GE474.out | refine below_set ?_ GE475.out) | exact HB.out)⟩
                    · rw [if_neg c70] at H
                      have c70b0 : (x10_3 == 256) = false := beq_eq_false_iff_ne.mpr c70
                      have c70b1 : (x10_3 != 256) = true := bne_iff_ne.mpr c70
                      by_cases c71 : x8_2.length < 140737488355328
                      · rw [if_pos c71] at H
                        have LMc71 := Aside0.mk c71
                        clear c71
                        obtain ⟨y485, hy485⟩ : ∃ y_ : List Int, y_ = (x8_2 ++ [(x10_3) % 256]) := ⟨_, rfl⟩
                        replace H : (leadtrailref09_Common.l0 k3 a2 y485 (wrap64 (x9_2 + 1)) l0_0 a0_1 l1_0 a1_1) = some (r1, r2) := by first | (rw [hy485]; with_reducible exact H) | (have H2_ := (Option.bind_some _ _).symm.trans H; rw [hy485]; with_reducible exact H2_) | (have H2_ := (Option.bind_some _ _).symm.trans H; with_reducible exact H2_) | with_reducible exact H | (rw [hy485]; exact H) | exact H
                        have Ny485 := Aside0.mk hy485
                        clear hy485
                        have H' := Aside0.mk H
                        clear H
                        go_wp2_with (first | ((with_reducible refine gate_builtin (b := .append) (xs := #[.tmp 67, .tmp 70]) rfl ?_); (try (refine gate_guard (by rfl) ?_; dsimp only)); at_builtin; refine Kd.R_append (Kd.int .u8) (w0 := w) w.heap.size rfl (.tmp 67) (.tmp 70) 52 5 (.int .u8 0) 1 rfl Try.underlying52 info5 rfl (by decide) (by omega) u8 x8_2 ((x10_3) % 256) [.int .u8 ((x10_3) % 256)] (fun _ => True) (fun _ => False) rfl rfl ?aP (fun _ hk => hk.elim) ?aF ?aO ?aB ?aS ?aL ?_; (case aP => exact rfl); (case aB => exact (by repeat (first | (with_reducible first | exact HB.out | apply below_alloc | apply pw_below_drewN | apply below_drew1 | refine below_set ?_ GE474.out | refine below_set ?_ GE475.out) | exact HB.out))); (case aF => exact (fun _ _ => trivial)); (case aO => exact (by (with_reducible repeat (first | apply Kd.R_alloc | apply Kd.R_drewN | apply Kd.R_drew)); exact HO_8.out)); (case aS => exact (below_size (by repeat (first | (with_reducible first | exact HB.out | apply below_alloc | apply pw_below_drewN | apply below_drew1 | refine below_set ?_ GE474.out | refine below_set ?_ GE475.out) | exact HB.out)))); (case aL => have := LMc71.out; omega); intro v486 w72 ho hb hg hat; rw [← Ny485.out] at ho; have n0_ := Aside0.mk (blk_grown (g := gb474) (o := .cells #[.slice A0_0 l0_0.length c0_0, .int .i64 a0_1] 50 (0, 0)) (by (with_reducible repeat (first | refine blk_drewN ?_ _ | refine blk_drew ?_ | refine blk_alloc ?_ _)); exact BK474.out) hg (Kd.R_ne HO_8.out BK474.out (by decide))); have n1_ := Aside0.mk (blk_grown (g := gb475) (o := .cells #[.slice A1_0 l1_0.length c1_0, .int .i64 a1_1] 50 (0, 0)) (by (with_reducible repeat (first | refine blk_drewN ?_ _ | refine blk_drew ?_ | refine blk_alloc ?_ _)); exact BK475.out) hg (Kd.R_ne HO_8.out BK475.out (by decide))); have n2_ := Aside0.mk (hb); have n3_ := Aside0.mk (ho); clear BK474; clear BK475; clear HB; clear HO_8; have BK474 := n0_; have BK475 := n1_; have HB := n2_; have HO487 := n3_; clear n0_ n1_ n2_ n3_; clear ho hb hg hat))
                        go_roundg k3
                        case measure => have := HJ3.out; have := HK2.out; have := HK3.out; omega
                        case rel => exact ⟨(y485), (wrap64 (x9_2 + 1)), (by first | rfl | (simp; done) | (simp [*]; done)), H', ⟨by have := HJ3.out; have := HK2.out; have := HK3.out; omega⟩, ⟨by (with_reducible repeat (first | apply Kd.R_alloc | apply Kd.R_drewN | apply Kd.R_drew)); exact HO487.out⟩, ⟨by (with_reducible repeat (first | refine blk_drewN ?_ _ | refine blk_drew ?_ | refine blk_alloc ?_ _)); exact BK474.out⟩, ⟨by (with_reducible repeat (first | refine blk_drewN ?_ _ | refine blk_drew ?_ | refine blk_alloc ?_ _)); exact BK475.out⟩, ⟨by repeat (first | (with_reducible first | exact HB.out | apply below_alloc | apply pw_below_drewN | apply below_drew1 | refine below_set ?_ GE474.out | refine below_set ?_ GE475.out) | exact HB.out)⟩⟩
                      · rw [if_neg c71] at H
                        exact absurd H (by simp)
            · rw [if_neg c40] at H
              have c40b0 : decide (x9_2 < a2) = false := decide_eq_false c40
              clear c40
              simp only [Option.some.injEq, Prod.mk.injEq] at H
              obtain ⟨rfl, rfl⟩ := H
              go_wp2
              go_ret2
              exact ⟨_, by first | rfl | (simp [errW_none, errW_some] <;> rfl) | (simp [*, errW_none, errW_some] <;> rfl), by (with_reducible repeat (first | apply Kd.R_alloc | apply Kd.R_drewN | apply Kd.R_drew)); exact HO_8.out, by repeat (first | (with_reducible first | exact HB.out | apply below_alloc | apply pw_below_drewN | apply below_drew1 | refine below_set ?_ GE474.out | refine below_set ?_ GE475.out) | exact HB.out)⟩
end Go.Proofs.Ytkcklnmbeinfkaa.B
