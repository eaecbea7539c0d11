/- Words and walks of this claim, of the text Bx16. -/
import Derived.Test.YtkcklnmbeinfkaaKdZq
import Derived.Test.YtkcklnmbeinfkaaKdBx0
import Derived.Test.YtkcklnmbeinfkaaKdBx15
namespace Go.Proofs.Ytkcklnmbeinfkaa.B
open Go.RowKit Go.Proofs.YtkcklnmbeinfkaaW.PrintWords Go.Proofs.YtkcklnmbeinfkaaW.PrintLast Go.Proofs.YtkcklnmbeinfkaaW.PrintMore
attribute [local go_sem] max2_int min2_int max_two min_two max_three min_three max_four min_four
set_option linter.unusedVariables false
set_option linter.unusedSimpArgs false
mutual
def leadtrailref08_SameShape.j0 : Nat → Bool → List (List (S113)) → Int → List (List (S113)) → Int → Option (Bool)
 | 0, _, _, _, _, _ => none
 | k + 1, x19, x408000, x408001, x409000, x409001 => if x19 = true then (some false) else (leadtrailref08_SameShape.l0 k 0 x408000 x408001 x409000 x409001)
def leadtrailref08_SameShape.l0 : Nat → Int → List (List (S113)) → Int → List (List (S113)) → Int → Option (Bool)
 | 0, _, _, _, _, _ => none
 | k + 1, x5, x408000, x408001, x409000, x409001 => if x5 < (x408000.length : Int) then (if 0 ≤ x5 then (if x5 < (x409000.length : Int) then ((leadtrailref03_Same.f k (rd_L4 x408000 x5) (rd_L4 x409000 x5)).bind fun t411 => (if t411 = true then (leadtrailref08_SameShape.l0 k (wrap64 (x5 + 1)) x408000 x408001 x409000 x409001) else (some false))) else (none)) else (none)) else (some true)
end
def leadtrailref08_SameShape.f (k : Nat) (l0_0 : List (List (S113))) (a0_1 : Int) (l1_0 : List (List (S113))) (a1_1 : Int) : Option (Bool) := if a0_1 = a1_1 then (leadtrailref08_SameShape.j0 k ((l0_0.length : Int) != (l1_0.length : Int)) l0_0 a0_1 l1_0 a1_1) else (leadtrailref08_SameShape.j0 k true l0_0 a0_1 l1_0 a1_1)
set_option maxHeartbeats 8000000 in
set_option maxRecDepth 100000 in
theorem leadtrailref08_SameShape.calls (k : Nat) (A0_0 : Option Addr) (c0_0 : Nat) (l0_0 : List (List (S113))) (a0_1 : Int) (A1_0 : Option Addr) (c1_0 : Nat) (l1_0 : List (List (S113))) (a1_1 : Int) (r : Bool) (w : World) (hr0_0 : Kd.C (Kd.slice 113 k113) w A0_0 l0_0.length l0_0) (hc0_0 : l0_0.length ≤ c0_0) (hr1_0 : Kd.C (Kd.slice 113 k113) w A1_0 l1_0.length l1_0) (hc1_0 : l1_0.length ≤ c1_0) (h : leadtrailref08_SameShape.f k l0_0 a0_1 l1_0 a1_1 = some r) :
  Calls Try.prog 56 #[.agg #[.slice A0_0 l0_0.length c0_0, .int .i64 a0_1], .agg #[.slice A1_0 l1_0.length c1_0, .int .i64 a1_1]] w fun e w' => e = .returned (.bool r) ∧ Below w.heap.size w w' := by
 have hu50 := Try.underlying50
 have HR0_0 := Aside0.mk hr0_0
 have HC0_0 := Aside0.mk hc0_0
 clear hr0_0 hc0_0
 have HR1_0 := Aside0.mk hr1_0
 have HC1_0 := Aside0.mk hc1_0
 clear hr1_0 hc1_0
 have HB := Aside0.mk (Below.refl w.heap.size w)
 have H : (if a0_1 = a1_1 then (leadtrailref08_SameShape.j0 k ((l0_0.length : Int) != (l1_0.length : Int)) l0_0 a0_1 l1_0 a1_1) else (leadtrailref08_SameShape.j0 k true l0_0 a0_1 l1_0 a1_1)) = some r := h
 clear h
 have HC3 := Aside0.mk H
 clear H
 go_enter Try.func56, Try.ntmps56
 go_upto_region 1 with (first | ((with_reducible refine gate_dst (N := 2) rfl ?_); (try (refine gate_guard (by rfl) ?_; dsimp only)); refine box_event ?hg (N := 2) ?hd (cs := #[.slice A0_0 l0_0.length c0_0, .int .i64 a0_1]) (t := 50) ?hr ?_; (case hd => rfl); (case hg => rfl); (case hr => first | (go_simp; done) | (go_simp; rfl)); intro gb407 hg w4 hbox hb; have n0_ := Aside0.mk (below_step (by repeat (first | (with_reducible first | exact HB.out | apply zD | apply zE | apply zF) | exact HB.out)) hb); have n1_ := Aside0.mk (hbox); have n2_ := Aside0.mk ((by rw [hg]; exact (below_size (by repeat (first | (with_reducible first | exact HB.out | apply zD | apply zE | apply zF) | exact HB.out))) : w.heap.size ≤ gb407)); have n3_ := Aside0.mk ((by rw [hg]; exact (below_size (by repeat (first | (with_reducible first | exact HB.out | apply zD | apply zE | apply zF) | exact HB.out))) : w.heap.size ≤ gb407)); clear HB; have HB := n0_; have BK407 := n1_; have GW407 := n2_; have GE407 := n3_; clear n0_ n1_ n2_ n3_; clear hb hbox hg) | ((with_reducible refine gate_dst (N := 3) rfl ?_); (try (refine gate_guard (by rfl) ?_; dsimp only)); refine box_event ?hg (N := 3) ?hd (cs := #[.slice A1_0 l1_0.length c1_0, .int .i64 a1_1]) (t := 50) ?hr ?_; (case hd => rfl); (case hg => rfl); (case hr => first | (go_simp; done) | (go_simp; rfl)); intro gb408 hg w5 hbox hb; have n0_ := Aside0.mk (blk_below (g := gb407) (o := .cells #[.slice A0_0 l0_0.length c0_0, .int .i64 a0_1] 50 (0, 0)) (by (with_reducible repeat (first | refine blk_drewN ?_ _ | refine blk_drew ?_ | refine blk_alloc ?_ _)); exact BK407.out) hb); have n1_ := Aside0.mk (below_step (by repeat (first | (with_reducible first | exact HB.out | apply zD | apply zE | apply zF | refine below_set ?_ GE407.out) | exact HB.out)) hb); have n2_ := Aside0.mk (hbox); have n3_ := Aside0.mk ((by rw [hg]; exact (below_size (by repeat (first | (with_reducible first | exact HB.out | apply zD | apply zE | apply zF | refine below_set ?_ GE407.out) | exact HB.out))) : w.heap.size ≤ gb408)); have n4_ := Aside0.mk ((by rw [hg]; exact (below_size (by repeat (first | (with_reducible first | exact HB.out | apply zD | apply zE | apply zF | refine below_set ?_ GE407.out) | exact HB.out))) : w.heap.size ≤ gb408)); have n5_ := Aside0.mk ((by rw [hg]; exact Nat.ne_of_lt (blk_lt (g := gb407) (o := .cells #[.slice A0_0 l0_0.length c0_0, .int .i64 a0_1] 50 (0, 0)) (by (with_reducible repeat (first | refine blk_drewN ?_ _ | refine blk_drew ?_ | refine blk_alloc ?_ _)); exact BK407.out)) : gb407 ≠ gb408)); have n6_ := Aside0.mk ((by rw [hg]; exact Nat.ne_of_gt (blk_lt (g := gb407) (o := .cells #[.slice A0_0 l0_0.length c0_0, .int .i64 a0_1] 50 (0, 0)) (by (with_reducible repeat (first | refine blk_drewN ?_ _ | refine blk_drew ?_ | refine blk_alloc ?_ _)); exact BK407.out)) : gb408 ≠ gb407)); clear BK407; clear HB; have BK407 := n0_; have HB := n1_; have BK408 := n2_; have GW408 := n3_; have GE408 := n4_; have NB407_408 := n5_; have NB408_407 := n6_; clear n0_ n1_ n2_ n3_ n4_ n5_ n6_; clear hb hbox hg))
 repeat (go_quiet (first | ((with_reducible refine gate_dst (N := 2) rfl ?_); (try (refine gate_guard (by rfl) ?_; dsimp only)); refine box_event ?hg (N := 2) ?hd (cs := #[.slice A0_0 l0_0.length c0_0, .int .i64 a0_1]) (t := 50) ?hr ?_; (case hd => rfl); (case hg => rfl); (case hr => first | (go_simp; done) | (go_simp; rfl)); intro gb407 hg w4 hbox hb; have n0_ := Aside0.mk (below_step (by repeat (first | (with_reducible first | exact HB.out | apply zD | apply zE | apply zF) | exact HB.out)) hb); have n1_ := Aside0.mk (hbox); have n2_ := Aside0.mk ((by rw [hg]; exact (below_size (by repeat (first | (with_reducible first | exact HB.out | apply zD | apply zE | apply zF) | exact HB.out))) : w.heap.size ≤ gb407)); have n3_ := Aside0.mk ((by rw [hg]; exact (below_size (by repeat (first | (with_reducible first | exact HB.out | apply zD | apply zE | apply zF) | exact HB.out))) : w.heap.size ≤ gb407)); clear HB; have HB := n0_; have BK407 := n1_; have GW407 := n2_; have GE407 := n3_; clear n0_ n1_ n2_ n3_; clear hb hbox hg) | ((with_reducible refine gate_dst (N := 3) rfl ?_); (try (refine gate_guard (by rfl) ?_; dsimp only)); refine box_event ?hg (N := 3) ?hd (cs := #[.slice A1_0 l1_0.length c1_0, .int .i64 a1_1]) (t := 50) ?hr ?_; (case hd => rfl); (case hg => rfl); (case hr => first | (go_simp; done) | (go_simp; rfl)); intro gb408 hg w5 hbox hb; have n0_ := Aside0.mk (blk_below (g := gb407) (o := .cells #[.slice A0_0 l0_0.length c0_0, .int .i64 a0_1] 50 (0, 0)) (by (with_reducible repeat (first | refine blk_drewN ?_ _ | refine blk_drew ?_ | refine blk_alloc ?_ _)); exact BK407.out) hb); have n1_ := Aside0.mk (below_step (by repeat (first | (with_reducible first | exact HB.out | apply zD | apply zE | apply zF | refine below_set ?_ GE407.out) | exact HB.out)) hb); have n2_ := Aside0.mk (hbox); have n3_ := Aside0.mk ((by rw [hg]; exact (below_size (by repeat (first | (with_reducible first | exact HB.out | apply zD | apply zE | apply zF | refine below_set ?_ GE407.out) | exact HB.out))) : w.heap.size ≤ gb408)); have n4_ := Aside0.mk ((by rw [hg]; exact (below_size (by repeat (first | (with_reducible first | exact HB.out | apply zD | apply zE | apply zF | refine below_set ?_ GE407.out) | exact HB.out))) : w.heap.size ≤ gb408)); have n5_ := Aside0.mk ((by rw [hg]; exact Nat.ne_of_lt (blk_lt (g := gb407) (o := .cells #[.slice A0_0 l0_0.length c0_0, .int .i64 a0_1] 50 (0, 0)) (by (with_reducible repeat (first | refine blk_drewN ?_ _ | refine blk_drew ?_ | refine blk_alloc ?_ _)); exact BK407.out)) : gb407 ≠ gb408)); have n6_ := Aside0.mk ((by rw [hg]; exact Nat.ne_of_gt (blk_lt (g := gb407) (o := .cells #[.slice A0_0 l0_0.length c0_0, .int .i64 a0_1] 50 (0, 0)) (by (with_reducible repeat (first | refine blk_drewN ?_ _ | refine blk_drew ?_ | refine blk_alloc ?_ _)); exact BK407.out)) : gb408 ≠ gb407)); clear BK407; clear HB; have BK407 := n0_; have HB := n1_; have BK408 := n2_; have GW408 := n3_; have GE408 := n4_; have NB407_408 := n5_; have NB408_407 := n6_; clear n0_ n1_ n2_ n3_ n4_ n5_ n6_; clear hb hbox hg)); go_upto_region 1 with (first | ((with_reducible refine gate_dst (N := 2) rfl ?_); (try (refine gate_guard (by rfl) ?_; dsimp only)); refine box_event ?hg (N := 2) ?hd (cs := #[.slice A0_0 l0_0.length c0_0, .int .i64 a0_1]) (t := 50) ?hr ?_; (case hd => rfl); (case hg => rfl); (case hr => first | (go_simp; done) | (go_simp; rfl)); intro gb407 hg w4 hbox hb; have n0_ := Aside0.mk (below_step (by repeat (first | (with_reducible first | exact HB.out | apply zD | apply zE | apply zF) | exact HB.out)) hb); have n1_ := Aside0.mk (hbox); have n2_ := Aside0.mk ((by rw [hg]; exact (below_size (by repeat (first | (with_reducible first | exact HB.out | apply zD | apply zE | apply zF) | exact HB.out))) : w.heap.size ≤ gb407)); have n3_ := Aside0.mk ((by rw [hg]; exact (below_size (by repeat (first | (with_reducible first | exact HB.out | apply zD | apply zE | apply zF) | exact HB.out))) : w.heap.size ≤ gb407)); clear HB; have HB := n0_; have BK407 := n1_; have GW407 := n2_; have GE407 := n3_; clear n0_ n1_ n2_ n3_; clear hb hbox hg) | ((with_reducible refine gate_dst (N := 3) rfl ?_); (try (refine gate_guard (by rfl) ?_; dsimp only)); refine box_event ?hg (N := 3) ?hd (cs := #[.slice A1_0 l1_0.length c1_0, .int .i64 a1_1]) (t := 50) ?hr ?_; (case hd => rfl); (case hg => rfl); (case hr => first | (go_simp; done) | (go_simp; rfl)); intro gb408 hg w5 hbox hb; have n0_ := Aside0.mk (blk_below (g := gb407) (o := .cells #[.slice A0_0 l0_0.length c0_0, .int .i64 a0_1] 50 (0, 0)) (by (with_reducible repeat (first | refine blk_drewN ?_ _ | refine blk_drew ?_ | refine blk_alloc ?_ _)); exact BK407.out) hb); have n1_ := Aside0.mk (below_step (by repeat (first | (with_reducible first | exact HB.out | apply zD | apply zE | apply zF | refine below_set ?_ GE407.out) | exact HB.out)) hb); have n2_ := Aside0.mk (hbox); have n3_ := Aside0.mk ((by rw [hg]; exact (below_size (by repeat (first | (with_reducible first | exact HB.out | apply zD | apply zE | apply zF | refine below_set ?_ GE407.out) | exact HB.out))) : w.heap.size ≤ gb408)); have n4_ := Aside0.mk ((by rw [hg]; exact (below_size (by repeat (first | (with_reducible first | exact HB.out | apply zD | apply zE | apply zF | refine below_set ?_ GE407.out) | exact HB.out))) : w.heap.size ≤ gb408)); have n5_ := Aside0.mk ((by rw [hg]; exact Nat.ne_of_lt (blk_lt (g := gb407) (o := .cells #[.slice A0_0 l0_0.length c0_0, .int .i64 a0_1] 50 (0, 0)) (by (with_reducible repeat (first | refine blk_drewN ?_ _ | refine blk_drew ?_ | refine blk_alloc ?_ _)); exact BK407.out)) : gb407 ≠ gb408)); have n6_ := Aside0.mk ((by rw [hg]; exact Nat.ne_of_gt (blk_lt (g := gb407) (o := .cells #[.slice A0_0 l0_0.length c0_0, .int .i64 a0_1] 50 (0, 0)) (by (with_reducible repeat (first | refine blk_drewN ?_ _ | refine blk_drew ?_ | refine blk_alloc ?_ _)); exact BK407.out)) : gb408 ≠ gb407)); clear BK407; clear HB; have BK407 := n0_; have HB := n1_; have BK408 := n2_; have GW408 := n3_; have GE408 := n4_; have NB407_408 := n5_; have NB408_407 := n6_; clear n0_ n1_ n2_ n3_ n4_ n5_ n6_; clear hb hbox hg)))
 (try simp only [Act.put, List.setIfInBounds_toArray, List.set_cons_zero, List.set_cons_succ])
 go_cut [19] (fun v19 wc => ∃ (kq : Nat) (x19_2 : Bool), v19 = .bool x19_2 ∧ Aside0 (leadtrailref08_SameShape.j0 kq x19_2 l0_0 a0_1 l1_0 a1_1 = some r) ∧ Aside0 (kq ≤ k) ∧ Aside0 (wc.heap[gb407]? = some (.cells #[(.slice A0_0 l0_0.length c0_0), .int .i64 a0_1] 50 (0, 0))) ∧ Aside0 (wc.heap[gb408]? = some (.cells #[(.slice A1_0 l1_0.length c1_0), .int .i64 a1_1] 50 (0, 0))) ∧ Aside0 (Below w.heap.size w wc))
 case first =>
  have H := HC3.out
  clear HC3
  by_cases c6 : a0_1 = a1_1
  ·rw [if_pos c6] at H
   have c6b0 : (a0_1 == a1_1) = true := beq_iff_eq.mpr c6
   have c6b1 : (a0_1 != a1_1) = false := bne_eq_false_iff_eq.mpr c6
   clear c6
   (first | rw [c6b0] | (simp only [i64_w, i32_w]; rw [c6b0]) | skip)
   have H' := Aside0.mk H
   clear H
   have hnb7 := NB407_408.out
   have hnc7 := NB408_407.out
   have hcz8_0 : w5.cell? ⟨gb407, 0, none⟩ = some (.slice A0_0 l0_0.length c0_0) := (blk_cell BK407.out 0).trans rfl
   have hcz8_1 : w5.cell? ⟨gb407, 1, none⟩ = some (.int .i64 a0_1) := (blk_cell BK407.out 1).trans rfl
   have hfz8_0 := blk_frozen BK407.out 0
   have hfz8_1 := blk_frozen BK407.out 1
   have hcz9_0 : w5.cell? ⟨gb408, 0, none⟩ = some (.slice A1_0 l1_0.length c1_0) := (blk_cell BK408.out 0).trans rfl
   have hcz9_1 : w5.cell? ⟨gb408, 1, none⟩ = some (.int .i64 a1_1) := (blk_cell BK408.out 1).trans rfl
   have hfz9_0 := blk_frozen BK408.out 0
   have hfz9_1 := blk_frozen BK408.out 1
   go_wp2
   repeat (go_quiet (fail); try go_wp2)
   go_meet
   case rel => exact ⟨_, (((l0_0.length : Int) != (l1_0.length : Int))), zR, H', ⟨by first | omega | exact Nat.le_refl _⟩, ⟨by (with_reducible repeat (first | refine blk_drewN ?_ _ | refine blk_drew ?_ | refine blk_alloc ?_ _)); exact BK407.out⟩, ⟨by (with_reducible repeat (first | refine blk_drewN ?_ _ | refine blk_drew ?_ | refine blk_alloc ?_ _)); exact BK408.out⟩, ⟨by repeat (first | (with_reducible first | exact HB.out | apply zD | apply zE | apply zF | refine below_set ?_ GE407.out | refine below_set ?_ GE408.out) | exact HB.out)⟩⟩
  ·rw [if_neg c6] at H
   have c6b0 : (a0_1 == a1_1) = false := beq_eq_false_iff_ne.mpr c6
   have c6b1 : (a0_1 != a1_1) = true := bne_iff_ne.mpr c6
   (first | rw [c6b0] | (simp only [i64_w, i32_w]; rw [c6b0]) | skip)
   have H' := Aside0.mk H
   clear H
   have hnb10 := NB407_408.out
   have hnc10 := NB408_407.out
   have hcz11_0 : w5.cell? ⟨gb407, 0, none⟩ = some (.slice A0_0 l0_0.length c0_0) := (blk_cell BK407.out 0).trans rfl
   have hcz11_1 : w5.cell? ⟨gb407, 1, none⟩ = some (.int .i64 a0_1) := (blk_cell BK407.out 1).trans rfl
   have hfz11_0 := blk_frozen BK407.out 0
   have hfz11_1 := blk_frozen BK407.out 1
   have hcz12_0 : w5.cell? ⟨gb408, 0, none⟩ = some (.slice A1_0 l1_0.length c1_0) := (blk_cell BK408.out 0).trans rfl
   have hcz12_1 : w5.cell? ⟨gb408, 1, none⟩ = some (.int .i64 a1_1) := (blk_cell BK408.out 1).trans rfl
   have hfz12_0 := blk_frozen BK408.out 0
   have hfz12_1 := blk_frozen BK408.out 1
   go_wp2
   repeat (go_quiet (fail); try go_wp2)
   go_meet
   case rel => exact ⟨_, (true), zR, H', ⟨by first | omega | exact Nat.le_refl _⟩, ⟨by (with_reducible repeat (first | refine blk_drewN ?_ _ | refine blk_drew ?_ | refine blk_alloc ?_ _)); exact BK407.out⟩, ⟨by (with_reducible repeat (first | refine blk_drewN ?_ _ | refine blk_drew ?_ | refine blk_alloc ?_ _)); exact BK408.out⟩, ⟨by repeat (first | (with_reducible first | exact HB.out | apply zD | apply zE | apply zF | refine below_set ?_ GE407.out | refine below_set ?_ GE408.out) | exact HB.out)⟩⟩
 case rest =>
  clear HC3
  try clear c1
  try clear p2
  try clear c5
  try clear c6
  try clear c6b0
  try clear c6b1
  try clear c7
  try clear c10
  try clear hcz11_0
  try clear hcz11_1
  try clear hcz12_0
  try clear hcz12_1
  try clear hcz8_0
  try clear hcz8_1
  try clear hcz9_0
  try clear hcz9_1
  try clear hfz11_0
  try clear hfz11_1
  try clear hfz12_0
  try clear hfz12_1
  try clear hfz8_0
  try clear hfz8_1
  try clear hfz9_0
  try clear hfz9_1
  obtain ⟨kq, x19_2, rfl, HA, HJ2, BK407, BK408, HB⟩ := hcut
  cases kq with
  | zero => exact absurd HA.out (by simp [leadtrailref08_SameShape.j0])
  | succ kj2 =>
   have H := HA.out
   clear HA
   simp only [leadtrailref08_SameShape.j0] at H
   by_cases c13 : x19_2 = true
   ·subst c13
    have H1 : (some false) = some r := by rw [if_pos rfl] at H; exact H
    clear H
    have H := H1
    clear H1
    obtain rfl := Option.some.inj H
    go_wp2
    repeat (go_quiet (fail); try go_wp2)
    go_ret
    exact ⟨by first | rfl | (simp [errW_none, errW_some] <;> rfl) | (simp [*, errW_none, errW_some] <;> rfl), by repeat (first | (with_reducible first | exact HB.out | apply zD | apply zE | apply zF | refine below_set ?_ GE407.out | refine below_set ?_ GE408.out) | exact HB.out)⟩
   ·replace c13 := Bool.eq_false_iff.mpr c13
    subst c13
    have H1 : (leadtrailref08_SameShape.l0 kj2 0 l0_0 a0_1 l1_0 a1_1) = some r := by rw [if_neg (show ¬ (false = true) by decide)] at H; exact H
    clear H
    have H := H1
    clear H1
    have H' := Aside0.mk H
    clear H
    go_wp2
    repeat (go_quiet (fail); try go_wp2)
    go_loopg [5] kj2 (fun kq v5 w' => ∃ (x5_2 : Int), v5 = .int .i64 x5_2 ∧ Aside0 (leadtrailref08_SameShape.l0 kq x5_2 l0_0 a0_1 l1_0 a1_1 = some r) ∧ Aside0 (kq ≤ kj2) ∧ Aside0 (w'.heap[gb407]? = some (.cells #[(.slice A0_0 l0_0.length c0_0), .int .i64 a0_1] 50 (0, 0))) ∧ Aside0 (w'.heap[gb408]? = some (.cells #[(.slice A1_0 l1_0.length c1_0), .int .i64 a1_1] 50 (0, 0))) ∧ Aside0 (Below w.heap.size w w'))
    case atStart => exact ⟨(0), zR, H', ⟨Nat.le_refl _⟩, ⟨by (with_reducible repeat (first | refine blk_drewN ?_ _ | refine blk_drew ?_ | refine blk_alloc ?_ _)); exact BK407.out⟩, ⟨by (with_reducible repeat (first | refine blk_drewN ?_ _ | refine blk_drew ?_ | refine blk_alloc ?_ _)); exact BK408.out⟩, ⟨by repeat (first | (with_reducible first | exact HB.out | apply zD | apply zE | apply zF | refine below_set ?_ GE407.out | refine below_set ?_ GE408.out) | exact HB.out)⟩⟩
    case round =>
     clear H'
     try clear c1
     try clear p2
     try clear c5
     try clear c6
     try clear c6b0
     try clear c6b1
     try clear c7
     try clear c10
     try clear c13
     try clear hcz11_0
     try clear hcz11_1
     try clear hcz12_0
     try clear hcz12_1
     try clear hcz8_0
     try clear hcz8_1
     try clear hcz9_0
     try clear hcz9_1
     try clear hfz11_0
     try clear hfz11_1
     try clear hfz12_0
     try clear hfz12_1
     try clear hfz8_0
     try clear hfz8_1
     try clear hfz9_0
     try clear hfz9_1
     try clear p2
     obtain ⟨x5_2, rfl, HA, HK2, BK407, BK408, HB⟩ := hrel
     cases gk with
     | zero => exact absurd HA.out (by simp [leadtrailref08_SameShape.l0])
     | succ k2 =>
      have H := HA.out
      clear HA
      simp only [leadtrailref08_SameShape.l0] at H
      by_cases c14 : x5_2 < (l0_0.length : Int)
      ·rw [if_pos c14] at H
       have c14b0 : decide (x5_2 < (l0_0.length : Int)) = true := decide_eq_true c14
       clear c14
       by_cases c15 : 0 ≤ x5_2
       ·rw [if_pos c15] at H
        have c15b0 : decide (0 ≤ x5_2) = true := decide_eq_true c15
        clear c15
        by_cases c16 : x5_2 < (l1_0.length : Int)
        ·rw [if_pos c16] at H
         have c16b0 : decide (x5_2 < (l1_0.length : Int)) = true := decide_eq_true c16
         clear c16
         replace H := Option.bind_eq_some_iff.mp H
         obtain ⟨t411, A170, H⟩ := H
         replace H : (if t411 = true then (leadtrailref08_SameShape.l0 k2 (wrap64 (x5_2 + 1)) l0_0 a0_1 l1_0 a1_1) else (some false)) = some r := H
         have A17 := Aside0.mk A170
         clear A170
         by_cases c18 : t411 = true
         ·subst c18
          have H1 : (leadtrailref08_SameShape.l0 k2 (wrap64 (x5_2 + 1)) l0_0 a0_1 l1_0 a1_1) = some r := by rw [if_pos rfl] at H; exact H
          clear H
          have H := H1
          clear H1
          have H' := Aside0.mk H
          clear H
          have hnb19 := NB407_408.out
          have hnc19 := NB408_407.out
          have hcz20_0 : wr.cell? ⟨gb407, 0, none⟩ = some (.slice A0_0 l0_0.length c0_0) := (blk_cell BK407.out 0).trans rfl
          have hcz20_1 : wr.cell? ⟨gb407, 1, none⟩ = some (.int .i64 a0_1) := (blk_cell BK407.out 1).trans rfl
          have hfz20_0 := blk_frozen BK407.out 0
          have hfz20_1 := blk_frozen BK407.out 1
          have p409 : 0 ≤ (x5_2 : Int) := zT
          have q409 : x5_2 < (l0_0.length : Int) := zT
          obtain ⟨ad409, A409_0, c409_0, e409, hx409_0, hl409_0, hi409_0⟩ := at_L4 HR0_0.out x5_2 p409 q409
          cases e409
          replace hx409_0 := (HB.out.cell (World.block_lt_of_cell? w _ hx409_0)).trans hx409_0
          have HR409_0 := Aside0.mk hi409_0
          have HC409_0 := Aside0.mk hl409_0
          clear hi409_0 hl409_0
          replace p409 := eq_true p409
          replace q409 := eq_true q409
          have hcz21_0 : wr.cell? ⟨gb408, 0, none⟩ = some (.slice A1_0 l1_0.length c1_0) := (blk_cell BK408.out 0).trans rfl
          have hcz21_1 : wr.cell? ⟨gb408, 1, none⟩ = some (.int .i64 a1_1) := (blk_cell BK408.out 1).trans rfl
          have hfz21_0 := blk_frozen BK408.out 0
          have hfz21_1 := blk_frozen BK408.out 1
          have p410 : 0 ≤ (x5_2 : Int) := zT
          have q410 : x5_2 < (l1_0.length : Int) := zT
          obtain ⟨ad410, A410_0, c410_0, e410, hx410_0, hl410_0, hi410_0⟩ := at_L4 HR1_0.out x5_2 p410 q410
          cases e410
          replace hx410_0 := (HB.out.cell (World.block_lt_of_cell? w _ hx410_0)).trans hx410_0
          have HR410_0 := Aside0.mk hi410_0
          have HC410_0 := Aside0.mk hl410_0
          clear hi410_0 hl410_0
          replace p410 := eq_true p410
          replace q410 := eq_true q410
          go_wp2_with (first | (go_at_call 30; (with_reducible refine (leadtrailref03_Same.calls k2 _ _ (rd_L4 l0_0 x5_2) _ _ (rd_L4 l1_0 x5_2) true _ ?side1 ?side2 ?side3 ?side4 A17.out).mono ?_); (case side1 => repeat (first | exact (Kd.C_below HR409_0.out HB.out) | (with_reducible refine Kd.C_alloc ?_ _) | (with_reducible refine Kd.C_drewN ?_ _) | (with_reducible refine Kd.C_drew ?_))); (case side2 => exact HC409_0.out); (case side3 => repeat (first | exact (Kd.C_below HR410_0.out HB.out) | (with_reducible refine Kd.C_alloc ?_ _) | (with_reducible refine Kd.C_drewN ?_ _) | (with_reducible refine Kd.C_drew ?_))); (case side4 => exact HC410_0.out); rintro e w' ⟨rfl, ⟨nd, rfl⟩⟩; (try first | exact ⟨rfl, _, World.drewN_drewN _ _ _⟩ | exact ⟨rfl, _, Eq.trans (World.drewN_drewN _ _ _) (congrArg (World.drewN _) (Nat.add_assoc _ _ _))⟩)))
          repeat (go_quiet (first | (go_at_call 30; (with_reducible refine (leadtrailref03_Same.calls k2 _ _ (rd_L4 l0_0 x5_2) _ _ (rd_L4 l1_0 x5_2) true _ ?side1 ?side2 ?side3 ?side4 A17.out).mono ?_); (case side1 => repeat (first | exact (Kd.C_below HR409_0.out HB.out) | (with_reducible refine Kd.C_alloc ?_ _) | (with_reducible refine Kd.C_drewN ?_ _) | (with_reducible refine Kd.C_drew ?_))); (case side2 => exact HC409_0.out); (case side3 => repeat (first | exact (Kd.C_below HR410_0.out HB.out) | (with_reducible refine Kd.C_alloc ?_ _) | (with_reducible refine Kd.C_drewN ?_ _) | (with_reducible refine Kd.C_drew ?_))); (case side4 => exact HC410_0.out); rintro e w' ⟨rfl, ⟨nd, rfl⟩⟩; (try first | exact ⟨rfl, _, World.drewN_drewN _ _ _⟩ | exact ⟨rfl, _, Eq.trans (World.drewN_drewN _ _ _) (congrArg (World.drewN _) (Nat.add_assoc _ _ _))⟩))); try go_wp2_with (first | (go_at_call 30; (with_reducible refine (leadtrailref03_Same.calls k2 _ _ (rd_L4 l0_0 x5_2) _ _ (rd_L4 l1_0 x5_2) true _ ?side1 ?side2 ?side3 ?side4 A17.out).mono ?_); (case side1 => repeat (first | exact (Kd.C_below HR409_0.out HB.out) | (with_reducible refine Kd.C_alloc ?_ _) | (with_reducible refine Kd.C_drewN ?_ _) | (with_reducible refine Kd.C_drew ?_))); (case side2 => exact HC409_0.out); (case side3 => repeat (first | exact (Kd.C_below HR410_0.out HB.out) | (with_reducible refine Kd.C_alloc ?_ _) | (with_reducible refine Kd.C_drewN ?_ _) | (with_reducible refine Kd.C_drew ?_))); (case side4 => exact HC410_0.out); rintro e w' ⟨rfl, ⟨nd, rfl⟩⟩; (try first | exact ⟨rfl, _, World.drewN_drewN _ _ _⟩ | exact ⟨rfl, _, Eq.trans (World.drewN_drewN _ _ _) (congrArg (World.drewN _) (Nat.add_assoc _ _ _))⟩))))
          go_roundg k2
          case measure => have := HJ2.out; have := HK2.out; omega
          case rel => exact ⟨(wrap64 (x5_2 + 1)), zR, H', ⟨by have := HJ2.out; have := HK2.out; omega⟩, ⟨by (with_reducible repeat (first | refine blk_drewN ?_ _ | refine blk_drew ?_ | refine blk_alloc ?_ _)); exact BK407.out⟩, ⟨by (with_reducible repeat (first | refine blk_drewN ?_ _ | refine blk_drew ?_ | refine blk_alloc ?_ _)); exact BK408.out⟩, ⟨by repeat (first | (with_reducible first | exact HB.out | apply zD | apply zE | apply zF | refine below_set ?_ GE407.out | refine below_set ?_ GE408.out) | exact HB.out)⟩⟩
         ·replace c18 := Bool.eq_false_iff.mpr c18
          subst c18
          have H1 : (some false) = some r := by rw [if_neg (show ¬ (false = true) by decide)] at H; exact H
          clear H
          have H := H1
          clear H1
          obtain rfl := Option.some.inj H
          have hnb22 := NB407_408.out
          have hnc22 := NB408_407.out
          have hcz23_0 : wr.cell? ⟨gb407, 0, none⟩ = some (.slice A0_0 l0_0.length c0_0) := (blk_cell BK407.out 0).trans rfl
          have hcz23_1 : wr.cell? ⟨gb407, 1, none⟩ = some (.int .i64 a0_1) := (blk_cell BK407.out 1).trans rfl
          have hfz23_0 := blk_frozen BK407.out 0
          have hfz23_1 := blk_frozen BK407.out 1
          have p409 : 0 ≤ (x5_2 : Int) := zT
          have q409 : x5_2 < (l0_0.length : Int) := zT
          obtain ⟨ad409, A409_0, c409_0, e409, hx409_0, hl409_0, hi409_0⟩ := at_L4 HR0_0.out x5_2 p409 q409
          cases e409
          replace hx409_0 := (HB.out.cell (World.block_lt_of_cell? w _ hx409_0)).trans hx409_0
          have HR409_0 := Aside0.mk hi409_0
          have HC409_0 := Aside0.mk hl409_0
          clear hi409_0 hl409_0
          replace p409 := eq_true p409
          replace q409 := eq_true q409
          have hcz24_0 : wr.cell? ⟨gb408, 0, none⟩ = some (.slice A1_0 l1_0.length c1_0) := (blk_cell BK408.out 0).trans rfl
          have hcz24_1 : wr.cell? ⟨gb408, 1, none⟩ = some (.int .i64 a1_1) := (blk_cell BK408.out 1).trans rfl
          have hfz24_0 := blk_frozen BK408.out 0
          have hfz24_1 := blk_frozen BK408.out 1
          have p410 : 0 ≤ (x5_2 : Int) := zT
          have q410 : x5_2 < (l1_0.length : Int) := zT
          obtain ⟨ad410, A410_0, c410_0, e410, hx410_0, hl410_0, hi410_0⟩ := at_L4 HR1_0.out x5_2 p410 q410
          cases e410
          replace hx410_0 := (HB.out.cell (World.block_lt_of_cell? w _ hx410_0)).trans hx410_0
          have HR410_0 := Aside0.mk hi410_0
          have HC410_0 := Aside0.mk hl410_0
          clear hi410_0 hl410_0
          replace p410 := eq_true p410
          replace q410 := eq_true q410
          go_wp2_with (first | (go_at_call 30; (with_reducible refine (leadtrailref03_Same.calls k2 _ _ (rd_L4 l0_0 x5_2) _ _ (rd_L4 l1_0 x5_2) false _ ?side1 ?side2 ?side3 ?side4 A17.out).mono ?_); (case side1 => repeat (first | exact (Kd.C_below HR409_0.out HB.out) | (with_reducible refine Kd.C_alloc ?_ _) | (with_reducible refine Kd.C_drewN ?_ _) | (with_reducible refine Kd.C_drew ?_))); (case side2 => exact HC409_0.out); (case side3 => repeat (first | exact (Kd.C_below HR410_0.out HB.out) | (with_reducible refine Kd.C_alloc ?_ _) | (with_reducible refine Kd.C_drewN ?_ _) | (with_reducible refine Kd.C_drew ?_))); (case side4 => exact HC410_0.out); rintro e w' ⟨rfl, ⟨nd, rfl⟩⟩; (try first | exact ⟨rfl, _, World.drewN_drewN _ _ _⟩ | exact ⟨rfl, _, Eq.trans (World.drewN_drewN _ _ _) (congrArg (World.drewN _) (Nat.add_assoc _ _ _))⟩)))
          repeat (go_quiet (first | (go_at_call 30; (with_reducible refine (leadtrailref03_Same.calls k2 _ _ (rd_L4 l0_0 x5_2) _ _ (rd_L4 l1_0 x5_2) false _ ?side1 ?side2 ?side3 ?side4 A17.out).mono ?_); (case side1 => repeat (first | exact (Kd.C_below HR409_0.out HB.out) | (with_reducible refine Kd.C_alloc ?_ _) | (with_reducible refine Kd.C_drewN ?_ _) | (with_reducible refine Kd.C_drew ?_))); (case side2 => exact HC409_0.out); (case side3 => repeat (first | exact (Kd.C_below HR410_0.out HB.out) | (with_reducible refine Kd.C_alloc ?_ _) | (with_reducible refine Kd.C_drewN ?_ _) | (with_reducible refine Kd.C_drew ?_))); (case side4 => exact HC410_0.out); rintro e w' ⟨rfl, ⟨nd, rfl⟩⟩; (try first | exact ⟨rfl, _, World.drewN_drewN _ _ _⟩ | exact ⟨rfl, _, Eq.trans (World.drewN_drewN _ _ _) (congrArg (World.drewN _) (Nat.add_assoc _ _ _))⟩))); try go_wp2_with (first | (go_at_call 30; (with_reducible refine (leadtrailref03_Same.calls k2 _ _ (rd_L4 l0_0 x5_2) _ _ (rd_L4 l1_0 x5_2) false _ ?side1 ?side2 ?side3 ?side4 A17.out).mono ?_); (case side1 => repeat (first | exact (Kd.C_below HR409_0.out HB.out) | (with_reducible refine Kd.C_alloc ?_ _) | (with_reducible refine Kd.C_drewN ?_ _) | (with_reducible refine Kd.C_drew ?_))); (case side2 => exact HC409_0.out); (case side3 => repeat (first | exact (Kd.C_below HR410_0.out HB.out) | (with_reducible refine Kd.C_alloc ?_ _) | (with_reducible refine Kd.C_drewN ?_ _) | (with_reducible refine Kd.C_drew ?_))); (case side4 => exact HC410_0.out); rintro e w' ⟨rfl, ⟨nd, rfl⟩⟩; (try first | exact ⟨rfl, _, World.drewN_drewN _ _ _⟩ | exact ⟨rfl, _, Eq.trans (World.drewN_drewN _ _ _) (congrArg (World.drewN _) (Nat.add_assoc _ _ _))⟩))))
          go_ret
          exact ⟨by first | rfl | (simp [errW_none, errW_some] <;> rfl) | (simp [*, errW_none, errW_some] <;> rfl), by repeat (first | (with_reducible first | exact HB.out | apply zD | apply zE | apply zF | refine below_set ?_ GE407.out | refine below_set ?_ GE408.out) | exact HB.out)⟩
        ·rw [if_neg c16] at H
         exact absurd H (by simp)
       ·rw [if_neg c15] at H
        exact absurd H (by simp)
      ·rw [if_neg c14] at H
       have c14b0 : decide (x5_2 < (l0_0.length : Int)) = false := decide_eq_false c14
       clear c14
       obtain rfl := Option.some.inj H
       have hnb25 := NB407_408.out
       have hnc25 := NB408_407.out
       have hcz26_0 : wr.cell? ⟨gb407, 0, none⟩ = some (.slice A0_0 l0_0.length c0_0) := (blk_cell BK407.out 0).trans rfl
       have hcz26_1 : wr.cell? ⟨gb407, 1, none⟩ = some (.int .i64 a0_1) := (blk_cell BK407.out 1).trans rfl
       have hfz26_0 := blk_frozen BK407.out 0
       have hfz26_1 := blk_frozen BK407.out 1
       go_wp2
       repeat (go_quiet (fail); try go_wp2)
       go_ret
       exact ⟨by first | rfl | (simp [errW_none, errW_some] <;> rfl) | (simp [*, errW_none, errW_some] <;> rfl), by repeat (first | (with_reducible first | exact HB.out | apply zD | apply zE | apply zF | refine below_set ?_ GE407.out | refine below_set ?_ GE408.out) | exact HB.out)⟩
end Go.Proofs.Ytkcklnmbeinfkaa.B
