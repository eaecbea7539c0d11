/- Words and walks of this claim, of the text Bx31. -/
import Derived.Test.YtkcklnmbeinfkaaKiQW0
import Derived.Test.YtkcklnmbeinfkaaKiBx0
import Derived.Test.YtkcklnmbeinfkaaKiBx8
import Derived.Test.YtkcklnmbeinfkaaKiBx20
import Derived.Test.YtkcklnmbeinfkaaKiBx30
namespace Go.Proofs.Ytkcklnmbeinfkaa.B
open Go.RowKit Go.Proofs.YtkcklnmbeinfkaaW.PrintWords Go.Proofs.YtkcklnmbeinfkaaW.PrintLast Go.Proofs.YtkcklnmbeinfkaaW.PrintMore
attribute [local go_sem] max2_int min2_int max_two min_two max_three min_three max_four min_four
set_option linter.unusedVariables false
set_option linter.unusedSimpArgs false
mutual
def clash_search.l0 : Nat → List (S50) → Int → Int → List (S50) → Bool → Int → Int → Option (Bool × Int × Int × Int)
 | 0, _, _, _, _, _, _, _ => none
 | k + 1, x19, x20, x21, x756000, x759000, x759001, x759002 => if x21 < x20 then (if 0 ≤ x21 then (if x21 < (x19.length : Int) then (clash_search.l1 k x21 x19 x20 x21 x756000 (x756000.length : Int) 0 x756000 x759000 x759001 x759002 ((rd_T50 x19 x21).f0) ((rd_T50 x19 x21).f1)) else (none)) else (none)) else (some (x759000, x759001, x759002, 0))
def clash_search.l1 : Nat → Int → List (S50) → Int → Int → List (S50) → Int → Int → List (S50) → Bool → Int → Int → List (List (S113)) → Int → Option (Bool × Int × Int × Int)
 | 0, _, _, _, _, _, _, _, _, _, _, _, _, _ => none
 | k + 1, x7, x19, x20, x21, x27, x28, x29, x756000, x759000, x759001, x759002, x761000, x761001 => if x29 < x28 then (if 0 ≤ x29 then (if x29 < (x27.length : Int) then ((asked_P.f x756000 x7 x29).bind fun t763 => (if t763 = true then ((shape_Common.f k x761000 x761001 ((rd_T50 x27 x29).f0) ((rd_T50 x27 x29).f1) (x761000.length : Int)).bind fun bt764 => (if bt764.2 = true then ((clash_first.f k x761000 x761001 bt764.1).bind fun t768 => ((clash_first.f k ((rd_T50 x27 x29).f0) ((rd_T50 x27 x29).f1) bt764.1).bind fun t769 => (some (false, t768, t769, 0)))) else (clash_search.l1 k x7 x19 x20 x21 x27 x28 (wrap64 (x29 + 1)) x756000 x759000 x759001 x759002 x761000 x761001))) else (clash_search.l1 k x7 x19 x20 x21 x27 x28 (wrap64 (x29 + 1)) x756000 x759000 x759001 x759002 x761000 x761001))) else (none)) else (none)) else (clash_search.l0 k x19 x20 (wrap64 (x21 + 1)) x756000 x759000 x759001 x759002)
end
def clash_search.f (k : Nat) (l0_0 : List (S50)) : Option (Bool × Int × Int × Int) := (scheme_Valid.f k l0_0).bind fun t757 => (if t757 = true then (clash_search.l0 k l0_0 (l0_0.length : Int) 0 l0_0 true 0 0) else (some (false, 0, 0, 84)))
def clash_search.T13 : Bool × List (List Nat × List Nat) := (true, [([], []), ([], []), ([0, 1], [0, 1]), ([], []), ([], []), ([3, 4, 2], [3, 4]), ([2, 5], [2, 5]), ([6, 5, 0, 1, 2, 3, 4, 5, 6], [6])])
def clash_search.B13 : List Nat := [0, 0, 3, 0, 0, 31, 63, 127]
theorem clash_search.tab13 : rtab .any (opsOf Try.f107 13) = clash_search.T13 := by kernel_rfl
theorem clash_search.bits13 : waitsOk clash_search.T13.2 clash_search.B13 = true := by kernel_rfl
set_option maxHeartbeats 8000000 in
set_option maxRecDepth 100000 in
theorem clash_search.calls (k : Nat) (A0_0 : Option Addr) (c0_0 : Nat) (l0_0 : List (S50)) (r1 : Bool) (r2 : Int) (r3 : Int) (r4 : Int) (w : World) (hr0_0 : Kd.C k50 w A0_0 l0_0.length l0_0) (hc0_0 : l0_0.length ≤ c0_0) (h : clash_search.f k l0_0 = some (r1, r2, r3, r4)) (gs : Nat) (hbx : w.heap[gs]? = some (.cells #[.slice A0_0 l0_0.length c0_0] 24 (0, 0))) :
 Calls Try.prog 107 #[.agg #[.slice A0_0 l0_0.length c0_0], .func (.func 109) #[] #[.pointer (some ⟨gs, 0, none⟩)]] w fun e w' => e = .returned (.tuple #[.agg #[.bool r1, .int .i64 r2, .int .i64 r3], .int .i64 r4]) ∧ Below w.heap.size w w' := by
 have hu24 := Try.underlying24
 have hu59 := Try.underlying59
 have hu50 := Try.underlying50
 have HR0_0 := zk hr0_0
 have HC0_0 := zk hc0_0
 clear hr0_0 hc0_0
 have HBX := zk hbx
 clear hbx
 have HB := zk (Below.refl w.heap.size w)
 have H : ((scheme_Valid.f k l0_0).bind fun t757 => (if t757 = true then (clash_search.l0 k l0_0 (l0_0.length : Int) 0 l0_0 true 0 0) else (some (false, 0, 0, 84)))) = some (r1, r2, r3, r4) := h
 clear h
 replace H := Option.bind_eq_some_iff.mp H
 obtain ⟨t757, A20, H⟩ := H
 replace H : (if t757 = true then (clash_search.l0 k l0_0 (l0_0.length : Int) 0 l0_0 true 0 0) else (some (false, 0, 0, 84))) = some (r1, r2, r3, r4) := H
 have A2 := zk A20
 clear A20
 by_cases c3 : t757 = true
 ·subst c3
 have H1 : (clash_search.l0 k l0_0 (l0_0.length : Int) 0 l0_0 true 0 0) = some (r1, r2, r3, r4) := by rw [if_pos rfl] at H; exact H
 clear H
 have H := H1
 clear H1
 have H' := zk H
 clear H
 go_enter Try.func107, Try.ntmps107
 go_wp2_with (first | ((with_reducible refine gate_dst (N := 2) rfl ?_); refine box_event ?hg (N := 2) ?hd (cs := #[.slice A0_0 l0_0.length c0_0]) (t := 24) ?hr ?_; (case hd => rfl); (case hg => rfl); (case hr => first | (go_simp; done) | (go_simp; rfl)); intro gb755 hg w4 hbox hb; have n0_ := zk (below_step (zU HB.out) hb); have n1_ := zk (hbox); have n2_ := zk ((by rw [hg]; exact (below_size (zU HB.out)) : w.heap.size ≤ gb755)); have n3_ := zk ((by rw [hg]; exact (below_size (zU HB.out)) : w.heap.size ≤ gb755)); clear HB; have HB := n0_; have BK755 := n1_; have GW755 := n2_; have GE755 := n3_; clear n0_ n1_ n2_ n3_; clear hb hbox hg) | ((with_reducible refine gate_dst (N := 4) rfl ?_); refine box_event ?hg (N := 4) ?hd (cs := #[.bool false, .int .i64 0, .int .i64 0]) (t := 59) ?hr ?_; (case hd => rfl); (case hg => rfl); (case hr => first | (go_simp; done) | (go_simp; rfl)); intro gb756 hg w5 hbox hb; have n0_ := zk (zbb BK755.out hb); have n1_ := zk (below_step (zU HB.out) hb); have n2_ := zk (hbox); have n3_ := zk ((by rw [hg]; exact (below_size (zU HB.out)) : w.heap.size ≤ gb756)); have n4_ := zk ((by rw [hg]; exact (below_size (zU HB.out)) : w.heap.size ≤ gb756)); have n5_ := zk ((zlt hg BK755.out : gb755 ≠ gb756)); have n6_ := zk ((zgt hg BK755.out : gb756 ≠ gb755)); clear BK755; clear HB; have BK755 := n0_; have HB := n1_; have BK756 := n2_; have GW756 := n3_; have GE756 := n4_; have NB755_756 := n5_; have NB756_755 := n6_; clear n0_ n1_ n2_ n3_ n4_ n5_ n6_; clear hb hbox hg; have hnb6 := NB755_756.out; have hnc6 := NB756_755.out; have hcz7_0 : w5.cell? ⟨gb755, 0, none⟩ = some (.slice A0_0 l0_0.length c0_0) := (blk_cell BK755.out 0).trans rfl; have hfz7_0 := blk_frozen BK755.out 0))
 apply wp_scope_straight
 go_wp2_with (first | ((with_reducible refine gate_callee (f := 76) rfl ?_); refine goesL_ (some 14) rfl rfl Try.func76 (by kernel_rfl) rfl #[.agg #[.slice A0_0 l0_0.length c0_0]] rfl zM ?_; (with_reducible refine (scheme_Valid.calls k _ _ l0_0 true _ ?side1 ?side2 A2.out).mono ?_); (case side1 => exact zc (Kd.C_below HR0_0.out HB.out)); (case side2 => exact HC0_0.out); rintro e w8 ⟨rfl, hb⟩; refine ⟨_, rfl, ?_⟩; have n0_ := zk (zbb BK755.out hb); have n1_ := zk (zbb BK756.out hb); have n2_ := zk (below_step (zU HB.out) hb); clear BK755; clear BK756; clear HB; have BK755 := n0_; have BK756 := n1_; have HB := n2_; clear n0_ n1_ n2_; (try clear hb); (try clear hb2); (try clear hk); (try clear hi)) | ((with_reducible refine gate_dst (N := 6) rfl ?_); refine box_event ?hg (N := 6) ?hd (cs := #[.bool false, .int .i64 0, .int .i64 0]) (t := 59) ?hr ?_; (case hd => rfl); (case hg => rfl); (case hr => first | (go_simp; done) | (go_simp; rfl)); intro gb758 hg w9 hbox hb; have n0_ := zk (zbb BK755.out hb); have n1_ := zk (zbb BK756.out hb); have n2_ := zk (below_step (zU HB.out) hb); have n3_ := zk (hbox); have n4_ := zk ((by rw [hg]; exact (below_size (zU HB.out)) : w.heap.size ≤ gb758)); have n5_ := zk ((by rw [hg]; exact (below_size (zU HB.out)) : w.heap.size ≤ gb758)); have n6_ := zk ((zlt hg BK755.out : gb755 ≠ gb758)); have n7_ := zk ((zgt hg BK755.out : gb758 ≠ gb755)); have n8_ := zk ((zlt hg BK756.out : gb756 ≠ gb758)); have n9_ := zk ((zgt hg BK756.out : gb758 ≠ gb756)); clear BK755; clear BK756; clear HB; have BK755 := n0_; have BK756 := n1_; have HB := n2_; have BK758 := n3_; have GW758 := n4_; have GE758 := n5_; have NB755_758 := n6_; have NB758_755 := n7_; have NB756_758 := n8_; have NB758_756 := n9_; clear n0_ n1_ n2_ n3_ n4_ n5_ n6_ n7_ n8_ n9_; clear hb hbox hg; have hnb10 := NB758_755.out; have hnc10 := NB755_758.out; have hnb11 := NB758_756.out; have hnc11 := NB756_758.out; have hcz12_0 : w9.cell? ⟨gb758, 0, none⟩ = some (.bool false) := (blk_cell BK758.out 0).trans rfl; have hcz12_1 : w9.cell? ⟨gb758, 1, none⟩ = some (.int .i64 0) := (blk_cell BK758.out 1).trans rfl; have hcz12_2 : w9.cell? ⟨gb758, 2, none⟩ = some (.int .i64 0) := (blk_cell BK758.out 2).trans rfl; have hfz12_0 := blk_frozen BK758.out 0; have hfz12_1 := blk_frozen BK758.out 1; have hfz12_2 := blk_frozen BK758.out 2; have hcz13_0 : w9.cell? ⟨gb755, 0, none⟩ = some (.slice A0_0 l0_0.length c0_0) := (blk_cell BK755.out 0).trans rfl; have hfz13_0 := blk_frozen BK755.out 0))
 apply wp_label
 go_wp2
 go_loopg [21] k (fun kq v21 w' => ∃ (x21_1 : Int) (x759000_1 : Bool) (x759001_1 : Int) (x759002_1 : Int), v21 = .int .i64 x21_1 ∧ Aside0 (clash_search.l0 kq l0_0 (l0_0.length : Int) x21_1 l0_0 x759000_1 x759001_1 x759002_1 = some (r1, r2, r3, r4)) ∧ Aside0 (kq ≤ k) ∧ Aside0 (w'.heap[gb755]? = some (.cells #[(.slice A0_0 l0_0.length c0_0)] 24 (0, 0))) ∧ Aside0 (w'.heap[gb756]? = some (.cells #[.bool false, .int .i64 0, .int .i64 0] 59 (0, 0))) ∧ Aside0 (w'.heap[gb758]? = some (.cells #[.bool x759000_1, .int .i64 x759001_1, .int .i64 x759002_1] 59 (0, 0))) ∧ Aside0 (Below w.heap.size w w'))
 case atStart => exact ⟨(0), (true), (0), (0), zR, H', ⟨Nat.le_refl _⟩, ⟨by exact zb BK755.out⟩, ⟨by exact zb BK756.out⟩, ⟨by (with_reducible repeat (first | refine blk_drewN ?_ _ | refine blk_drew ?_ | refine blk_alloc ?_ _)); refine blk_put (cs := #[.bool true, .int .i64 0, .int .i64 0]) ?_ 2 _ rfl; (with_reducible repeat (first | refine blk_drewN ?_ _ | refine blk_drew ?_ | refine blk_alloc ?_ _)); refine blk_put (cs := #[.bool true, .int .i64 0, .int .i64 0]) ?_ 1 _ rfl; (with_reducible repeat (first | refine blk_drewN ?_ _ | refine blk_drew ?_ | refine blk_alloc ?_ _)); refine blk_put (cs := #[.bool false, .int .i64 0, .int .i64 0]) ?_ 0 _ rfl; exact zb BK758.out⟩, ⟨zU HB.out⟩⟩
 case round =>
  clear H'
  try clear c1
  try clear p2
  try clear c3
  try clear c6
  try clear c7
  try clear c10
  try clear c11
  try clear hcz12_0
  try clear hcz12_1
  try clear hcz12_2
  try clear hcz13_0
  try clear hcz7_0
  try clear hfz12_0
  try clear hfz12_1
  try clear hfz12_2
  try clear hfz13_0
  try clear hfz7_0
  obtain ⟨x21_1, x759000_1, x759001_1, x759002_1, rfl, HA, HK1, BK755, BK756, BK758, HB⟩ := hrel
  cases gk with
  | zero => exact absurd HA.out (by simp [clash_search.l0])
  | succ k1 =>
  have H := HA.out
  clear HA
  simp only [clash_search.l0] at H
  by_cases c14 : x21_1 < (l0_0.length : Int)
  ·rw [if_pos c14] at H
   have c14b0 : decide (x21_1 < (l0_0.length : Int)) = true := decide_eq_true c14
   clear c14
   by_cases c15 : 0 ≤ x21_1
   ·rw [if_pos c15] at H
   have c15b0 : decide (0 ≤ x21_1) = true := decide_eq_true c15
   clear c15
   by_cases c16 : x21_1 < (l0_0.length : Int)
   ·rw [if_pos c16] at H
    have c16b0 : decide (x21_1 < (l0_0.length : Int)) = true := decide_eq_true c16
    clear c16
    have H' := zk H
    clear H
    have p759 : 0 ≤ (x21_1 : Int) := zT
    have q759 : x21_1 < (l0_0.length : Int) := zT
    obtain ⟨ad759, A759_0, c759_0, e759, hx759_0, hx759_1, hl759_0, hi759_0⟩ := at_T50 HR0_0.out x21_1 p759 q759
    cases e759
    replace hx759_0 := (HB.out.cell (World.block_lt_of_cell? w _ hx759_0)).trans hx759_0
    replace hx759_1 := (HB.out.cell (World.block_lt_of_cell? w _ hx759_1)).trans hx759_1
    have HR759_0 := zk hi759_0
    have HC759_0 := zk hl759_0
    clear hi759_0 hl759_0
    replace p759 := eq_true p759
    replace q759 := eq_true q759
    go_wp2_with (first | ((with_reducible refine gate_dst (N := 8) rfl ?_); refine box_event ?hg (N := 8) ?hd (cs := #[.slice none 0 0, .int .i64 0]) (t := 50) ?hr ?_; (case hd => rfl); (case hg => rfl); (case hr => first | (go_simp; done) | (go_simp; rfl)); intro gb760 hg w17 hbox hb; have n0_ := zk (zbb BK755.out hb); have n1_ := zk (zbb BK756.out hb); have n2_ := zk (zbb BK758.out hb); have n3_ := zk (below_step (zU HB.out) hb); have n4_ := zk (hbox); have n5_ := zk ((by rw [hg]; exact (below_size (zU HB.out)) : w.heap.size ≤ gb760)); have n6_ := zk ((by rw [hg]; exact (below_size (zU HB.out)) : w.heap.size ≤ gb760)); have n7_ := zk ((zlt hg BK755.out : gb755 ≠ gb760)); have n8_ := zk ((zgt hg BK755.out : gb760 ≠ gb755)); have n9_ := zk ((zlt hg BK756.out : gb756 ≠ gb760)); have n10_ := zk ((zgt hg BK756.out : gb760 ≠ gb756)); have n11_ := zk ((zlt hg BK758.out : gb758 ≠ gb760)); have n12_ := zk ((zgt hg BK758.out : gb760 ≠ gb758)); clear BK755; clear BK756; clear BK758; clear HB; have BK755 := n0_; have BK756 := n1_; have BK758 := n2_; have HB := n3_; have BK760 := n4_; have GW760 := n5_; have GE760 := n6_; have NB755_760 := n7_; have NB760_755 := n8_; have NB756_760 := n9_; have NB760_756 := n10_; have NB758_760 := n11_; have NB760_758 := n12_; clear n0_ n1_ n2_ n3_ n4_ n5_ n6_ n7_ n8_ n9_ n10_ n11_ n12_; clear hb hbox hg; have hnb18 := NB760_755.out; have hnc18 := NB755_760.out; have hnb19 := NB760_756.out; have hnc19 := NB756_760.out; have hnb20 := NB760_758.out; have hnc20 := NB758_760.out; have hcz21_0 : w17.cell? ⟨gb760, 0, none⟩ = some (.slice none 0 0) := (blk_cell BK760.out 0).trans rfl; have hcz21_1 : w17.cell? ⟨gb760, 1, none⟩ = some (.int .i64 0) := (blk_cell BK760.out 1).trans rfl; have hfz21_0 := blk_frozen BK760.out 0; have hfz21_1 := blk_frozen BK760.out 1; have hnb22 := NB755_756.out; have hnc22 := NB756_755.out; have hnb23 := NB755_758.out; have hnc23 := NB758_755.out; have hcz24_0 : w17.cell? ⟨gb755, 0, none⟩ = some (.slice (some ad759) l0_0.length c0_0) := (blk_cell BK755.out 0).trans rfl; have hfz24_0 := blk_frozen BK755.out 0))
    go_loopg [29] k1 (fun kq v29 w' => ∃ (x29_2 : Int) (x759000_2 : Bool) (x759001_2 : Int) (x759002_2 : Int), v29 = .int .i64 x29_2 ∧ Aside0 (clash_search.l1 kq x21_1 l0_0 (l0_0.length : Int) x21_1 l0_0 (l0_0.length : Int) x29_2 l0_0 x759000_2 x759001_2 x759002_2 ((rd_T50 l0_0 x21_1).f0) ((rd_T50 l0_0 x21_1).f1) = some (r1, r2, r3, r4)) ∧ Aside0 (kq ≤ k1) ∧ Aside0 (w'.heap[gb755]? = some (.cells #[(.slice (some ad759) l0_0.length c0_0)] 24 (0, 0))) ∧ Aside0 (w'.heap[gb756]? = some (.cells #[.bool false, .int .i64 0, .int .i64 0] 59 (0, 0))) ∧ Aside0 (w'.heap[gb758]? = some (.cells #[.bool x759000_2, .int .i64 x759001_2, .int .i64 x759002_2] 59 (0, 0))) ∧ Aside0 (w'.heap[gb760]? = some (.cells #[(.slice A759_0 ((rd_T50 l0_0 x21_1).f0).length c759_0), .int .i64 ((rd_T50 l0_0 x21_1).f1)] 50 (0, 0))) ∧ Aside0 (Below w.heap.size w w'))
    case atStart => exact ⟨(0), (x759000_1), (x759001_1), (x759002_1), zR, H', ⟨Nat.le_refl _⟩, ⟨by exact zb BK755.out⟩, ⟨by exact zb BK756.out⟩, ⟨by exact zb BK758.out⟩, ⟨by (with_reducible repeat (first | refine blk_drewN ?_ _ | refine blk_drew ?_ | refine blk_alloc ?_ _)); refine blk_put (cs := #[.slice A759_0 ((rd_T50 l0_0 x21_1).f0).length c759_0, .int .i64 0]) ?_ 1 _ rfl; (with_reducible repeat (first | refine blk_drewN ?_ _ | refine blk_drew ?_ | refine blk_alloc ?_ _)); refine blk_put (cs := #[.slice none 0 0, .int .i64 0]) ?_ 0 _ rfl; exact zb BK760.out⟩, ⟨zU HB.out⟩⟩
    case round =>
    clear H'
    try clear c1
    try clear c2
    try clear p2
    try clear c3
    try clear c6
    try clear c7
    try clear p7
    try clear q7
    try clear hx7
    try clear c10
    try clear c11
    try clear c14
    try clear c14b0
    try clear c15
    try clear c15b0
    try clear c16
    try clear c16b0
    try clear c18
    try clear c19
    try clear c20
    try clear c22
    try clear c23
    try clear hcz12_0
    try clear hcz12_1
    try clear hcz12_2
    try clear hcz13_0
    try clear hcz21_0
    try clear hcz21_1
    try clear hcz24_0
    try clear hcz7_0
    try clear hfz12_0
    try clear hfz12_1
    try clear hfz12_2
    try clear hfz13_0
    try clear hfz21_0
    try clear hfz21_1
    try clear hfz24_0
    try clear hfz7_0
    try clear hx759_0
    try clear hx759_1
    try clear p2
    try clear p759
    try clear q759
    obtain ⟨x29_2, x759000_2, x759001_2, x759002_2, rfl, HA, HK2, BK755, BK756, BK758, BK760, HB⟩ := hrel
    cases gk with
    | zero => exact absurd HA.out (by simp [clash_search.l1])
    | succ k2 =>
     have H := HA.out
     clear HA
     simp only [clash_search.l1] at H
     by_cases c25 : x29_2 < (l0_0.length : Int)
     ·rw [if_pos c25] at H
     have c25b0 : decide (x29_2 < (l0_0.length : Int)) = true := decide_eq_true c25
     clear c25
     by_cases c26 : 0 ≤ x29_2
     ·rw [if_pos c26] at H
      have c26b0 : decide (0 ≤ x29_2) = true := decide_eq_true c26
      clear c26
      by_cases c27 : x29_2 < (l0_0.length : Int)
      ·rw [if_pos c27] at H
      have c27b0 : decide (x29_2 < (l0_0.length : Int)) = true := decide_eq_true c27
      clear c27
      replace H := Option.bind_eq_some_iff.mp H
      obtain ⟨t763, A280, H⟩ := H
      replace H : (if t763 = true then ((shape_Common.f k2 ((rd_T50 l0_0 x21_1).f0) ((rd_T50 l0_0 x21_1).f1) ((rd_T50 l0_0 x29_2).f0) ((rd_T50 l0_0 x29_2).f1) (((rd_T50 l0_0 x21_1).f0).length : Int)).bind fun bt764 => (if bt764.2 = true then ((clash_first.f k2 ((rd_T50 l0_0 x21_1).f0) ((rd_T50 l0_0 x21_1).f1) bt764.1).bind fun t768 => ((clash_first.f k2 ((rd_T50 l0_0 x29_2).f0) ((rd_T50 l0_0 x29_2).f1) bt764.1).bind fun t769 => (some (false, t768, t769, 0)))) else (clash_search.l1 k2 x21_1 l0_0 (l0_0.length : Int) x21_1 l0_0 (l0_0.length : Int) (wrap64 (x29_2 + 1)) l0_0 x759000_2 x759001_2 x759002_2 ((rd_T50 l0_0 x21_1).f0) ((rd_T50 l0_0 x21_1).f1)))) else (clash_search.l1 k2 x21_1 l0_0 (l0_0.length : Int) x21_1 l0_0 (l0_0.length : Int) (wrap64 (x29_2 + 1)) l0_0 x759000_2 x759001_2 x759002_2 ((rd_T50 l0_0 x21_1).f0) ((rd_T50 l0_0 x21_1).f1))) = some (r1, r2, r3, r4) := H
      have A28 := zk A280
      clear A280
      by_cases c29 : t763 = true
      ·subst c29
       have H1 : ((shape_Common.f k2 ((rd_T50 l0_0 x21_1).f0) ((rd_T50 l0_0 x21_1).f1) ((rd_T50 l0_0 x29_2).f0) ((rd_T50 l0_0 x29_2).f1) (((rd_T50 l0_0 x21_1).f0).length : Int)).bind fun bt764 => (if bt764.2 = true then ((clash_first.f k2 ((rd_T50 l0_0 x21_1).f0) ((rd_T50 l0_0 x21_1).f1) bt764.1).bind fun t768 => ((clash_first.f k2 ((rd_T50 l0_0 x29_2).f0) ((rd_T50 l0_0 x29_2).f1) bt764.1).bind fun t769 => (some (false, t768, t769, 0)))) else (clash_search.l1 k2 x21_1 l0_0 (l0_0.length : Int) x21_1 l0_0 (l0_0.length : Int) (wrap64 (x29_2 + 1)) l0_0 x759000_2 x759001_2 x759002_2 ((rd_T50 l0_0 x21_1).f0) ((rd_T50 l0_0 x21_1).f1)))) = some (r1, r2, r3, r4) := by rw [if_pos rfl] at H; exact H
       clear H
       have H := H1
       clear H1
       replace H := Option.bind_eq_some_iff.mp H
       obtain ⟨⟨t764, t767⟩, A300, H⟩ := H
       replace H : (if t767 = true then ((clash_first.f k2 ((rd_T50 l0_0 x21_1).f0) ((rd_T50 l0_0 x21_1).f1) t764).bind fun t768 => ((clash_first.f k2 ((rd_T50 l0_0 x29_2).f0) ((rd_T50 l0_0 x29_2).f1) t764).bind fun t769 => (some (false, t768, t769, 0)))) else (clash_search.l1 k2 x21_1 l0_0 (l0_0.length : Int) x21_1 l0_0 (l0_0.length : Int) (wrap64 (x29_2 + 1)) l0_0 x759000_2 x759001_2 x759002_2 ((rd_T50 l0_0 x21_1).f0) ((rd_T50 l0_0 x21_1).f1))) = some (r1, r2, r3, r4) := H
       have A30 := zk A300
       clear A300
       by_cases c31 : t767 = true
       ·subst c31
       have H1 : ((clash_first.f k2 ((rd_T50 l0_0 x21_1).f0) ((rd_T50 l0_0 x21_1).f1) t764).bind fun t768 => ((clash_first.f k2 ((rd_T50 l0_0 x29_2).f0) ((rd_T50 l0_0 x29_2).f1) t764).bind fun t769 => (some (false, t768, t769, 0)))) = some (r1, r2, r3, r4) := by rw [if_pos rfl] at H; exact H
       clear H
       have H := H1
       clear H1
       replace H := Option.bind_eq_some_iff.mp H
       obtain ⟨t768, A320, H⟩ := H
       replace H : ((clash_first.f k2 ((rd_T50 l0_0 x29_2).f0) ((rd_T50 l0_0 x29_2).f1) t764).bind fun t769 => (some (false, t768, t769, 0))) = some (r1, r2, r3, r4) := H
       have A32 := zk A320
       clear A320
       replace H := Option.bind_eq_some_iff.mp H
       obtain ⟨t769, A330, H⟩ := H
       replace H : (some (false, t768, t769, 0)) = some (r1, r2, r3, r4) := H
       have A33 := zk A330
       clear A330
       simp only [Option.some.injEq, Prod.mk.injEq] at H
       obtain ⟨rfl, rfl, rfl, rfl⟩ := H
       have p761 : 0 ≤ (x29_2 : Int) := zT
       have q761 : x29_2 < (l0_0.length : Int) := zT
       obtain ⟨ad761, A761_0, c761_0, e761, hx761_0, hx761_1, hl761_0, hi761_0⟩ := at_T50 HR0_0.out x29_2 p761 q761
       obtain rfl : ad759 = ad761 := (by injection e761)
       replace hx761_0 := (HB.out.cell (World.block_lt_of_cell? w _ hx761_0)).trans hx761_0
       replace hx761_1 := (HB.out.cell (World.block_lt_of_cell? w _ hx761_1)).trans hx761_1
       have HR761_0 := zk hi761_0
       have HC761_0 := zk hl761_0
       clear hi761_0 hl761_0
       replace p761 := eq_true p761
       replace q761 := eq_true q761
       try go_wp2_with (first | ((with_reducible refine gate_dst (N := 10) rfl ?_); refine box_event ?hg (N := 10) ?hd (cs := #[.slice none 0 0, .int .i64 0]) (t := 50) ?hr ?_; (case hd => rfl); (case hg => rfl); (case hr => first | (go_simp; done) | (go_simp; rfl)); intro gb762 hg w34 hbox hb; have n0_ := zk (zbb BK755.out hb); have n1_ := zk (zbb BK756.out hb); have n2_ := zk (zbb BK758.out hb); have n3_ := zk (zbb BK760.out hb); have n4_ := zk (below_step (zU HB.out) hb); have n5_ := zk (hbox); have n6_ := zk ((by rw [hg]; exact (below_size (zU HB.out)) : w.heap.size ≤ gb762)); have n7_ := zk ((by rw [hg]; exact (below_size (zU HB.out)) : w.heap.size ≤ gb762)); have n8_ := zk ((zlt hg BK755.out : gb755 ≠ gb762)); have n9_ := zk ((zgt hg BK755.out : gb762 ≠ gb755)); have n10_ := zk ((zlt hg BK756.out : gb756 ≠ gb762)); have n11_ := zk ((zgt hg BK756.out : gb762 ≠ gb756)); have n12_ := zk ((zlt hg BK758.out : gb758 ≠ gb762)); have n13_ := zk ((zgt hg BK758.out : gb762 ≠ gb758)); have n14_ := zk ((zlt hg BK760.out : gb760 ≠ gb762)); have n15_ := zk ((zgt hg BK760.out : gb762 ≠ gb760)); clear BK755; clear BK756; clear BK758; clear BK760; clear HB; have BK755 := n0_; have BK756 := n1_; have BK758 := n2_; have BK760 := n3_; have HB := n4_; have BK762 := n5_; have GW762 := n6_; have GE762 := n7_; have NB755_762 := n8_; have NB762_755 := n9_; have NB756_762 := n10_; have NB762_756 := n11_; have NB758_762 := n12_; have NB762_758 := n13_; have NB760_762 := n14_; have NB762_760 := n15_; clear n0_ n1_ n2_ n3_ n4_ n5_ n6_ n7_ n8_ n9_ n10_ n11_ n12_ n13_ n14_ n15_; clear hb hbox hg; have hnb35 := NB762_755.out; have hnc35 := NB755_762.out; have hnb36 := NB762_756.out; have hnc36 := NB756_762.out; have hnb37 := NB762_758.out; have hnc37 := NB758_762.out; have hnb38 := NB762_760.out; have hnc38 := NB760_762.out; have hcz39_0 : w34.cell? ⟨gb762, 0, none⟩ = some (.slice none 0 0) := (blk_cell BK762.out 0).trans rfl; have hcz39_1 : w34.cell? ⟨gb762, 1, none⟩ = some (.int .i64 0) := (blk_cell BK762.out 1).trans rfl; have hfz39_0 := blk_frozen BK762.out 0; have hfz39_1 := blk_frozen BK762.out 1; have hnb40 := NB755_756.out; have hnc40 := NB756_755.out; have hnb41 := NB755_758.out; have hnc41 := NB758_755.out; have hnb42 := NB755_760.out; have hnc42 := NB760_755.out; have hcz43_0 : w34.cell? ⟨gb755, 0, none⟩ = some (.slice (some ad759) l0_0.length c0_0) := (blk_cell BK755.out 0).trans rfl; have hfz43_0 := blk_frozen BK755.out 0) | (go_at_call 109; refine (asked_P.calls _ _ l0_0 x21_1 x29_2 true _ (Kd.C_below HR0_0.out (zU HB.out)) HC0_0.out A28.out gs (blk_below (g := gs) HBX.out (zU HB.out))).mono ?_; rintro e w44 ⟨rfl, hb⟩; have n0_ := zk (zbb BK755.out hb); have n1_ := zk (zbb BK756.out hb); have n2_ := zk (zbb BK758.out hb); have n3_ := zk (zbb BK760.out hb); have n4_ := zk (blk_below (g := gb762) (o := .cells #[.slice A761_0 ((rd_T50 l0_0 x29_2).f0).length c761_0, .int .i64 ((rd_T50 l0_0 x29_2).f1)] 50 (0, 0)) (by (with_reducible repeat (first | refine blk_drewN ?_ _ | refine blk_drew ?_ | refine blk_alloc ?_ _)); refine blk_put (cs := #[.slice A761_0 ((rd_T50 l0_0 x29_2).f0).length c761_0, .int .i64 0]) ?_ 1 _ rfl; (with_reducible repeat (first | refine blk_drewN ?_ _ | refine blk_drew ?_ | refine blk_alloc ?_ _)); refine blk_put (cs := #[.slice none 0 0, .int .i64 0]) ?_ 0 _ rfl; exact zb BK762.out) hb); have n5_ := zk (below_step (zU HB.out) hb); clear BK755; clear BK756; clear BK758; clear BK760; clear BK762; clear HB; have BK755 := n0_; have BK756 := n1_; have BK758 := n2_; have BK760 := n3_; have BK762 := n4_; have HB := n5_; clear n0_ n1_ n2_ n3_ n4_ n5_; (try clear hb); (try clear hb2); (try clear hk); (try clear hi); have hnb45 := NB760_756.out; have hnc45 := NB756_760.out; have hnb46 := NB760_758.out; have hnc46 := NB758_760.out; have hcz47_0 : w44.cell? ⟨gb760, 0, none⟩ = some (.slice A759_0 ((rd_T50 l0_0 x21_1).f0).length c759_0) := (blk_cell BK760.out 0).trans rfl; have hcz47_1 : w44.cell? ⟨gb760, 1, none⟩ = some (.int .i64 ((rd_T50 l0_0 x21_1).f1)) := (blk_cell BK760.out 1).trans rfl; have hfz47_0 := blk_frozen BK760.out 0; have hfz47_1 := blk_frozen BK760.out 1; have hcz48_0 : w44.cell? ⟨gb762, 0, none⟩ = some (.slice A761_0 ((rd_T50 l0_0 x29_2).f0).length c761_0) := (blk_cell BK762.out 0).trans rfl; have hcz48_1 : w44.cell? ⟨gb762, 1, none⟩ = some (.int .i64 ((rd_T50 l0_0 x29_2).f1)) := (blk_cell BK762.out 1).trans rfl; have hfz48_0 := blk_frozen BK762.out 0; have hfz48_1 := blk_frozen BK762.out 1) | ((with_reducible refine gate_callee (f := 57) rfl ?_); refine goesL_ (some 45) rfl rfl Try.func57 (by kernel_rfl) rfl #[.agg #[.slice A759_0 ((rd_T50 l0_0 x21_1).f0).length c759_0, .int .i64 ((rd_T50 l0_0 x21_1).f1)], .agg #[.slice A761_0 ((rd_T50 l0_0 x29_2).f0).length c761_0, .int .i64 ((rd_T50 l0_0 x29_2).f1)], .int .i64 (((rd_T50 l0_0 x21_1).f0).length : Int)] rfl zM ?_; (with_reducible refine (shape_Common.calls k2 _ _ ((rd_T50 l0_0 x21_1).f0) ((rd_T50 l0_0 x21_1).f1) _ _ ((rd_T50 l0_0 x29_2).f0) ((rd_T50 l0_0 x29_2).f1) (((rd_T50 l0_0 x21_1).f0).length : Int) t764 true _ ?side1 ?side2 ?side3 ?side4 A30.out).mono ?_); (case side1 => exact zc (Kd.C_below HR759_0.out HB.out)); (case side2 => exact HC759_0.out); (case side3 => exact zc (Kd.C_below HR761_0.out HB.out)); (case side4 => exact HC761_0.out); rintro e w49 ⟨v765, rfl, ho0, hb⟩; refine ⟨_, rfl, ?_⟩; have n0_ := zk (Kd.R_lower ho0 (below_size (zU HB.out))); have n1_ := zk (zbb BK755.out hb); have n2_ := zk (zbb BK756.out hb); have n3_ := zk (zbb BK758.out hb); have n4_ := zk (zbb BK760.out hb); have n5_ := zk (zbb BK762.out hb); have n6_ := zk (below_step (zU HB.out) hb); clear BK755; clear BK756; clear BK758; clear BK760; clear BK762; clear HB; have HO766 := n0_; have BK755 := n1_; have BK756 := n2_; have BK758 := n3_; have BK760 := n4_; have BK762 := n5_; have HB := n6_; clear n0_ n1_ n2_ n3_ n4_ n5_ n6_; (try clear hb); (try clear hb2); (try clear hk); (try clear hi); (try clear ho0)))
       have n0_ := zk (Kd.R_drew HO766.out)
       have n1_ := zk (blk_drew BK755.out)
       have n2_ := zk (blk_drew BK756.out)
       have n3_ := zk (blk_drew BK758.out)
       have n4_ := zk (blk_drew BK760.out)
       have n5_ := zk (blk_drew BK762.out)
       have n6_ := zk (below_drew1 HB.out)
       clear HO766
       clear BK755
       clear BK756
       clear BK758
       clear BK760
       clear BK762
       clear HB
       have HO766 := n0_
       have BK755 := n1_
       have BK756 := n2_
       have BK758 := n3_
       have BK760 := n4_
       have BK762 := n5_
       have HB := n6_
       clear n0_ n1_ n2_ n3_ n4_ n5_ n6_
       obtain ⟨Ao51, co51, eo51⟩ := Kd.R_slice HO766.out
       (first | subst eo51 | (injection eo51 with f1_ f2_ f3_; have f4_ := f1_.symm; have f5_ := f3_.symm; clear f1_ f2_ f3_; subst f4_; subst f5_))
       refine start_ (n := 8) (S := fun w' => w'.cell? ⟨gb760, 0, none⟩ = some (.slice A759_0 ((rd_T50 l0_0 x21_1).f0).length c759_0) ∧ w'.cell? ⟨gb760, 1, none⟩ = some (.int .i64 ((rd_T50 l0_0 x21_1).f1)) ∧ w'.cell? ⟨gb762, 0, none⟩ = some (.slice A761_0 ((rd_T50 l0_0 x29_2).f0).length c761_0) ∧ w'.cell? ⟨gb762, 1, none⟩ = some (.int .i64 ((rd_T50 l0_0 x29_2).f1))) (ds := []) #[false, false, false, false, false, false, false, false] (by kernel_rfl) rfl rfl ⟨(blk_cell BK760.out 0).trans rfl, (blk_cell BK760.out 1).trans rfl, (blk_cell BK762.out 0).trans rfl, (blk_cell BK762.out 1).trans rfl⟩ (fun hHeld => ?_); refine with_tabW clash_search.tab13 clash_search.bits13 (fun HT_ HW_ => ?_)
       generalize w49.drew = w50 at HO766 BK755 BK756 BK758 BK760 BK762 HB hHeld ⊢
       refine pure_ (i := 1) (N := some 50) (v := ?_) (a' := ?_) (bz 8 2) rfl rfl (any_of HT_.out (by kernel_rfl)) zQ (Or.inl ⟨by rfl, ?_⟩) ?_ ?_
       rotate_left
       ·intro w'
        go_simp
        with_reducible rfl
       rotate_left
       ·simp only [Act.put, zv, i64_w, i32_w]
        rfl
       refine pure_ (i := 4) (N := some 53) (v := ?_) (a' := ?_) (bz 8 18) rfl rfl (any_of HT_.out (by kernel_rfl)) zQ (Or.inl ⟨by rfl, ?_⟩) ?_ ?_
       rotate_left
       ·intro w'
        go_simp
        with_reducible rfl
       rotate_left
       ·simp only [Act.put, zv, i64_w, i32_w]
        rfl
       refine take_ (i := 0) (N := some 49) (v := ?_) (a' := ?_) (bz 8 19) rfl rfl (take_ofW HT_.out HW_.out (by kernel_rfl)) zQ (Or.inl ⟨by rfl, ?_⟩) hHeld ?_ ?_
       rotate_left
       ·rintro w' ⟨s0, s1, s2, s3⟩
        go_simp
        with_reducible rfl
       rotate_left
       ·simp only [Act.put, zv, i64_w, i32_w]
        rfl
       refine take_ (i := 3) (N := some 52) (v := ?_) (a' := ?_) (bz 8 27) rfl rfl (take_ofW HT_.out HW_.out (by kernel_rfl)) zQ (Or.inl ⟨by rfl, ?_⟩) hHeld ?_ ?_
       rotate_left
       ·rintro w' ⟨s0, s1, s2, s3⟩
        go_simp
        with_reducible rfl
       rotate_left
       ·simp only [Act.put, zv, i64_w, i32_w]
        rfl
       refine one_ (i := 2) (N := some 51) (bz 8 31) rfl rfl (one_of HT_.out (by kernel_rfl)) (by decide) (fun K hK => ?_)
       refine goes_ Try.func136 (by kernel_rfl) rfl #[.agg #[.slice A759_0 ((rd_T50 l0_0 x21_1).f0).length c759_0, .int .i64 ((rd_T50 l0_0 x21_1).f1)], .slice Ao51 t764.length co51] (by rfl) rfl rfl zM ?_
       with_reducible refine (clash_first.calls k2 _ _ ((rd_T50 l0_0 x21_1).f0) ((rd_T50 l0_0 x21_1).f1) _ _ t764 t768 _ ?side1 ?side2 ?side3 ?side4 A32.out).mono ?_
       (case side1 => exact zc (Kd.C_below HR759_0.out HB.out))
       (case side2 => exact HC759_0.out)
       (case side3 => repeat (first | exact (Kd.R_reads' HO766.out).2.2 | (with_reducible refine Kd.C_alloc ?_ _) | (with_reducible refine Kd.C_drewN ?_ _) | (with_reducible refine Kd.C_drew ?_)))
       (case side4 => exact (Kd.R_reads' HO766.out).2.1)
       rintro e w52 ⟨rfl, hb⟩
       refine ⟨_, rfl, ?_⟩
       have n0_ := zk (Kd.R_below (zr HO766.out) hb)
       have n1_ := zk (zbb BK755.out hb)
       have n2_ := zk (zbb BK756.out hb)
       have n3_ := zk (zbb BK758.out hb)
       have n4_ := zk (zbb BK760.out hb)
       have n5_ := zk (zbb BK762.out hb)
       have n6_ := zk (below_step (zU HB.out) hb)
       clear HO766
       clear BK755
       clear BK756
       clear BK758
       clear BK760
       clear BK762
       clear HB
       have HO766 := n0_
       have BK755 := n1_
       have BK756 := n2_
       have BK758 := n3_
       have BK760 := n4_
       have BK762 := n5_
       have HB := n6_
       clear n0_ n1_ n2_ n3_ n4_ n5_ n6_
       (try clear hb)
       (try clear hb2)
       (try clear hk)
       (try clear hi)
       refine hK.out _ _ ⟨(blk_cell BK760.out 0).trans rfl, (blk_cell BK760.out 1).trans rfl, (blk_cell BK762.out 0).trans rfl, (blk_cell BK762.out 1).trans rfl⟩ (fun hHeld => ?_)
       clear hK K
       refine norm_ (a' := ?_) ?_ ?_
       rotate_left
       ·show Act.put _ (some 51) _ = _
        simp only [Act.put, zv, i64_w, i32_w]
        rfl
       refine one_ (i := 5) (N := some 54) (bz 8 63) rfl rfl (one_of HT_.out (by kernel_rfl)) (by decide) (fun K hK => ?_)
       refine goes_ Try.func136 (by kernel_rfl) rfl #[.agg #[.slice A761_0 ((rd_T50 l0_0 x29_2).f0).length c761_0, .int .i64 ((rd_T50 l0_0 x29_2).f1)], .slice Ao51 t764.length co51] (by rfl) rfl rfl zM ?_
       with_reducible refine (clash_first.calls k2 _ _ ((rd_T50 l0_0 x29_2).f0) ((rd_T50 l0_0 x29_2).f1) _ _ t764 t769 _ ?side1 ?side2 ?side3 ?side4 A33.out).mono ?_
       (case side1 => exact zc (Kd.C_below HR761_0.out HB.out))
       (case side2 => exact HC761_0.out)
       (case side3 => repeat (first | exact (Kd.R_reads' HO766.out).2.2 | (with_reducible refine Kd.C_alloc ?_ _) | (with_reducible refine Kd.C_drewN ?_ _) | (with_reducible refine Kd.C_drew ?_)))
       (case side4 => exact (Kd.R_reads' HO766.out).2.1)
       rintro e w53 ⟨rfl, hb⟩
       refine ⟨_, rfl, ?_⟩
       have n0_ := zk (Kd.R_below (zr HO766.out) hb)
       have n1_ := zk (zbb BK755.out hb)
       have n2_ := zk (zbb BK756.out hb)
       have n3_ := zk (zbb BK758.out hb)
       have n4_ := zk (zbb BK760.out hb)
       have n5_ := zk (zbb BK762.out hb)
       have n6_ := zk (below_step (zU HB.out) hb)
       clear HO766
       clear BK755
       clear BK756
       clear BK758
       clear BK760
       clear BK762
       clear HB
       have HO766 := n0_
       have BK755 := n1_
       have BK756 := n2_
       have BK758 := n3_
       have BK760 := n4_
       have BK762 := n5_
       have HB := n6_
       clear n0_ n1_ n2_ n3_ n4_ n5_ n6_
       (try clear hb)
       (try clear hb2)
       (try clear hk)
       (try clear hi)
       refine hK.out _ _ ⟨(blk_cell BK760.out 0).trans rfl, (blk_cell BK760.out 1).trans rfl, (blk_cell BK762.out 0).trans rfl, (blk_cell BK762.out 1).trans rfl⟩ (fun hHeld => ?_)
       clear hK K
       refine norm_ (a' := ?_) ?_ ?_
       rotate_left
       ·show Act.put _ (some 54) _ = _
        simp only [Act.put, zv, i64_w, i32_w]
        rfl
       refine pure_ (i := 6) (N := some 55) (v := ?_) (a' := ?_) (bz 8 127) rfl rfl (any_of HT_.out (by kernel_rfl)) zQ (Or.inl ⟨by rfl, ?_⟩) ?_ ?_
       rotate_left
       ·intro w'
        go_simp
        with_reducible rfl
       rotate_left
       ·simp only [Act.put, zv, i64_w, i32_w]
        rfl
       refine one_ (i := 7) (N := none) (bz 8 255) rfl rfl (one_of HT_.out (by kernel_rfl)) (by decide) (fun K hK => ?_)
       have hs54 : w53.cell? ⟨gb758, 0, none⟩ = some (.bool x759000_2) := (blk_cell BK758.out 0).trans rfl
       have hfs54 := blk_frozen BK758.out 0
       have hns54_0 := NB755_758.out
       have hns54_1 := NB756_758.out
       have hns54_3 := NB760_758.out
       have hns54_4 := NB762_758.out
       have hms54_0 := NB758_755.out
       have hms54_1 := NB758_756.out
       have hms54_3 := NB758_760.out
       have hms54_4 := NB758_762.out
       have hs55 : w53.cell? ⟨gb758, 1, none⟩ = some (.int .i64 x759001_2) := (blk_cell BK758.out 1).trans rfl
       have hfs55 := blk_frozen BK758.out 1
       have hns55_0 := NB755_758.out
       have hns55_1 := NB756_758.out
       have hns55_3 := NB760_758.out
       have hns55_4 := NB762_758.out
       have hms55_0 := NB758_755.out
       have hms55_1 := NB758_756.out
       have hms55_3 := NB758_760.out
       have hms55_4 := NB758_762.out
       have hs56 : w53.cell? ⟨gb758, 2, none⟩ = some (.int .i64 x759002_2) := (blk_cell BK758.out 2).trans rfl
       have hfs56 := blk_frozen BK758.out 2
       have hns56_0 := NB755_758.out
       have hns56_1 := NB756_758.out
       have hns56_3 := NB760_758.out
       have hns56_4 := NB762_758.out
       have hms56_0 := NB758_755.out
       have hms56_1 := NB758_756.out
       have hms56_3 := NB758_760.out
       have hms56_4 := NB758_762.out
       refine skip_ (w1 := ?_) (by rfl) rfl ?_ ?_
       rotate_left
       ·go_simp
        rfl
       refine hK.out _ _ ⟨((cell_far (p := ⟨gb758, _, none⟩) NB760_758.out _).trans (((cell_far (p := ⟨gb758, _, none⟩) NB760_758.out _).trans (((cell_far (p := ⟨gb758, _, none⟩) NB760_758.out _).trans (hHeld.1)))))), ((cell_far (p := ⟨gb758, _, none⟩) NB760_758.out _).trans (((cell_far (p := ⟨gb758, _, none⟩) NB760_758.out _).trans (((cell_far (p := ⟨gb758, _, none⟩) NB760_758.out _).trans (hHeld.2.1)))))), ((cell_far (p := ⟨gb758, _, none⟩) NB762_758.out _).trans (((cell_far (p := ⟨gb758, _, none⟩) NB762_758.out _).trans (((cell_far (p := ⟨gb758, _, none⟩) NB762_758.out _).trans (hHeld.2.2.1)))))), ((cell_far (p := ⟨gb758, _, none⟩) NB762_758.out _).trans (((cell_far (p := ⟨gb758, _, none⟩) NB762_758.out _).trans (((cell_far (p := ⟨gb758, _, none⟩) NB762_758.out _).trans (hHeld.2.2.2))))))⟩ (fun hHeld => ?_)
       clear hK K
       refine done_ (done_of HT_.out (by kernel_rfl)) ?_
       have hnb57 := NB758_756.out
       have hnc57 := NB756_758.out
       have hcz58_0 : w53.cell? ⟨gb758, 0, none⟩ = some (.bool x759000_2) := (blk_cell BK758.out 0).trans rfl
       have hcz58_1 : w53.cell? ⟨gb758, 1, none⟩ = some (.int .i64 x759001_2) := (blk_cell BK758.out 1).trans rfl
       have hcz58_2 : w53.cell? ⟨gb758, 2, none⟩ = some (.int .i64 x759002_2) := (blk_cell BK758.out 2).trans rfl
       have hfz58_0 := blk_frozen BK758.out 0
       have hfz58_1 := blk_frozen BK758.out 1
       have hfz58_2 := blk_frozen BK758.out 2
       have hcz59_0 : w53.cell? ⟨gb756, 0, none⟩ = some (.bool false) := (blk_cell BK756.out 0).trans rfl
       have hcz59_1 : w53.cell? ⟨gb756, 1, none⟩ = some (.int .i64 0) := (blk_cell BK756.out 1).trans rfl
       have hcz59_2 : w53.cell? ⟨gb756, 2, none⟩ = some (.int .i64 0) := (blk_cell BK756.out 2).trans rfl
       have hfz59_0 := blk_frozen BK756.out 0
       have hfz59_1 := blk_frozen BK756.out 1
       have hfz59_2 := blk_frozen BK756.out 2
       try go_wp2
       rw [Exit.noGoto_ret]
       refine bodyPost_ret (results_ct rfl _ _ gb756 59 #[.bool false, .int .i64 t768, .int .i64 t769] (0, 0) _ rfl (by (with_reducible repeat (first | refine blk_drewN ?_ _ | refine blk_drew ?_ | refine blk_alloc ?_ _)); refine blk_put (cs := #[.bool false, .int .i64 t768, .int .i64 0]) ?_ 2 _ rfl; (with_reducible repeat (first | refine blk_drewN ?_ _ | refine blk_drew ?_ | refine blk_alloc ?_ _)); refine blk_put (cs := #[.bool false, .int .i64 0, .int .i64 0]) ?_ 1 _ rfl; (with_reducible repeat (first | refine blk_drewN ?_ _ | refine blk_drew ?_ | refine blk_alloc ?_ _)); refine blk_put (cs := #[.bool false, .int .i64 0, .int .i64 0]) ?_ 0 _ rfl; exact zb BK756.out) Try.underlying59 rfl (by kernel_rfl)) rfl ?_
       exact ⟨by first | rfl | (simp [errW_none, errW_some] <;> rfl) | (simp [*, errW_none, errW_some] <;> rfl), zU HB.out⟩
       ·replace c31 := Bool.eq_false_iff.mpr c31
       subst c31
       have H1 : (clash_search.l1 k2 x21_1 l0_0 (l0_0.length : Int) x21_1 l0_0 (l0_0.length : Int) (wrap64 (x29_2 + 1)) l0_0 x759000_2 x759001_2 x759002_2 ((rd_T50 l0_0 x21_1).f0) ((rd_T50 l0_0 x21_1).f1)) = some (r1, r2, r3, r4) := by rw [if_neg (show ¬ (false = true) by decide)] at H; exact H
       clear H
       have H := H1
       clear H1
       have H' := zk H
       clear H
       have p761 : 0 ≤ (x29_2 : Int) := zT
       have q761 : x29_2 < (l0_0.length : Int) := zT
       obtain ⟨ad761, A761_0, c761_0, e761, hx761_0, hx761_1, hl761_0, hi761_0⟩ := at_T50 HR0_0.out x29_2 p761 q761
       obtain rfl : ad759 = ad761 := (by injection e761)
       replace hx761_0 := (HB.out.cell (World.block_lt_of_cell? w _ hx761_0)).trans hx761_0
       replace hx761_1 := (HB.out.cell (World.block_lt_of_cell? w _ hx761_1)).trans hx761_1
       have HR761_0 := zk hi761_0
       have HC761_0 := zk hl761_0
       clear hi761_0 hl761_0
       replace p761 := eq_true p761
       replace q761 := eq_true q761
       go_wp2_with (first | ((with_reducible refine gate_dst (N := 10) rfl ?_); refine box_event ?hg (N := 10) ?hd (cs := #[.slice none 0 0, .int .i64 0]) (t := 50) ?hr ?_; (case hd => rfl); (case hg => rfl); (case hr => first | (go_simp; done) | (go_simp; rfl)); intro gb762 hg w60 hbox hb; have n0_ := zk (zbb BK755.out hb); have n1_ := zk (zbb BK756.out hb); have n2_ := zk (zbb BK758.out hb); have n3_ := zk (zbb BK760.out hb); have n4_ := zk (below_step (zU HB.out) hb); have n5_ := zk (hbox); have n6_ := zk ((by rw [hg]; exact (below_size (zU HB.out)) : w.heap.size ≤ gb762)); have n7_ := zk ((by rw [hg]; exact (below_size (zU HB.out)) : w.heap.size ≤ gb762)); have n8_ := zk ((zlt hg BK755.out : gb755 ≠ gb762)); have n9_ := zk ((zgt hg BK755.out : gb762 ≠ gb755)); have n10_ := zk ((zlt hg BK756.out : gb756 ≠ gb762)); have n11_ := zk ((zgt hg BK756.out : gb762 ≠ gb756)); have n12_ := zk ((zlt hg BK758.out : gb758 ≠ gb762)); have n13_ := zk ((zgt hg BK758.out : gb762 ≠ gb758)); have n14_ := zk ((zlt hg BK760.out : gb760 ≠ gb762)); have n15_ := zk ((zgt hg BK760.out : gb762 ≠ gb760)); clear BK755; clear BK756; clear BK758; clear BK760; clear HB; have BK755 := n0_; have BK756 := n1_; have BK758 := n2_; have BK760 := n3_; have HB := n4_; have BK762 := n5_; have GW762 := n6_; have GE762 := n7_; have NB755_762 := n8_; have NB762_755 := n9_; have NB756_762 := n10_; have NB762_756 := n11_; have NB758_762 := n12_; have NB762_758 := n13_; have NB760_762 := n14_; have NB762_760 := n15_; clear n0_ n1_ n2_ n3_ n4_ n5_ n6_ n7_ n8_ n9_ n10_ n11_ n12_ n13_ n14_ n15_; clear hb hbox hg; have hnb61 := NB762_755.out; have hnc61 := NB755_762.out; have hnb62 := NB762_756.out; have hnc62 := NB756_762.out; have hnb63 := NB762_758.out; have hnc63 := NB758_762.out; have hnb64 := NB762_760.out; have hnc64 := NB760_762.out; have hcz65_0 : w60.cell? ⟨gb762, 0, none⟩ = some (.slice none 0 0) := (blk_cell BK762.out 0).trans rfl; have hcz65_1 : w60.cell? ⟨gb762, 1, none⟩ = some (.int .i64 0) := (blk_cell BK762.out 1).trans rfl; have hfz65_0 := blk_frozen BK762.out 0; have hfz65_1 := blk_frozen BK762.out 1; have hnb66 := NB755_756.out; have hnc66 := NB756_755.out; have hnb67 := NB755_758.out; have hnc67 := NB758_755.out; have hnb68 := NB755_760.out; have hnc68 := NB760_755.out; have hcz69_0 : w60.cell? ⟨gb755, 0, none⟩ = some (.slice (some ad759) l0_0.length c0_0) := (blk_cell BK755.out 0).trans rfl; have hfz69_0 := blk_frozen BK755.out 0) | (go_at_call 109; refine (asked_P.calls _ _ l0_0 x21_1 x29_2 true _ (Kd.C_below HR0_0.out (zU HB.out)) HC0_0.out A28.out gs (blk_below (g := gs) HBX.out (zU HB.out))).mono ?_; rintro e w70 ⟨rfl, hb⟩; have n0_ := zk (zbb BK755.out hb); have n1_ := zk (zbb BK756.out hb); have n2_ := zk (zbb BK758.out hb); have n3_ := zk (zbb BK760.out hb); have n4_ := zk (blk_below (g := gb762) (o := .cells #[.slice A761_0 ((rd_T50 l0_0 x29_2).f0).length c761_0, .int .i64 ((rd_T50 l0_0 x29_2).f1)] 50 (0, 0)) (by (with_reducible repeat (first | refine blk_drewN ?_ _ | refine blk_drew ?_ | refine blk_alloc ?_ _)); refine blk_put (cs := #[.slice A761_0 ((rd_T50 l0_0 x29_2).f0).length c761_0, .int .i64 0]) ?_ 1 _ rfl; (with_reducible repeat (first | refine blk_drewN ?_ _ | refine blk_drew ?_ | refine blk_alloc ?_ _)); refine blk_put (cs := #[.slice none 0 0, .int .i64 0]) ?_ 0 _ rfl; exact zb BK762.out) hb); have n5_ := zk (below_step (zU HB.out) hb); clear BK755; clear BK756; clear BK758; clear BK760; clear BK762; clear HB; have BK755 := n0_; have BK756 := n1_; have BK758 := n2_; have BK760 := n3_; have BK762 := n4_; have HB := n5_; clear n0_ n1_ n2_ n3_ n4_ n5_; (try clear hb); (try clear hb2); (try clear hk); (try clear hi); have hnb71 := NB760_756.out; have hnc71 := NB756_760.out; have hnb72 := NB760_758.out; have hnc72 := NB758_760.out; have hcz73_0 : w70.cell? ⟨gb760, 0, none⟩ = some (.slice A759_0 ((rd_T50 l0_0 x21_1).f0).length c759_0) := (blk_cell BK760.out 0).trans rfl; have hcz73_1 : w70.cell? ⟨gb760, 1, none⟩ = some (.int .i64 ((rd_T50 l0_0 x21_1).f1)) := (blk_cell BK760.out 1).trans rfl; have hfz73_0 := blk_frozen BK760.out 0; have hfz73_1 := blk_frozen BK760.out 1; have hcz74_0 : w70.cell? ⟨gb762, 0, none⟩ = some (.slice A761_0 ((rd_T50 l0_0 x29_2).f0).length c761_0) := (blk_cell BK762.out 0).trans rfl; have hcz74_1 : w70.cell? ⟨gb762, 1, none⟩ = some (.int .i64 ((rd_T50 l0_0 x29_2).f1)) := (blk_cell BK762.out 1).trans rfl; have hfz74_0 := blk_frozen BK762.out 0; have hfz74_1 := blk_frozen BK762.out 1) | ((with_reducible refine gate_callee (f := 57) rfl ?_); refine goesL_ (some 45) rfl rfl Try.func57 (by kernel_rfl) rfl #[.agg #[.slice A759_0 ((rd_T50 l0_0 x21_1).f0).length c759_0, .int .i64 ((rd_T50 l0_0 x21_1).f1)], .agg #[.slice A761_0 ((rd_T50 l0_0 x29_2).f0).length c761_0, .int .i64 ((rd_T50 l0_0 x29_2).f1)], .int .i64 (((rd_T50 l0_0 x21_1).f0).length : Int)] rfl zM ?_; (with_reducible refine (shape_Common.calls k2 _ _ ((rd_T50 l0_0 x21_1).f0) ((rd_T50 l0_0 x21_1).f1) _ _ ((rd_T50 l0_0 x29_2).f0) ((rd_T50 l0_0 x29_2).f1) (((rd_T50 l0_0 x21_1).f0).length : Int) t764 false _ ?side1 ?side2 ?side3 ?side4 A30.out).mono ?_); (case side1 => exact zc (Kd.C_below HR759_0.out HB.out)); (case side2 => exact HC759_0.out); (case side3 => exact zc (Kd.C_below HR761_0.out HB.out)); (case side4 => exact HC761_0.out); rintro e w75 ⟨v765, rfl, ho0, hb⟩; refine ⟨_, rfl, ?_⟩; have n0_ := zk (Kd.R_lower ho0 (below_size (zU HB.out))); have n1_ := zk (zbb BK755.out hb); have n2_ := zk (zbb BK756.out hb); have n3_ := zk (zbb BK758.out hb); have n4_ := zk (zbb BK760.out hb); have n5_ := zk (zbb BK762.out hb); have n6_ := zk (below_step (zU HB.out) hb); clear BK755; clear BK756; clear BK758; clear BK760; clear BK762; clear HB; have HO766 := n0_; have BK755 := n1_; have BK756 := n2_; have BK758 := n3_; have BK760 := n4_; have BK762 := n5_; have HB := n6_; clear n0_ n1_ n2_ n3_ n4_ n5_ n6_; (try clear hb); (try clear hb2); (try clear hk); (try clear hi); (try clear ho0)))
       go_roundg k2
       case measure => have := HK1.out; have := HK2.out; omega
       case rel => exact ⟨(wrap64 (x29_2 + 1)), (x759000_2), (x759001_2), (x759002_2), zR, H', ⟨by have := HK1.out; have := HK2.out; omega⟩, ⟨by exact zb BK755.out⟩, ⟨by exact zb BK756.out⟩, ⟨by exact zb BK758.out⟩, ⟨by exact zb BK760.out⟩, ⟨zU HB.out⟩⟩
      ·replace c29 := Bool.eq_false_iff.mpr c29
       subst c29
       have H1 : (clash_search.l1 k2 x21_1 l0_0 (l0_0.length : Int) x21_1 l0_0 (l0_0.length : Int) (wrap64 (x29_2 + 1)) l0_0 x759000_2 x759001_2 x759002_2 ((rd_T50 l0_0 x21_1).f0) ((rd_T50 l0_0 x21_1).f1)) = some (r1, r2, r3, r4) := by rw [if_neg (show ¬ (false = true) by decide)] at H; exact H
       clear H
       have H := H1
       clear H1
       have H' := zk H
       clear H
       have p761 : 0 ≤ (x29_2 : Int) := zT
       have q761 : x29_2 < (l0_0.length : Int) := zT
       obtain ⟨ad761, A761_0, c761_0, e761, hx761_0, hx761_1, hl761_0, hi761_0⟩ := at_T50 HR0_0.out x29_2 p761 q761
       obtain rfl : ad759 = ad761 := (by injection e761)
       replace hx761_0 := (HB.out.cell (World.block_lt_of_cell? w _ hx761_0)).trans hx761_0
       replace hx761_1 := (HB.out.cell (World.block_lt_of_cell? w _ hx761_1)).trans hx761_1
       have HR761_0 := zk hi761_0
       have HC761_0 := zk hl761_0
       clear hi761_0 hl761_0
       replace p761 := eq_true p761
       replace q761 := eq_true q761
       go_wp2_with (first | ((with_reducible refine gate_dst (N := 10) rfl ?_); refine box_event ?hg (N := 10) ?hd (cs := #[.slice none 0 0, .int .i64 0]) (t := 50) ?hr ?_; (case hd => rfl); (case hg => rfl); (case hr => first | (go_simp; done) | (go_simp; rfl)); intro gb762 hg w76 hbox hb; have n0_ := zk (zbb BK755.out hb); have n1_ := zk (zbb BK756.out hb); have n2_ := zk (zbb BK758.out hb); have n3_ := zk (zbb BK760.out hb); have n4_ := zk (below_step (zU HB.out) hb); have n5_ := zk (hbox); have n6_ := zk ((by rw [hg]; exact (below_size (zU HB.out)) : w.heap.size ≤ gb762)); have n7_ := zk ((by rw [hg]; exact (below_size (zU HB.out)) : w.heap.size ≤ gb762)); have n8_ := zk ((zlt hg BK755.out : gb755 ≠ gb762)); have n9_ := zk ((zgt hg BK755.out : gb762 ≠ gb755)); have n10_ := zk ((zlt hg BK756.out : gb756 ≠ gb762)); have n11_ := zk ((zgt hg BK756.out : gb762 ≠ gb756)); have n12_ := zk ((zlt hg BK758.out : gb758 ≠ gb762)); have n13_ := zk ((zgt hg BK758.out : gb762 ≠ gb758)); have n14_ := zk ((zlt hg BK760.out : gb760 ≠ gb762)); have n15_ := zk ((zgt hg BK760.out : gb762 ≠ gb760)); clear BK755; clear BK756; clear BK758; clear BK760; clear HB; have BK755 := n0_; have BK756 := n1_; have BK758 := n2_; have BK760 := n3_; have HB := n4_; have BK762 := n5_; have GW762 := n6_; have GE762 := n7_; have NB755_762 := n8_; have NB762_755 := n9_; have NB756_762 := n10_; have NB762_756 := n11_; have NB758_762 := n12_; have NB762_758 := n13_; have NB760_762 := n14_; have NB762_760 := n15_; clear n0_ n1_ n2_ n3_ n4_ n5_ n6_ n7_ n8_ n9_ n10_ n11_ n12_ n13_ n14_ n15_; clear hb hbox hg; have hnb77 := NB762_755.out; have hnc77 := NB755_762.out; have hnb78 := NB762_756.out; have hnc78 := NB756_762.out; have hnb79 := NB762_758.out; have hnc79 := NB758_762.out; have hnb80 := NB762_760.out; have hnc80 := NB760_762.out; have hcz81_0 : w76.cell? ⟨gb762, 0, none⟩ = some (.slice none 0 0) := (blk_cell BK762.out 0).trans rfl; have hcz81_1 : w76.cell? ⟨gb762, 1, none⟩ = some (.int .i64 0) := (blk_cell BK762.out 1).trans rfl; have hfz81_0 := blk_frozen BK762.out 0; have hfz81_1 := blk_frozen BK762.out 1; have hnb82 := NB755_756.out; have hnc82 := NB756_755.out; have hnb83 := NB755_758.out; have hnc83 := NB758_755.out; have hnb84 := NB755_760.out; have hnc84 := NB760_755.out; have hcz85_0 : w76.cell? ⟨gb755, 0, none⟩ = some (.slice (some ad759) l0_0.length c0_0) := (blk_cell BK755.out 0).trans rfl; have hfz85_0 := blk_frozen BK755.out 0) | (go_at_call 109; refine (asked_P.calls _ _ l0_0 x21_1 x29_2 false _ (Kd.C_below HR0_0.out (zU HB.out)) HC0_0.out A28.out gs (blk_below (g := gs) HBX.out (zU HB.out))).mono ?_; rintro e w86 ⟨rfl, hb⟩; have n0_ := zk (zbb BK755.out hb); have n1_ := zk (zbb BK756.out hb); have n2_ := zk (zbb BK758.out hb); have n3_ := zk (zbb BK760.out hb); have n4_ := zk (blk_below (g := gb762) (o := .cells #[.slice A761_0 ((rd_T50 l0_0 x29_2).f0).length c761_0, .int .i64 ((rd_T50 l0_0 x29_2).f1)] 50 (0, 0)) (by (with_reducible repeat (first | refine blk_drewN ?_ _ | refine blk_drew ?_ | refine blk_alloc ?_ _)); refine blk_put (cs := #[.slice A761_0 ((rd_T50 l0_0 x29_2).f0).length c761_0, .int .i64 0]) ?_ 1 _ rfl; (with_reducible repeat (first | refine blk_drewN ?_ _ | refine blk_drew ?_ | refine blk_alloc ?_ _)); refine blk_put (cs := #[.slice none 0 0, .int .i64 0]) ?_ 0 _ rfl; exact zb BK762.out) hb); have n5_ := zk (below_step (zU HB.out) hb); clear BK755; clear BK756; clear BK758; clear BK760; clear BK762; clear HB; have BK755 := n0_; have BK756 := n1_; have BK758 := n2_; have BK760 := n3_; have BK762 := n4_; have HB := n5_; clear n0_ n1_ n2_ n3_ n4_ n5_; (try clear hb); (try clear hb2); (try clear hk); (try clear hi)))
       go_roundg k2
       case measure => have := HK1.out; have := HK2.out; omega
       case rel => exact ⟨(wrap64 (x29_2 + 1)), (x759000_2), (x759001_2), (x759002_2), zR, H', ⟨by have := HK1.out; have := HK2.out; omega⟩, ⟨by exact zb BK755.out⟩, ⟨by exact zb BK756.out⟩, ⟨by exact zb BK758.out⟩, ⟨by exact zb BK760.out⟩, ⟨zU HB.out⟩⟩
      ·rw [if_neg c27] at H
      exact absurd H (by simp)
     ·rw [if_neg c26] at H
      exact absurd H (by simp)
     ·rw [if_neg c25] at H
     have c25b0 : decide (x29_2 < (l0_0.length : Int)) = false := decide_eq_false c25
     clear c25
     have H' := zk H
     clear H
     go_wp2
     go_roundg k2
     case measure => have := HK1.out; have := HK2.out; omega
     case rel => exact ⟨(wrap64 (x21_1 + 1)), (x759000_2), (x759001_2), (x759002_2), zR, H', ⟨by have := HK1.out; have := HK2.out; omega⟩, ⟨by exact zb BK755.out⟩, ⟨by exact zb BK756.out⟩, ⟨by exact zb BK758.out⟩, ⟨zU HB.out⟩⟩
   ·rw [if_neg c16] at H
    exact absurd H (by simp)
   ·rw [if_neg c15] at H
   exact absurd H (by simp)
  ·rw [if_neg c14] at H
   have c14b0 : decide (x21_1 < (l0_0.length : Int)) = false := decide_eq_false c14
   clear c14
   simp only [Option.some.injEq, Prod.mk.injEq] at H
   obtain ⟨rfl, rfl, rfl, rfl⟩ := H
   have hnb87 := NB758_755.out
   have hnc87 := NB755_758.out
   have hnb88 := NB758_756.out
   have hnc88 := NB756_758.out
   have hcz89_0 : wr.cell? ⟨gb758, 0, none⟩ = some (.bool x759000_1) := (blk_cell BK758.out 0).trans rfl
   have hcz89_1 : wr.cell? ⟨gb758, 1, none⟩ = some (.int .i64 x759001_1) := (blk_cell BK758.out 1).trans rfl
   have hcz89_2 : wr.cell? ⟨gb758, 2, none⟩ = some (.int .i64 x759002_1) := (blk_cell BK758.out 2).trans rfl
   have hfz89_0 := blk_frozen BK758.out 0
   have hfz89_1 := blk_frozen BK758.out 1
   have hfz89_2 := blk_frozen BK758.out 2
   have hnb90 := NB756_755.out
   have hnc90 := NB755_756.out
   have hcz91_0 : wr.cell? ⟨gb756, 0, none⟩ = some (.bool false) := (blk_cell BK756.out 0).trans rfl
   have hcz91_1 : wr.cell? ⟨gb756, 1, none⟩ = some (.int .i64 0) := (blk_cell BK756.out 1).trans rfl
   have hcz91_2 : wr.cell? ⟨gb756, 2, none⟩ = some (.int .i64 0) := (blk_cell BK756.out 2).trans rfl
   have hfz91_0 := blk_frozen BK756.out 0
   have hfz91_1 := blk_frozen BK756.out 1
   have hfz91_2 := blk_frozen BK756.out 2
   go_wp2
   rw [Exit.noGoto_ret]
   refine bodyPost_ret (results_ct rfl _ _ gb756 59 #[.bool x759000_1, .int .i64 x759001_1, .int .i64 x759002_1] (0, 0) _ rfl (by (with_reducible repeat (first | refine blk_drewN ?_ _ | refine blk_drew ?_ | refine blk_alloc ?_ _)); refine blk_put (cs := #[.bool x759000_1, .int .i64 x759001_1, .int .i64 0]) ?_ 2 _ rfl; (with_reducible repeat (first | refine blk_drewN ?_ _ | refine blk_drew ?_ | refine blk_alloc ?_ _)); refine blk_put (cs := #[.bool x759000_1, .int .i64 0, .int .i64 0]) ?_ 1 _ rfl; (with_reducible repeat (first | refine blk_drewN ?_ _ | refine blk_drew ?_ | refine blk_alloc ?_ _)); refine blk_put (cs := #[.bool false, .int .i64 0, .int .i64 0]) ?_ 0 _ rfl; exact zb BK756.out) Try.underlying59 rfl (by kernel_rfl)) rfl ?_
   exact ⟨by first | rfl | (simp [errW_none, errW_some] <;> rfl) | (simp [*, errW_none, errW_some] <;> rfl), zU HB.out⟩
 ·replace c3 := Bool.eq_false_iff.mpr c3
 subst c3
 have H1 : (some (false, 0, 0, 84)) = some (r1, r2, r3, r4) := by rw [if_neg (show ¬ (false = true) by decide)] at H; exact H
 clear H
 have H := H1
 clear H1
 simp only [Option.some.injEq, Prod.mk.injEq] at H
 obtain ⟨rfl, rfl, rfl, rfl⟩ := H
 go_enter Try.func107, Try.ntmps107
 go_wp2_with (first | ((with_reducible refine gate_dst (N := 2) rfl ?_); refine box_event ?hg (N := 2) ?hd (cs := #[.slice A0_0 l0_0.length c0_0]) (t := 24) ?hr ?_; (case hd => rfl); (case hg => rfl); (case hr => first | (go_simp; done) | (go_simp; rfl)); intro gb755 hg w92 hbox hb; have n0_ := zk (below_step (zU HB.out) hb); have n1_ := zk (hbox); have n2_ := zk ((by rw [hg]; exact (below_size (zU HB.out)) : w.heap.size ≤ gb755)); have n3_ := zk ((by rw [hg]; exact (below_size (zU HB.out)) : w.heap.size ≤ gb755)); clear HB; have HB := n0_; have BK755 := n1_; have GW755 := n2_; have GE755 := n3_; clear n0_ n1_ n2_ n3_; clear hb hbox hg) | ((with_reducible refine gate_dst (N := 4) rfl ?_); refine box_event ?hg (N := 4) ?hd (cs := #[.bool false, .int .i64 0, .int .i64 0]) (t := 59) ?hr ?_; (case hd => rfl); (case hg => rfl); (case hr => first | (go_simp; done) | (go_simp; rfl)); intro gb756 hg w93 hbox hb; have n0_ := zk (zbb BK755.out hb); have n1_ := zk (below_step (zU HB.out) hb); have n2_ := zk (hbox); have n3_ := zk ((by rw [hg]; exact (below_size (zU HB.out)) : w.heap.size ≤ gb756)); have n4_ := zk ((by rw [hg]; exact (below_size (zU HB.out)) : w.heap.size ≤ gb756)); have n5_ := zk ((zlt hg BK755.out : gb755 ≠ gb756)); have n6_ := zk ((zgt hg BK755.out : gb756 ≠ gb755)); clear BK755; clear HB; have BK755 := n0_; have HB := n1_; have BK756 := n2_; have GW756 := n3_; have GE756 := n4_; have NB755_756 := n5_; have NB756_755 := n6_; clear n0_ n1_ n2_ n3_ n4_ n5_ n6_; clear hb hbox hg; have hnb94 := NB755_756.out; have hnc94 := NB756_755.out; have hcz95_0 : w93.cell? ⟨gb755, 0, none⟩ = some (.slice A0_0 l0_0.length c0_0) := (blk_cell BK755.out 0).trans rfl; have hfz95_0 := blk_frozen BK755.out 0))
 apply wp_scope_straight
 go_wp2_with (first | ((with_reducible refine gate_callee (f := 76) rfl ?_); refine goesL_ (some 14) rfl rfl Try.func76 (by kernel_rfl) rfl #[.agg #[.slice A0_0 l0_0.length c0_0]] rfl zM ?_; (with_reducible refine (scheme_Valid.calls k _ _ l0_0 false _ ?side1 ?side2 A2.out).mono ?_); (case side1 => exact zc (Kd.C_below HR0_0.out HB.out)); (case side2 => exact HC0_0.out); rintro e w96 ⟨rfl, hb⟩; refine ⟨_, rfl, ?_⟩; have n0_ := zk (zbb BK755.out hb); have n1_ := zk (zbb BK756.out hb); have n2_ := zk (below_step (zU HB.out) hb); clear BK755; clear BK756; clear HB; have BK755 := n0_; have BK756 := n1_; have HB := n2_; clear n0_ n1_ n2_; (try clear hb); (try clear hb2); (try clear hk); (try clear hi); have hcz97_0 : w96.cell? ⟨gb756, 0, none⟩ = some (.bool false) := (blk_cell BK756.out 0).trans rfl; have hcz97_1 : w96.cell? ⟨gb756, 1, none⟩ = some (.int .i64 0) := (blk_cell BK756.out 1).trans rfl; have hcz97_2 : w96.cell? ⟨gb756, 2, none⟩ = some (.int .i64 0) := (blk_cell BK756.out 2).trans rfl; have hfz97_0 := blk_frozen BK756.out 0; have hfz97_1 := blk_frozen BK756.out 1; have hfz97_2 := blk_frozen BK756.out 2))
 rw [Exit.noGoto_ret]
 refine bodyPost_ret (results_ct rfl _ _ gb756 59 #[.bool false, .int .i64 0, .int .i64 0] (0, 0) _ rfl (by (with_reducible repeat (first | refine blk_drewN ?_ _ | refine blk_drew ?_ | refine blk_alloc ?_ _)); refine blk_put (cs := #[.bool false, .int .i64 0, .int .i64 0]) ?_ 2 _ rfl; (with_reducible repeat (first | refine blk_drewN ?_ _ | refine blk_drew ?_ | refine blk_alloc ?_ _)); refine blk_put (cs := #[.bool false, .int .i64 0, .int .i64 0]) ?_ 1 _ rfl; (with_reducible repeat (first | refine blk_drewN ?_ _ | refine blk_drew ?_ | refine blk_alloc ?_ _)); refine blk_put (cs := #[.bool false, .int .i64 0, .int .i64 0]) ?_ 0 _ rfl; exact zb BK756.out) Try.underlying59 rfl (by kernel_rfl)) rfl ?_
 exact ⟨by first | rfl | (simp [errW_none, errW_some] <;> rfl) | (simp [*, errW_none, errW_some] <;> rfl), zU HB.out⟩
mutual
def clash_searchI.l0 : Nat → List (S50) → Int → Int → List (S50) → Bool → Int → Int → Option (Bool × Int × Int × Int)
 | 0, _, _, _, _, _, _, _ => none
 | k + 1, x19, x20, x21, x756000, x759000, x759001, x759002 => if x21 < x20 then (if 0 ≤ x21 then (if x21 < (x19.length : Int) then (clash_searchI.l1 k x21 x19 x20 x21 x756000 (x756000.length : Int) 0 x756000 x759000 x759001 x759002 ((rd_T50 x19 x21).f0) ((rd_T50 x19 x21).f1)) else (none)) else (none)) else (some (x759000, x759001, x759002, 0))
def clash_searchI.l1 : Nat → Int → List (S50) → Int → Int → List (S50) → Int → Int → List (S50) → Bool → Int → Int → List (List (S113)) → Int → Option (Bool × Int × Int × Int)
 | 0, _, _, _, _, _, _, _, _, _, _, _, _, _ => none
 | k + 1, x7, x19, x20, x21, x27, x28, x29, x756000, x759000, x759001, x759002, x761000, x761001 => if x29 < x28 then (if 0 ≤ x29 then (if x29 < (x27.length : Int) then ((asked_I.f x756000 x7 x29).bind fun t763 => (if t763 = true then ((shape_Common.f k x761000 x761001 ((rd_T50 x27 x29).f0) ((rd_T50 x27 x29).f1) (x761000.length : Int)).bind fun bt764 => (if bt764.2 = true then ((clash_first.f k x761000 x761001 bt764.1).bind fun t768 => ((clash_first.f k ((rd_T50 x27 x29).f0) ((rd_T50 x27 x29).f1) bt764.1).bind fun t769 => (some (false, t768, t769, 0)))) else (clash_searchI.l1 k x7 x19 x20 x21 x27 x28 (wrap64 (x29 + 1)) x756000 x759000 x759001 x759002 x761000 x761001))) else (clash_searchI.l1 k x7 x19 x20 x21 x27 x28 (wrap64 (x29 + 1)) x756000 x759000 x759001 x759002 x761000 x761001))) else (none)) else (none)) else (clash_searchI.l0 k x19 x20 (wrap64 (x21 + 1)) x756000 x759000 x759001 x759002)
end
def clash_searchI.f (k : Nat) (l0_0 : List (S50)) : Option (Bool × Int × Int × Int) := (scheme_Valid.f k l0_0).bind fun t757 => (if t757 = true then (clash_searchI.l0 k l0_0 (l0_0.length : Int) 0 l0_0 true 0 0) else (some (false, 0, 0, 84)))
def clash_searchI.T13 : Bool × List (List Nat × List Nat) := (true, [([], []), ([], []), ([0, 1], [0, 1]), ([], []), ([], []), ([3, 4, 2], [3, 4]), ([2, 5], [2, 5]), ([6, 5, 0, 1, 2, 3, 4, 5, 6], [6])])
def clash_searchI.B13 : List Nat := [0, 0, 3, 0, 0, 31, 63, 127]
theorem clash_searchI.tab13 : rtab .any (opsOf Try.f107 13) = clash_searchI.T13 := by kernel_rfl
theorem clash_searchI.bits13 : waitsOk clash_searchI.T13.2 clash_searchI.B13 = true := by kernel_rfl
set_option maxHeartbeats 8000000 in
set_option maxRecDepth 100000 in
theorem clash_searchI.calls (k : Nat) (A0_0 : Option Addr) (c0_0 : Nat) (l0_0 : List (S50)) (r1 : Bool) (r2 : Int) (r3 : Int) (r4 : Int) (w : World) (hr0_0 : Kd.C k50 w A0_0 l0_0.length l0_0) (hc0_0 : l0_0.length ≤ c0_0) (h : clash_searchI.f k l0_0 = some (r1, r2, r3, r4)) (gs : Nat) (hbx : w.heap[gs]? = some (.cells #[.slice A0_0 l0_0.length c0_0] 24 (0, 0))) :
 Calls Try.prog 107 #[.agg #[.slice A0_0 l0_0.length c0_0], .func (.func 108) #[] #[.pointer (some ⟨gs, 0, none⟩)]] w fun e w' => e = .returned (.tuple #[.agg #[.bool r1, .int .i64 r2, .int .i64 r3], .int .i64 r4]) ∧ Below w.heap.size w w' := by
 have hu24 := Try.underlying24
 have hu59 := Try.underlying59
 have hu50 := Try.underlying50
 have HR0_0 := zk hr0_0
 have HC0_0 := zk hc0_0
 clear hr0_0 hc0_0
 have HBX := zk hbx
 clear hbx
 have HB := zk (Below.refl w.heap.size w)
 have H : ((scheme_Valid.f k l0_0).bind fun t757 => (if t757 = true then (clash_searchI.l0 k l0_0 (l0_0.length : Int) 0 l0_0 true 0 0) else (some (false, 0, 0, 84)))) = some (r1, r2, r3, r4) := h
 clear h
 replace H := Option.bind_eq_some_iff.mp H
 obtain ⟨t757, A20, H⟩ := H
 replace H : (if t757 = true then (clash_searchI.l0 k l0_0 (l0_0.length : Int) 0 l0_0 true 0 0) else (some (false, 0, 0, 84))) = some (r1, r2, r3, r4) := H
 have A2 := zk A20
 clear A20
 by_cases c3 : t757 = true
 ·subst c3
 have H1 : (clash_searchI.l0 k l0_0 (l0_0.length : Int) 0 l0_0 true 0 0) = some (r1, r2, r3, r4) := by rw [if_pos rfl] at H; exact H
 clear H
 have H := H1
 clear H1
 have H' := zk H
 clear H
 go_enter Try.func107, Try.ntmps107
 go_wp2_with (first | ((with_reducible refine gate_dst (N := 2) rfl ?_); refine box_event ?hg (N := 2) ?hd (cs := #[.slice A0_0 l0_0.length c0_0]) (t := 24) ?hr ?_; (case hd => rfl); (case hg => rfl); (case hr => first | (go_simp; done) | (go_simp; rfl)); intro gb755 hg w4 hbox hb; have n0_ := zk (below_step (zU HB.out) hb); have n1_ := zk (hbox); have n2_ := zk ((by rw [hg]; exact (below_size (zU HB.out)) : w.heap.size ≤ gb755)); have n3_ := zk ((by rw [hg]; exact (below_size (zU HB.out)) : w.heap.size ≤ gb755)); clear HB; have HB := n0_; have BK755 := n1_; have GW755 := n2_; have GE755 := n3_; clear n0_ n1_ n2_ n3_; clear hb hbox hg) | ((with_reducible refine gate_dst (N := 4) rfl ?_); refine box_event ?hg (N := 4) ?hd (cs := #[.bool false, .int .i64 0, .int .i64 0]) (t := 59) ?hr ?_; (case hd => rfl); (case hg => rfl); (case hr => first | (go_simp; done) | (go_simp; rfl)); intro gb756 hg w5 hbox hb; have n0_ := zk (zbb BK755.out hb); have n1_ := zk (below_step (zU HB.out) hb); have n2_ := zk (hbox); have n3_ := zk ((by rw [hg]; exact (below_size (zU HB.out)) : w.heap.size ≤ gb756)); have n4_ := zk ((by rw [hg]; exact (below_size (zU HB.out)) : w.heap.size ≤ gb756)); have n5_ := zk ((zlt hg BK755.out : gb755 ≠ gb756)); have n6_ := zk ((zgt hg BK755.out : gb756 ≠ gb755)); clear BK755; clear HB; have BK755 := n0_; have HB := n1_; have BK756 := n2_; have GW756 := n3_; have GE756 := n4_; have NB755_756 := n5_; have NB756_755 := n6_; clear n0_ n1_ n2_ n3_ n4_ n5_ n6_; clear hb hbox hg; have hnb6 := NB755_756.out; have hnc6 := NB756_755.out; have hcz7_0 : w5.cell? ⟨gb755, 0, none⟩ = some (.slice A0_0 l0_0.length c0_0) := (blk_cell BK755.out 0).trans rfl; have hfz7_0 := blk_frozen BK755.out 0))
 apply wp_scope_straight
 go_wp2_with (first | ((with_reducible refine gate_callee (f := 76) rfl ?_); refine goesL_ (some 14) rfl rfl Try.func76 (by kernel_rfl) rfl #[.agg #[.slice A0_0 l0_0.length c0_0]] rfl zM ?_; (with_reducible refine (scheme_Valid.calls k _ _ l0_0 true _ ?side1 ?side2 A2.out).mono ?_); (case side1 => exact zc (Kd.C_below HR0_0.out HB.out)); (case side2 => exact HC0_0.out); rintro e w8 ⟨rfl, hb⟩; refine ⟨_, rfl, ?_⟩; have n0_ := zk (zbb BK755.out hb); have n1_ := zk (zbb BK756.out hb); have n2_ := zk (below_step (zU HB.out) hb); clear BK755; clear BK756; clear HB; have BK755 := n0_; have BK756 := n1_; have HB := n2_; clear n0_ n1_ n2_; (try clear hb); (try clear hb2); (try clear hk); (try clear hi)) | ((with_reducible refine gate_dst (N := 6) rfl ?_); refine box_event ?hg (N := 6) ?hd (cs := #[.bool false, .int .i64 0, .int .i64 0]) (t := 59) ?hr ?_; (case hd => rfl); (case hg => rfl); (case hr => first | (go_simp; done) | (go_simp; rfl)); intro gb758 hg w9 hbox hb; have n0_ := zk (zbb BK755.out hb); have n1_ := zk (zbb BK756.out hb); have n2_ := zk (below_step (zU HB.out) hb); have n3_ := zk (hbox); have n4_ := zk ((by rw [hg]; exact (below_size (zU HB.out)) : w.heap.size ≤ gb758)); have n5_ := zk ((by rw [hg]; exact (below_size (zU HB.out)) : w.heap.size ≤ gb758)); have n6_ := zk ((zlt hg BK755.out : gb755 ≠ gb758)); have n7_ := zk ((zgt hg BK755.out : gb758 ≠ gb755)); have n8_ := zk ((zlt hg BK756.out : gb756 ≠ gb758)); have n9_ := zk ((zgt hg BK756.out : gb758 ≠ gb756)); clear BK755; clear BK756; clear HB; have BK755 := n0_; have BK756 := n1_; have HB := n2_; have BK758 := n3_; have GW758 := n4_; have GE758 := n5_; have NB755_758 := n6_; have NB758_755 := n7_; have NB756_758 := n8_; have NB758_756 := n9_; clear n0_ n1_ n2_ n3_ n4_ n5_ n6_ n7_ n8_ n9_; clear hb hbox hg; have hnb10 := NB758_755.out; have hnc10 := NB755_758.out; have hnb11 := NB758_756.out; have hnc11 := NB756_758.out; have hcz12_0 : w9.cell? ⟨gb758, 0, none⟩ = some (.bool false) := (blk_cell BK758.out 0).trans rfl; have hcz12_1 : w9.cell? ⟨gb758, 1, none⟩ = some (.int .i64 0) := (blk_cell BK758.out 1).trans rfl; have hcz12_2 : w9.cell? ⟨gb758, 2, none⟩ = some (.int .i64 0) := (blk_cell BK758.out 2).trans rfl; have hfz12_0 := blk_frozen BK758.out 0; have hfz12_1 := blk_frozen BK758.out 1; have hfz12_2 := blk_frozen BK758.out 2; have hcz13_0 : w9.cell? ⟨gb755, 0, none⟩ = some (.slice A0_0 l0_0.length c0_0) := (blk_cell BK755.out 0).trans rfl; have hfz13_0 := blk_frozen BK755.out 0))
 apply wp_label
 go_wp2
 go_loopg [21] k (fun kq v21 w' => ∃ (x21_1 : Int) (x759000_1 : Bool) (x759001_1 : Int) (x759002_1 : Int), v21 = .int .i64 x21_1 ∧ Aside0 (clash_searchI.l0 kq l0_0 (l0_0.length : Int) x21_1 l0_0 x759000_1 x759001_1 x759002_1 = some (r1, r2, r3, r4)) ∧ Aside0 (kq ≤ k) ∧ Aside0 (w'.heap[gb755]? = some (.cells #[(.slice A0_0 l0_0.length c0_0)] 24 (0, 0))) ∧ Aside0 (w'.heap[gb756]? = some (.cells #[.bool false, .int .i64 0, .int .i64 0] 59 (0, 0))) ∧ Aside0 (w'.heap[gb758]? = some (.cells #[.bool x759000_1, .int .i64 x759001_1, .int .i64 x759002_1] 59 (0, 0))) ∧ Aside0 (Below w.heap.size w w'))
 case atStart => exact ⟨(0), (true), (0), (0), zR, H', ⟨Nat.le_refl _⟩, ⟨by exact zb BK755.out⟩, ⟨by exact zb BK756.out⟩, ⟨by (with_reducible repeat (first | refine blk_drewN ?_ _ | refine blk_drew ?_ | refine blk_alloc ?_ _)); refine blk_put (cs := #[.bool true, .int .i64 0, .int .i64 0]) ?_ 2 _ rfl; (with_reducible repeat (first | refine blk_drewN ?_ _ | refine blk_drew ?_ | refine blk_alloc ?_ _)); refine blk_put (cs := #[.bool true, .int .i64 0, .int .i64 0]) ?_ 1 _ rfl; (with_reducible repeat (first | refine blk_drewN ?_ _ | refine blk_drew ?_ | refine blk_alloc ?_ _)); refine blk_put (cs := #[.bool false, .int .i64 0, .int .i64 0]) ?_ 0 _ rfl; exact zb BK758.out⟩, ⟨zU HB.out⟩⟩
 case round =>
  clear H'
  try clear c1
  try clear p2
  try clear c3
  try clear c6
  try clear c7
  try clear c10
  try clear c11
  try clear hcz12_0
  try clear hcz12_1
  try clear hcz12_2
  try clear hcz13_0
  try clear hcz7_0
  try clear hfz12_0
  try clear hfz12_1
  try clear hfz12_2
  try clear hfz13_0
  try clear hfz7_0
  obtain ⟨x21_1, x759000_1, x759001_1, x759002_1, rfl, HA, HK1, BK755, BK756, BK758, HB⟩ := hrel
  cases gk with
  | zero => exact absurd HA.out (by simp [clash_searchI.l0])
  | succ k1 =>
  have H := HA.out
  clear HA
  simp only [clash_searchI.l0] at H
  by_cases c14 : x21_1 < (l0_0.length : Int)
  ·rw [if_pos c14] at H
   have c14b0 : decide (x21_1 < (l0_0.length : Int)) = true := decide_eq_true c14
   clear c14
   by_cases c15 : 0 ≤ x21_1
   ·rw [if_pos c15] at H
   have c15b0 : decide (0 ≤ x21_1) = true := decide_eq_true c15
   clear c15
   by_cases c16 : x21_1 < (l0_0.length : Int)
   ·rw [if_pos c16] at H
    have c16b0 : decide (x21_1 < (l0_0.length : Int)) = true := decide_eq_true c16
    clear c16
    have H' := zk H
    clear H
    have p759 : 0 ≤ (x21_1 : Int) := zT
    have q759 : x21_1 < (l0_0.length : Int) := zT
    obtain ⟨ad759, A759_0, c759_0, e759, hx759_0, hx759_1, hl759_0, hi759_0⟩ := at_T50 HR0_0.out x21_1 p759 q759
    cases e759
    replace hx759_0 := (HB.out.cell (World.block_lt_of_cell? w _ hx759_0)).trans hx759_0
    replace hx759_1 := (HB.out.cell (World.block_lt_of_cell? w _ hx759_1)).trans hx759_1
    have HR759_0 := zk hi759_0
    have HC759_0 := zk hl759_0
    clear hi759_0 hl759_0
    replace p759 := eq_true p759
    replace q759 := eq_true q759
    go_wp2_with (first | ((with_reducible refine gate_dst (N := 8) rfl ?_); refine box_event ?hg (N := 8) ?hd (cs := #[.slice none 0 0, .int .i64 0]) (t := 50) ?hr ?_; (case hd => rfl); (case hg => rfl); (case hr => first | (go_simp; done) | (go_simp; rfl)); intro gb760 hg w17 hbox hb; have n0_ := zk (zbb BK755.out hb); have n1_ := zk (zbb BK756.out hb); have n2_ := zk (zbb BK758.out hb); have n3_ := zk (below_step (zU HB.out) hb); have n4_ := zk (hbox); have n5_ := zk ((by rw [hg]; exact (below_size (zU HB.out)) : w.heap.size ≤ gb760)); have n6_ := zk ((by rw [hg]; exact (below_size (zU HB.out)) : w.heap.size ≤ gb760)); have n7_ := zk ((zlt hg BK755.out : gb755 ≠ gb760)); have n8_ := zk ((zgt hg BK755.out : gb760 ≠ gb755)); have n9_ := zk ((zlt hg BK756.out : gb756 ≠ gb760)); have n10_ := zk ((zgt hg BK756.out : gb760 ≠ gb756)); have n11_ := zk ((zlt hg BK758.out : gb758 ≠ gb760)); have n12_ := zk ((zgt hg BK758.out : gb760 ≠ gb758)); clear BK755; clear BK756; clear BK758; clear HB; have BK755 := n0_; have BK756 := n1_; have BK758 := n2_; have HB := n3_; have BK760 := n4_; have GW760 := n5_; have GE760 := n6_; have NB755_760 := n7_; have NB760_755 := n8_; have NB756_760 := n9_; have NB760_756 := n10_; have NB758_760 := n11_; have NB760_758 := n12_; clear n0_ n1_ n2_ n3_ n4_ n5_ n6_ n7_ n8_ n9_ n10_ n11_ n12_; clear hb hbox hg; have hnb18 := NB760_755.out; have hnc18 := NB755_760.out; have hnb19 := NB760_756.out; have hnc19 := NB756_760.out; have hnb20 := NB760_758.out; have hnc20 := NB758_760.out; have hcz21_0 : w17.cell? ⟨gb760, 0, none⟩ = some (.slice none 0 0) := (blk_cell BK760.out 0).trans rfl; have hcz21_1 : w17.cell? ⟨gb760, 1, none⟩ = some (.int .i64 0) := (blk_cell BK760.out 1).trans rfl; have hfz21_0 := blk_frozen BK760.out 0; have hfz21_1 := blk_frozen BK760.out 1; have hnb22 := NB755_756.out; have hnc22 := NB756_755.out; have hnb23 := NB755_758.out; have hnc23 := NB758_755.out; have hcz24_0 : w17.cell? ⟨gb755, 0, none⟩ = some (.slice (some ad759) l0_0.length c0_0) := (blk_cell BK755.out 0).trans rfl; have hfz24_0 := blk_frozen BK755.out 0))
    go_loopg [29] k1 (fun kq v29 w' => ∃ (x29_2 : Int) (x759000_2 : Bool) (x759001_2 : Int) (x759002_2 : Int), v29 = .int .i64 x29_2 ∧ Aside0 (clash_searchI.l1 kq x21_1 l0_0 (l0_0.length : Int) x21_1 l0_0 (l0_0.length : Int) x29_2 l0_0 x759000_2 x759001_2 x759002_2 ((rd_T50 l0_0 x21_1).f0) ((rd_T50 l0_0 x21_1).f1) = some (r1, r2, r3, r4)) ∧ Aside0 (kq ≤ k1) ∧ Aside0 (w'.heap[gb755]? = some (.cells #[(.slice (some ad759) l0_0.length c0_0)] 24 (0, 0))) ∧ Aside0 (w'.heap[gb756]? = some (.cells #[.bool false, .int .i64 0, .int .i64 0] 59 (0, 0))) ∧ Aside0 (w'.heap[gb758]? = some (.cells #[.bool x759000_2, .int .i64 x759001_2, .int .i64 x759002_2] 59 (0, 0))) ∧ Aside0 (w'.heap[gb760]? = some (.cells #[(.slice A759_0 ((rd_T50 l0_0 x21_1).f0).length c759_0), .int .i64 ((rd_T50 l0_0 x21_1).f1)] 50 (0, 0))) ∧ Aside0 (Below w.heap.size w w'))
    case atStart => exact ⟨(0), (x759000_1), (x759001_1), (x759002_1), zR, H', ⟨Nat.le_refl _⟩, ⟨by exact zb BK755.out⟩, ⟨by exact zb BK756.out⟩, ⟨by exact zb BK758.out⟩, ⟨by (with_reducible repeat (first | refine blk_drewN ?_ _ | refine blk_drew ?_ | refine blk_alloc ?_ _)); refine blk_put (cs := #[.slice A759_0 ((rd_T50 l0_0 x21_1).f0).length c759_0, .int .i64 0]) ?_ 1 _ rfl; (with_reducible repeat (first | refine blk_drewN ?_ _ | refine blk_drew ?_ | refine blk_alloc ?_ _)); refine blk_put (cs := #[.slice none 0 0, .int .i64 0]) ?_ 0 _ rfl; exact zb BK760.out⟩, ⟨zU HB.out⟩⟩
    case round =>
    clear H'
    try clear c1
    try clear c2
    try clear p2
    try clear c3
    try clear c6
    try clear c7
    try clear p7
    try clear q7
    try clear hx7
    try clear c10
    try clear c11
    try clear c14
    try clear c14b0
    try clear c15
    try clear c15b0
    try clear c16
    try clear c16b0
    try clear c18
    try clear c19
    try clear c20
    try clear c22
    try clear c23
    try clear hcz12_0
    try clear hcz12_1
    try clear hcz12_2
    try clear hcz13_0
    try clear hcz21_0
    try clear hcz21_1
    try clear hcz24_0
    try clear hcz7_0
    try clear hfz12_0
    try clear hfz12_1
    try clear hfz12_2
    try clear hfz13_0
    try clear hfz21_0
    try clear hfz21_1
    try clear hfz24_0
    try clear hfz7_0
    try clear hx759_0
    try clear hx759_1
    try clear p2
    try clear p759
    try clear q759
    obtain ⟨x29_2, x759000_2, x759001_2, x759002_2, rfl, HA, HK2, BK755, BK756, BK758, BK760, HB⟩ := hrel
    cases gk with
    | zero => exact absurd HA.out (by simp [clash_searchI.l1])
    | succ k2 =>
     have H := HA.out
     clear HA
     simp only [clash_searchI.l1] at H
     by_cases c25 : x29_2 < (l0_0.length : Int)
     ·rw [if_pos c25] at H
     have c25b0 : decide (x29_2 < (l0_0.length : Int)) = true := decide_eq_true c25
     clear c25
     by_cases c26 : 0 ≤ x29_2
     ·rw [if_pos c26] at H
      have c26b0 : decide (0 ≤ x29_2) = true := decide_eq_true c26
      clear c26
      by_cases c27 : x29_2 < (l0_0.length : Int)
      ·rw [if_pos c27] at H
      have c27b0 : decide (x29_2 < (l0_0.length : Int)) = true := decide_eq_true c27
      clear c27
      replace H := Option.bind_eq_some_iff.mp H
      obtain ⟨t763, A280, H⟩ := H
      replace H : (if t763 = true then ((shape_Common.f k2 ((rd_T50 l0_0 x21_1).f0) ((rd_T50 l0_0 x21_1).f1) ((rd_T50 l0_0 x29_2).f0) ((rd_T50 l0_0 x29_2).f1) (((rd_T50 l0_0 x21_1).f0).length : Int)).bind fun bt764 => (if bt764.2 = true then ((clash_first.f k2 ((rd_T50 l0_0 x21_1).f0) ((rd_T50 l0_0 x21_1).f1) bt764.1).bind fun t768 => ((clash_first.f k2 ((rd_T50 l0_0 x29_2).f0) ((rd_T50 l0_0 x29_2).f1) bt764.1).bind fun t769 => (some (false, t768, t769, 0)))) else (clash_searchI.l1 k2 x21_1 l0_0 (l0_0.length : Int) x21_1 l0_0 (l0_0.length : Int) (wrap64 (x29_2 + 1)) l0_0 x759000_2 x759001_2 x759002_2 ((rd_T50 l0_0 x21_1).f0) ((rd_T50 l0_0 x21_1).f1)))) else (clash_searchI.l1 k2 x21_1 l0_0 (l0_0.length : Int) x21_1 l0_0 (l0_0.length : Int) (wrap64 (x29_2 + 1)) l0_0 x759000_2 x759001_2 x759002_2 ((rd_T50 l0_0 x21_1).f0) ((rd_T50 l0_0 x21_1).f1))) = some (r1, r2, r3, r4) := H
      have A28 := zk A280
      clear A280
      by_cases c29 : t763 = true
      ·subst c29
       have H1 : ((shape_Common.f k2 ((rd_T50 l0_0 x21_1).f0) ((rd_T50 l0_0 x21_1).f1) ((rd_T50 l0_0 x29_2).f0) ((rd_T50 l0_0 x29_2).f1) (((rd_T50 l0_0 x21_1).f0).length : Int)).bind fun bt764 => (if bt764.2 = true then ((clash_first.f k2 ((rd_T50 l0_0 x21_1).f0) ((rd_T50 l0_0 x21_1).f1) bt764.1).bind fun t768 => ((clash_first.f k2 ((rd_T50 l0_0 x29_2).f0) ((rd_T50 l0_0 x29_2).f1) bt764.1).bind fun t769 => (some (false, t768, t769, 0)))) else (clash_searchI.l1 k2 x21_1 l0_0 (l0_0.length : Int) x21_1 l0_0 (l0_0.length : Int) (wrap64 (x29_2 + 1)) l0_0 x759000_2 x759001_2 x759002_2 ((rd_T50 l0_0 x21_1).f0) ((rd_T50 l0_0 x21_1).f1)))) = some (r1, r2, r3, r4) := by rw [if_pos rfl] at H; exact H
       clear H
       have H := H1
       clear H1
       replace H := Option.bind_eq_some_iff.mp H
       obtain ⟨⟨t764, t767⟩, A300, H⟩ := H
       replace H : (if t767 = true then ((clash_first.f k2 ((rd_T50 l0_0 x21_1).f0) ((rd_T50 l0_0 x21_1).f1) t764).bind fun t768 => ((clash_first.f k2 ((rd_T50 l0_0 x29_2).f0) ((rd_T50 l0_0 x29_2).f1) t764).bind fun t769 => (some (false, t768, t769, 0)))) else (clash_searchI.l1 k2 x21_1 l0_0 (l0_0.length : Int) x21_1 l0_0 (l0_0.length : Int) (wrap64 (x29_2 + 1)) l0_0 x759000_2 x759001_2 x759002_2 ((rd_T50 l0_0 x21_1).f0) ((rd_T50 l0_0 x21_1).f1))) = some (r1, r2, r3, r4) := H
       have A30 := zk A300
       clear A300
       by_cases c31 : t767 = true
       ·subst c31
       have H1 : ((clash_first.f k2 ((rd_T50 l0_0 x21_1).f0) ((rd_T50 l0_0 x21_1).f1) t764).bind fun t768 => ((clash_first.f k2 ((rd_T50 l0_0 x29_2).f0) ((rd_T50 l0_0 x29_2).f1) t764).bind fun t769 => (some (false, t768, t769, 0)))) = some (r1, r2, r3, r4) := by rw [if_pos rfl] at H; exact H
       clear H
       have H := H1
       clear H1
       replace H := Option.bind_eq_some_iff.mp H
       obtain ⟨t768, A320, H⟩ := H
       replace H : ((clash_first.f k2 ((rd_T50 l0_0 x29_2).f0) ((rd_T50 l0_0 x29_2).f1) t764).bind fun t769 => (some (false, t768, t769, 0))) = some (r1, r2, r3, r4) := H
       have A32 := zk A320
       clear A320
       replace H := Option.bind_eq_some_iff.mp H
       obtain ⟨t769, A330, H⟩ := H
       replace H : (some (false, t768, t769, 0)) = some (r1, r2, r3, r4) := H
       have A33 := zk A330
       clear A330
       simp only [Option.some.injEq, Prod.mk.injEq] at H
       obtain ⟨rfl, rfl, rfl, rfl⟩ := H
       have p761 : 0 ≤ (x29_2 : Int) := zT
       have q761 : x29_2 < (l0_0.length : Int) := zT
       obtain ⟨ad761, A761_0, c761_0, e761, hx761_0, hx761_1, hl761_0, hi761_0⟩ := at_T50 HR0_0.out x29_2 p761 q761
       obtain rfl : ad759 = ad761 := (by injection e761)
       replace hx761_0 := (HB.out.cell (World.block_lt_of_cell? w _ hx761_0)).trans hx761_0
       replace hx761_1 := (HB.out.cell (World.block_lt_of_cell? w _ hx761_1)).trans hx761_1
       have HR761_0 := zk hi761_0
       have HC761_0 := zk hl761_0
       clear hi761_0 hl761_0
       replace p761 := eq_true p761
       replace q761 := eq_true q761
       try go_wp2_with (first | ((with_reducible refine gate_dst (N := 10) rfl ?_); refine box_event ?hg (N := 10) ?hd (cs := #[.slice none 0 0, .int .i64 0]) (t := 50) ?hr ?_; (case hd => rfl); (case hg => rfl); (case hr => first | (go_simp; done) | (go_simp; rfl)); intro gb762 hg w34 hbox hb; have n0_ := zk (zbb BK755.out hb); have n1_ := zk (zbb BK756.out hb); have n2_ := zk (zbb BK758.out hb); have n3_ := zk (zbb BK760.out hb); have n4_ := zk (below_step (zU HB.out) hb); have n5_ := zk (hbox); have n6_ := zk ((by rw [hg]; exact (below_size (zU HB.out)) : w.heap.size ≤ gb762)); have n7_ := zk ((by rw [hg]; exact (below_size (zU HB.out)) : w.heap.size ≤ gb762)); have n8_ := zk ((zlt hg BK755.out : gb755 ≠ gb762)); have n9_ := zk ((zgt hg BK755.out : gb762 ≠ gb755)); have n10_ := zk ((zlt hg BK756.out : gb756 ≠ gb762)); have n11_ := zk ((zgt hg BK756.out : gb762 ≠ gb756)); have n12_ := zk ((zlt hg BK758.out : gb758 ≠ gb762)); have n13_ := zk ((zgt hg BK758.out : gb762 ≠ gb758)); have n14_ := zk ((zlt hg BK760.out : gb760 ≠ gb762)); have n15_ := zk ((zgt hg BK760.out : gb762 ≠ gb760)); clear BK755; clear BK756; clear BK758; clear BK760; clear HB; have BK755 := n0_; have BK756 := n1_; have BK758 := n2_; have BK760 := n3_; have HB := n4_; have BK762 := n5_; have GW762 := n6_; have GE762 := n7_; have NB755_762 := n8_; have NB762_755 := n9_; have NB756_762 := n10_; have NB762_756 := n11_; have NB758_762 := n12_; have NB762_758 := n13_; have NB760_762 := n14_; have NB762_760 := n15_; clear n0_ n1_ n2_ n3_ n4_ n5_ n6_ n7_ n8_ n9_ n10_ n11_ n12_ n13_ n14_ n15_; clear hb hbox hg; have hnb35 := NB762_755.out; have hnc35 := NB755_762.out; have hnb36 := NB762_756.out; have hnc36 := NB756_762.out; have hnb37 := NB762_758.out; have hnc37 := NB758_762.out; have hnb38 := NB762_760.out; have hnc38 := NB760_762.out; have hcz39_0 : w34.cell? ⟨gb762, 0, none⟩ = some (.slice none 0 0) := (blk_cell BK762.out 0).trans rfl; have hcz39_1 : w34.cell? ⟨gb762, 1, none⟩ = some (.int .i64 0) := (blk_cell BK762.out 1).trans rfl; have hfz39_0 := blk_frozen BK762.out 0; have hfz39_1 := blk_frozen BK762.out 1; have hnb40 := NB755_756.out; have hnc40 := NB756_755.out; have hnb41 := NB755_758.out; have hnc41 := NB758_755.out; have hnb42 := NB755_760.out; have hnc42 := NB760_755.out; have hcz43_0 : w34.cell? ⟨gb755, 0, none⟩ = some (.slice (some ad759) l0_0.length c0_0) := (blk_cell BK755.out 0).trans rfl; have hfz43_0 := blk_frozen BK755.out 0) | (go_at_call 108; refine (asked_I.calls _ _ l0_0 x21_1 x29_2 true _ (Kd.C_below HR0_0.out (zU HB.out)) HC0_0.out A28.out gs (blk_below (g := gs) HBX.out (zU HB.out))).mono ?_; rintro e w44 ⟨rfl, hb⟩; have n0_ := zk (zbb BK755.out hb); have n1_ := zk (zbb BK756.out hb); have n2_ := zk (zbb BK758.out hb); have n3_ := zk (zbb BK760.out hb); have n4_ := zk (blk_below (g := gb762) (o := .cells #[.slice A761_0 ((rd_T50 l0_0 x29_2).f0).length c761_0, .int .i64 ((rd_T50 l0_0 x29_2).f1)] 50 (0, 0)) (by (with_reducible repeat (first | refine blk_drewN ?_ _ | refine blk_drew ?_ | refine blk_alloc ?_ _)); refine blk_put (cs := #[.slice A761_0 ((rd_T50 l0_0 x29_2).f0).length c761_0, .int .i64 0]) ?_ 1 _ rfl; (with_reducible repeat (first | refine blk_drewN ?_ _ | refine blk_drew ?_ | refine blk_alloc ?_ _)); refine blk_put (cs := #[.slice none 0 0, .int .i64 0]) ?_ 0 _ rfl; exact zb BK762.out) hb); have n5_ := zk (below_step (zU HB.out) hb); clear BK755; clear BK756; clear BK758; clear BK760; clear BK762; clear HB; have BK755 := n0_; have BK756 := n1_; have BK758 := n2_; have BK760 := n3_; have BK762 := n4_; have HB := n5_; clear n0_ n1_ n2_ n3_ n4_ n5_; (try clear hb); (try clear hb2); (try clear hk); (try clear hi); have hnb45 := NB760_756.out; have hnc45 := NB756_760.out; have hnb46 := NB760_758.out; have hnc46 := NB758_760.out; have hcz47_0 : w44.cell? ⟨gb760, 0, none⟩ = some (.slice A759_0 ((rd_T50 l0_0 x21_1).f0).length c759_0) := (blk_cell BK760.out 0).trans rfl; have hcz47_1 : w44.cell? ⟨gb760, 1, none⟩ = some (.int .i64 ((rd_T50 l0_0 x21_1).f1)) := (blk_cell BK760.out 1).trans rfl; have hfz47_0 := blk_frozen BK760.out 0; have hfz47_1 := blk_frozen BK760.out 1; have hcz48_0 : w44.cell? ⟨gb762, 0, none⟩ = some (.slice A761_0 ((rd_T50 l0_0 x29_2).f0).length c761_0) := (blk_cell BK762.out 0).trans rfl; have hcz48_1 : w44.cell? ⟨gb762, 1, none⟩ = some (.int .i64 ((rd_T50 l0_0 x29_2).f1)) := (blk_cell BK762.out 1).trans rfl; have hfz48_0 := blk_frozen BK762.out 0; have hfz48_1 := blk_frozen BK762.out 1) | ((with_reducible refine gate_callee (f := 57) rfl ?_); refine goesL_ (some 45) rfl rfl Try.func57 (by kernel_rfl) rfl #[.agg #[.slice A759_0 ((rd_T50 l0_0 x21_1).f0).length c759_0, .int .i64 ((rd_T50 l0_0 x21_1).f1)], .agg #[.slice A761_0 ((rd_T50 l0_0 x29_2).f0).length c761_0, .int .i64 ((rd_T50 l0_0 x29_2).f1)], .int .i64 (((rd_T50 l0_0 x21_1).f0).length : Int)] rfl zM ?_; (with_reducible refine (shape_Common.calls k2 _ _ ((rd_T50 l0_0 x21_1).f0) ((rd_T50 l0_0 x21_1).f1) _ _ ((rd_T50 l0_0 x29_2).f0) ((rd_T50 l0_0 x29_2).f1) (((rd_T50 l0_0 x21_1).f0).length : Int) t764 true _ ?side1 ?side2 ?side3 ?side4 A30.out).mono ?_); (case side1 => exact zc (Kd.C_below HR759_0.out HB.out)); (case side2 => exact HC759_0.out); (case side3 => exact zc (Kd.C_below HR761_0.out HB.out)); (case side4 => exact HC761_0.out); rintro e w49 ⟨v765, rfl, ho0, hb⟩; refine ⟨_, rfl, ?_⟩; have n0_ := zk (Kd.R_lower ho0 (below_size (zU HB.out))); have n1_ := zk (zbb BK755.out hb); have n2_ := zk (zbb BK756.out hb); have n3_ := zk (zbb BK758.out hb); have n4_ := zk (zbb BK760.out hb); have n5_ := zk (zbb BK762.out hb); have n6_ := zk (below_step (zU HB.out) hb); clear BK755; clear BK756; clear BK758; clear BK760; clear BK762; clear HB; have HO766 := n0_; have BK755 := n1_; have BK756 := n2_; have BK758 := n3_; have BK760 := n4_; have BK762 := n5_; have HB := n6_; clear n0_ n1_ n2_ n3_ n4_ n5_ n6_; (try clear hb); (try clear hb2); (try clear hk); (try clear hi); (try clear ho0)))
       have n0_ := zk (Kd.R_drew HO766.out)
       have n1_ := zk (blk_drew BK755.out)
       have n2_ := zk (blk_drew BK756.out)
       have n3_ := zk (blk_drew BK758.out)
       have n4_ := zk (blk_drew BK760.out)
       have n5_ := zk (blk_drew BK762.out)
       have n6_ := zk (below_drew1 HB.out)
       clear HO766
       clear BK755
       clear BK756
       clear BK758
       clear BK760
       clear BK762
       clear HB
       have HO766 := n0_
       have BK755 := n1_
       have BK756 := n2_
       have BK758 := n3_
       have BK760 := n4_
       have BK762 := n5_
       have HB := n6_
       clear n0_ n1_ n2_ n3_ n4_ n5_ n6_
       obtain ⟨Ao51, co51, eo51⟩ := Kd.R_slice HO766.out
       (first | subst eo51 | (injection eo51 with f1_ f2_ f3_; have f4_ := f1_.symm; have f5_ := f3_.symm; clear f1_ f2_ f3_; subst f4_; subst f5_))
       refine start_ (n := 8) (S := fun w' => w'.cell? ⟨gb760, 0, none⟩ = some (.slice A759_0 ((rd_T50 l0_0 x21_1).f0).length c759_0) ∧ w'.cell? ⟨gb760, 1, none⟩ = some (.int .i64 ((rd_T50 l0_0 x21_1).f1)) ∧ w'.cell? ⟨gb762, 0, none⟩ = some (.slice A761_0 ((rd_T50 l0_0 x29_2).f0).length c761_0) ∧ w'.cell? ⟨gb762, 1, none⟩ = some (.int .i64 ((rd_T50 l0_0 x29_2).f1))) (ds := []) #[false, false, false, false, false, false, false, false] (by kernel_rfl) rfl rfl ⟨(blk_cell BK760.out 0).trans rfl, (blk_cell BK760.out 1).trans rfl, (blk_cell BK762.out 0).trans rfl, (blk_cell BK762.out 1).trans rfl⟩ (fun hHeld => ?_); refine with_tabW clash_searchI.tab13 clash_searchI.bits13 (fun HT_ HW_ => ?_)
       generalize w49.drew = w50 at HO766 BK755 BK756 BK758 BK760 BK762 HB hHeld ⊢
       refine pure_ (i := 1) (N := some 50) (v := ?_) (a' := ?_) (bz 8 2) rfl rfl (any_of HT_.out (by kernel_rfl)) zQ (Or.inl ⟨by rfl, ?_⟩) ?_ ?_
       rotate_left
       ·intro w'
        go_simp
        with_reducible rfl
       rotate_left
       ·simp only [Act.put, zv, i64_w, i32_w]
        rfl
       refine pure_ (i := 4) (N := some 53) (v := ?_) (a' := ?_) (bz 8 18) rfl rfl (any_of HT_.out (by kernel_rfl)) zQ (Or.inl ⟨by rfl, ?_⟩) ?_ ?_
       rotate_left
       ·intro w'
        go_simp
        with_reducible rfl
       rotate_left
       ·simp only [Act.put, zv, i64_w, i32_w]
        rfl
       refine take_ (i := 0) (N := some 49) (v := ?_) (a' := ?_) (bz 8 19) rfl rfl (take_ofW HT_.out HW_.out (by kernel_rfl)) zQ (Or.inl ⟨by rfl, ?_⟩) hHeld ?_ ?_
       rotate_left
       ·rintro w' ⟨s0, s1, s2, s3⟩
        go_simp
        with_reducible rfl
       rotate_left
       ·simp only [Act.put, zv, i64_w, i32_w]
        rfl
       refine take_ (i := 3) (N := some 52) (v := ?_) (a' := ?_) (bz 8 27) rfl rfl (take_ofW HT_.out HW_.out (by kernel_rfl)) zQ (Or.inl ⟨by rfl, ?_⟩) hHeld ?_ ?_
       rotate_left
       ·rintro w' ⟨s0, s1, s2, s3⟩
        go_simp
        with_reducible rfl
       rotate_left
       ·simp only [Act.put, zv, i64_w, i32_w]
        rfl
       refine one_ (i := 2) (N := some 51) (bz 8 31) rfl rfl (one_of HT_.out (by kernel_rfl)) (by decide) (fun K hK => ?_)
       refine goes_ Try.func136 (by kernel_rfl) rfl #[.agg #[.slice A759_0 ((rd_T50 l0_0 x21_1).f0).length c759_0, .int .i64 ((rd_T50 l0_0 x21_1).f1)], .slice Ao51 t764.length co51] (by rfl) rfl rfl zM ?_
       with_reducible refine (clash_first.calls k2 _ _ ((rd_T50 l0_0 x21_1).f0) ((rd_T50 l0_0 x21_1).f1) _ _ t764 t768 _ ?side1 ?side2 ?side3 ?side4 A32.out).mono ?_
       (case side1 => exact zc (Kd.C_below HR759_0.out HB.out))
       (case side2 => exact HC759_0.out)
       (case side3 => repeat (first | exact (Kd.R_reads' HO766.out).2.2 | (with_reducible refine Kd.C_alloc ?_ _) | (with_reducible refine Kd.C_drewN ?_ _) | (with_reducible refine Kd.C_drew ?_)))
       (case side4 => exact (Kd.R_reads' HO766.out).2.1)
       rintro e w52 ⟨rfl, hb⟩
       refine ⟨_, rfl, ?_⟩
       have n0_ := zk (Kd.R_below (zr HO766.out) hb)
       have n1_ := zk (zbb BK755.out hb)
       have n2_ := zk (zbb BK756.out hb)
       have n3_ := zk (zbb BK758.out hb)
       have n4_ := zk (zbb BK760.out hb)
       have n5_ := zk (zbb BK762.out hb)
       have n6_ := zk (below_step (zU HB.out) hb)
       clear HO766
       clear BK755
       clear BK756
       clear BK758
       clear BK760
       clear BK762
       clear HB
       have HO766 := n0_
       have BK755 := n1_
       have BK756 := n2_
       have BK758 := n3_
       have BK760 := n4_
       have BK762 := n5_
       have HB := n6_
       clear n0_ n1_ n2_ n3_ n4_ n5_ n6_
       (try clear hb)
       (try clear hb2)
       (try clear hk)
       (try clear hi)
       refine hK.out _ _ ⟨(blk_cell BK760.out 0).trans rfl, (blk_cell BK760.out 1).trans rfl, (blk_cell BK762.out 0).trans rfl, (blk_cell BK762.out 1).trans rfl⟩ (fun hHeld => ?_)
       clear hK K
       refine norm_ (a' := ?_) ?_ ?_
       rotate_left
       ·show Act.put _ (some 51) _ = _
        simp only [Act.put, zv, i64_w, i32_w]
        rfl
       refine one_ (i := 5) (N := some 54) (bz 8 63) rfl rfl (one_of HT_.out (by kernel_rfl)) (by decide) (fun K hK => ?_)
       refine goes_ Try.func136 (by kernel_rfl) rfl #[.agg #[.slice A761_0 ((rd_T50 l0_0 x29_2).f0).length c761_0, .int .i64 ((rd_T50 l0_0 x29_2).f1)], .slice Ao51 t764.length co51] (by rfl) rfl rfl zM ?_
       with_reducible refine (clash_first.calls k2 _ _ ((rd_T50 l0_0 x29_2).f0) ((rd_T50 l0_0 x29_2).f1) _ _ t764 t769 _ ?side1 ?side2 ?side3 ?side4 A33.out).mono ?_
       (case side1 => exact zc (Kd.C_below HR761_0.out HB.out))
       (case side2 => exact HC761_0.out)
       (case side3 => repeat (first | exact (Kd.R_reads' HO766.out).2.2 | (with_reducible refine Kd.C_alloc ?_ _) | (with_reducible refine Kd.C_drewN ?_ _) | (with_reducible refine Kd.C_drew ?_)))
       (case side4 => exact (Kd.R_reads' HO766.out).2.1)
       rintro e w53 ⟨rfl, hb⟩
       refine ⟨_, rfl, ?_⟩
       have n0_ := zk (Kd.R_below (zr HO766.out) hb)
       have n1_ := zk (zbb BK755.out hb)
       have n2_ := zk (zbb BK756.out hb)
       have n3_ := zk (zbb BK758.out hb)
       have n4_ := zk (zbb BK760.out hb)
       have n5_ := zk (zbb BK762.out hb)
       have n6_ := zk (below_step (zU HB.out) hb)
       clear HO766
       clear BK755
       clear BK756
       clear BK758
       clear BK760
       clear BK762
       clear HB
       have HO766 := n0_
       have BK755 := n1_
       have BK756 := n2_
       have BK758 := n3_
       have BK760 := n4_
       have BK762 := n5_
       have HB := n6_
       clear n0_ n1_ n2_ n3_ n4_ n5_ n6_
       (try clear hb)
       (try clear hb2)
       (try clear hk)
       (try clear hi)
       refine hK.out _ _ ⟨(blk_cell BK760.out 0).trans rfl, (blk_cell BK760.out 1).trans rfl, (blk_cell BK762.out 0).trans rfl, (blk_cell BK762.out 1).trans rfl⟩ (fun hHeld => ?_)
       clear hK K
       refine norm_ (a' := ?_) ?_ ?_
       rotate_left
       ·show Act.put _ (some 54) _ = _
        simp only [Act.put, zv, i64_w, i32_w]
        rfl
       refine pure_ (i := 6) (N := some 55) (v := ?_) (a' := ?_) (bz 8 127) rfl rfl (any_of HT_.out (by kernel_rfl)) zQ (Or.inl ⟨by rfl, ?_⟩) ?_ ?_
       rotate_left
       ·intro w'
        go_simp
        with_reducible rfl
       rotate_left
       ·simp only [Act.put, zv, i64_w, i32_w]
        rfl
       refine one_ (i := 7) (N := none) (bz 8 255) rfl rfl (one_of HT_.out (by kernel_rfl)) (by decide) (fun K hK => ?_)
       have hs54 : w53.cell? ⟨gb758, 0, none⟩ = some (.bool x759000_2) := (blk_cell BK758.out 0).trans rfl
       have hfs54 := blk_frozen BK758.out 0
       have hns54_0 := NB755_758.out
       have hns54_1 := NB756_758.out
       have hns54_3 := NB760_758.out
       have hns54_4 := NB762_758.out
       have hms54_0 := NB758_755.out
       have hms54_1 := NB758_756.out
       have hms54_3 := NB758_760.out
       have hms54_4 := NB758_762.out
       have hs55 : w53.cell? ⟨gb758, 1, none⟩ = some (.int .i64 x759001_2) := (blk_cell BK758.out 1).trans rfl
       have hfs55 := blk_frozen BK758.out 1
       have hns55_0 := NB755_758.out
       have hns55_1 := NB756_758.out
       have hns55_3 := NB760_758.out
       have hns55_4 := NB762_758.out
       have hms55_0 := NB758_755.out
       have hms55_1 := NB758_756.out
       have hms55_3 := NB758_760.out
       have hms55_4 := NB758_762.out
       have hs56 : w53.cell? ⟨gb758, 2, none⟩ = some (.int .i64 x759002_2) := (blk_cell BK758.out 2).trans rfl
       have hfs56 := blk_frozen BK758.out 2
       have hns56_0 := NB755_758.out
       have hns56_1 := NB756_758.out
       have hns56_3 := NB760_758.out
       have hns56_4 := NB762_758.out
       have hms56_0 := NB758_755.out
       have hms56_1 := NB758_756.out
       have hms56_3 := NB758_760.out
       have hms56_4 := NB758_762.out
       refine skip_ (w1 := ?_) (by rfl) rfl ?_ ?_
       rotate_left
       ·go_simp
        rfl
       refine hK.out _ _ ⟨((cell_far (p := ⟨gb758, _, none⟩) NB760_758.out _).trans (((cell_far (p := ⟨gb758, _, none⟩) NB760_758.out _).trans (((cell_far (p := ⟨gb758, _, none⟩) NB760_758.out _).trans (hHeld.1)))))), ((cell_far (p := ⟨gb758, _, none⟩) NB760_758.out _).trans (((cell_far (p := ⟨gb758, _, none⟩) NB760_758.out _).trans (((cell_far (p := ⟨gb758, _, none⟩) NB760_758.out _).trans (hHeld.2.1)))))), ((cell_far (p := ⟨gb758, _, none⟩) NB762_758.out _).trans (((cell_far (p := ⟨gb758, _, none⟩) NB762_758.out _).trans (((cell_far (p := ⟨gb758, _, none⟩) NB762_758.out _).trans (hHeld.2.2.1)))))), ((cell_far (p := ⟨gb758, _, none⟩) NB762_758.out _).trans (((cell_far (p := ⟨gb758, _, none⟩) NB762_758.out _).trans (((cell_far (p := ⟨gb758, _, none⟩) NB762_758.out _).trans (hHeld.2.2.2))))))⟩ (fun hHeld => ?_)
       clear hK K
       refine done_ (done_of HT_.out (by kernel_rfl)) ?_
       have hnb57 := NB758_756.out
       have hnc57 := NB756_758.out
       have hcz58_0 : w53.cell? ⟨gb758, 0, none⟩ = some (.bool x759000_2) := (blk_cell BK758.out 0).trans rfl
       have hcz58_1 : w53.cell? ⟨gb758, 1, none⟩ = some (.int .i64 x759001_2) := (blk_cell BK758.out 1).trans rfl
       have hcz58_2 : w53.cell? ⟨gb758, 2, none⟩ = some (.int .i64 x759002_2) := (blk_cell BK758.out 2).trans rfl
       have hfz58_0 := blk_frozen BK758.out 0
       have hfz58_1 := blk_frozen BK758.out 1
       have hfz58_2 := blk_frozen BK758.out 2
       have hcz59_0 : w53.cell? ⟨gb756, 0, none⟩ = some (.bool false) := (blk_cell BK756.out 0).trans rfl
       have hcz59_1 : w53.cell? ⟨gb756, 1, none⟩ = some (.int .i64 0) := (blk_cell BK756.out 1).trans rfl
       have hcz59_2 : w53.cell? ⟨gb756, 2, none⟩ = some (.int .i64 0) := (blk_cell BK756.out 2).trans rfl
       have hfz59_0 := blk_frozen BK756.out 0
       have hfz59_1 := blk_frozen BK756.out 1
       have hfz59_2 := blk_frozen BK756.out 2
       try go_wp2
       rw [Exit.noGoto_ret]
       refine bodyPost_ret (results_ct rfl _ _ gb756 59 #[.bool false, .int .i64 t768, .int .i64 t769] (0, 0) _ rfl (by (with_reducible repeat (first | refine blk_drewN ?_ _ | refine blk_drew ?_ | refine blk_alloc ?_ _)); refine blk_put (cs := #[.bool false, .int .i64 t768, .int .i64 0]) ?_ 2 _ rfl; (with_reducible repeat (first | refine blk_drewN ?_ _ | refine blk_drew ?_ | refine blk_alloc ?_ _)); refine blk_put (cs := #[.bool false, .int .i64 0, .int .i64 0]) ?_ 1 _ rfl; (with_reducible repeat (first | refine blk_drewN ?_ _ | refine blk_drew ?_ | refine blk_alloc ?_ _)); refine blk_put (cs := #[.bool false, .int .i64 0, .int .i64 0]) ?_ 0 _ rfl; exact zb BK756.out) Try.underlying59 rfl (by kernel_rfl)) rfl ?_
       exact ⟨by first | rfl | (simp [errW_none, errW_some] <;> rfl) | (simp [*, errW_none, errW_some] <;> rfl), zU HB.out⟩
       ·replace c31 := Bool.eq_false_iff.mpr c31
       subst c31
       have H1 : (clash_searchI.l1 k2 x21_1 l0_0 (l0_0.length : Int) x21_1 l0_0 (l0_0.length : Int) (wrap64 (x29_2 + 1)) l0_0 x759000_2 x759001_2 x759002_2 ((rd_T50 l0_0 x21_1).f0) ((rd_T50 l0_0 x21_1).f1)) = some (r1, r2, r3, r4) := by rw [if_neg (show ¬ (false = true) by decide)] at H; exact H
       clear H
       have H := H1
       clear H1
       have H' := zk H
       clear H
       have p761 : 0 ≤ (x29_2 : Int) := zT
       have q761 : x29_2 < (l0_0.length : Int) := zT
       obtain ⟨ad761, A761_0, c761_0, e761, hx761_0, hx761_1, hl761_0, hi761_0⟩ := at_T50 HR0_0.out x29_2 p761 q761
       obtain rfl : ad759 = ad761 := (by injection e761)
       replace hx761_0 := (HB.out.cell (World.block_lt_of_cell? w _ hx761_0)).trans hx761_0
       replace hx761_1 := (HB.out.cell (World.block_lt_of_cell? w _ hx761_1)).trans hx761_1
       have HR761_0 := zk hi761_0
       have HC761_0 := zk hl761_0
       clear hi761_0 hl761_0
       replace p761 := eq_true p761
       replace q761 := eq_true q761
       go_wp2_with (first | ((with_reducible refine gate_dst (N := 10) rfl ?_); refine box_event ?hg (N := 10) ?hd (cs := #[.slice none 0 0, .int .i64 0]) (t := 50) ?hr ?_; (case hd => rfl); (case hg => rfl); (case hr => first | (go_simp; done) | (go_simp; rfl)); intro gb762 hg w60 hbox hb; have n0_ := zk (zbb BK755.out hb); have n1_ := zk (zbb BK756.out hb); have n2_ := zk (zbb BK758.out hb); have n3_ := zk (zbb BK760.out hb); have n4_ := zk (below_step (zU HB.out) hb); have n5_ := zk (hbox); have n6_ := zk ((by rw [hg]; exact (below_size (zU HB.out)) : w.heap.size ≤ gb762)); have n7_ := zk ((by rw [hg]; exact (below_size (zU HB.out)) : w.heap.size ≤ gb762)); have n8_ := zk ((zlt hg BK755.out : gb755 ≠ gb762)); have n9_ := zk ((zgt hg BK755.out : gb762 ≠ gb755)); have n10_ := zk ((zlt hg BK756.out : gb756 ≠ gb762)); have n11_ := zk ((zgt hg BK756.out : gb762 ≠ gb756)); have n12_ := zk ((zlt hg BK758.out : gb758 ≠ gb762)); have n13_ := zk ((zgt hg BK758.out : gb762 ≠ gb758)); have n14_ := zk ((zlt hg BK760.out : gb760 ≠ gb762)); have n15_ := zk ((zgt hg BK760.out : gb762 ≠ gb760)); clear BK755; clear BK756; clear BK758; clear BK760; clear HB; have BK755 := n0_; have BK756 := n1_; have BK758 := n2_; have BK760 := n3_; have HB := n4_; have BK762 := n5_; have GW762 := n6_; have GE762 := n7_; have NB755_762 := n8_; have NB762_755 := n9_; have NB756_762 := n10_; have NB762_756 := n11_; have NB758_762 := n12_; have NB762_758 := n13_; have NB760_762 := n14_; have NB762_760 := n15_; clear n0_ n1_ n2_ n3_ n4_ n5_ n6_ n7_ n8_ n9_ n10_ n11_ n12_ n13_ n14_ n15_; clear hb hbox hg; have hnb61 := NB762_755.out; have hnc61 := NB755_762.out; have hnb62 := NB762_756.out; have hnc62 := NB756_762.out; have hnb63 := NB762_758.out; have hnc63 := NB758_762.out; have hnb64 := NB762_760.out; have hnc64 := NB760_762.out; have hcz65_0 : w60.cell? ⟨gb762, 0, none⟩ = some (.slice none 0 0) := (blk_cell BK762.out 0).trans rfl; have hcz65_1 : w60.cell? ⟨gb762, 1, none⟩ = some (.int .i64 0) := (blk_cell BK762.out 1).trans rfl; have hfz65_0 := blk_frozen BK762.out 0; have hfz65_1 := blk_frozen BK762.out 1; have hnb66 := NB755_756.out; have hnc66 := NB756_755.out; have hnb67 := NB755_758.out; have hnc67 := NB758_755.out; have hnb68 := NB755_760.out; have hnc68 := NB760_755.out; have hcz69_0 : w60.cell? ⟨gb755, 0, none⟩ = some (.slice (some ad759) l0_0.length c0_0) := (blk_cell BK755.out 0).trans rfl; have hfz69_0 := blk_frozen BK755.out 0) | (go_at_call 108; refine (asked_I.calls _ _ l0_0 x21_1 x29_2 true _ (Kd.C_below HR0_0.out (zU HB.out)) HC0_0.out A28.out gs (blk_below (g := gs) HBX.out (zU HB.out))).mono ?_; rintro e w70 ⟨rfl, hb⟩; have n0_ := zk (zbb BK755.out hb); have n1_ := zk (zbb BK756.out hb); have n2_ := zk (zbb BK758.out hb); have n3_ := zk (zbb BK760.out hb); have n4_ := zk (blk_below (g := gb762) (o := .cells #[.slice A761_0 ((rd_T50 l0_0 x29_2).f0).length c761_0, .int .i64 ((rd_T50 l0_0 x29_2).f1)] 50 (0, 0)) (by (with_reducible repeat (first | refine blk_drewN ?_ _ | refine blk_drew ?_ | refine blk_alloc ?_ _)); refine blk_put (cs := #[.slice A761_0 ((rd_T50 l0_0 x29_2).f0).length c761_0, .int .i64 0]) ?_ 1 _ rfl; (with_reducible repeat (first | refine blk_drewN ?_ _ | refine blk_drew ?_ | refine blk_alloc ?_ _)); refine blk_put (cs := #[.slice none 0 0, .int .i64 0]) ?_ 0 _ rfl; exact zb BK762.out) hb); have n5_ := zk (below_step (zU HB.out) hb); clear BK755; clear BK756; clear BK758; clear BK760; clear BK762; clear HB; have BK755 := n0_; have BK756 := n1_; have BK758 := n2_; have BK760 := n3_; have BK762 := n4_; have HB := n5_; clear n0_ n1_ n2_ n3_ n4_ n5_; (try clear hb); (try clear hb2); (try clear hk); (try clear hi); have hnb71 := NB760_756.out; have hnc71 := NB756_760.out; have hnb72 := NB760_758.out; have hnc72 := NB758_760.out; have hcz73_0 : w70.cell? ⟨gb760, 0, none⟩ = some (.slice A759_0 ((rd_T50 l0_0 x21_1).f0).length c759_0) := (blk_cell BK760.out 0).trans rfl; have hcz73_1 : w70.cell? ⟨gb760, 1, none⟩ = some (.int .i64 ((rd_T50 l0_0 x21_1).f1)) := (blk_cell BK760.out 1).trans rfl; have hfz73_0 := blk_frozen BK760.out 0; have hfz73_1 := blk_frozen BK760.out 1; have hcz74_0 : w70.cell? ⟨gb762, 0, none⟩ = some (.slice A761_0 ((rd_T50 l0_0 x29_2).f0).length c761_0) := (blk_cell BK762.out 0).trans rfl; have hcz74_1 : w70.cell? ⟨gb762, 1, none⟩ = some (.int .i64 ((rd_T50 l0_0 x29_2).f1)) := (blk_cell BK762.out 1).trans rfl; have hfz74_0 := blk_frozen BK762.out 0; have hfz74_1 := blk_frozen BK762.out 1) | ((with_reducible refine gate_callee (f := 57) rfl ?_); refine goesL_ (some 45) rfl rfl Try.func57 (by kernel_rfl) rfl #[.agg #[.slice A759_0 ((rd_T50 l0_0 x21_1).f0).length c759_0, .int .i64 ((rd_T50 l0_0 x21_1).f1)], .agg #[.slice A761_0 ((rd_T50 l0_0 x29_2).f0).length c761_0, .int .i64 ((rd_T50 l0_0 x29_2).f1)], .int .i64 (((rd_T50 l0_0 x21_1).f0).length : Int)] rfl zM ?_; (with_reducible refine (shape_Common.calls k2 _ _ ((rd_T50 l0_0 x21_1).f0) ((rd_T50 l0_0 x21_1).f1) _ _ ((rd_T50 l0_0 x29_2).f0) ((rd_T50 l0_0 x29_2).f1) (((rd_T50 l0_0 x21_1).f0).length : Int) t764 false _ ?side1 ?side2 ?side3 ?side4 A30.out).mono ?_); (case side1 => exact zc (Kd.C_below HR759_0.out HB.out)); (case side2 => exact HC759_0.out); (case side3 => exact zc (Kd.C_below HR761_0.out HB.out)); (case side4 => exact HC761_0.out); rintro e w75 ⟨v765, rfl, ho0, hb⟩; refine ⟨_, rfl, ?_⟩; have n0_ := zk (Kd.R_lower ho0 (below_size (zU HB.out))); have n1_ := zk (zbb BK755.out hb); have n2_ := zk (zbb BK756.out hb); have n3_ := zk (zbb BK758.out hb); have n4_ := zk (zbb BK760.out hb); have n5_ := zk (zbb BK762.out hb); have n6_ := zk (below_step (zU HB.out) hb); clear BK755; clear BK756; clear BK758; clear BK760; clear BK762; clear HB; have HO766 := n0_; have BK755 := n1_; have BK756 := n2_; have BK758 := n3_; have BK760 := n4_; have BK762 := n5_; have HB := n6_; clear n0_ n1_ n2_ n3_ n4_ n5_ n6_; (try clear hb); (try clear hb2); (try clear hk); (try clear hi); (try clear ho0)))
       go_roundg k2
       case measure => have := HK1.out; have := HK2.out; omega
       case rel => exact ⟨(wrap64 (x29_2 + 1)), (x759000_2), (x759001_2), (x759002_2), zR, H', ⟨by have := HK1.out; have := HK2.out; omega⟩, ⟨by exact zb BK755.out⟩, ⟨by exact zb BK756.out⟩, ⟨by exact zb BK758.out⟩, ⟨by exact zb BK760.out⟩, ⟨zU HB.out⟩⟩
      ·replace c29 := Bool.eq_false_iff.mpr c29
       subst c29
       have H1 : (clash_searchI.l1 k2 x21_1 l0_0 (l0_0.length : Int) x21_1 l0_0 (l0_0.length : Int) (wrap64 (x29_2 + 1)) l0_0 x759000_2 x759001_2 x759002_2 ((rd_T50 l0_0 x21_1).f0) ((rd_T50 l0_0 x21_1).f1)) = some (r1, r2, r3, r4) := by rw [if_neg (show ¬ (false = true) by decide)] at H; exact H
       clear H
       have H := H1
       clear H1
       have H' := zk H
       clear H
       have p761 : 0 ≤ (x29_2 : Int) := zT
       have q761 : x29_2 < (l0_0.length : Int) := zT
       obtain ⟨ad761, A761_0, c761_0, e761, hx761_0, hx761_1, hl761_0, hi761_0⟩ := at_T50 HR0_0.out x29_2 p761 q761
       obtain rfl : ad759 = ad761 := (by injection e761)
       replace hx761_0 := (HB.out.cell (World.block_lt_of_cell? w _ hx761_0)).trans hx761_0
       replace hx761_1 := (HB.out.cell (World.block_lt_of_cell? w _ hx761_1)).trans hx761_1
       have HR761_0 := zk hi761_0
       have HC761_0 := zk hl761_0
       clear hi761_0 hl761_0
       replace p761 := eq_true p761
       replace q761 := eq_true q761
       go_wp2_with (first | ((with_reducible refine gate_dst (N := 10) rfl ?_); refine box_event ?hg (N := 10) ?hd (cs := #[.slice none 0 0, .int .i64 0]) (t := 50) ?hr ?_; (case hd => rfl); (case hg => rfl); (case hr => first | (go_simp; done) | (go_simp; rfl)); intro gb762 hg w76 hbox hb; have n0_ := zk (zbb BK755.out hb); have n1_ := zk (zbb BK756.out hb); have n2_ := zk (zbb BK758.out hb); have n3_ := zk (zbb BK760.out hb); have n4_ := zk (below_step (zU HB.out) hb); have n5_ := zk (hbox); have n6_ := zk ((by rw [hg]; exact (below_size (zU HB.out)) : w.heap.size ≤ gb762)); have n7_ := zk ((by rw [hg]; exact (below_size (zU HB.out)) : w.heap.size ≤ gb762)); have n8_ := zk ((zlt hg BK755.out : gb755 ≠ gb762)); have n9_ := zk ((zgt hg BK755.out : gb762 ≠ gb755)); have n10_ := zk ((zlt hg BK756.out : gb756 ≠ gb762)); have n11_ := zk ((zgt hg BK756.out : gb762 ≠ gb756)); have n12_ := zk ((zlt hg BK758.out : gb758 ≠ gb762)); have n13_ := zk ((zgt hg BK758.out : gb762 ≠ gb758)); have n14_ := zk ((zlt hg BK760.out : gb760 ≠ gb762)); have n15_ := zk ((zgt hg BK760.out : gb762 ≠ gb760)); clear BK755; clear BK756; clear BK758; clear BK760; clear HB; have BK755 := n0_; have BK756 := n1_; have BK758 := n2_; have BK760 := n3_; have HB := n4_; have BK762 := n5_; have GW762 := n6_; have GE762 := n7_; have NB755_762 := n8_; have NB762_755 := n9_; have NB756_762 := n10_; have NB762_756 := n11_; have NB758_762 := n12_; have NB762_758 := n13_; have NB760_762 := n14_; have NB762_760 := n15_; clear n0_ n1_ n2_ n3_ n4_ n5_ n6_ n7_ n8_ n9_ n10_ n11_ n12_ n13_ n14_ n15_; clear hb hbox hg; have hnb77 := NB762_755.out; have hnc77 := NB755_762.out; have hnb78 := NB762_756.out; have hnc78 := NB756_762.out; have hnb79 := NB762_758.out; have hnc79 := NB758_762.out; have hnb80 := NB762_760.out; have hnc80 := NB760_762.out; have hcz81_0 : w76.cell? ⟨gb762, 0, none⟩ = some (.slice none 0 0) := (blk_cell BK762.out 0).trans rfl; have hcz81_1 : w76.cell? ⟨gb762, 1, none⟩ = some (.int .i64 0) := (blk_cell BK762.out 1).trans rfl; have hfz81_0 := blk_frozen BK762.out 0; have hfz81_1 := blk_frozen BK762.out 1; have hnb82 := NB755_756.out; have hnc82 := NB756_755.out; have hnb83 := NB755_758.out; have hnc83 := NB758_755.out; have hnb84 := NB755_760.out; have hnc84 := NB760_755.out; have hcz85_0 : w76.cell? ⟨gb755, 0, none⟩ = some (.slice (some ad759) l0_0.length c0_0) := (blk_cell BK755.out 0).trans rfl; have hfz85_0 := blk_frozen BK755.out 0) | (go_at_call 108; refine (asked_I.calls _ _ l0_0 x21_1 x29_2 false _ (Kd.C_below HR0_0.out (zU HB.out)) HC0_0.out A28.out gs (blk_below (g := gs) HBX.out (zU HB.out))).mono ?_; rintro e w86 ⟨rfl, hb⟩; have n0_ := zk (zbb BK755.out hb); have n1_ := zk (zbb BK756.out hb); have n2_ := zk (zbb BK758.out hb); have n3_ := zk (zbb BK760.out hb); have n4_ := zk (blk_below (g := gb762) (o := .cells #[.slice A761_0 ((rd_T50 l0_0 x29_2).f0).length c761_0, .int .i64 ((rd_T50 l0_0 x29_2).f1)] 50 (0, 0)) (by (with_reducible repeat (first | refine blk_drewN ?_ _ | refine blk_drew ?_ | refine blk_alloc ?_ _)); refine blk_put (cs := #[.slice A761_0 ((rd_T50 l0_0 x29_2).f0).length c761_0, .int .i64 0]) ?_ 1 _ rfl; (with_reducible repeat (first | refine blk_drewN ?_ _ | refine blk_drew ?_ | refine blk_alloc ?_ _)); refine blk_put (cs := #[.slice none 0 0, .int .i64 0]) ?_ 0 _ rfl; exact zb BK762.out) hb); have n5_ := zk (below_step (zU HB.out) hb); clear BK755; clear BK756; clear BK758; clear BK760; clear BK762; clear HB; have BK755 := n0_; have BK756 := n1_; have BK758 := n2_; have BK760 := n3_; have BK762 := n4_; have HB := n5_; clear n0_ n1_ n2_ n3_ n4_ n5_; (try clear hb); (try clear hb2); (try clear hk); (try clear hi)))
       go_roundg k2
       case measure => have := HK1.out; have := HK2.out; omega
       case rel => exact ⟨(wrap64 (x29_2 + 1)), (x759000_2), (x759001_2), (x759002_2), zR, H', ⟨by have := HK1.out; have := HK2.out; omega⟩, ⟨by exact zb BK755.out⟩, ⟨by exact zb BK756.out⟩, ⟨by exact zb BK758.out⟩, ⟨by exact zb BK760.out⟩, ⟨zU HB.out⟩⟩
      ·rw [if_neg c27] at H
      exact absurd H (by simp)
     ·rw [if_neg c26] at H
      exact absurd H (by simp)
     ·rw [if_neg c25] at H
     have c25b0 : decide (x29_2 < (l0_0.length : Int)) = false := decide_eq_false c25
     clear c25
     have H' := zk H
     clear H
     go_wp2
     go_roundg k2
     case measure => have := HK1.out; have := HK2.out; omega
     case rel => exact ⟨(wrap64 (x21_1 + 1)), (x759000_2), (x759001_2), (x759002_2), zR, H', ⟨by have := HK1.out; have := HK2.out; omega⟩, ⟨by exact zb BK755.out⟩, ⟨by exact zb BK756.out⟩, ⟨by exact zb BK758.out⟩, ⟨zU HB.out⟩⟩
   ·rw [if_neg c16] at H
    exact absurd H (by simp)
   ·rw [if_neg c15] at H
   exact absurd H (by simp)
  ·rw [if_neg c14] at H
   have c14b0 : decide (x21_1 < (l0_0.length : Int)) = false := decide_eq_false c14
   clear c14
   simp only [Option.some.injEq, Prod.mk.injEq] at H
   obtain ⟨rfl, rfl, rfl, rfl⟩ := H
   have hnb87 := NB758_755.out
   have hnc87 := NB755_758.out
   have hnb88 := NB758_756.out
   have hnc88 := NB756_758.out
   have hcz89_0 : wr.cell? ⟨gb758, 0, none⟩ = some (.bool x759000_1) := (blk_cell BK758.out 0).trans rfl
   have hcz89_1 : wr.cell? ⟨gb758, 1, none⟩ = some (.int .i64 x759001_1) := (blk_cell BK758.out 1).trans rfl
   have hcz89_2 : wr.cell? ⟨gb758, 2, none⟩ = some (.int .i64 x759002_1) := (blk_cell BK758.out 2).trans rfl
   have hfz89_0 := blk_frozen BK758.out 0
   have hfz89_1 := blk_frozen BK758.out 1
   have hfz89_2 := blk_frozen BK758.out 2
   have hnb90 := NB756_755.out
   have hnc90 := NB755_756.out
   have hcz91_0 : wr.cell? ⟨gb756, 0, none⟩ = some (.bool false) := (blk_cell BK756.out 0).trans rfl
   have hcz91_1 : wr.cell? ⟨gb756, 1, none⟩ = some (.int .i64 0) := (blk_cell BK756.out 1).trans rfl
   have hcz91_2 : wr.cell? ⟨gb756, 2, none⟩ = some (.int .i64 0) := (blk_cell BK756.out 2).trans rfl
   have hfz91_0 := blk_frozen BK756.out 0
   have hfz91_1 := blk_frozen BK756.out 1
   have hfz91_2 := blk_frozen BK756.out 2
   go_wp2
   rw [Exit.noGoto_ret]
   refine bodyPost_ret (results_ct rfl _ _ gb756 59 #[.bool x759000_1, .int .i64 x759001_1, .int .i64 x759002_1] (0, 0) _ rfl (by (with_reducible repeat (first | refine blk_drewN ?_ _ | refine blk_drew ?_ | refine blk_alloc ?_ _)); refine blk_put (cs := #[.bool x759000_1, .int .i64 x759001_1, .int .i64 0]) ?_ 2 _ rfl; (with_reducible repeat (first | refine blk_drewN ?_ _ | refine blk_drew ?_ | refine blk_alloc ?_ _)); refine blk_put (cs := #[.bool x759000_1, .int .i64 0, .int .i64 0]) ?_ 1 _ rfl; (with_reducible repeat (first | refine blk_drewN ?_ _ | refine blk_drew ?_ | refine blk_alloc ?_ _)); refine blk_put (cs := #[.bool false, .int .i64 0, .int .i64 0]) ?_ 0 _ rfl; exact zb BK756.out) Try.underlying59 rfl (by kernel_rfl)) rfl ?_
   exact ⟨by first | rfl | (simp [errW_none, errW_some] <;> rfl) | (simp [*, errW_none, errW_some] <;> rfl), zU HB.out⟩
 ·replace c3 := Bool.eq_false_iff.mpr c3
 subst c3
 have H1 : (some (false, 0, 0, 84)) = some (r1, r2, r3, r4) := by rw [if_neg (show ¬ (false = true) by decide)] at H; exact H
 clear H
 have H := H1
 clear H1
 simp only [Option.some.injEq, Prod.mk.injEq] at H
 obtain ⟨rfl, rfl, rfl, rfl⟩ := H
 go_enter Try.func107, Try.ntmps107
 go_wp2_with (first | ((with_reducible refine gate_dst (N := 2) rfl ?_); refine box_event ?hg (N := 2) ?hd (cs := #[.slice A0_0 l0_0.length c0_0]) (t := 24) ?hr ?_; (case hd => rfl); (case hg => rfl); (case hr => first | (go_simp; done) | (go_simp; rfl)); intro gb755 hg w92 hbox hb; have n0_ := zk (below_step (zU HB.out) hb); have n1_ := zk (hbox); have n2_ := zk ((by rw [hg]; exact (below_size (zU HB.out)) : w.heap.size ≤ gb755)); have n3_ := zk ((by rw [hg]; exact (below_size (zU HB.out)) : w.heap.size ≤ gb755)); clear HB; have HB := n0_; have BK755 := n1_; have GW755 := n2_; have GE755 := n3_; clear n0_ n1_ n2_ n3_; clear hb hbox hg) | ((with_reducible refine gate_dst (N := 4) rfl ?_); refine box_event ?hg (N := 4) ?hd (cs := #[.bool false, .int .i64 0, .int .i64 0]) (t := 59) ?hr ?_; (case hd => rfl); (case hg => rfl); (case hr => first | (go_simp; done) | (go_simp; rfl)); intro gb756 hg w93 hbox hb; have n0_ := zk (zbb BK755.out hb); have n1_ := zk (below_step (zU HB.out) hb); have n2_ := zk (hbox); have n3_ := zk ((by rw [hg]; exact (below_size (zU HB.out)) : w.heap.size ≤ gb756)); have n4_ := zk ((by rw [hg]; exact (below_size (zU HB.out)) : w.heap.size ≤ gb756)); have n5_ := zk ((zlt hg BK755.out : gb755 ≠ gb756)); have n6_ := zk ((zgt hg BK755.out : gb756 ≠ gb755)); clear BK755; clear HB; have BK755 := n0_; have HB := n1_; have BK756 := n2_; have GW756 := n3_; have GE756 := n4_; have NB755_756 := n5_; have NB756_755 := n6_; clear n0_ n1_ n2_ n3_ n4_ n5_ n6_; clear hb hbox hg; have hnb94 := NB755_756.out; have hnc94 := NB756_755.out; have hcz95_0 : w93.cell? ⟨gb755, 0, none⟩ = some (.slice A0_0 l0_0.length c0_0) := (blk_cell BK755.out 0).trans rfl; have hfz95_0 := blk_frozen BK755.out 0))
 apply wp_scope_straight
 go_wp2_with (first | ((with_reducible refine gate_callee (f := 76) rfl ?_); refine goesL_ (some 14) rfl rfl Try.func76 (by kernel_rfl) rfl #[.agg #[.slice A0_0 l0_0.length c0_0]] rfl zM ?_; (with_reducible refine (scheme_Valid.calls k _ _ l0_0 false _ ?side1 ?side2 A2.out).mono ?_); (case side1 => exact zc (Kd.C_below HR0_0.out HB.out)); (case side2 => exact HC0_0.out); rintro e w96 ⟨rfl, hb⟩; refine ⟨_, rfl, ?_⟩; have n0_ := zk (zbb BK755.out hb); have n1_ := zk (zbb BK756.out hb); have n2_ := zk (below_step (zU HB.out) hb); clear BK755; clear BK756; clear HB; have BK755 := n0_; have BK756 := n1_; have HB := n2_; clear n0_ n1_ n2_; (try clear hb); (try clear hb2); (try clear hk); (try clear hi); have hcz97_0 : w96.cell? ⟨gb756, 0, none⟩ = some (.bool false) := (blk_cell BK756.out 0).trans rfl; have hcz97_1 : w96.cell? ⟨gb756, 1, none⟩ = some (.int .i64 0) := (blk_cell BK756.out 1).trans rfl; have hcz97_2 : w96.cell? ⟨gb756, 2, none⟩ = some (.int .i64 0) := (blk_cell BK756.out 2).trans rfl; have hfz97_0 := blk_frozen BK756.out 0; have hfz97_1 := blk_frozen BK756.out 1; have hfz97_2 := blk_frozen BK756.out 2))
 rw [Exit.noGoto_ret]
 refine bodyPost_ret (results_ct rfl _ _ gb756 59 #[.bool false, .int .i64 0, .int .i64 0] (0, 0) _ rfl (by (with_reducible repeat (first | refine blk_drewN ?_ _ | refine blk_drew ?_ | refine blk_alloc ?_ _)); refine blk_put (cs := #[.bool false, .int .i64 0, .int .i64 0]) ?_ 2 _ rfl; (with_reducible repeat (first | refine blk_drewN ?_ _ | refine blk_drew ?_ | refine blk_alloc ?_ _)); refine blk_put (cs := #[.bool false, .int .i64 0, .int .i64 0]) ?_ 1 _ rfl; (with_reducible repeat (first | refine blk_drewN ?_ _ | refine blk_drew ?_ | refine blk_alloc ?_ _)); refine blk_put (cs := #[.bool false, .int .i64 0, .int .i64 0]) ?_ 0 _ rfl; exact zb BK756.out) Try.underlying59 rfl (by kernel_rfl)) rfl ?_
 exact ⟨by first | rfl | (simp [errW_none, errW_some] <;> rfl) | (simp [*, errW_none, errW_some] <;> rfl), zU HB.out⟩
def clash_Prefix.f (k : Nat) (l0_0 : List (S50)) : Option (Bool × Int × Int × Int) := (clash_search.f k l0_0).bind fun bt772 => (some (bt772.1, bt772.2.1, bt772.2.2.1, bt772.2.2.2))
set_option maxHeartbeats 8000000 in
set_option maxRecDepth 100000 in
theorem clash_Prefix.calls (k : Nat) (A0_0 : Option Addr) (c0_0 : Nat) (l0_0 : List (S50)) (r1 : Bool) (r2 : Int) (r3 : Int) (r4 : Int) (w : World) (hr0_0 : Kd.C k50 w A0_0 l0_0.length l0_0) (hc0_0 : l0_0.length ≤ c0_0) (h : clash_Prefix.f k l0_0 = some (r1, r2, r3, r4)) :
 Calls Try.prog 62 #[.agg #[.slice A0_0 l0_0.length c0_0]] w fun e w' => e = .returned (.tuple #[.agg #[.bool r1, .int .i64 r2, .int .i64 r3], .int .i64 r4]) ∧ Below w.heap.size w w' := by
 have hu24 := Try.underlying24
 have hu59 := Try.underlying59
 have HR0_0 := zk hr0_0
 have HC0_0 := zk hc0_0
 clear hr0_0 hc0_0
 have HB := zk (Below.refl w.heap.size w)
 have H : ((clash_search.f k l0_0).bind fun bt772 => (some (bt772.1, bt772.2.1, bt772.2.2.1, bt772.2.2.2))) = some (r1, r2, r3, r4) := h
 clear h
 replace H := Option.bind_eq_some_iff.mp H
 obtain ⟨⟨t772, t773, t774, t775⟩, A20, H⟩ := H
 replace H : (some (t772, t773, t774, t775)) = some (r1, r2, r3, r4) := H
 have A2 := zk A20
 clear A20
 simp only [Option.some.injEq, Prod.mk.injEq] at H
 obtain ⟨rfl, rfl, rfl, rfl⟩ := H
 go_enter Try.func62, Try.ntmps62
 go_wp2_with (first | ((with_reducible refine gate_dst (N := 1) rfl ?_); refine box_event ?hg (N := 1) ?hd (cs := #[.slice A0_0 l0_0.length c0_0]) (t := 24) ?hr ?_; (case hd => rfl); (case hg => rfl); (case hr => first | (go_simp; done) | (go_simp; rfl)); intro gb770 hg w3 hbox hb; have n0_ := zk (below_step (zU HB.out) hb); have n1_ := zk (hbox); have n2_ := zk ((by rw [hg]; exact (below_size (zU HB.out)) : w.heap.size ≤ gb770)); have n3_ := zk ((by rw [hg]; exact (below_size (zU HB.out)) : w.heap.size ≤ gb770)); clear HB; have HB := n0_; have BK770 := n1_; have GW770 := n2_; have GE770 := n3_; clear n0_ n1_ n2_ n3_; clear hb hbox hg) | ((with_reducible refine gate_dst (N := 2) rfl ?_); refine box_event ?hg (N := 2) ?hd (cs := #[.bool false, .int .i64 0, .int .i64 0]) (t := 59) ?hr ?_; (case hd => rfl); (case hg => rfl); (case hr => first | (go_simp; done) | (go_simp; rfl)); intro gb771 hg w4 hbox hb; have n0_ := zk (zbb BK770.out hb); have n1_ := zk (below_step (zU HB.out) hb); have n2_ := zk (hbox); have n3_ := zk ((by rw [hg]; exact (below_size (zU HB.out)) : w.heap.size ≤ gb771)); have n4_ := zk ((by rw [hg]; exact (below_size (zU HB.out)) : w.heap.size ≤ gb771)); have n5_ := zk ((zlt hg BK770.out : gb770 ≠ gb771)); have n6_ := zk ((zgt hg BK770.out : gb771 ≠ gb770)); clear BK770; clear HB; have BK770 := n0_; have HB := n1_; have BK771 := n2_; have GW771 := n3_; have GE771 := n4_; have NB770_771 := n5_; have NB771_770 := n6_; clear n0_ n1_ n2_ n3_ n4_ n5_ n6_; clear hb hbox hg; have hnb5 := NB770_771.out; have hnc5 := NB771_770.out; have hcz6_0 : w4.cell? ⟨gb770, 0, none⟩ = some (.slice A0_0 l0_0.length c0_0) := (blk_cell BK770.out 0).trans rfl; have hfz6_0 := blk_frozen BK770.out 0) | ((with_reducible refine gate_callee (f := 107) rfl ?_); refine goesL_ (some 6) rfl rfl Try.func107 (by kernel_rfl) rfl #[.agg #[.slice A0_0 l0_0.length c0_0], .func (.func 109) #[] #[.pointer (some ⟨gb770, 0, none⟩)]] rfl zM ?_; (with_reducible refine (clash_search.calls k _ _ l0_0 t772 t773 t774 t775 _ ?side1 ?side2 A2.out gb770 ?side3).mono ?_); (case side3 => exact zb BK770.out); (case side1 => exact zc (Kd.C_below HR0_0.out HB.out)); (case side2 => exact HC0_0.out); rintro e w7 ⟨rfl, hb⟩; refine ⟨_, rfl, ?_⟩; have n0_ := zk (zbb BK770.out hb); have n1_ := zk (zbb BK771.out hb); have n2_ := zk (below_step (zU HB.out) hb); clear BK770; clear BK771; clear HB; have BK770 := n0_; have BK771 := n1_; have HB := n2_; clear n0_ n1_ n2_; (try clear hb); (try clear hb2); (try clear hk); (try clear hi); have hcz8_0 : w7.cell? ⟨gb771, 0, none⟩ = some (.bool false) := (blk_cell BK771.out 0).trans rfl; have hcz8_1 : w7.cell? ⟨gb771, 1, none⟩ = some (.int .i64 0) := (blk_cell BK771.out 1).trans rfl; have hcz8_2 : w7.cell? ⟨gb771, 2, none⟩ = some (.int .i64 0) := (blk_cell BK771.out 2).trans rfl; have hfz8_0 := blk_frozen BK771.out 0; have hfz8_1 := blk_frozen BK771.out 1; have hfz8_2 := blk_frozen BK771.out 2))
 refine bodyPost_ret (results_ct rfl _ _ gb771 59 #[.bool t772, .int .i64 t773, .int .i64 t774] (0, 0) _ rfl (by (with_reducible repeat (first | refine blk_drewN ?_ _ | refine blk_drew ?_ | refine blk_alloc ?_ _)); refine blk_put (cs := #[.bool t772, .int .i64 t773, .int .i64 0]) ?_ 2 _ rfl; (with_reducible repeat (first | refine blk_drewN ?_ _ | refine blk_drew ?_ | refine blk_alloc ?_ _)); refine blk_put (cs := #[.bool t772, .int .i64 0, .int .i64 0]) ?_ 1 _ rfl; (with_reducible repeat (first | refine blk_drewN ?_ _ | refine blk_drew ?_ | refine blk_alloc ?_ _)); refine blk_put (cs := #[.bool false, .int .i64 0, .int .i64 0]) ?_ 0 _ rfl; exact zb BK771.out) Try.underlying59 rfl (by kernel_rfl)) rfl ?_
 exact ⟨by first | rfl | (simp [errW_none, errW_some] <;> rfl) | (simp [*, errW_none, errW_some] <;> rfl), zU HB.out⟩
end Go.Proofs.Ytkcklnmbeinfkaa.B
