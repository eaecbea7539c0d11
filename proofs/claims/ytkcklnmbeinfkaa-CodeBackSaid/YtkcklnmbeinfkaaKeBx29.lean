/- Words and walks of this claim, of the text Bx29. -/
import Derived.Test.YtkcklnmbeinfkaaKeQW0
import Derived.Test.YtkcklnmbeinfkaaKeBx0
import Derived.Test.YtkcklnmbeinfkaaKeBx8
import Derived.Test.YtkcklnmbeinfkaaKeBx10
import Derived.Test.YtkcklnmbeinfkaaKeBx28
namespace Go.Proofs.Ytkcklnmbeinfkaa.B
open Go.RowKit Go.Proofs.YtkcklnmbeinfkaaW.PrintWords Go.Proofs.YtkcklnmbeinfkaaW.PrintLast Go.Proofs.YtkcklnmbeinfkaaW.PrintMore
attribute [local go_sem] max2_int min2_int max_two min_two max_three min_three max_four min_four
set_option linter.unusedVariables false
set_option linter.unusedSimpArgs false
def code_Decode.l0 : Nat → List Int → Int → List (S50) → Int → Int → Option (Int × Int)
 | 0, _, _, _, _, _ => none
 | k + 1, x1, x6, x15, x16, x17 => if x17 < x16 then (if 0 ≤ x17 then (if x17 < (x15.length : Int) then ((shape_Rank.f k ((rd_T50 x15 x17).f0) ((rd_T50 x15 x17).f1) x1).bind fun bt643 => (if bt643.2 = true then (if x6 < 0 then (code_Decode.l0 k x1 (wrap64 (((rd_T50 x15 x17).f1) + bt643.1)) x15 x16 (wrap64 (x17 + 1))) else (if (wrap64 (((rd_T50 x15 x17).f1) + bt643.1)) < x6 then (code_Decode.l0 k x1 (wrap64 (((rd_T50 x15 x17).f1) + bt643.1)) x15 x16 (wrap64 (x17 + 1))) else (code_Decode.l0 k x1 x6 x15 x16 (wrap64 (x17 + 1))))) else (code_Decode.l0 k x1 x6 x15 x16 (wrap64 (x17 + 1))))) else (none)) else (none)) else (if x6 < 0 then (some (0, 100)) else (some (x6, 0)))
def code_Decode.f (k : Nat) (l0_0 : List (S50)) (l1 : List Int) : Option (Int × Int) := (scheme_Valid.f k l0_0).bind fun t640 => (if t640 = true then (code_Decode.l0 k l1 (-1) l0_0 (l0_0.length : Int) 0) else (some (0, 84)))
set_option maxHeartbeats 8000000 in
set_option maxRecDepth 100000 in
theorem code_Decode.calls (k : Nat) (A0_0 : Option Addr) (c0_0 : Nat) (l0_0 : List (S50)) (A1 : Option Addr) (c1 : Nat) (l1 : List Int) (r1 : Int) (r2 : Int) (w : World) (hr0_0 : Kd.C k50 w A0_0 l0_0.length l0_0) (hc0_0 : l0_0.length ≤ c0_0) (hr1 : Kd.C (Kd.int .u8) w A1 l1.length l1) (hc1 : l1.length ≤ c1) (h : code_Decode.f k l0_0 l1 = some (r1, r2)) :
  Calls Try.prog 69 #[.agg #[.slice A0_0 l0_0.length c0_0], .slice A1 l1.length c1] w fun e w' => e = .returned (.tuple #[.int .i64 r1, .int .i64 r2]) ∧ Below w.heap.size w w' := by
 have hu24 := Try.underlying24
 have hu50 := Try.underlying50
 have HR0_0 := zk hr0_0
 have HC0_0 := zk hc0_0
 clear hr0_0 hc0_0
 have HR1 := zk hr1
 have HC1 := zk hc1
 clear hr1 hc1
 have HB := zk (Below.refl w.heap.size w)
 have H : ((scheme_Valid.f k l0_0).bind fun t640 => (if t640 = true then (code_Decode.l0 k l1 (-1) l0_0 (l0_0.length : Int) 0) else (some (0, 84)))) = some (r1, r2) := h
 clear h
 replace H := Option.bind_eq_some_iff.mp H
 obtain ⟨t640, A30, H⟩ := H
 replace H : (if t640 = true then (code_Decode.l0 k l1 (-1) l0_0 (l0_0.length : Int) 0) else (some (0, 84))) = some (r1, r2) := H
 have A3 := zk A30
 clear A30
 by_cases c4 : t640 = true
 ·subst c4
  have H1 : (code_Decode.l0 k l1 (-1) l0_0 (l0_0.length : Int) 0) = some (r1, r2) := by rw [if_pos rfl] at H; exact H
  clear H
  have H := H1
  clear H1
  have H' := zk H
  clear H
  go_enter Try.func69, Try.ntmps69
  go_wp2_with (first | ((with_reducible refine gate_dst (N := 2) rfl ?_); refine box_event ?hg (N := 2) ?hd (cs := #[.slice A0_0 l0_0.length c0_0]) (t := 24) ?hr ?_; (case hd => rfl); (case hg => rfl); (case hr => first | (go_simp; done) | (go_simp; rfl)); intro gb639 hg w5 hbox hb; have n0_ := zk (below_step (zU HB.out) hb); have n1_ := zk (hbox); have n2_ := zk ((by rw [hg]; exact (below_size (zU HB.out)) : w.heap.size ≤ gb639)); have n3_ := zk ((by rw [hg]; exact (below_size (zU HB.out)) : w.heap.size ≤ gb639)); clear HB; have HB := n0_; have BK639 := n1_; have GW639 := n2_; have GE639 := n3_; clear n0_ n1_ n2_ n3_; clear hb hbox hg; have hcz6_0 : w5.cell? ⟨gb639, 0, none⟩ = some (.slice A0_0 l0_0.length c0_0) := (blk_cell BK639.out 0).trans rfl; have hfz6_0 := blk_frozen BK639.out 0) | ((with_reducible refine gate_callee (f := 76) rfl ?_); refine goesL_ (some 12) rfl rfl Try.func76 (by kernel_rfl) rfl #[.agg #[.slice A0_0 l0_0.length c0_0]] rfl zM ?_; (with_reducible refine (scheme_Valid.calls k _ _ l0_0 true _ ?side1 ?side2 A3.out).mono ?_); (case side1 => exact zc (Kd.C_below HR0_0.out HB.out)); (case side2 => exact HC0_0.out); rintro e w7 ⟨rfl, hb⟩; refine ⟨_, rfl, ?_⟩; have n0_ := zk (zbb BK639.out hb); have n1_ := zk (below_step (zU HB.out) hb); clear BK639; clear HB; have BK639 := n0_; have HB := n1_; clear n0_ n1_; (try clear hb); (try clear hb2); (try clear hk); (try clear hi); have hcz8_0 : w7.cell? ⟨gb639, 0, none⟩ = some (.slice A0_0 l0_0.length c0_0) := (blk_cell BK639.out 0).trans rfl; have hfz8_0 := blk_frozen BK639.out 0))
  go_loopg [6, 17] k (fun kq v6 v17 w' => ∃ (x6_1 : Int) (x17_1 : Int), v6 = .int .i64 x6_1 ∧ v17 = .int .i64 x17_1 ∧ Aside0 (code_Decode.l0 kq l1 x6_1 l0_0 (l0_0.length : Int) x17_1 = some (r1, r2)) ∧ Aside0 (kq ≤ k) ∧ Aside0 (w'.heap[gb639]? = some (.cells #[(.slice A0_0 l0_0.length c0_0)] 24 (0, 0))) ∧ Aside0 (Below w.heap.size w w'))
  case atStart => exact ⟨((-1)), (0), zR, zR, H', ⟨Nat.le_refl _⟩, ⟨by exact zb BK639.out⟩, ⟨zU HB.out⟩⟩
  case round =>
   clear H'
   try clear c1
   try clear p2
   try clear c4
   try clear c6
   try clear c7
   try clear hcz6_0
   try clear hcz8_0
   try clear hfz6_0
   try clear hfz8_0
   obtain ⟨x6_1, x17_1, rfl, rfl, HA, HK1, BK639, HB⟩ := hrel
   cases gk with
   | zero => exact absurd HA.out (by simp [code_Decode.l0])
   | succ k1 =>
    have H := HA.out
    clear HA
    simp only [code_Decode.l0] at H
    by_cases c9 : x17_1 < (l0_0.length : Int)
    ·rw [if_pos c9] at H
     have c9b0 : decide (x17_1 < (l0_0.length : Int)) = true := decide_eq_true c9
     clear c9
     by_cases c10 : 0 ≤ x17_1
     ·rw [if_pos c10] at H
      have c10b0 : decide (0 ≤ x17_1) = true := decide_eq_true c10
      clear c10
      by_cases c11 : x17_1 < (l0_0.length : Int)
      ·rw [if_pos c11] at H
       have c11b0 : decide (x17_1 < (l0_0.length : Int)) = true := decide_eq_true c11
       clear c11
       replace H := Option.bind_eq_some_iff.mp H
       obtain ⟨⟨t643, t644⟩, A120, H⟩ := H
       replace H : (if t644 = true then (if x6_1 < 0 then (code_Decode.l0 k1 l1 (wrap64 (((rd_T50 l0_0 x17_1).f1) + t643)) l0_0 (l0_0.length : Int) (wrap64 (x17_1 + 1))) else (if (wrap64 (((rd_T50 l0_0 x17_1).f1) + t643)) < x6_1 then (code_Decode.l0 k1 l1 (wrap64 (((rd_T50 l0_0 x17_1).f1) + t643)) l0_0 (l0_0.length : Int) (wrap64 (x17_1 + 1))) else (code_Decode.l0 k1 l1 x6_1 l0_0 (l0_0.length : Int) (wrap64 (x17_1 + 1))))) else (code_Decode.l0 k1 l1 x6_1 l0_0 (l0_0.length : Int) (wrap64 (x17_1 + 1)))) = some (r1, r2) := H
       have A12 := zk A120
       clear A120
       by_cases c13 : t644 = true
       ·subst c13
        have H1 : (if x6_1 < 0 then (code_Decode.l0 k1 l1 (wrap64 (((rd_T50 l0_0 x17_1).f1) + t643)) l0_0 (l0_0.length : Int) (wrap64 (x17_1 + 1))) else (if (wrap64 (((rd_T50 l0_0 x17_1).f1) + t643)) < x6_1 then (code_Decode.l0 k1 l1 (wrap64 (((rd_T50 l0_0 x17_1).f1) + t643)) l0_0 (l0_0.length : Int) (wrap64 (x17_1 + 1))) else (code_Decode.l0 k1 l1 x6_1 l0_0 (l0_0.length : Int) (wrap64 (x17_1 + 1))))) = some (r1, r2) := by rw [if_pos rfl] at H; exact H
        clear H
        have H := H1
        clear H1
        by_cases c14 : x6_1 < 0
        ·rw [if_pos c14] at H
         have c14b0 : decide (x6_1 < 0) = true := decide_eq_true c14
         clear c14
         have H' := zk H
         clear H
         have p641 : 0 ≤ (x17_1 : Int) := zT
         have q641 : x17_1 < (l0_0.length : Int) := zT
         obtain ⟨ad641, A641_0, c641_0, e641, hx641_0, hx641_1, hl641_0, hi641_0⟩ := at_T50 HR0_0.out x17_1 p641 q641
         cases e641
         replace hx641_0 := (HB.out.cell (World.block_lt_of_cell? w _ hx641_0)).trans hx641_0
         replace hx641_1 := (HB.out.cell (World.block_lt_of_cell? w _ hx641_1)).trans hx641_1
         have HR641_0 := zk hi641_0
         have HC641_0 := zk hl641_0
         clear hi641_0 hl641_0
         replace p641 := eq_true p641
         replace q641 := eq_true q641
         go_wp2_with (first | ((with_reducible refine gate_dst (N := 8) rfl ?_); refine box_event ?hg (N := 8) ?hd (cs := #[.slice none 0 0, .int .i64 0]) (t := 50) ?hr ?_; (case hd => rfl); (case hg => rfl); (case hr => first | (go_simp; done) | (go_simp; rfl)); intro gb642 hg w15 hbox hb; have n0_ := zk (zbb BK639.out hb); have n1_ := zk (below_step (zU HB.out) hb); have n2_ := zk (hbox); have n3_ := zk ((by rw [hg]; exact (below_size (zU HB.out)) : w.heap.size ≤ gb642)); have n4_ := zk ((by rw [hg]; exact (below_size (zU HB.out)) : w.heap.size ≤ gb642)); have n5_ := zk ((zlt hg BK639.out : gb639 ≠ gb642)); have n6_ := zk ((zgt hg BK639.out : gb642 ≠ gb639)); clear BK639; clear HB; have BK639 := n0_; have HB := n1_; have BK642 := n2_; have GW642 := n3_; have GE642 := n4_; have NB639_642 := n5_; have NB642_639 := n6_; clear n0_ n1_ n2_ n3_ n4_ n5_ n6_; clear hb hbox hg; have hnb16 := NB642_639.out; have hnc16 := NB639_642.out; have hcz17_0 : w15.cell? ⟨gb642, 0, none⟩ = some (.slice none 0 0) := (blk_cell BK642.out 0).trans rfl; have hcz17_1 : w15.cell? ⟨gb642, 1, none⟩ = some (.int .i64 0) := (blk_cell BK642.out 1).trans rfl; have hfz17_0 := blk_frozen BK642.out 0; have hfz17_1 := blk_frozen BK642.out 1) | ((with_reducible refine gate_callee (f := 35) rfl ?_); refine goesL_ (some 24) rfl rfl Try.func35 (by kernel_rfl) rfl #[.agg #[.slice A641_0 ((rd_T50 l0_0 x17_1).f0).length c641_0, .int .i64 ((rd_T50 l0_0 x17_1).f1)], .slice A1 l1.length c1] rfl zM ?_; (with_reducible refine (shape_Rank.calls k1 _ _ ((rd_T50 l0_0 x17_1).f0) ((rd_T50 l0_0 x17_1).f1) _ _ l1 t643 true _ ?side1 ?side2 ?side3 ?side4 A12.out).mono ?_); (case side1 => exact Kd.C_below HR641_0.out (zU HB.out)); (case side2 => exact HC641_0.out); (case side3 => exact Kd.C_below HR1.out (zU HB.out)); (case side4 => exact HC1.out); rintro e w18 ⟨rfl, hb⟩; refine ⟨_, rfl, ?_⟩; have n0_ := zk (zbb BK639.out hb); have n1_ := zk (blk_below (g := gb642) (o := .cells #[.slice A641_0 ((rd_T50 l0_0 x17_1).f0).length c641_0, .int .i64 ((rd_T50 l0_0 x17_1).f1)] 50 (0, 0)) (by (with_reducible repeat (first | refine blk_drewN ?_ _ | refine blk_drew ?_ | refine blk_alloc ?_ _)); refine blk_put (cs := #[.slice A641_0 ((rd_T50 l0_0 x17_1).f0).length c641_0, .int .i64 0]) ?_ 1 _ rfl; (with_reducible repeat (first | refine blk_drewN ?_ _ | refine blk_drew ?_ | refine blk_alloc ?_ _)); refine blk_put (cs := #[.slice none 0 0, .int .i64 0]) ?_ 0 _ rfl; exact zb BK642.out) hb); have n2_ := zk (below_step (zU HB.out) hb); clear BK639; clear BK642; clear HB; have BK639 := n0_; have BK642 := n1_; have HB := n2_; clear n0_ n1_ n2_; (try clear hb); (try clear hb2); (try clear hk); (try clear hi); have hcz19_0 : w18.cell? ⟨gb642, 0, none⟩ = some (.slice A641_0 ((rd_T50 l0_0 x17_1).f0).length c641_0) := (blk_cell BK642.out 0).trans rfl; have hcz19_1 : w18.cell? ⟨gb642, 1, none⟩ = some (.int .i64 ((rd_T50 l0_0 x17_1).f1)) := (blk_cell BK642.out 1).trans rfl; have hfz19_0 := blk_frozen BK642.out 0; have hfz19_1 := blk_frozen BK642.out 1))
         go_roundg k1
         case measure => have := HK1.out; omega
         case rel => exact ⟨(wrap64 (((rd_T50 l0_0 x17_1).f1) + t643)), (wrap64 (x17_1 + 1)), zR, zR, H', ⟨by have := HK1.out; omega⟩, ⟨by exact zb BK639.out⟩, ⟨zU HB.out⟩⟩
        ·rw [if_neg c14] at H
         have c14b0 : decide (x6_1 < 0) = false := decide_eq_false c14
         clear c14
         by_cases c20 : (wrap64 (((rd_T50 l0_0 x17_1).f1) + t643)) < x6_1
         ·rw [if_pos c20] at H
          have c20b0 : decide ((wrap64 (((rd_T50 l0_0 x17_1).f1) + t643)) < x6_1) = true := decide_eq_true c20
          clear c20
          have H' := zk H
          clear H
          have p641 : 0 ≤ (x17_1 : Int) := zT
          have q641 : x17_1 < (l0_0.length : Int) := zT
          obtain ⟨ad641, A641_0, c641_0, e641, hx641_0, hx641_1, hl641_0, hi641_0⟩ := at_T50 HR0_0.out x17_1 p641 q641
          cases e641
          replace hx641_0 := (HB.out.cell (World.block_lt_of_cell? w _ hx641_0)).trans hx641_0
          replace hx641_1 := (HB.out.cell (World.block_lt_of_cell? w _ hx641_1)).trans hx641_1
          have HR641_0 := zk hi641_0
          have HC641_0 := zk hl641_0
          clear hi641_0 hl641_0
          replace p641 := eq_true p641
          replace q641 := eq_true q641
          go_wp2_with (first | ((with_reducible refine gate_dst (N := 8) rfl ?_); refine box_event ?hg (N := 8) ?hd (cs := #[.slice none 0 0, .int .i64 0]) (t := 50) ?hr ?_; (case hd => rfl); (case hg => rfl); (case hr => first | (go_simp; done) | (go_simp; rfl)); intro gb642 hg w21 hbox hb; have n0_ := zk (zbb BK639.out hb); have n1_ := zk (below_step (zU HB.out) hb); have n2_ := zk (hbox); have n3_ := zk ((by rw [hg]; exact (below_size (zU HB.out)) : w.heap.size ≤ gb642)); have n4_ := zk ((by rw [hg]; exact (below_size (zU HB.out)) : w.heap.size ≤ gb642)); have n5_ := zk ((zlt hg BK639.out : gb639 ≠ gb642)); have n6_ := zk ((zgt hg BK639.out : gb642 ≠ gb639)); clear BK639; clear HB; have BK639 := n0_; have HB := n1_; have BK642 := n2_; have GW642 := n3_; have GE642 := n4_; have NB639_642 := n5_; have NB642_639 := n6_; clear n0_ n1_ n2_ n3_ n4_ n5_ n6_; clear hb hbox hg; have hnb22 := NB642_639.out; have hnc22 := NB639_642.out; have hcz23_0 : w21.cell? ⟨gb642, 0, none⟩ = some (.slice none 0 0) := (blk_cell BK642.out 0).trans rfl; have hcz23_1 : w21.cell? ⟨gb642, 1, none⟩ = some (.int .i64 0) := (blk_cell BK642.out 1).trans rfl; have hfz23_0 := blk_frozen BK642.out 0; have hfz23_1 := blk_frozen BK642.out 1) | ((with_reducible refine gate_callee (f := 35) rfl ?_); refine goesL_ (some 24) rfl rfl Try.func35 (by kernel_rfl) rfl #[.agg #[.slice A641_0 ((rd_T50 l0_0 x17_1).f0).length c641_0, .int .i64 ((rd_T50 l0_0 x17_1).f1)], .slice A1 l1.length c1] rfl zM ?_; (with_reducible refine (shape_Rank.calls k1 _ _ ((rd_T50 l0_0 x17_1).f0) ((rd_T50 l0_0 x17_1).f1) _ _ l1 t643 true _ ?side1 ?side2 ?side3 ?side4 A12.out).mono ?_); (case side1 => exact Kd.C_below HR641_0.out (zU HB.out)); (case side2 => exact HC641_0.out); (case side3 => exact Kd.C_below HR1.out (zU HB.out)); (case side4 => exact HC1.out); rintro e w24 ⟨rfl, hb⟩; refine ⟨_, rfl, ?_⟩; have n0_ := zk (zbb BK639.out hb); have n1_ := zk (blk_below (g := gb642) (o := .cells #[.slice A641_0 ((rd_T50 l0_0 x17_1).f0).length c641_0, .int .i64 ((rd_T50 l0_0 x17_1).f1)] 50 (0, 0)) (by (with_reducible repeat (first | refine blk_drewN ?_ _ | refine blk_drew ?_ | refine blk_alloc ?_ _)); refine blk_put (cs := #[.slice A641_0 ((rd_T50 l0_0 x17_1).f0).length c641_0, .int .i64 0]) ?_ 1 _ rfl; (with_reducible repeat (first | refine blk_drewN ?_ _ | refine blk_drew ?_ | refine blk_alloc ?_ _)); refine blk_put (cs := #[.slice none 0 0, .int .i64 0]) ?_ 0 _ rfl; exact zb BK642.out) hb); have n2_ := zk (below_step (zU HB.out) hb); clear BK639; clear BK642; clear HB; have BK639 := n0_; have BK642 := n1_; have HB := n2_; clear n0_ n1_ n2_; (try clear hb); (try clear hb2); (try clear hk); (try clear hi); have hcz25_0 : w24.cell? ⟨gb642, 0, none⟩ = some (.slice A641_0 ((rd_T50 l0_0 x17_1).f0).length c641_0) := (blk_cell BK642.out 0).trans rfl; have hcz25_1 : w24.cell? ⟨gb642, 1, none⟩ = some (.int .i64 ((rd_T50 l0_0 x17_1).f1)) := (blk_cell BK642.out 1).trans rfl; have hfz25_0 := blk_frozen BK642.out 0; have hfz25_1 := blk_frozen BK642.out 1))
          go_roundg k1
          case measure => have := HK1.out; omega
          case rel => exact ⟨(wrap64 (((rd_T50 l0_0 x17_1).f1) + t643)), (wrap64 (x17_1 + 1)), zR, zR, H', ⟨by have := HK1.out; omega⟩, ⟨by exact zb BK639.out⟩, ⟨zU HB.out⟩⟩
         ·rw [if_neg c20] at H
          have c20b0 : decide ((wrap64 (((rd_T50 l0_0 x17_1).f1) + t643)) < x6_1) = false := decide_eq_false c20
          clear c20
          have H' := zk H
          clear H
          have p641 : 0 ≤ (x17_1 : Int) := zT
          have q641 : x17_1 < (l0_0.length : Int) := zT
          obtain ⟨ad641, A641_0, c641_0, e641, hx641_0, hx641_1, hl641_0, hi641_0⟩ := at_T50 HR0_0.out x17_1 p641 q641
          cases e641
          replace hx641_0 := (HB.out.cell (World.block_lt_of_cell? w _ hx641_0)).trans hx641_0
          replace hx641_1 := (HB.out.cell (World.block_lt_of_cell? w _ hx641_1)).trans hx641_1
          have HR641_0 := zk hi641_0
          have HC641_0 := zk hl641_0
          clear hi641_0 hl641_0
          replace p641 := eq_true p641
          replace q641 := eq_true q641
          go_wp2_with (first | ((with_reducible refine gate_dst (N := 8) rfl ?_); refine box_event ?hg (N := 8) ?hd (cs := #[.slice none 0 0, .int .i64 0]) (t := 50) ?hr ?_; (case hd => rfl); (case hg => rfl); (case hr => first | (go_simp; done) | (go_simp; rfl)); intro gb642 hg w26 hbox hb; have n0_ := zk (zbb BK639.out hb); have n1_ := zk (below_step (zU HB.out) hb); have n2_ := zk (hbox); have n3_ := zk ((by rw [hg]; exact (below_size (zU HB.out)) : w.heap.size ≤ gb642)); have n4_ := zk ((by rw [hg]; exact (below_size (zU HB.out)) : w.heap.size ≤ gb642)); have n5_ := zk ((zlt hg BK639.out : gb639 ≠ gb642)); have n6_ := zk ((zgt hg BK639.out : gb642 ≠ gb639)); clear BK639; clear HB; have BK639 := n0_; have HB := n1_; have BK642 := n2_; have GW642 := n3_; have GE642 := n4_; have NB639_642 := n5_; have NB642_639 := n6_; clear n0_ n1_ n2_ n3_ n4_ n5_ n6_; clear hb hbox hg; have hnb27 := NB642_639.out; have hnc27 := NB639_642.out; have hcz28_0 : w26.cell? ⟨gb642, 0, none⟩ = some (.slice none 0 0) := (blk_cell BK642.out 0).trans rfl; have hcz28_1 : w26.cell? ⟨gb642, 1, none⟩ = some (.int .i64 0) := (blk_cell BK642.out 1).trans rfl; have hfz28_0 := blk_frozen BK642.out 0; have hfz28_1 := blk_frozen BK642.out 1) | ((with_reducible refine gate_callee (f := 35) rfl ?_); refine goesL_ (some 24) rfl rfl Try.func35 (by kernel_rfl) rfl #[.agg #[.slice A641_0 ((rd_T50 l0_0 x17_1).f0).length c641_0, .int .i64 ((rd_T50 l0_0 x17_1).f1)], .slice A1 l1.length c1] rfl zM ?_; (with_reducible refine (shape_Rank.calls k1 _ _ ((rd_T50 l0_0 x17_1).f0) ((rd_T50 l0_0 x17_1).f1) _ _ l1 t643 true _ ?side1 ?side2 ?side3 ?side4 A12.out).mono ?_); (case side1 => exact Kd.C_below HR641_0.out (zU HB.out)); (case side2 => exact HC641_0.out); (case side3 => exact Kd.C_below HR1.out (zU HB.out)); (case side4 => exact HC1.out); rintro e w29 ⟨rfl, hb⟩; refine ⟨_, rfl, ?_⟩; have n0_ := zk (zbb BK639.out hb); have n1_ := zk (blk_below (g := gb642) (o := .cells #[.slice A641_0 ((rd_T50 l0_0 x17_1).f0).length c641_0, .int .i64 ((rd_T50 l0_0 x17_1).f1)] 50 (0, 0)) (by (with_reducible repeat (first | refine blk_drewN ?_ _ | refine blk_drew ?_ | refine blk_alloc ?_ _)); refine blk_put (cs := #[.slice A641_0 ((rd_T50 l0_0 x17_1).f0).length c641_0, .int .i64 0]) ?_ 1 _ rfl; (with_reducible repeat (first | refine blk_drewN ?_ _ | refine blk_drew ?_ | refine blk_alloc ?_ _)); refine blk_put (cs := #[.slice none 0 0, .int .i64 0]) ?_ 0 _ rfl; exact zb BK642.out) hb); have n2_ := zk (below_step (zU HB.out) hb); clear BK639; clear BK642; clear HB; have BK639 := n0_; have BK642 := n1_; have HB := n2_; clear n0_ n1_ n2_; (try clear hb); (try clear hb2); (try clear hk); (try clear hi); have hcz30_0 : w29.cell? ⟨gb642, 0, none⟩ = some (.slice A641_0 ((rd_T50 l0_0 x17_1).f0).length c641_0) := (blk_cell BK642.out 0).trans rfl; have hcz30_1 : w29.cell? ⟨gb642, 1, none⟩ = some (.int .i64 ((rd_T50 l0_0 x17_1).f1)) := (blk_cell BK642.out 1).trans rfl; have hfz30_0 := blk_frozen BK642.out 0; have hfz30_1 := blk_frozen BK642.out 1))
          go_roundg k1
          case measure => have := HK1.out; omega
          case rel => exact ⟨(x6_1), (wrap64 (x17_1 + 1)), zR, zR, H', ⟨by have := HK1.out; omega⟩, ⟨by exact zb BK639.out⟩, ⟨zU HB.out⟩⟩
       ·replace c13 := Bool.eq_false_iff.mpr c13
        subst c13
        have H1 : (code_Decode.l0 k1 l1 x6_1 l0_0 (l0_0.length : Int) (wrap64 (x17_1 + 1))) = some (r1, r2) := by rw [if_neg (show ¬ (false = true) by decide)] at H; exact H
        clear H
        have H := H1
        clear H1
        have H' := zk H
        clear H
        have p641 : 0 ≤ (x17_1 : Int) := zT
        have q641 : x17_1 < (l0_0.length : Int) := zT
        obtain ⟨ad641, A641_0, c641_0, e641, hx641_0, hx641_1, hl641_0, hi641_0⟩ := at_T50 HR0_0.out x17_1 p641 q641
        cases e641
        replace hx641_0 := (HB.out.cell (World.block_lt_of_cell? w _ hx641_0)).trans hx641_0
        replace hx641_1 := (HB.out.cell (World.block_lt_of_cell? w _ hx641_1)).trans hx641_1
        have HR641_0 := zk hi641_0
        have HC641_0 := zk hl641_0
        clear hi641_0 hl641_0
        replace p641 := eq_true p641
        replace q641 := eq_true q641
        go_wp2_with (first | ((with_reducible refine gate_dst (N := 8) rfl ?_); refine box_event ?hg (N := 8) ?hd (cs := #[.slice none 0 0, .int .i64 0]) (t := 50) ?hr ?_; (case hd => rfl); (case hg => rfl); (case hr => first | (go_simp; done) | (go_simp; rfl)); intro gb642 hg w31 hbox hb; have n0_ := zk (zbb BK639.out hb); have n1_ := zk (below_step (zU HB.out) hb); have n2_ := zk (hbox); have n3_ := zk ((by rw [hg]; exact (below_size (zU HB.out)) : w.heap.size ≤ gb642)); have n4_ := zk ((by rw [hg]; exact (below_size (zU HB.out)) : w.heap.size ≤ gb642)); have n5_ := zk ((zlt hg BK639.out : gb639 ≠ gb642)); have n6_ := zk ((zgt hg BK639.out : gb642 ≠ gb639)); clear BK639; clear HB; have BK639 := n0_; have HB := n1_; have BK642 := n2_; have GW642 := n3_; have GE642 := n4_; have NB639_642 := n5_; have NB642_639 := n6_; clear n0_ n1_ n2_ n3_ n4_ n5_ n6_; clear hb hbox hg; have hnb32 := NB642_639.out; have hnc32 := NB639_642.out; have hcz33_0 : w31.cell? ⟨gb642, 0, none⟩ = some (.slice none 0 0) := (blk_cell BK642.out 0).trans rfl; have hcz33_1 : w31.cell? ⟨gb642, 1, none⟩ = some (.int .i64 0) := (blk_cell BK642.out 1).trans rfl; have hfz33_0 := blk_frozen BK642.out 0; have hfz33_1 := blk_frozen BK642.out 1) | ((with_reducible refine gate_callee (f := 35) rfl ?_); refine goesL_ (some 24) rfl rfl Try.func35 (by kernel_rfl) rfl #[.agg #[.slice A641_0 ((rd_T50 l0_0 x17_1).f0).length c641_0, .int .i64 ((rd_T50 l0_0 x17_1).f1)], .slice A1 l1.length c1] rfl zM ?_; (with_reducible refine (shape_Rank.calls k1 _ _ ((rd_T50 l0_0 x17_1).f0) ((rd_T50 l0_0 x17_1).f1) _ _ l1 t643 false _ ?side1 ?side2 ?side3 ?side4 A12.out).mono ?_); (case side1 => exact Kd.C_below HR641_0.out (zU HB.out)); (case side2 => exact HC641_0.out); (case side3 => exact Kd.C_below HR1.out (zU HB.out)); (case side4 => exact HC1.out); rintro e w34 ⟨rfl, hb⟩; refine ⟨_, rfl, ?_⟩; have n0_ := zk (zbb BK639.out hb); have n1_ := zk (blk_below (g := gb642) (o := .cells #[.slice A641_0 ((rd_T50 l0_0 x17_1).f0).length c641_0, .int .i64 ((rd_T50 l0_0 x17_1).f1)] 50 (0, 0)) (by (with_reducible repeat (first | refine blk_drewN ?_ _ | refine blk_drew ?_ | refine blk_alloc ?_ _)); refine blk_put (cs := #[.slice A641_0 ((rd_T50 l0_0 x17_1).f0).length c641_0, .int .i64 0]) ?_ 1 _ rfl; (with_reducible repeat (first | refine blk_drewN ?_ _ | refine blk_drew ?_ | refine blk_alloc ?_ _)); refine blk_put (cs := #[.slice none 0 0, .int .i64 0]) ?_ 0 _ rfl; exact zb BK642.out) hb); have n2_ := zk (below_step (zU HB.out) hb); clear BK639; clear BK642; clear HB; have BK639 := n0_; have BK642 := n1_; have HB := n2_; clear n0_ n1_ n2_; (try clear hb); (try clear hb2); (try clear hk); (try clear hi)))
        go_roundg k1
        case measure => have := HK1.out; omega
        case rel => exact ⟨(x6_1), (wrap64 (x17_1 + 1)), zR, zR, H', ⟨by have := HK1.out; omega⟩, ⟨by exact zb BK639.out⟩, ⟨zU HB.out⟩⟩
      ·rw [if_neg c11] at H
       exact absurd H (by simp)
     ·rw [if_neg c10] at H
      exact absurd H (by simp)
    ·rw [if_neg c9] at H
     have c9b0 : decide (x17_1 < (l0_0.length : Int)) = false := decide_eq_false c9
     clear c9
     by_cases c35 : x6_1 < 0
     ·rw [if_pos c35] at H
      have c35b0 : decide (x6_1 < 0) = true := decide_eq_true c35
      clear c35
      simp only [Option.some.injEq, Prod.mk.injEq] at H
      obtain ⟨rfl, rfl⟩ := H
      go_wp2
      go_ret2
      exact ⟨by first | rfl | (simp [errW_none, errW_some] <;> rfl) | (simp [*, errW_none, errW_some] <;> rfl), zU HB.out⟩
     ·rw [if_neg c35] at H
      have c35b0 : decide (x6_1 < 0) = false := decide_eq_false c35
      clear c35
      simp only [Option.some.injEq, Prod.mk.injEq] at H
      obtain ⟨rfl, rfl⟩ := H
      go_wp2
      go_ret2
      exact ⟨by first | rfl | (simp [errW_none, errW_some] <;> rfl) | (simp [*, errW_none, errW_some] <;> rfl), zU HB.out⟩
 ·replace c4 := Bool.eq_false_iff.mpr c4
  subst c4
  have H1 : (some (0, 84)) = some (r1, r2) := by rw [if_neg (show ¬ (false = true) by decide)] at H; exact H
  clear H
  have H := H1
  clear H1
  simp only [Option.some.injEq, Prod.mk.injEq] at H
  obtain ⟨rfl, rfl⟩ := H
  go_enter Try.func69, Try.ntmps69
  go_wp2_with (first | ((with_reducible refine gate_dst (N := 2) rfl ?_); refine box_event ?hg (N := 2) ?hd (cs := #[.slice A0_0 l0_0.length c0_0]) (t := 24) ?hr ?_; (case hd => rfl); (case hg => rfl); (case hr => first | (go_simp; done) | (go_simp; rfl)); intro gb639 hg w36 hbox hb; have n0_ := zk (below_step (zU HB.out) hb); have n1_ := zk (hbox); have n2_ := zk ((by rw [hg]; exact (below_size (zU HB.out)) : w.heap.size ≤ gb639)); have n3_ := zk ((by rw [hg]; exact (below_size (zU HB.out)) : w.heap.size ≤ gb639)); clear HB; have HB := n0_; have BK639 := n1_; have GW639 := n2_; have GE639 := n3_; clear n0_ n1_ n2_ n3_; clear hb hbox hg; have hcz37_0 : w36.cell? ⟨gb639, 0, none⟩ = some (.slice A0_0 l0_0.length c0_0) := (blk_cell BK639.out 0).trans rfl; have hfz37_0 := blk_frozen BK639.out 0) | ((with_reducible refine gate_callee (f := 76) rfl ?_); refine goesL_ (some 12) rfl rfl Try.func76 (by kernel_rfl) rfl #[.agg #[.slice A0_0 l0_0.length c0_0]] rfl zM ?_; (with_reducible refine (scheme_Valid.calls k _ _ l0_0 false _ ?side1 ?side2 A3.out).mono ?_); (case side1 => exact zc (Kd.C_below HR0_0.out HB.out)); (case side2 => exact HC0_0.out); rintro e w38 ⟨rfl, hb⟩; refine ⟨_, rfl, ?_⟩; have n0_ := zk (zbb BK639.out hb); have n1_ := zk (below_step (zU HB.out) hb); clear BK639; clear HB; have BK639 := n0_; have HB := n1_; clear n0_ n1_; (try clear hb); (try clear hb2); (try clear hk); (try clear hi)))
  go_ret2
  exact ⟨by first | rfl | (simp [errW_none, errW_some] <;> rfl) | (simp [*, errW_none, errW_some] <;> rfl), zU HB.out⟩
def leadtraillaw10_some.f  : Option ((List (S50))) := some (([(⟨(([(([(⟨194, 223⟩ : S113)] : List (S113))), (([(⟨128, 191⟩ : S113)] : List (S113)))] : List (List (S113)))), 128⟩ : S50), (⟨(([(([(⟨0, 127⟩ : S113)] : List (S113)))] : List (List (S113)))), 0⟩ : S50)] : List (S50)))
set_option maxHeartbeats 8000000 in
set_option maxRecDepth 100000 in
theorem leadtraillaw10_some.calls  (r : List (S50)) (w : World) (h : leadtraillaw10_some.f  = some r) :
  Calls Try.prog 112 #[] w fun e w' => ∃ v0_ : Value, e = .returned (.agg #[v0_]) ∧ Kd.N k50 50 w' w.heap.size (fun k_ => (w.heap.size ≤ k_)) v0_ r ∧ Below w.heap.size w w' := by
 have hu24 := Try.underlying24
 have hu113 := Try.underlying113
 have hu50 := Try.underlying50
 have HB := zk (Below.refl w.heap.size w)
 have H : (some (([(⟨(([(([(⟨194, 223⟩ : S113)] : List (S113))), (([(⟨128, 191⟩ : S113)] : List (S113)))] : List (List (S113)))), 128⟩ : S50), (⟨(([(([(⟨0, 127⟩ : S113)] : List (S113)))] : List (List (S113)))), 0⟩ : S50)] : List (S50)))) = some r := h
 clear h
 obtain ⟨y646, hy646⟩ : ∃ y_ : List (S113), y_ = (([(⟨194, 223⟩ : S113)] : List (S113))) := ⟨_, rfl⟩
 replace H : (some (([(⟨(([y646, (([(⟨128, 191⟩ : S113)] : List (S113)))] : List (List (S113)))), 128⟩ : S50), (⟨(([(([(⟨0, 127⟩ : S113)] : List (S113)))] : List (List (S113)))), 0⟩ : S50)] : List (S50)))) = some r := by first | (rw [hy646]; with_reducible exact H) | (have H2_ := (Option.bind_some _ _).symm.trans H; rw [hy646]; with_reducible exact H2_) | (have H2_ := (Option.bind_some _ _).symm.trans H; with_reducible exact H2_) | with_reducible exact H | (rw [hy646]; exact H) | exact H
 have Ny646 := zk hy646
 clear hy646
 obtain ⟨y649, hy649⟩ : ∃ y_ : List (S113), y_ = (([(⟨128, 191⟩ : S113)] : List (S113))) := ⟨_, rfl⟩
 replace H : (some (([(⟨(([y646, y649] : List (List (S113)))), 128⟩ : S50), (⟨(([(([(⟨0, 127⟩ : S113)] : List (S113)))] : List (List (S113)))), 0⟩ : S50)] : List (S50)))) = some r := by first | (rw [hy649]; with_reducible exact H) | (have H2_ := (Option.bind_some _ _).symm.trans H; rw [hy649]; with_reducible exact H2_) | (have H2_ := (Option.bind_some _ _).symm.trans H; with_reducible exact H2_) | with_reducible exact H | (rw [hy649]; exact H) | exact H
 have Ny649 := zk hy649
 clear hy649
 obtain ⟨y652, hy652⟩ : ∃ y_ : List (List (S113)), y_ = (([y646, y649] : List (List (S113)))) := ⟨_, rfl⟩
 replace H : (some (([(⟨y652, 128⟩ : S50), (⟨(([(([(⟨0, 127⟩ : S113)] : List (S113)))] : List (List (S113)))), 0⟩ : S50)] : List (S50)))) = some r := by first | (rw [hy652]; with_reducible exact H) | (have H2_ := (Option.bind_some _ _).symm.trans H; rw [hy652]; with_reducible exact H2_) | (have H2_ := (Option.bind_some _ _).symm.trans H; with_reducible exact H2_) | with_reducible exact H | (rw [hy652]; exact H) | exact H
 have Ny652 := zk hy652
 clear hy652
 obtain ⟨y655, hy655⟩ : ∃ y_ : List (S113), y_ = (([(⟨0, 127⟩ : S113)] : List (S113))) := ⟨_, rfl⟩
 replace H : (some (([(⟨y652, 128⟩ : S50), (⟨(([y655] : List (List (S113)))), 0⟩ : S50)] : List (S50)))) = some r := by first | (rw [hy655]; with_reducible exact H) | (have H2_ := (Option.bind_some _ _).symm.trans H; rw [hy655]; with_reducible exact H2_) | (have H2_ := (Option.bind_some _ _).symm.trans H; with_reducible exact H2_) | with_reducible exact H | (rw [hy655]; exact H) | exact H
 have Ny655 := zk hy655
 clear hy655
 obtain ⟨y658, hy658⟩ : ∃ y_ : List (List (S113)), y_ = (([y655] : List (List (S113)))) := ⟨_, rfl⟩
 replace H : (some (([(⟨y652, 128⟩ : S50), (⟨y658, 0⟩ : S50)] : List (S50)))) = some r := by first | (rw [hy658]; with_reducible exact H) | (have H2_ := (Option.bind_some _ _).symm.trans H; rw [hy658]; with_reducible exact H2_) | (have H2_ := (Option.bind_some _ _).symm.trans H; with_reducible exact H2_) | with_reducible exact H | (rw [hy658]; exact H) | exact H
 have Ny658 := zk hy658
 clear hy658
 obtain ⟨y661, hy661⟩ : ∃ y_ : List (S50), y_ = (([(⟨y652, 128⟩ : S50), (⟨y658, 0⟩ : S50)] : List (S50))) := ⟨_, rfl⟩
 replace H : (some y661) = some r := by first | (rw [hy661]; with_reducible exact H) | (have H2_ := (Option.bind_some _ _).symm.trans H; rw [hy661]; with_reducible exact H2_) | (have H2_ := (Option.bind_some _ _).symm.trans H; with_reducible exact H2_) | with_reducible exact H | (rw [hy661]; exact H) | exact H
 have Ny661 := zk hy661
 clear hy661
 obtain rfl := Option.some.inj H
 go_enter Try.func112, Try.ntmps112
 go_wp2_with (first | ((with_reducible refine gate_dst (N := 0) rfl ?_); refine box_event ?hg (N := 0) ?hd (cs := #[.slice none 0 0]) (t := 24) ?hr ?_; (case hd => rfl); (case hg => rfl); (case hr => first | (go_simp; done) | (go_simp; rfl)); intro gb645 hg w1 hbox hb; have n0_ := zk (below_step (zU HB.out) hb); have n1_ := zk (hbox); have n2_ := zk ((by rw [hg]; exact (below_size (zU HB.out)) : w.heap.size ≤ gb645)); have n3_ := zk ((by rw [hg]; exact (below_size (zU HB.out)) : w.heap.size ≤ gb645)); clear HB; have HB := n0_; have BK645 := n1_; have GW645 := n2_; have GE645 := n3_; clear n0_ n1_ n2_ n3_; clear hb hbox hg) | ((with_reducible refine gate_dst (N := 2) rfl ?_); refine Kd.R_lit k113 _ 113 ?hg (N := 2) ?hd (xs := ([(⟨194, 223⟩ : S113)] : List (S113))) (inner := [.int .i64 194, .int .i64 223]) (ok := fun _ => True) (okp := fun _ => True) ?hr ?hp (fun _ hk => hk) trivial (Below.refl _ _) (Nat.le_refl _) (by simp) ?_; (case hd => rfl); (case hg => rfl); (case hr => first | (go_simp; done) | (go_simp; rfl)); (case hp => exact (Reps.c2 (show Kd.M k113 _ _ _ (⟨194, 223⟩ : S113) [.int .i64 194, .int .i64 223] from (k113_mkM _ _ _ (⟨194, 223⟩ : S113) )) (Reps.none _ _))); intro v647 w2 ho3 hb hg_ hnew_; clear hg_ hnew_; (first | rw [← Ny646.out] at ho3 | (simp only [Int.reduceToNat] at ho3; rw [← Ny646.out] at ho3)); have n0_ := zk (Kd.R_lower (Kd.R_newM (M := fun k_ => (w.heap.size ≤ k_)) ho3 (below_size (zU HB.out)) (fun k_ h_ => h_)) (below_size (zU HB.out))); have n1_ := zk (zbb BK645.out hb); have n2_ := zk (below_step (zU HB.out) hb); clear BK645; clear HB; have HO648 := n0_; have BK645 := n1_; have HB := n2_; clear n0_ n1_ n2_; clear hb ho3) | ((with_reducible refine gate_dst (N := 4) rfl ?_); refine Kd.R_lit k113 _ 113 ?hg (N := 4) ?hd (xs := ([(⟨128, 191⟩ : S113)] : List (S113))) (inner := [.int .i64 128, .int .i64 191]) (ok := fun _ => True) (okp := fun _ => True) ?hr ?hp (fun _ hk => hk) trivial (Below.refl _ _) (Nat.le_refl _) (by simp) ?_; (case hd => rfl); (case hg => rfl); (case hr => first | (go_simp; done) | (go_simp; rfl)); (case hp => exact (Reps.c2 (show Kd.M k113 _ _ _ (⟨128, 191⟩ : S113) [.int .i64 128, .int .i64 191] from (k113_mkM _ _ _ (⟨128, 191⟩ : S113) )) (Reps.none _ _))); intro v650 w4 ho5 hb hg_ hnew_; clear hg_ hnew_; (first | rw [← Ny649.out] at ho5 | (simp only [Int.reduceToNat] at ho5; rw [← Ny649.out] at ho5)); have n0_ := zk (Kd.R_elder' (zr HO648.out) (Kd.R_base ho5) hb); have n1_ := zk (Kd.R_lower (Kd.R_new' (Kd.R_newM (M := fun k_ => (w.heap.size ≤ k_)) ho5 (below_size (zU HB.out)) (fun k_ h_ => h_)) (Kd.R_lt (zr HO648.out))) (below_size (zU HB.out))); have n2_ := zk (zbb BK645.out hb); have n3_ := zk (below_step (zU HB.out) hb); clear HO648; clear BK645; clear HB; have HO648 := n0_; have HO651 := n1_; have BK645 := n2_; have HB := n3_; clear n0_ n1_ n2_ n3_; clear hb ho5; obtain ⟨Ao6, co6, eo6⟩ := Kd.R_slice HO648.out; subst eo6; obtain ⟨Ao7, co7, eo7⟩ := Kd.R_slice HO651.out; subst eo7) | ((with_reducible refine gate_dst (N := 5) rfl ?_); refine Kd.N_lit (Kd.slice 113 k113) _ 34 ?hg (N' := 5) ?hd (xs := ([y646, y649] : List (List (S113)))) (inner := [.slice Ao6 y646.length co6, .slice Ao7 y649.length co7]) (ok := (fun k_ => (w.heap.size ≤ k_) ∧ k_ ≠ gb645)) (okp := (fun k_ => (w.heap.size ≤ k_) ∧ k_ ≠ gb645)) ?hr ?hp (fun _ hk => hk) ((show ∀ k_, w4.heap.size ≤ k_ → (fun k_ => (w.heap.size ≤ k_) ∧ k_ ≠ gb645) k_ from fun k_ hk => ⟨(Nat.le_trans (below_size (zU HB.out)) hk), Kd.freshB (g := gb645) (o := .cells #[.slice none 0 0] 24 (0, 0)) (zb BK645.out) k_ hk⟩) _ (Nat.le_refl _)) (Below.refl _ _) (Nat.le_refl _) (by simp) ?_; (case hd => rfl); (case hg => rfl); (case hr => first | (go_simp; done) | (go_simp; rfl)); (case hp => exact (Reps.one (show Kd.FK (Kd.slice 113 k113) _ _ y646 [.slice Ao6 y646.length co6] from (Kd.FK_slice_mk (Kd.R_reads' (Kd.R_mono (ok' := (fun k_ => (w.heap.size ≤ k_) ∧ k_ ≠ gb645)) (Kd.R_types (HO648.out) BK645.out (by decide)) (fun k_ hk => ⟨hk.1.1.1, hk.2⟩))).2.1 (Kd.R_F (Kd.R_mono (ok' := (fun k_ => (w.heap.size ≤ k_) ∧ k_ ≠ gb645)) (Kd.R_types (HO648.out) BK645.out (by decide)) (fun k_ hk => ⟨hk.1.1.1, hk.2⟩))))) (Reps.one (show Kd.FK (Kd.slice 113 k113) _ _ y649 [.slice Ao7 y649.length co7] from (Kd.FK_slice_mk (Kd.R_reads' (Kd.R_mono (ok' := (fun k_ => (w.heap.size ≤ k_) ∧ k_ ≠ gb645)) (Kd.R_types (HO651.out) BK645.out (by decide)) (fun k_ hk => ⟨hk.1.1.1, hk.2⟩))).2.1 (Kd.R_F (Kd.R_mono (ok' := (fun k_ => (w.heap.size ≤ k_) ∧ k_ ≠ gb645)) (Kd.R_types (HO651.out) BK645.out (by decide)) (fun k_ hk => ⟨hk.1.1.1, hk.2⟩))))) (Reps.none _ _)))); intro v653 w8 ho9 hb hg_ hnew_; clear hg_ hnew_; (first | rw [← Ny652.out] at ho9 | (simp only [Int.reduceToNat] at ho9; rw [← Ny652.out] at ho9)); have n0_ := zk (Kd.N_lower ho9 (below_size (zU HB.out))); have n1_ := zk (zbb BK645.out hb); have n2_ := zk (below_step (zU HB.out) hb); clear BK645; clear HB; clear HO648; clear HO651; have HO654 := n0_; have BK645 := n1_; have HB := n2_; clear n0_ n1_ n2_; clear hb ho9; obtain ⟨Ao10, co10, eo10⟩ := Kd.N_slice HO654.out; subst eo10) | ((with_reducible refine gate_dst (N := 8) rfl ?_); refine Kd.R_lit k113 _ 113 ?hg (N := 8) ?hd (xs := ([(⟨0, 127⟩ : S113)] : List (S113))) (inner := [.int .i64 0, .int .i64 127]) (ok := fun _ => True) (okp := fun _ => True) ?hr ?hp (fun _ hk => hk) trivial (Below.refl _ _) (Nat.le_refl _) (by simp) ?_; (case hd => rfl); (case hg => rfl); (case hr => first | (go_simp; done) | (go_simp; rfl)); (case hp => exact (Reps.c2 (show Kd.M k113 _ _ _ (⟨0, 127⟩ : S113) [.int .i64 0, .int .i64 127] from (k113_mkM _ _ _ (⟨0, 127⟩ : S113) )) (Reps.none _ _))); intro v656 w11 ho12 hb hg_ hnew_; clear hg_ hnew_; (first | rw [← Ny655.out] at ho12 | (simp only [Int.reduceToNat] at ho12; rw [← Ny655.out] at ho12)); have n0_ := zk (Kd.N_elder' (zn HO654.out) (Kd.R_base ho12) hb); have n1_ := zk (Kd.R_lower (Kd.R_newM (M := fun k_ => (w.heap.size ≤ k_)) ho12 (below_size (zU HB.out)) (fun k_ h_ => h_)) (below_size (zU HB.out))); have n2_ := zk (zbb BK645.out hb); have n3_ := zk (below_step (zU HB.out) hb); clear HO654; clear BK645; clear HB; have HO654 := n0_; have HO657 := n1_; have BK645 := n2_; have HB := n3_; clear n0_ n1_ n2_ n3_; clear hb ho12; obtain ⟨Ao13, co13, eo13⟩ := Kd.R_slice HO657.out; subst eo13) | ((with_reducible refine gate_dst (N := 9) rfl ?_); refine Kd.N_lit (Kd.slice 113 k113) _ 34 ?hg (N' := 9) ?hd (xs := ([y655] : List (List (S113)))) (inner := [.slice Ao13 y655.length co13]) (ok := (fun k_ => (w.heap.size ≤ k_) ∧ some k_ ≠ (.slice Ao10 y652.length co10 : Value).ownBlock ∧ k_ ≠ gb645)) (okp := (fun k_ => (w.heap.size ≤ k_) ∧ some k_ ≠ (.slice Ao10 y652.length co10 : Value).ownBlock ∧ k_ ≠ gb645)) ?hr ?hp (fun _ hk => hk) ((show ∀ k_, w11.heap.size ≤ k_ → (fun k_ => (w.heap.size ≤ k_) ∧ some k_ ≠ (.slice Ao10 y652.length co10 : Value).ownBlock ∧ k_ ≠ gb645) k_ from fun k_ hk => ⟨(Nat.le_trans (below_size (zU HB.out)) hk), Kd.fresh' (Kd.N_lt (zn HO654.out)) k_ hk, Kd.freshB (g := gb645) (o := .cells #[.slice none 0 0] 24 (0, 0)) (zb BK645.out) k_ hk⟩) _ (Nat.le_refl _)) (Below.refl _ _) (Nat.le_refl _) (by simp) ?_; (case hd => rfl); (case hg => rfl); (case hr => first | (go_simp; done) | (go_simp; rfl)); (case hp => exact (Reps.one (show Kd.FK (Kd.slice 113 k113) _ _ y655 [.slice Ao13 y655.length co13] from (Kd.FK_slice_mk (Kd.R_reads' (Kd.R_mono (ok' := (fun k_ => (w.heap.size ≤ k_) ∧ some k_ ≠ (.slice Ao10 y652.length co10 : Value).ownBlock ∧ k_ ≠ gb645)) (Kd.R_types (Kd.R_apart' (HO657.out) (Kd.N_typed HO654.out) (by decide)) BK645.out (by decide)) (fun k_ hk => ⟨hk.1.1.1, ⟨hk.1.2, hk.2⟩⟩))).2.1 (Kd.R_F (Kd.R_mono (ok' := (fun k_ => (w.heap.size ≤ k_) ∧ some k_ ≠ (.slice Ao10 y652.length co10 : Value).ownBlock ∧ k_ ≠ gb645)) (Kd.R_types (Kd.R_apart' (HO657.out) (Kd.N_typed HO654.out) (by decide)) BK645.out (by decide)) (fun k_ hk => ⟨hk.1.1.1, ⟨hk.1.2, hk.2⟩⟩))))) (Reps.none _ _))); intro v659 w14 ho15 hb hg_ hnew_; clear hg_ hnew_; (first | rw [← Ny658.out] at ho15 | (simp only [Int.reduceToNat] at ho15; rw [← Ny658.out] at ho15)); have n0_ := zk (Kd.N_elder' (zn HO654.out) (Kd.N_base ho15) hb); have n1_ := zk (Kd.N_lower ho15 (below_size (zU HB.out))); have n2_ := zk (zbb BK645.out hb); have n3_ := zk (below_step (zU HB.out) hb); clear HO654; clear BK645; clear HB; clear HO657; have HO654 := n0_; have HO660 := n1_; have BK645 := n2_; have HB := n3_; clear n0_ n1_ n2_ n3_; clear hb ho15; obtain ⟨Ao16, co16, eo16⟩ := Kd.N_slice HO660.out; subst eo16) | ((with_reducible refine gate_dst (N := 11) rfl ?_); refine Kd.N_lit k50 _ 50 ?hg (N' := 11) ?hd (xs := ([(⟨y652, 128⟩ : S50), (⟨y658, 0⟩ : S50)] : List (S50))) (inner := [.slice Ao10 y652.length co10, .int .i64 128, .slice Ao16 y658.length co16, .int .i64 0]) (ok := (fun k_ => (w.heap.size ≤ k_) ∧ k_ ≠ gb645)) (okp := (fun k_ => (w.heap.size ≤ k_) ∧ k_ ≠ gb645)) ?hr ?hp (fun _ hk => hk) ((show ∀ k_, w14.heap.size ≤ k_ → (fun k_ => (w.heap.size ≤ k_) ∧ k_ ≠ gb645) k_ from fun k_ hk => ⟨(Nat.le_trans (below_size (zU HB.out)) hk), Kd.freshB (g := gb645) (o := .cells #[.slice none 0 0] 24 (0, 0)) (zb BK645.out) k_ hk⟩) _ (Nat.le_refl _)) (Below.refl _ _) (Nat.le_refl _) (by simp) ?_; (case hd => rfl); (case hg => rfl); (case hr => first | (go_simp; done) | (go_simp; rfl)); (case hp => exact (Reps.c2 (show Kd.FK k50 _ _ (⟨y652, 128⟩ : S50) [.slice Ao10 y652.length co10, .int .i64 128] from (k50_mkF _ _ (⟨y652, 128⟩ : S50) (Kd.N_reads' (Kd.N_mono (ok' := (fun k_ => (w.heap.size ≤ k_) ∧ k_ ≠ gb645)) (HO654.out) (fun k_ hk => ⟨hk.1.1.1, hk.1.1.2⟩))).2.1 (Kd.N_F (Kd.N_mono (ok' := (fun k_ => (w.heap.size ≤ k_) ∧ k_ ≠ gb645)) (HO654.out) (fun k_ hk => ⟨hk.1.1.1, hk.1.1.2⟩))))) (Reps.c2 (show Kd.FK k50 _ _ (⟨y658, 0⟩ : S50) [.slice Ao16 y658.length co16, .int .i64 0] from (k50_mkF _ _ (⟨y658, 0⟩ : S50) (Kd.N_reads' (Kd.N_mono (ok' := (fun k_ => (w.heap.size ≤ k_) ∧ k_ ≠ gb645)) (HO660.out) (fun k_ hk => ⟨hk.1, hk.2.2⟩))).2.1 (Kd.N_F (Kd.N_mono (ok' := (fun k_ => (w.heap.size ≤ k_) ∧ k_ ≠ gb645)) (HO660.out) (fun k_ hk => ⟨hk.1, hk.2.2⟩))))) (Reps.none _ _)))); intro v662 w17 ho18 hb hg_ hnew_; clear hg_ hnew_; (first | rw [← Ny661.out] at ho18 | (simp only [Int.reduceToNat] at ho18; rw [← Ny661.out] at ho18)); have n0_ := zk (Kd.N_lower ho18 (below_size (zU HB.out))); have n1_ := zk (zbb BK645.out hb); have n2_ := zk (below_step (zU HB.out) hb); clear BK645; clear HB; clear HO654; clear HO660; have HO663 := n0_; have BK645 := n1_; have HB := n2_; clear n0_ n1_ n2_; clear hb ho18; obtain ⟨Ao19, co19, eo19⟩ := Kd.N_slice HO663.out; subst eo19; have hcz20_0 : w17.cell? ⟨gb645, 0, none⟩ = some (.slice none 0 0) := (blk_cell BK645.out 0).trans rfl; have hfz20_0 := blk_frozen BK645.out 0))
 refine bodyPost_ret (results_cell_row rfl _ _ gb645 24 #[.slice Ao19 y661.length co19] (0, 0) _ rfl (by (with_reducible repeat (first | refine blk_drewN ?_ _ | refine blk_drew ?_ | refine blk_alloc ?_ _)); refine blk_put (cs := #[.slice none 0 0]) ?_ 0 _ rfl; exact zb BK645.out) Try.underlying24 rfl (by kernel_rfl)) rfl ?_
 exact ⟨_, by first | rfl | (simp [errW_none, errW_some] <;> rfl) | (simp [*, errW_none, errW_some] <;> rfl), by (with_reducible repeat (first | apply Kd.N_alloc | apply Kd.N_drewN | apply Kd.N_drew)); exact Kd.N_mono (Kd.N_far (p := ⟨gb645, 0, none⟩) (Kd.N_mono HO663.out (fun k_ hk => (⟨hk, hk.2⟩ : _ ∧ k_ ≠ gb645))) (fun _ hk => hk.2) (.slice Ao19 y661.length co19)) (fun _ hk => hk.1.1), zU HB.out⟩
def leadtraillaw10_fixed.f (k : Nat)  : Option (Bool) := (leadtraillaw10_some.f).bind fun t664 => ((code_Encode.f k t664 233).bind fun bt667 => ((leadtraillaw10_some.f).bind fun t671 => ((code_Decode.f k t671 (([195, 169] : List Int))).bind fun bt677 => (if bt667.2 = 0 then (if (strOfNums bt667.1).toList = ([195, 169] : List UInt8) then (if bt677.2 = 0 then (some (bt677.1 == 233)) else (some false)) else (some false)) else (some false)))))
set_option maxHeartbeats 8000000 in
set_option maxRecDepth 100000 in
theorem leadtraillaw10_fixed.calls (k : Nat)  (r : Bool) (w : World) (h : leadtraillaw10_fixed.f k  = some r) (hr : r = true) :
  Calls Try.prog 68 #[] w fun e w' => e = .returned (.bool r) ∧ Below w.heap.size w w' := by
 have HB := zk (Below.refl w.heap.size w)
 have H : ((leadtraillaw10_some.f).bind fun t664 => ((code_Encode.f k t664 233).bind fun bt667 => ((leadtraillaw10_some.f).bind fun t671 => ((code_Decode.f k t671 (([195, 169] : List Int))).bind fun bt677 => (if bt667.2 = 0 then (if (strOfNums bt667.1).toList = ([195, 169] : List UInt8) then (if bt677.2 = 0 then (some (bt677.1 == 233)) else (some false)) else (some false)) else (some false)))))) = some r := h
 clear h
 replace H := Option.bind_eq_some_iff.mp H
 obtain ⟨t664, A10, H⟩ := H
 replace H : ((code_Encode.f k t664 233).bind fun bt667 => ((leadtraillaw10_some.f).bind fun t671 => ((code_Decode.f k t671 (([195, 169] : List Int))).bind fun bt677 => (if bt667.2 = 0 then (if (strOfNums bt667.1).toList = ([195, 169] : List UInt8) then (if bt677.2 = 0 then (some (bt677.1 == 233)) else (some false)) else (some false)) else (some false))))) = some r := H
 have A1 := zk A10
 clear A10
 replace H := Option.bind_eq_some_iff.mp H
 obtain ⟨⟨t667, t670⟩, A20, H⟩ := H
 replace H : ((leadtraillaw10_some.f).bind fun t671 => ((code_Decode.f k t671 (([195, 169] : List Int))).bind fun bt677 => (if t670 = 0 then (if (strOfNums t667).toList = ([195, 169] : List UInt8) then (if bt677.2 = 0 then (some (bt677.1 == 233)) else (some false)) else (some false)) else (some false)))) = some r := H
 have A2 := zk A20
 clear A20
 replace H := Option.bind_eq_some_iff.mp H
 obtain ⟨t671, A30, H⟩ := H
 replace H : ((code_Decode.f k t671 (([195, 169] : List Int))).bind fun bt677 => (if t670 = 0 then (if (strOfNums t667).toList = ([195, 169] : List UInt8) then (if bt677.2 = 0 then (some (bt677.1 == 233)) else (some false)) else (some false)) else (some false))) = some r := H
 have A3 := zk A30
 clear A30
 obtain ⟨y674, hy674⟩ : ∃ y_ : List Int, y_ = (([195, 169] : List Int)) := ⟨_, rfl⟩
 replace H : ((code_Decode.f k t671 y674).bind fun bt677 => (if t670 = 0 then (if (strOfNums t667).toList = ([195, 169] : List UInt8) then (if bt677.2 = 0 then (some (bt677.1 == 233)) else (some false)) else (some false)) else (some false))) = some r := by first | (rw [hy674]; with_reducible exact H) | (have H2_ := (Option.bind_some _ _).symm.trans H; rw [hy674]; with_reducible exact H2_) | (have H2_ := (Option.bind_some _ _).symm.trans H; with_reducible exact H2_) | with_reducible exact H | (rw [hy674]; exact H) | exact H
 have Ny674 := zk hy674
 clear hy674
 replace H := Option.bind_eq_some_iff.mp H
 obtain ⟨⟨t677, t678⟩, A40, H⟩ := H
 replace H : (if t670 = 0 then (if (strOfNums t667).toList = ([195, 169] : List UInt8) then (if t678 = 0 then (some (t677 == 233)) else (some false)) else (some false)) else (some false)) = some r := H
 have A4 := zk A40
 clear A40
 by_cases c5 : t670 = 0
 ·rw [if_pos c5] at H
  have c5b0 : (t670 == 0) = true := beq_iff_eq.mpr c5
  have c5b1 : (t670 != 0) = false := bne_eq_false_iff_eq.mpr c5
  clear c5
  by_cases c6 : (strOfNums t667).toList = ([195, 169] : List UInt8)
  ·rw [if_pos c6] at H
   have c6b0 : ((strOfNums t667).toList == ([195, 169] : List UInt8)) = true := beq_iff_eq.mpr c6
   have c6b1 : ((strOfNums t667).toList != ([195, 169] : List UInt8)) = false := bne_eq_false_iff_eq.mpr c6
   clear c6
   by_cases c7 : t678 = 0
   ·rw [if_pos c7] at H
    have c7b0 : (t678 == 0) = true := beq_iff_eq.mpr c7
    have c7b1 : (t678 != 0) = false := bne_eq_false_iff_eq.mpr c7
    clear c7
    obtain rfl := Option.some.inj H
    go_enter Try.func68, Try.ntmps68
    go_wp2_with (first | ((with_reducible refine gate_callee (f := 112) rfl ?_); refine goesL_ (some 6) rfl rfl Try.func112 (by kernel_rfl) rfl #[] rfl zM ?_; (with_reducible refine (leadtraillaw10_some.calls  t664 _ A1.out).mono ?_); rintro e w8 ⟨v665, rfl, ho0, hb⟩; refine ⟨_, rfl, ?_⟩; have n0_ := zk (Kd.N_lower (Kd.N_mono (ok' := fun k_ => True) ho0 (fun k_ hk_ => trivial)) (below_size (zU HB.out))); have n1_ := zk (below_step (zU HB.out) hb); clear HB; have HO666 := n0_; have HB := n1_; clear n0_ n1_; (try clear hb); (try clear hb2); (try clear hk); (try clear hi); (try clear ho0); obtain ⟨Ao9, co9, eo9⟩ := Kd.N_slice HO666.out; subst eo9) | ((with_reducible refine gate_callee (f := 65) rfl ?_); refine goesL_ (some 7) rfl rfl Try.func65 (by kernel_rfl) rfl #[.agg #[.slice Ao9 t664.length co9], .int .i64 233] rfl zM ?_; (with_reducible refine (code_Encode.calls k _ _ t664 233 t667 t670 _ ?side1 ?side2 A2.out).mono ?_); (case side1 => repeat (first | exact (Kd.N_reads' HO666.out).2.2 | (with_reducible refine Kd.C_alloc ?_ _) | (with_reducible refine Kd.C_drewN ?_ _) | (with_reducible refine Kd.C_drew ?_))); (case side2 => exact (Kd.N_reads' HO666.out).2.1); rintro e w10 ⟨v668, rfl, ho0, hb⟩; refine ⟨_, rfl, ?_⟩; have n0_ := zk (Kd.N_elder' (zn HO666.out) (Kd.R_base ho0) hb); have n1_ := zk (Kd.R_lower ho0 (below_size (zU HB.out))); have n2_ := zk (below_step (zU HB.out) hb); clear HO666; clear HB; have HO666 := n0_; have HO669 := n1_; have HB := n2_; clear n0_ n1_ n2_; (try clear hb); (try clear hb2); (try clear hk); (try clear hi); (try clear ho0)) | ((with_reducible refine gate_callee (f := 112) rfl ?_); refine goesL_ (some 11) rfl rfl Try.func112 (by kernel_rfl) rfl #[] rfl zM ?_; (with_reducible refine (leadtraillaw10_some.calls  t671 _ A3.out).mono ?_); rintro e w11 ⟨v672, rfl, ho0, hb⟩; refine ⟨_, rfl, ?_⟩; have n0_ := zk (Kd.N_elder' (zn HO666.out) (Kd.N_base ho0) hb); have n1_ := zk (Kd.R_below (zr HO669.out) hb); have n2_ := zk (Kd.N_lower (Kd.N_mono (ok' := fun k_ => some k_ ≠ (.slice Ao9 t664.length co9 : Value).ownBlock ∧ some k_ ≠ (v668 : Value).ownBlock) ho0 (fun k_ hk_ => ⟨(Kd.fresh' (Kd.N_lt (zn HO666.out)) k_ hk_), (Kd.fresh' (Kd.R_lt (zr HO669.out)) k_ hk_)⟩)) (below_size (zU HB.out))); have n3_ := zk (below_step (zU HB.out) hb); clear HO666; clear HO669; clear HB; have HO666 := n0_; have HO669 := n1_; have HO673 := n2_; have HB := n3_; clear n0_ n1_ n2_ n3_; (try clear hb); (try clear hb2); (try clear hk); (try clear hi); (try clear ho0)) | ((with_reducible refine gate_dst (N := 12) rfl ?_); refine Kd.R_lit (Kd.int .u8) _ 5 ?hg (N := 12) ?hd (xs := ([195, 169] : List Int)) (inner := [.int .u8 195, .int .u8 169]) (ok := fun _ => True) (okp := fun _ => True) ?hr ?hp (fun _ hk => hk) trivial (Below.refl _ _) (Nat.le_refl _) (by simp) ?_; (case hd => rfl); (case hg => rfl); (case hr => first | (go_simp; done) | (go_simp; rfl)); (case hp => exact (Reps.one (show Kd.M (Kd.int .u8) _ _ _ 195 [.int .u8 195] from rfl) (Reps.one (show Kd.M (Kd.int .u8) _ _ _ 169 [.int .u8 169] from rfl) (Reps.none _ _)))); intro v675 w12 ho13 hb hg_ hnew_; clear hg_ hnew_; (first | rw [← Ny674.out] at ho13 | (simp only [Int.reduceToNat] at ho13; rw [← Ny674.out] at ho13)); have n0_ := zk (Kd.N_elder' (zn HO666.out) (Kd.R_base ho13) hb); have n1_ := zk (Kd.R_elder' (zr HO669.out) (Kd.R_base ho13) hb); have n2_ := zk (Kd.N_elder' (zn HO673.out) (Kd.R_base ho13) hb); have n3_ := zk (Kd.R_lower (Kd.R_new' ho13 (Kd.R_lt (zr HO669.out))) (below_size (zU HB.out))); have n4_ := zk (below_step (zU HB.out) hb); clear HO666; clear HO669; clear HO673; clear HB; have HO666 := n0_; have HO669 := n1_; have HO673 := n2_; have HO676 := n3_; have HB := n4_; clear n0_ n1_ n2_ n3_ n4_; clear hb ho13; obtain ⟨Ao14, co14, eo14⟩ := Kd.N_slice HO673.out; subst eo14; obtain ⟨Ao15, co15, eo15⟩ := Kd.R_slice HO676.out; subst eo15) | ((with_reducible refine gate_dst (N := 13) rfl ?_); refine R_mark rfl (N := 13) rfl 52 5 _ rfl (A := Ao15) (n := y674.length) (c := co15) (l := y674) (by first | rfl | (go_simp; done) | (go_simp; rfl)) Try.underlying52 Try.underlying5 HO676.out (by rw [Ny674.out]; decide) HB.out HB.out.size ?_; intro w9013 hC_ hL_ hk_ hB_; have HCm := zk hC_; have HLm := zk hL_; have n1_ := zk (Kd.R_kept HO669.out hk_ (fun k ho e => ho.2 e)); have n2_ := zk (Kd.N_kept HO673.out hk_ (fun k ho e => ho.2 e)); have n3_ := zk hB_; clear HO666 HO669 HO673 HO676 HB hk_ hC_ hL_ hB_; have HO669 := n1_; have HO673 := n2_; have HB := n3_; clear n1_ n2_ n3_) | ((with_reducible refine gate_callee (f := 69) rfl ?_); refine goesL_ (some 14) rfl rfl Try.func69 (by kernel_rfl) rfl #[.agg #[.slice Ao14 t671.length co14], .slice Ao15 y674.length co15] rfl zM ?_; (with_reducible refine (code_Decode.calls k _ _ t671 _ _ y674 t677 t678 _ ?side1 ?side2 ?side3 ?side4 A4.out).mono ?_); (case side1 => repeat (first | exact (Kd.N_reads' HO673.out).2.2 | (with_reducible refine Kd.C_alloc ?_ _) | (with_reducible refine Kd.C_drewN ?_ _) | (with_reducible refine Kd.C_drew ?_))); (case side2 => exact (Kd.N_reads' HO673.out).2.1); (case side3 => exact zc HCm.out); (case side4 => exact HLm.out); rintro e w16 ⟨rfl, hb⟩; refine ⟨_, rfl, ?_⟩; have n1_ := zk (Kd.R_below (zr HO669.out) hb); have n2_ := zk (Kd.N_below (zn HO673.out) hb); have n4_ := zk (below_step (zU HB.out) hb); clear HO669; clear HO673; clear HB; have HO669 := n1_; have HO673 := n2_; have HB := n4_; clear n1_ n2_ n4_; (try clear hb); (try clear hb2); (try clear hk); (try clear hi); have hcv17 := own_string (P := Try.prog) Try.underlying52 Try.underlying5 Try.underlying9 (Kd.own_of_R HO669.out)))
    go_ret
    exact ⟨by first | rfl | (simp [errW_none, errW_some] <;> rfl) | (simp [*, errW_none, errW_some] <;> rfl), zU HB.out⟩
   ·rw [if_neg c7] at H
    have c7b0 : (t678 == 0) = false := beq_eq_false_iff_ne.mpr c7
    have c7b1 : (t678 != 0) = true := bne_iff_ne.mpr c7
    exact absurd ((Option.some.inj H).trans hr) Bool.false_ne_true
  ·rw [if_neg c6] at H
   have c6b0 : ((strOfNums t667).toList == ([195, 169] : List UInt8)) = false := beq_eq_false_iff_ne.mpr c6
   have c6b1 : ((strOfNums t667).toList != ([195, 169] : List UInt8)) = true := bne_iff_ne.mpr c6
   exact absurd ((Option.some.inj H).trans hr) Bool.false_ne_true
 ·rw [if_neg c5] at H
  have c5b0 : (t670 == 0) = false := beq_eq_false_iff_ne.mpr c5
  have c5b1 : (t670 != 0) = true := bne_iff_ne.mpr c5
  exact absurd ((Option.some.inj H).trans hr) Bool.false_ne_true
def leadtraillaw10_CodeBack.j0 : Nat → List Int → Int → List (S50) → Option (Bool)
 | 0, _, _, _ => none
 | k + 1, x2, x8, x680000 => (code_Decode.f k x680000 x2).bind fun bt691 => (if bt691.2 = 0 then ((code_Encode.f k x680000 bt691.1).bind fun bt693 => (if bt693.2 = 0 then (some ((strOfNums bt693.1).toList == (strOfNums x2).toList)) else (none))) else (if bt691.1 = 0 then (some ((bt691.2 == 84) == (x8 == 84))) else (none)))
def leadtraillaw10_CodeBack.f (k : Nat) (l0_0 : List (S50)) (a1 : Int) (l2 : List Int) : Option (Bool) := (leadtraillaw10_fixed.f k).bind fun t680 => (if t680 = true then ((code_Encode.f k l0_0 a1).bind fun bt681 => (if bt681.2 = 0 then ((code_Decode.f k l0_0 bt681.1).bind fun bt685 => ((code_Encode.f k l0_0 bt685.1).bind fun bt687 => (if bt685.2 = 0 then (if bt687.2 = 0 then (if bt685.1 > a1 then (none) else (if bt685.1 < 0 then (none) else (if (strOfNums bt687.1).toList = (strOfNums bt681.1).toList then (if (bt681.1.length : Int) < 1 then (none) else (if (bt681.1.length : Int) > 8 then (none) else (leadtraillaw10_CodeBack.j0 k l2 bt681.2 l0_0))) else (none)))) else (none)) else (none)))) else (leadtraillaw10_CodeBack.j0 k l2 bt681.2 l0_0))) else (none))
set_option maxHeartbeats 8000000 in
set_option maxRecDepth 100000 in
theorem leadtraillaw10_CodeBack.calls (k : Nat) (A0_0 : Option Addr) (c0_0 : Nat) (l0_0 : List (S50)) (a1 : Int) (A2 : Option Addr) (c2 : Nat) (l2 : List Int) (r : Bool) (w : World) (hr0_0 : Kd.C k50 w A0_0 l0_0.length l0_0) (hc0_0 : l0_0.length ≤ c0_0) (hr2 : Kd.C (Kd.int .u8) w A2 l2.length l2) (hc2 : l2.length ≤ c2) (h : leadtraillaw10_CodeBack.f k l0_0 a1 l2 = some r) :
  Calls Try.prog 15 #[.agg #[.slice A0_0 l0_0.length c0_0], .int .i64 a1, .slice A2 l2.length c2] w fun e w' => e = .returned (.bool r) ∧ Below w.heap.size w w' := by
 have hu24 := Try.underlying24
 have HR0_0 := zk hr0_0
 have HC0_0 := zk hc0_0
 clear hr0_0 hc0_0
 have HR2 := zk hr2
 have HC2 := zk hc2
 clear hr2 hc2
 have HB := zk (Below.refl w.heap.size w)
 have H : ((leadtraillaw10_fixed.f k).bind fun t680 => (if t680 = true then ((code_Encode.f k l0_0 a1).bind fun bt681 => (if bt681.2 = 0 then ((code_Decode.f k l0_0 bt681.1).bind fun bt685 => ((code_Encode.f k l0_0 bt685.1).bind fun bt687 => (if bt685.2 = 0 then (if bt687.2 = 0 then (if bt685.1 > a1 then (none) else (if bt685.1 < 0 then (none) else (if (strOfNums bt687.1).toList = (strOfNums bt681.1).toList then (if (bt681.1.length : Int) < 1 then (none) else (if (bt681.1.length : Int) > 8 then (none) else (leadtraillaw10_CodeBack.j0 k l2 bt681.2 l0_0))) else (none)))) else (none)) else (none)))) else (leadtraillaw10_CodeBack.j0 k l2 bt681.2 l0_0))) else (none))) = some r := h
 clear h
 replace H := Option.bind_eq_some_iff.mp H
 obtain ⟨t680, A40, H⟩ := H
 replace H : (if t680 = true then ((code_Encode.f k l0_0 a1).bind fun bt681 => (if bt681.2 = 0 then ((code_Decode.f k l0_0 bt681.1).bind fun bt685 => ((code_Encode.f k l0_0 bt685.1).bind fun bt687 => (if bt685.2 = 0 then (if bt687.2 = 0 then (if bt685.1 > a1 then (none) else (if bt685.1 < 0 then (none) else (if (strOfNums bt687.1).toList = (strOfNums bt681.1).toList then (if (bt681.1.length : Int) < 1 then (none) else (if (bt681.1.length : Int) > 8 then (none) else (leadtraillaw10_CodeBack.j0 k l2 bt681.2 l0_0))) else (none)))) else (none)) else (none)))) else (leadtraillaw10_CodeBack.j0 k l2 bt681.2 l0_0))) else (none)) = some r := H
 have A4 := zk A40
 clear A40
 by_cases c5 : t680 = true
 ·subst c5
  have H1 : ((code_Encode.f k l0_0 a1).bind fun bt681 => (if bt681.2 = 0 then ((code_Decode.f k l0_0 bt681.1).bind fun bt685 => ((code_Encode.f k l0_0 bt685.1).bind fun bt687 => (if bt685.2 = 0 then (if bt687.2 = 0 then (if bt685.1 > a1 then (none) else (if bt685.1 < 0 then (none) else (if (strOfNums bt687.1).toList = (strOfNums bt681.1).toList then (if (bt681.1.length : Int) < 1 then (none) else (if (bt681.1.length : Int) > 8 then (none) else (leadtraillaw10_CodeBack.j0 k l2 bt681.2 l0_0))) else (none)))) else (none)) else (none)))) else (leadtraillaw10_CodeBack.j0 k l2 bt681.2 l0_0))) = some r := by rw [if_pos rfl] at H; exact H
  clear H
  have H := H1
  clear H1
  replace H := Option.bind_eq_some_iff.mp H
  obtain ⟨⟨t681, t684⟩, A60, H⟩ := H
  replace H : (if t684 = 0 then ((code_Decode.f k l0_0 t681).bind fun bt685 => ((code_Encode.f k l0_0 bt685.1).bind fun bt687 => (if bt685.2 = 0 then (if bt687.2 = 0 then (if bt685.1 > a1 then (none) else (if bt685.1 < 0 then (none) else (if (strOfNums bt687.1).toList = (strOfNums t681).toList then (if (t681.length : Int) < 1 then (none) else (if (t681.length : Int) > 8 then (none) else (leadtraillaw10_CodeBack.j0 k l2 t684 l0_0))) else (none)))) else (none)) else (none)))) else (leadtraillaw10_CodeBack.j0 k l2 t684 l0_0)) = some r := H
  have A6 := zk A60
  clear A60
  have HC7 := zk H
  clear H
  go_enter Try.func15, Try.ntmps15
  go_upto_if 26 with (first | ((with_reducible refine gate_dst (N := 3) rfl ?_); (try (refine gate_guard (by rfl) ?_; dsimp only)); refine box_event ?hg (N := 3) ?hd (cs := #[.slice A0_0 l0_0.length c0_0]) (t := 24) ?hr ?_; (case hd => rfl); (case hg => rfl); (case hr => first | (go_simp; done) | (go_simp; rfl)); intro gb679 hg w8 hbox hb; have n0_ := zk (below_step (zU HB.out) hb); have n1_ := zk (hbox); have n2_ := zk ((by rw [hg]; exact (below_size (zU HB.out)) : w.heap.size ≤ gb679)); have n3_ := zk ((by rw [hg]; exact (below_size (zU HB.out)) : w.heap.size ≤ gb679)); clear HB; have HB := n0_; have BK679 := n1_; have GW679 := n2_; have GE679 := n3_; clear n0_ n1_ n2_ n3_; clear hb hbox hg) | ((with_reducible refine gate_callee (f := 68) rfl ?_); refine goesL_ (some 17) rfl rfl Try.func68 (by kernel_rfl) rfl #[] rfl zM ?_; (with_reducible refine (leadtraillaw10_fixed.calls k  true _ A4.out rfl).mono ?_); rintro e w9 ⟨rfl, hb⟩; refine ⟨_, rfl, ?_⟩; have n0_ := zk (zbb BK679.out hb); have n1_ := zk (below_step (zU HB.out) hb); clear BK679; clear HB; have BK679 := n0_; have HB := n1_; clear n0_ n1_; (try clear hb); (try clear hb2); (try clear hk); (try clear hi); have hcz10_0 : w9.cell? ⟨gb679, 0, none⟩ = some (.slice A0_0 l0_0.length c0_0) := (blk_cell BK679.out 0).trans rfl; have hfz10_0 := blk_frozen BK679.out 0) | ((with_reducible refine gate_callee (f := 65) rfl ?_); refine goesL_ (some 22) rfl rfl Try.func65 (by kernel_rfl) rfl #[.agg #[.slice A0_0 l0_0.length c0_0], .int .i64 a1] rfl zM ?_; (with_reducible refine (code_Encode.calls k _ _ l0_0 a1 t681 t684 _ ?side1 ?side2 A6.out).mono ?_); (case side1 => exact zc (Kd.C_below HR0_0.out HB.out)); (case side2 => exact HC0_0.out); rintro e w11 ⟨v682, rfl, ho0, hb⟩; refine ⟨_, rfl, ?_⟩; have n0_ := zk (Kd.R_lower ho0 (below_size (zU HB.out))); have n1_ := zk (zbb BK679.out hb); have n2_ := zk (below_step (zU HB.out) hb); clear BK679; clear HB; have HO683 := n0_; have BK679 := n1_; have HB := n2_; clear n0_ n1_ n2_; (try clear hb); (try clear hb2); (try clear hk); (try clear hi); (try clear ho0)))
  (try simp only [Act.put, List.setIfInBounds_toArray, List.set_cons_zero, List.set_cons_succ])
  go_cut [] (fun wc => ∃ (kq : Nat), Aside0 (leadtraillaw10_CodeBack.j0 kq l2 t684 l0_0 = some r) ∧ Aside0 (kq ≤ k) ∧ Aside0 (wc.heap[gb679]? = some (.cells #[(.slice A0_0 l0_0.length c0_0)] 24 (0, 0))) ∧ Aside0 (Below w.heap.size w wc))
  case first =>
   have H := HC7.out
   clear HC7
   by_cases c12 : t684 = 0
   ·rw [if_pos c12] at H
    have c12b0 : (t684 == 0) = true := beq_iff_eq.mpr c12
    have c12b1 : (t684 != 0) = false := bne_eq_false_iff_eq.mpr c12
    clear c12
    (first | rw [c12b0] | (simp only [i64_w, i32_w]; rw [c12b0]) | skip)
    replace H := Option.bind_eq_some_iff.mp H
    obtain ⟨⟨t685, t686⟩, A130, H⟩ := H
    replace H : ((code_Encode.f k l0_0 t685).bind fun bt687 => (if t686 = 0 then (if bt687.2 = 0 then (if t685 > a1 then (none) else (if t685 < 0 then (none) else (if (strOfNums bt687.1).toList = (strOfNums t681).toList then (if (t681.length : Int) < 1 then (none) else (if (t681.length : Int) > 8 then (none) else (leadtraillaw10_CodeBack.j0 k l2 t684 l0_0))) else (none)))) else (none)) else (none))) = some r := H
    have A13 := zk A130
    clear A130
    replace H := Option.bind_eq_some_iff.mp H
    obtain ⟨⟨t687, t690⟩, A140, H⟩ := H
    replace H : (if t686 = 0 then (if t690 = 0 then (if t685 > a1 then (none) else (if t685 < 0 then (none) else (if (strOfNums t687).toList = (strOfNums t681).toList then (if (t681.length : Int) < 1 then (none) else (if (t681.length : Int) > 8 then (none) else (leadtraillaw10_CodeBack.j0 k l2 t684 l0_0))) else (none)))) else (none)) else (none)) = some r := H
    have A14 := zk A140
    clear A140
    by_cases c15 : t686 = 0
    ·rw [if_pos c15] at H
     have c15b0 : (t686 == 0) = true := beq_iff_eq.mpr c15
     have c15b1 : (t686 != 0) = false := bne_eq_false_iff_eq.mpr c15
     clear c15
     by_cases c16 : t690 = 0
     ·rw [if_pos c16] at H
      have c16b0 : (t690 == 0) = true := beq_iff_eq.mpr c16
      have c16b1 : (t690 != 0) = false := bne_eq_false_iff_eq.mpr c16
      clear c16
      by_cases c17 : t685 > a1
      ·rw [if_pos c17] at H
       exact absurd H (by simp)
      ·rw [if_neg c17] at H
       have c17b0 : decide (a1 < t685) = false := decide_eq_false c17
       clear c17
       by_cases c18 : t685 < 0
       ·rw [if_pos c18] at H
        exact absurd H (by simp)
       ·rw [if_neg c18] at H
        have c18b0 : decide (t685 < 0) = false := decide_eq_false c18
        clear c18
        by_cases c19 : (strOfNums t687).toList = (strOfNums t681).toList
        ·rw [if_pos c19] at H
         have c19b0 : ((strOfNums t687).toList == (strOfNums t681).toList) = true := beq_iff_eq.mpr c19
         have c19b1 : ((strOfNums t687).toList != (strOfNums t681).toList) = false := bne_eq_false_iff_eq.mpr c19
         clear c19
         by_cases c20 : (t681.length : Int) < 1
         ·rw [if_pos c20] at H
          exact absurd H (by simp)
         ·rw [if_neg c20] at H
          have c20b0 : decide ((t681.length : Int) < 1) = false := decide_eq_false c20
          have c20b1 : decide (t681.length < 1) = false := decide_eq_false (by omega)
          clear c20
          by_cases c21 : (t681.length : Int) > 8
          ·rw [if_pos c21] at H
           exact absurd H (by simp)
          ·rw [if_neg c21] at H
           have c21b0 : decide (8 < (t681.length : Int)) = false := decide_eq_false c21
           have c21b1 : decide (8 < t681.length) = false := decide_eq_false (by omega)
           clear c21
           have H' := zk H
           clear H
           have hcz22_0 : w11.cell? ⟨gb679, 0, none⟩ = some (.slice A0_0 l0_0.length c0_0) := (blk_cell BK679.out 0).trans rfl
           have hfz22_0 := blk_frozen BK679.out 0
           obtain ⟨Ao23, co23, eo23⟩ := Kd.R_slice HO683.out
           subst eo23
           go_wp2_with (first | ((with_reducible refine gate_callee (f := 69) rfl ?_); refine goesL_ (some 30) rfl rfl Try.func69 (by kernel_rfl) rfl #[.agg #[.slice A0_0 l0_0.length c0_0], .slice Ao23 t681.length co23] rfl zM ?_; (with_reducible refine (code_Decode.calls k _ _ l0_0 _ _ t681 t685 t686 _ ?side1 ?side2 ?side3 ?side4 A13.out).mono ?_); (case side1 => exact zc (Kd.C_below HR0_0.out HB.out)); (case side2 => exact HC0_0.out); (case side3 => repeat (first | exact (Kd.R_reads' HO683.out).2.2 | (with_reducible refine Kd.C_alloc ?_ _) | (with_reducible refine Kd.C_drewN ?_ _) | (with_reducible refine Kd.C_drew ?_))); (case side4 => exact (Kd.R_reads' HO683.out).2.1); rintro e w24 ⟨rfl, hb⟩; refine ⟨_, rfl, ?_⟩; have n0_ := zk (Kd.R_below (zr HO683.out) hb); have n1_ := zk (zbb BK679.out hb); have n2_ := zk (below_step (zU HB.out) hb); clear HO683; clear BK679; clear HB; have HO683 := n0_; have BK679 := n1_; have HB := n2_; clear n0_ n1_ n2_; (try clear hb); (try clear hb2); (try clear hk); (try clear hi); have hcz25_0 : w24.cell? ⟨gb679, 0, none⟩ = some (.slice A0_0 l0_0.length c0_0) := (blk_cell BK679.out 0).trans rfl; have hfz25_0 := blk_frozen BK679.out 0) | ((with_reducible refine gate_callee (f := 65) rfl ?_); refine goesL_ (some 36) rfl rfl Try.func65 (by kernel_rfl) rfl #[.agg #[.slice A0_0 l0_0.length c0_0], .int .i64 t685] rfl zM ?_; (with_reducible refine (code_Encode.calls k _ _ l0_0 t685 t687 t690 _ ?side1 ?side2 A14.out).mono ?_); (case side1 => exact zc (Kd.C_below HR0_0.out HB.out)); (case side2 => exact HC0_0.out); rintro e w26 ⟨v688, rfl, ho0, hb⟩; refine ⟨_, rfl, ?_⟩; have n0_ := zk (Kd.R_elder' (zr HO683.out) (Kd.R_base ho0) hb); have n1_ := zk (Kd.R_lower (Kd.R_new' ho0 (Kd.R_lt (zr HO683.out))) (below_size (zU HB.out))); have n2_ := zk (zbb BK679.out hb); have n3_ := zk (below_step (zU HB.out) hb); clear HO683; clear BK679; clear HB; have HO683 := n0_; have HO689 := n1_; have BK679 := n2_; have HB := n3_; clear n0_ n1_ n2_ n3_; (try clear hb); (try clear hb2); (try clear hk); (try clear hi); (try clear ho0); have hcv27 := own_string (P := Try.prog) Try.underlying52 Try.underlying5 Try.underlying9 (Kd.own_of_R HO689.out); have hcv28 := own_string (P := Try.prog) Try.underlying52 Try.underlying5 Try.underlying9 (Kd.own_of_R HO683.out)))
           go_meet
           case rel => exact ⟨_, H', ⟨by first | omega | exact Nat.le_refl _⟩, ⟨by exact zb BK679.out⟩, ⟨zU HB.out⟩⟩
        ·rw [if_neg c19] at H
         exact absurd H (by simp)
     ·rw [if_neg c16] at H
      exact absurd H (by simp)
    ·rw [if_neg c15] at H
     exact absurd H (by simp)
   ·rw [if_neg c12] at H
    have c12b0 : (t684 == 0) = false := beq_eq_false_iff_ne.mpr c12
    have c12b1 : (t684 != 0) = true := bne_iff_ne.mpr c12
    (first | rw [c12b0] | (simp only [i64_w, i32_w]; rw [c12b0]) | skip)
    have H' := zk H
    clear H
    go_wp2
    go_meet
    case rel => exact ⟨_, H', ⟨by first | omega | exact Nat.le_refl _⟩, ⟨by exact zb BK679.out⟩, ⟨zU HB.out⟩⟩
  case rest =>
   clear HC7
   try clear c1
   try clear c2
   try clear p2
   try clear hcv2
   try clear c5
   try clear c6
   try clear c12
   try clear c12b0
   try clear c12b1
   try clear c15
   try clear c15b0
   try clear c15b1
   try clear c16
   try clear c16b0
   try clear c16b1
   try clear c17
   try clear c17b0
   try clear c18
   try clear c18b0
   try clear c19
   try clear c19b0
   try clear c19b1
   try clear c20
   try clear c20b0
   try clear c20b1
   try clear c21
   try clear c21b0
   try clear c21b1
   try clear hcv27
   try clear hcv28
   try clear hcz10_0
   try clear hcz22_0
   try clear hcz25_0
   try clear hfz10_0
   try clear hfz22_0
   try clear hfz25_0
   obtain ⟨kq, HA, HJ6, BK679, HB⟩ := hcut
   cases kq with
   | zero => exact absurd HA.out (by simp [leadtraillaw10_CodeBack.j0])
   | succ kj6 =>
    have H := HA.out
    clear HA
    simp only [leadtraillaw10_CodeBack.j0] at H
    replace H := Option.bind_eq_some_iff.mp H
    obtain ⟨⟨t691, t692⟩, A290, H⟩ := H
    replace H : (if t692 = 0 then ((code_Encode.f kj6 l0_0 t691).bind fun bt693 => (if bt693.2 = 0 then (some ((strOfNums bt693.1).toList == (strOfNums l2).toList)) else (none))) else (if t691 = 0 then (some ((t692 == 84) == (t684 == 84))) else (none))) = some r := H
    have A29 := zk A290
    clear A290
    by_cases c30 : t692 = 0
    ·rw [if_pos c30] at H
     have c30b0 : (t692 == 0) = true := beq_iff_eq.mpr c30
     have c30b1 : (t692 != 0) = false := bne_eq_false_iff_eq.mpr c30
     clear c30
     replace H := Option.bind_eq_some_iff.mp H
     obtain ⟨⟨t693, t696⟩, A310, H⟩ := H
     replace H : (if t696 = 0 then (some ((strOfNums t693).toList == (strOfNums l2).toList)) else (none)) = some r := H
     have A31 := zk A310
     clear A310
     by_cases c32 : t696 = 0
     ·rw [if_pos c32] at H
      have c32b0 : (t696 == 0) = true := beq_iff_eq.mpr c32
      have c32b1 : (t696 != 0) = false := bne_eq_false_iff_eq.mpr c32
      clear c32
      obtain rfl := Option.some.inj H
      have hcz33_0 : wc.cell? ⟨gb679, 0, none⟩ = some (.slice A0_0 l0_0.length c0_0) := (blk_cell BK679.out 0).trans rfl
      have hfz33_0 := blk_frozen BK679.out 0
      go_wp2_with (first | ((with_reducible refine gate_callee (f := 69) rfl ?_); refine goesL_ (some 74) rfl rfl Try.func69 (by kernel_rfl) rfl #[.agg #[.slice A0_0 l0_0.length c0_0], .slice A2 l2.length c2] rfl zM ?_; (with_reducible refine (code_Decode.calls kj6 _ _ l0_0 _ _ l2 t691 t692 _ ?side1 ?side2 ?side3 ?side4 A29.out).mono ?_); (case side1 => exact zc (Kd.C_below HR0_0.out HB.out)); (case side2 => exact HC0_0.out); (case side3 => exact zc (Kd.C_below HR2.out HB.out)); (case side4 => exact HC2.out); rintro e w34 ⟨rfl, hb⟩; refine ⟨_, rfl, ?_⟩; have n0_ := zk (zbb BK679.out hb); have n1_ := zk (below_step (zU HB.out) hb); clear BK679; clear HB; have BK679 := n0_; have HB := n1_; clear n0_ n1_; (try clear hb); (try clear hb2); (try clear hk); (try clear hi); have hcz35_0 : w34.cell? ⟨gb679, 0, none⟩ = some (.slice A0_0 l0_0.length c0_0) := (blk_cell BK679.out 0).trans rfl; have hfz35_0 := blk_frozen BK679.out 0) | ((with_reducible refine gate_callee (f := 65) rfl ?_); refine goesL_ (some 91) rfl rfl Try.func65 (by kernel_rfl) rfl #[.agg #[.slice A0_0 l0_0.length c0_0], .int .i64 t691] rfl zM ?_; (with_reducible refine (code_Encode.calls kj6 _ _ l0_0 t691 t693 t696 _ ?side1 ?side2 A31.out).mono ?_); (case side1 => exact zc (Kd.C_below HR0_0.out HB.out)); (case side2 => exact HC0_0.out); rintro e w36 ⟨v694, rfl, ho0, hb⟩; refine ⟨_, rfl, ?_⟩; have n0_ := zk (Kd.R_lower ho0 (below_size (zU HB.out))); have n1_ := zk (zbb BK679.out hb); have n2_ := zk (below_step (zU HB.out) hb); clear BK679; clear HB; have HO695 := n0_; have BK679 := n1_; have HB := n2_; clear n0_ n1_ n2_; (try clear hb); (try clear hb2); (try clear hk); (try clear hi); (try clear ho0); have hcv37 := own_string (P := Try.prog) Try.underlying52 Try.underlying5 Try.underlying9 (Kd.own_of_R HO695.out); have hcv38 := Kd.C_string (P := Try.prog) (A := A2) (c := c2) Try.underlying52 Try.underlying5 Try.underlying9 (Kd.C_below HR2.out HB.out)))
      go_ret
      exact ⟨by first | rfl | (simp [errW_none, errW_some] <;> rfl) | (simp [*, errW_none, errW_some] <;> rfl), zU HB.out⟩
     ·rw [if_neg c32] at H
      exact absurd H (by simp)
    ·rw [if_neg c30] at H
     have c30b0 : (t692 == 0) = false := beq_eq_false_iff_ne.mpr c30
     have c30b1 : (t692 != 0) = true := bne_iff_ne.mpr c30
     by_cases c39 : t691 = 0
     ·rw [if_pos c39] at H
      have c39b0 : (t691 == 0) = true := beq_iff_eq.mpr c39
      have c39b1 : (t691 != 0) = false := bne_eq_false_iff_eq.mpr c39
      clear c39
      obtain rfl := Option.some.inj H
      have hcz40_0 : wc.cell? ⟨gb679, 0, none⟩ = some (.slice A0_0 l0_0.length c0_0) := (blk_cell BK679.out 0).trans rfl
      have hfz40_0 := blk_frozen BK679.out 0
      go_wp2_with (first | ((with_reducible refine gate_callee (f := 69) rfl ?_); refine goesL_ (some 74) rfl rfl Try.func69 (by kernel_rfl) rfl #[.agg #[.slice A0_0 l0_0.length c0_0], .slice A2 l2.length c2] rfl zM ?_; (with_reducible refine (code_Decode.calls kj6 _ _ l0_0 _ _ l2 t691 t692 _ ?side1 ?side2 ?side3 ?side4 A29.out).mono ?_); (case side1 => exact zc (Kd.C_below HR0_0.out HB.out)); (case side2 => exact HC0_0.out); (case side3 => exact zc (Kd.C_below HR2.out HB.out)); (case side4 => exact HC2.out); rintro e w41 ⟨rfl, hb⟩; refine ⟨_, rfl, ?_⟩; have n0_ := zk (zbb BK679.out hb); have n1_ := zk (below_step (zU HB.out) hb); clear BK679; clear HB; have BK679 := n0_; have HB := n1_; clear n0_ n1_; (try clear hb); (try clear hb2); (try clear hk); (try clear hi)))
      go_ret
      exact ⟨by first | rfl | (simp [errW_none, errW_some] <;> rfl) | (simp [*, errW_none, errW_some] <;> rfl), zU HB.out⟩
     ·rw [if_neg c39] at H
      exact absurd H (by simp)
 ·replace c5 := Bool.eq_false_iff.mpr c5
  subst c5
  have H1 : (none) = some r := by rw [if_neg (show ¬ (false = true) by decide)] at H; exact H
  clear H
  have H := H1
  clear H1
  exact absurd H (by simp)
end Go.Proofs.Ytkcklnmbeinfkaa.B
