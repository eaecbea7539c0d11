/- Words and walks of this claim, of the text Bx13. -/
import Derived.Test.YtkcklnmbeinfkaaKdZq
import Derived.Test.YtkcklnmbeinfkaaKdBx0
import Derived.Test.YtkcklnmbeinfkaaKdBx11
import Derived.Test.YtkcklnmbeinfkaaKdBx12
namespace Go.Proofs.Ytkcklnmbeinfkaa.B
open Go.RowKit Go.Proofs.YtkcklnmbeinfkaaW.PrintWords Go.Proofs.YtkcklnmbeinfkaaW.PrintLast Go.Proofs.YtkcklnmbeinfkaaW.PrintMore
attribute [local go_sem] max2_int min2_int max_two min_two max_three min_three max_four min_four
set_option linter.unusedVariables false
set_option linter.unusedSimpArgs false
mutual
def leadtrailref09_Rank.j0 : Nat → List Int → Bool → List (List (S113)) → Int → Option (Int × Bool)
 | 0, _, _, _, _ => none
 | k + 1, x1, x20, x375000, x375001 => if x20 = true then (some (0, false)) else (leadtrailref09_Rank.l0 k x1 0 0 x375000 x375001)
def leadtrailref09_Rank.l0 : Nat → List Int → Int → Int → List (List (S113)) → Int → Option (Int × Bool)
 | 0, _, _, _, _, _ => none
 | k + 1, x1, x6, x7, x375000, x375001 => if x7 < (x1.length : Int) then (if 0 ≤ x7 then (if x7 < (x375000.length : Int) then ((leadtrailref03_Rank.f k (rd_L4 x375000 x7) (wrap64 (rd x1 x7))).bind fun bt378 => (if bt378.2 = true then ((leadtrailref03_Size.f k (rd_L4 x375000 x7)).bind fun t381 => (leadtrailref09_Rank.l0 k x1 (wrap64 ((wrap64 (x6 * t381)) + bt378.1)) (wrap64 (x7 + 1)) x375000 x375001)) else (some (0, false)))) else (none)) else (none)) else (some (x6, true))
end
def leadtrailref09_Rank.f (k : Nat) (l0_0 : List (List (S113))) (a0_1 : Int) (l1 : List Int) : Option (Int × Bool) := (leadtrailref09_Count.f k l0_0 a0_1).bind fun t375 => (if t375 = 0 then (leadtrailref09_Rank.j0 k l1 true l0_0 a0_1) else (leadtrailref09_Rank.j0 k l1 ((l1.length : Int) != (l0_0.length : Int)) l0_0 a0_1))
def leadtrailref09_Rank.T7 : Bool × List (List Nat × List Nat) := (true, [([], []), ([0], [0]), ([], []), ([1, 2], [1, 2]), ([3], [3]), ([], []), ([], []), ([5, 6], [5, 6]), ([7], [7]), ([8], [8]), ([4, 9], [4, 9]), ([10], [10]), ([11], [11]), ([11], [11]), ([12, 10, 0, 1, 2, 3, 4, 5, 6, 7, 8, 9, 10, 11, 12], [12]), ([13, 14, 0, 1, 2, 3, 4, 5, 6, 7, 8, 9, 10, 11, 12, 13, 14], [13])])
def leadtrailref09_Rank.B7 : List Nat := [0, 1, 0, 7, 15, 0, 0, 96, 224, 480, 1023, 2047, 4095, 4095, 8191, 32767]
theorem leadtrailref09_Rank.tab7 : rtab .any (opsOf Try.f49 7) = leadtrailref09_Rank.T7 := by kernel_rfl
theorem leadtrailref09_Rank.bits7 : waitsOk leadtrailref09_Rank.T7.2 leadtrailref09_Rank.B7 = true := by kernel_rfl
set_option maxHeartbeats 8000000 in
set_option maxRecDepth 100000 in
theorem leadtrailref09_Rank.calls (k : Nat) (A0_0 : Option Addr) (c0_0 : Nat) (l0_0 : List (List (S113))) (a0_1 : Int) (A1 : Option Addr) (c1 : Nat) (l1 : List Int) (r1 : Int) (r2 : Bool) (w : World) (hr0_0 : Kd.C (Kd.slice 113 k113) w A0_0 l0_0.length l0_0) (hc0_0 : l0_0.length ≤ c0_0) (hr1 : Kd.C (Kd.int .u8) w A1 l1.length l1) (hc1 : l1.length ≤ c1) (h : leadtrailref09_Rank.f k l0_0 a0_1 l1 = some (r1, r2)) :
  Calls Try.prog 49 #[.agg #[.slice A0_0 l0_0.length c0_0, .int .i64 a0_1], .slice A1 l1.length c1] w fun e w' => e = .returned (.tuple #[.int .i64 r1, .bool r2]) ∧ Below w.heap.size w w' := by
 have hu50 := Try.underlying50
 have HR0_0 := Aside0.mk hr0_0
 have HC0_0 := Aside0.mk hc0_0
 clear hr0_0 hc0_0
 have HR1 := Aside0.mk hr1
 have HC1 := Aside0.mk hc1
 clear hr1 hc1
 have HB := Aside0.mk (Below.refl w.heap.size w)
 have H : ((leadtrailref09_Count.f k l0_0 a0_1).bind fun t375 => (if t375 = 0 then (leadtrailref09_Rank.j0 k l1 true l0_0 a0_1) else (leadtrailref09_Rank.j0 k l1 ((l1.length : Int) != (l0_0.length : Int)) l0_0 a0_1))) = some (r1, r2) := h
 clear h
 have HC3 := Aside0.mk H
 clear H
 go_enter Try.func49, Try.ntmps49
 go_upto_region 1 with (first | ((with_reducible refine gate_dst (N := 2) rfl ?_); (try (refine gate_guard (by rfl) ?_; dsimp only)); refine box_event ?hg (N := 2) ?hd (cs := #[.slice A0_0 l0_0.length c0_0, .int .i64 a0_1]) (t := 50) ?hr ?_; (case hd => rfl); (case hg => rfl); (case hr => first | (go_simp; done) | (go_simp; rfl)); intro gb374 hg w4 hbox hb; have n0_ := Aside0.mk (below_step (by repeat (first | (with_reducible first | exact HB.out | apply zD | apply zE | apply zF) | exact HB.out)) hb); have n1_ := Aside0.mk (hbox); have n2_ := Aside0.mk ((by rw [hg]; exact (below_size (by repeat (first | (with_reducible first | exact HB.out | apply zD | apply zE | apply zF) | exact HB.out))) : w.heap.size ≤ gb374)); have n3_ := Aside0.mk ((by rw [hg]; exact (below_size (by repeat (first | (with_reducible first | exact HB.out | apply zD | apply zE | apply zF) | exact HB.out))) : w.heap.size ≤ gb374)); clear HB; have HB := n0_; have BK374 := n1_; have GW374 := n2_; have GE374 := n3_; clear n0_ n1_ n2_ n3_; clear hb hbox hg))
 (try simp only [Act.put, List.setIfInBounds_toArray, List.set_cons_zero, List.set_cons_succ])
 go_cut [20] (fun v20 wc => ∃ (kq : Nat) (x20_2 : Bool), v20 = .bool x20_2 ∧ Aside0 (leadtrailref09_Rank.j0 kq l1 x20_2 l0_0 a0_1 = some (r1, r2)) ∧ Aside0 (kq ≤ k) ∧ Aside0 (wc.heap[gb374]? = some (.cells #[(.slice A0_0 l0_0.length c0_0), .int .i64 a0_1] 50 (0, 0))) ∧ Aside0 (Below w.heap.size w wc))
 case first =>
  have H := HC3.out
  clear HC3
  replace H := Option.bind_eq_some_iff.mp H
  obtain ⟨t375, A50, H⟩ := H
  replace H : (if t375 = 0 then (leadtrailref09_Rank.j0 k l1 true l0_0 a0_1) else (leadtrailref09_Rank.j0 k l1 ((l1.length : Int) != (l0_0.length : Int)) l0_0 a0_1)) = some (r1, r2) := H
  have A5 := Aside0.mk A50
  clear A50
  by_cases c6 : t375 = 0
  ·rw [if_pos c6] at H
   have c6b0 : (t375 == 0) = true := beq_iff_eq.mpr c6
   have c6b1 : (t375 != 0) = false := bne_eq_false_iff_eq.mpr c6
   clear c6
   (first | rw [c6b0] | (simp only [i64_w, i32_w]; rw [c6b0]) | skip)
   have H' := Aside0.mk H
   clear H
   have hcz7_0 : w4.cell? ⟨gb374, 0, none⟩ = some (.slice A0_0 l0_0.length c0_0) := (blk_cell BK374.out 0).trans rfl
   have hcz7_1 : w4.cell? ⟨gb374, 1, none⟩ = some (.int .i64 a0_1) := (blk_cell BK374.out 1).trans rfl
   have hfz7_0 := blk_frozen BK374.out 0
   have hfz7_1 := blk_frozen BK374.out 1
   go_wp2_with (first | ((with_reducible refine gate_callee (f := 53) rfl ?_); refine goesL_ (some 11) rfl rfl Try.func53 (by kernel_rfl) rfl #[.agg #[.slice A0_0 l0_0.length c0_0, .int .i64 a0_1]] rfl zM ?_; (with_reducible refine (leadtrailref09_Count.calls k _ _ l0_0 a0_1 t375 _ ?side1 ?side2 A5.out).mono ?_); (case side1 => repeat (first | exact (Kd.C_below HR0_0.out HB.out) | (with_reducible refine Kd.C_alloc ?_ _) | (with_reducible refine Kd.C_drewN ?_ _) | (with_reducible refine Kd.C_drew ?_))); (case side2 => exact HC0_0.out); rintro e w8 ⟨rfl, hb⟩; refine ⟨_, rfl, ?_⟩; have n0_ := Aside0.mk (blk_below (g := gb374) (o := .cells #[.slice A0_0 l0_0.length c0_0, .int .i64 a0_1] 50 (0, 0)) (by (with_reducible repeat (first | refine blk_drewN ?_ _ | refine blk_drew ?_ | refine blk_alloc ?_ _)); exact BK374.out) hb); have n1_ := Aside0.mk (below_step (by repeat (first | (with_reducible first | exact HB.out | apply zD | apply zE | apply zF | refine below_set ?_ GE374.out) | exact HB.out)) hb); clear BK374; clear HB; have BK374 := n0_; have HB := n1_; clear n0_ n1_; (try clear hb); (try clear hb2); (try clear hk); (try clear hi)))
   go_meet
   case rel => exact ⟨_, (true), zR, H', ⟨by first | omega | exact Nat.le_refl _⟩, ⟨by (with_reducible repeat (first | refine blk_drewN ?_ _ | refine blk_drew ?_ | refine blk_alloc ?_ _)); exact BK374.out⟩, ⟨by repeat (first | (with_reducible first | exact HB.out | apply zD | apply zE | apply zF | refine below_set ?_ GE374.out) | exact HB.out)⟩⟩
  ·rw [if_neg c6] at H
   have c6b0 : (t375 == 0) = false := beq_eq_false_iff_ne.mpr c6
   have c6b1 : (t375 != 0) = true := bne_iff_ne.mpr c6
   (first | rw [c6b0] | (simp only [i64_w, i32_w]; rw [c6b0]) | skip)
   have H' := Aside0.mk H
   clear H
   have hcz9_0 : w4.cell? ⟨gb374, 0, none⟩ = some (.slice A0_0 l0_0.length c0_0) := (blk_cell BK374.out 0).trans rfl
   have hcz9_1 : w4.cell? ⟨gb374, 1, none⟩ = some (.int .i64 a0_1) := (blk_cell BK374.out 1).trans rfl
   have hfz9_0 := blk_frozen BK374.out 0
   have hfz9_1 := blk_frozen BK374.out 1
   go_wp2_with (first | ((with_reducible refine gate_callee (f := 53) rfl ?_); refine goesL_ (some 11) rfl rfl Try.func53 (by kernel_rfl) rfl #[.agg #[.slice A0_0 l0_0.length c0_0, .int .i64 a0_1]] rfl zM ?_; (with_reducible refine (leadtrailref09_Count.calls k _ _ l0_0 a0_1 t375 _ ?side1 ?side2 A5.out).mono ?_); (case side1 => repeat (first | exact (Kd.C_below HR0_0.out HB.out) | (with_reducible refine Kd.C_alloc ?_ _) | (with_reducible refine Kd.C_drewN ?_ _) | (with_reducible refine Kd.C_drew ?_))); (case side2 => exact HC0_0.out); rintro e w10 ⟨rfl, hb⟩; refine ⟨_, rfl, ?_⟩; have n0_ := Aside0.mk (blk_below (g := gb374) (o := .cells #[.slice A0_0 l0_0.length c0_0, .int .i64 a0_1] 50 (0, 0)) (by (with_reducible repeat (first | refine blk_drewN ?_ _ | refine blk_drew ?_ | refine blk_alloc ?_ _)); exact BK374.out) hb); have n1_ := Aside0.mk (below_step (by repeat (first | (with_reducible first | exact HB.out | apply zD | apply zE | apply zF | refine below_set ?_ GE374.out) | exact HB.out)) hb); clear BK374; clear HB; have BK374 := n0_; have HB := n1_; clear n0_ n1_; (try clear hb); (try clear hb2); (try clear hk); (try clear hi); have hcz11_0 : w10.cell? ⟨gb374, 0, none⟩ = some (.slice A0_0 l0_0.length c0_0) := (blk_cell BK374.out 0).trans rfl; have hcz11_1 : w10.cell? ⟨gb374, 1, none⟩ = some (.int .i64 a0_1) := (blk_cell BK374.out 1).trans rfl; have hfz11_0 := blk_frozen BK374.out 0; have hfz11_1 := blk_frozen BK374.out 1))
   go_meet
   case rel => exact ⟨_, (((l1.length : Int) != (l0_0.length : Int))), zR, H', ⟨by first | omega | exact Nat.le_refl _⟩, ⟨by (with_reducible repeat (first | refine blk_drewN ?_ _ | refine blk_drew ?_ | refine blk_alloc ?_ _)); exact BK374.out⟩, ⟨by repeat (first | (with_reducible first | exact HB.out | apply zD | apply zE | apply zF | refine below_set ?_ GE374.out) | exact HB.out)⟩⟩
 case rest =>
  clear HC3
  try clear c1
  try clear p2
  try clear c4
  try clear c5
  try clear c6
  try clear c6b0
  try clear c6b1
  try clear hcz11_0
  try clear hcz11_1
  try clear hcz7_0
  try clear hcz7_1
  try clear hcz9_0
  try clear hcz9_1
  try clear hfz11_0
  try clear hfz11_1
  try clear hfz7_0
  try clear hfz7_1
  try clear hfz9_0
  try clear hfz9_1
  obtain ⟨kq, x20_2, rfl, HA, HJ2, BK374, HB⟩ := hcut
  cases kq with
  | zero => exact absurd HA.out (by simp [leadtrailref09_Rank.j0])
  | succ kj2 =>
   have H := HA.out
   clear HA
   simp only [leadtrailref09_Rank.j0] at H
   by_cases c12 : x20_2 = true
   ·subst c12
    have H1 : (some (0, false)) = some (r1, r2) := by rw [if_pos rfl] at H; exact H
    clear H
    have H := H1
    clear H1
    simp only [Option.some.injEq, Prod.mk.injEq] at H
    obtain ⟨rfl, rfl⟩ := H
    go_wp2
    go_ret2
    exact ⟨by first | rfl | (simp [errW_none, errW_some] <;> rfl) | (simp [*, errW_none, errW_some] <;> rfl), by repeat (first | (with_reducible first | exact HB.out | apply zD | apply zE | apply zF | refine below_set ?_ GE374.out) | exact HB.out)⟩
   ·replace c12 := Bool.eq_false_iff.mpr c12
    subst c12
    have H1 : (leadtrailref09_Rank.l0 kj2 l1 0 0 l0_0 a0_1) = some (r1, r2) := by rw [if_neg (show ¬ (false = true) by decide)] at H; exact H
    clear H
    have H := H1
    clear H1
    have H' := Aside0.mk H
    clear H
    go_wp2
    go_loopg [6, 7] kj2 (fun kq v6 v7 w' => ∃ (x6_2 : Int) (x7_2 : Int), v6 = .int .i64 x6_2 ∧ v7 = .int .i64 x7_2 ∧ Aside0 (leadtrailref09_Rank.l0 kq l1 x6_2 x7_2 l0_0 a0_1 = some (r1, r2)) ∧ Aside0 (kq ≤ kj2) ∧ Aside0 (w'.heap[gb374]? = some (.cells #[(.slice A0_0 l0_0.length c0_0), .int .i64 a0_1] 50 (0, 0))) ∧ Aside0 (Below w.heap.size w w'))
    case atStart => exact ⟨(0), (0), zR, zR, H', ⟨Nat.le_refl _⟩, ⟨by (with_reducible repeat (first | refine blk_drewN ?_ _ | refine blk_drew ?_ | refine blk_alloc ?_ _)); exact BK374.out⟩, ⟨by repeat (first | (with_reducible first | exact HB.out | apply zD | apply zE | apply zF | refine below_set ?_ GE374.out) | exact HB.out)⟩⟩
    case round =>
     clear H'
     try clear c1
     try clear p2
     try clear c4
     try clear c5
     try clear c6
     try clear c6b0
     try clear c6b1
     try clear c12
     try clear hcz11_0
     try clear hcz11_1
     try clear hcz7_0
     try clear hcz7_1
     try clear hcz9_0
     try clear hcz9_1
     try clear hfz11_0
     try clear hfz11_1
     try clear hfz7_0
     try clear hfz7_1
     try clear hfz9_0
     try clear hfz9_1
     try clear p2
     obtain ⟨x6_2, x7_2, rfl, rfl, HA, HK2, BK374, HB⟩ := hrel
     cases gk with
     | zero => exact absurd HA.out (by simp [leadtrailref09_Rank.l0])
     | succ k2 =>
      have H := HA.out
      clear HA
      simp only [leadtrailref09_Rank.l0] at H
      by_cases c13 : x7_2 < (l1.length : Int)
      ·rw [if_pos c13] at H
       have c13b0 : decide (x7_2 < (l1.length : Int)) = true := decide_eq_true c13
       clear c13
       by_cases c14 : 0 ≤ x7_2
       ·rw [if_pos c14] at H
        have c14b0 : decide (0 ≤ x7_2) = true := decide_eq_true c14
        clear c14
        by_cases c15 : x7_2 < (l0_0.length : Int)
        ·rw [if_pos c15] at H
         have c15b0 : decide (x7_2 < (l0_0.length : Int)) = true := decide_eq_true c15
         clear c15
         replace H := Option.bind_eq_some_iff.mp H
         obtain ⟨⟨t378, t379⟩, A160, H⟩ := H
         replace H : (if t379 = true then ((leadtrailref03_Size.f k2 (rd_L4 l0_0 x7_2)).bind fun t381 => (leadtrailref09_Rank.l0 k2 l1 (wrap64 ((wrap64 (x6_2 * t381)) + t378)) (wrap64 (x7_2 + 1)) l0_0 a0_1)) else (some (0, false))) = some (r1, r2) := H
         have A16 := Aside0.mk A160
         clear A160
         by_cases c17 : t379 = true
         ·subst c17
          have H1 : ((leadtrailref03_Size.f k2 (rd_L4 l0_0 x7_2)).bind fun t381 => (leadtrailref09_Rank.l0 k2 l1 (wrap64 ((wrap64 (x6_2 * t381)) + t378)) (wrap64 (x7_2 + 1)) l0_0 a0_1)) = some (r1, r2) := by rw [if_pos rfl] at H; exact H
          clear H
          have H := H1
          clear H1
          replace H := Option.bind_eq_some_iff.mp H
          obtain ⟨t381, A180, H⟩ := H
          replace H : (leadtrailref09_Rank.l0 k2 l1 (wrap64 ((wrap64 (x6_2 * t381)) + t378)) (wrap64 (x7_2 + 1)) l0_0 a0_1) = some (r1, r2) := H
          have A18 := Aside0.mk A180
          clear A180
          have H' := Aside0.mk H
          clear H
          try go_wp2
          have n0_ := Aside0.mk (blk_drew BK374.out)
          have n1_ := Aside0.mk (below_drew1 HB.out)
          clear BK374
          clear HB
          have BK374 := n0_
          have HB := n1_
          clear n0_ n1_
          have p376 : 0 ≤ (x7_2 : Int) := zT
          have q376 : x7_2 < (l0_0.length : Int) := zT
          obtain ⟨ad376, A376_0, c376_0, e376, hx376_0, hl376_0, hi376_0⟩ := at_L4 HR0_0.out x7_2 p376 q376
          have hw376_0 := hx376_0
          cases e376
          replace hx376_0 := (HB.out.cell (World.block_lt_of_cell? w _ hx376_0)).trans hx376_0
          have HR376_0 := Aside0.mk hi376_0
          have HC376_0 := Aside0.mk hl376_0
          clear hi376_0 hl376_0
          replace p376 := eq_true p376
          replace q376 := eq_true q376
          have p377 : 0 ≤ (x7_2 : Int) := zT
          have q377 : x7_2 < (l1.length : Int) := zT
          obtain ⟨ad377, e377, hx377_0⟩ := Kd.at_int HR1.out x7_2 p377 q377
          have hw377_0 := hx377_0
          cases e377
          replace hx377_0 := (HB.out.cell (World.block_lt_of_cell? w _ hx377_0)).trans hx377_0
          replace p377 := eq_true p377
          replace q377 := eq_true q377
          refine start_ (n := 16) (S := fun w' => w'.cell? ⟨gb374, 0, none⟩ = some (.slice (some ad376) l0_0.length c0_0) ∧ w'.cell? ⟨gb374, 1, none⟩ = some (.int .i64 a0_1) ∧ w'.cell? (ad376.add (x7_2).toNat) = some (.slice A376_0 (rd_L4 l0_0 x7_2).length c376_0) ∧ w'.cell? (ad377.add (x7_2).toNat) = some (.int .u8 (rd l1 x7_2))) (ds := []) #[false, false, false, false, false, false, false, false, false, false, false, false, false, false, false, false] (by kernel_rfl) rfl rfl ⟨(blk_cell BK374.out 0).trans rfl, (blk_cell BK374.out 1).trans rfl, ((HB.out.cell (World.block_lt_of_cell? w _ hw376_0)).trans hw376_0), ((HB.out.cell (World.block_lt_of_cell? w _ hw377_0)).trans hw377_0)⟩ (fun hHeld => ?_); refine with_tabW leadtrailref09_Rank.tab7 leadtrailref09_Rank.bits7 (fun HT_ HW_ => ?_)
          generalize wr.drew = w19 at BK374 HB HR376_0 hx376_0 hx377_0 hHeld ⊢
          refine pure_ (i := 0) (N := some 28) (v := ?_) (a' := ?_) (bz 16 1) rfl rfl (any_of HT_.out (by kernel_rfl)) zQ (Or.inl ⟨by rfl, ?_⟩) ?_ ?_
          rotate_left
          ·intro w'
           go_simp
           with_reducible rfl
          rotate_left
          ·simp only [Act.put, List.setIfInBounds_toArray, List.set_cons_zero, List.set_cons_succ, i64_w, i32_w]
           rfl
          refine pure_ (i := 2) (N := some 30) (v := ?_) (a' := ?_) (bz 16 5) rfl rfl (any_of HT_.out (by kernel_rfl)) zQ (Or.inl ⟨by rfl, ?_⟩) ?_ ?_
          rotate_left
          ·intro w'
           go_simp
           with_reducible rfl
          rotate_left
          ·simp only [Act.put, List.setIfInBounds_toArray, List.set_cons_zero, List.set_cons_succ, i64_w, i32_w]
           rfl
          refine pure_ (i := 5) (N := some 33) (v := ?_) (a' := ?_) (bz 16 37) rfl rfl (any_of HT_.out (by kernel_rfl)) zQ (Or.inl ⟨by rfl, ?_⟩) ?_ ?_
          rotate_left
          ·intro w'
           go_simp
           with_reducible rfl
          rotate_left
          ·simp only [Act.put, List.setIfInBounds_toArray, List.set_cons_zero, List.set_cons_succ, i64_w, i32_w]
           rfl
          refine pure_ (i := 6) (N := some 34) (v := ?_) (a' := ?_) (bz 16 101) rfl rfl (any_of HT_.out (by kernel_rfl)) zQ (Or.inl ⟨by rfl, ?_⟩) ?_ ?_
          rotate_left
          ·intro w'
           go_simp
           with_reducible rfl
          rotate_left
          ·simp only [Act.put, List.setIfInBounds_toArray, List.set_cons_zero, List.set_cons_succ, i64_w, i32_w]
           rfl
          refine pure_ (i := 7) (N := some 35) (v := ?_) (a' := ?_) (bz 16 229) rfl rfl (any_of HT_.out (by kernel_rfl)) zQ (Or.inl ⟨by rfl, ?_⟩) ?_ ?_
          rotate_left
          ·intro w'
           go_simp
           with_reducible rfl
          rotate_left
          ·simp only [Act.put, List.setIfInBounds_toArray, List.set_cons_zero, List.set_cons_succ, i64_w, i32_w]
           rfl
          refine take_ (i := 1) (N := some 29) (v := ?_) (a' := ?_) (bz 16 231) rfl rfl (take_ofW HT_.out HW_.out (by kernel_rfl)) zQ (Or.inl ⟨by rfl, ?_⟩) hHeld ?_ ?_
          rotate_left
          ·rintro w' ⟨s0, s1, s2, s3⟩
           go_simp
           with_reducible rfl
          rotate_left
          ·simp only [Act.put, List.setIfInBounds_toArray, List.set_cons_zero, List.set_cons_succ, i64_w, i32_w]
           rfl
          refine pure_ (i := 3) (N := some 31) (v := ?_) (a' := ?_) (bz 16 239) rfl rfl (any_of HT_.out (by kernel_rfl)) zQ (Or.inl ⟨by rfl, ?_⟩) ?_ ?_
          rotate_left
          ·intro w'
           go_simp
           with_reducible rfl
          rotate_left
          ·simp only [Act.put, List.setIfInBounds_toArray, List.set_cons_zero, List.set_cons_succ, i64_w, i32_w]
           rfl
          refine take_ (i := 4) (N := some 32) (v := ?_) (a' := ?_) (bz 16 255) rfl rfl (take_ofW HT_.out HW_.out (by kernel_rfl)) zQ (Or.inl ⟨by rfl, ?_⟩) hHeld ?_ ?_
          rotate_left
          ·rintro w' ⟨s0, s1, s2, s3⟩
           go_simp
           with_reducible rfl
          rotate_left
          ·simp only [Act.put, List.setIfInBounds_toArray, List.set_cons_zero, List.set_cons_succ, i64_w, i32_w]
           rfl
          refine take_ (i := 8) (N := some 36) (v := ?_) (a' := ?_) (bz 16 511) rfl rfl (take_ofW HT_.out HW_.out (by kernel_rfl)) zQ (Or.inl ⟨by rfl, ?_⟩) hHeld ?_ ?_
          rotate_left
          ·rintro w' ⟨s0, s1, s2, s3⟩
           go_simp
           with_reducible rfl
          rotate_left
          ·simp only [Act.put, List.setIfInBounds_toArray, List.set_cons_zero, List.set_cons_succ, i64_w, i32_w]
           rfl
          refine pure_ (i := 9) (N := some 37) (v := ?_) (a' := ?_) (bz 16 1023) rfl rfl (any_of HT_.out (by kernel_rfl)) zQ (Or.inl ⟨by rfl, ?_⟩) ?_ ?_
          rotate_left
          ·intro w'
           go_simp
           with_reducible rfl
          rotate_left
          ·simp only [Act.put, List.setIfInBounds_toArray, List.set_cons_zero, List.set_cons_succ, i64_w, i32_w]
           rfl
          refine one_ (i := 10) (N := some 38) (bz 16 2047) rfl rfl (one_of HT_.out (by kernel_rfl)) (by decide) (fun K hK => ?_)
          refine goes_ Try.func100 (by kernel_rfl) rfl #[.slice A376_0 (rd_L4 l0_0 x7_2).length c376_0, .int .i64 (wrap64 (rd l1 x7_2))] (by rfl) rfl rfl zM ?_
          with_reducible refine (leadtrailref03_Rank.calls k2 _ _ (rd_L4 l0_0 x7_2) (wrap64 (rd l1 x7_2)) t378 true _ ?side1 ?side2 A16.out).mono ?_
          (case side1 => repeat (first | exact (Kd.C_below HR376_0.out HB.out) | (with_reducible refine Kd.C_alloc ?_ _) | (with_reducible refine Kd.C_drewN ?_ _) | (with_reducible refine Kd.C_drew ?_)))
          (case side2 => exact HC376_0.out)
          rintro e w20 ⟨rfl, hb⟩
          refine ⟨_, rfl, ?_⟩
          have n0_ := Aside0.mk (blk_below (g := gb374) (o := .cells #[.slice (some ad376) l0_0.length c0_0, .int .i64 a0_1] 50 (0, 0)) (by (with_reducible repeat (first | refine blk_drewN ?_ _ | refine blk_drew ?_ | refine blk_alloc ?_ _)); exact BK374.out) hb)
          have n1_ := Aside0.mk (below_step (by repeat (first | (with_reducible first | exact HB.out | apply zD | apply zE | apply zF | refine below_set ?_ GE374.out) | exact HB.out)) hb)
          clear BK374
          clear HB
          have BK374 := n0_
          have HB := n1_
          clear n0_ n1_
          (try clear hb)
          (try clear hb2)
          (try clear hk)
          (try clear hi)
          refine hK.out _ _ ⟨(blk_cell BK374.out 0).trans rfl, (blk_cell BK374.out 1).trans rfl, ((HB.out.cell (World.block_lt_of_cell? w _ hw376_0)).trans hw376_0), ((HB.out.cell (World.block_lt_of_cell? w _ hw377_0)).trans hw377_0)⟩ (fun hHeld => ?_)
          clear hK K
          refine norm_ (a' := ?_) ?_ ?_
          rotate_left
          ·show Act.put _ (some 38) _ = _
           simp only [Act.put, List.setIfInBounds_toArray, List.set_cons_zero, List.set_cons_succ, i64_w, i32_w]
           rfl
          refine pure_ (i := 11) (N := some 27) (v := ?_) (a' := ?_) (bz 16 4095) rfl rfl (any_of HT_.out (by kernel_rfl)) zQ (Or.inl ⟨by rfl, ?_⟩) ?_ ?_
          rotate_left
          ·intro w'
           go_simp
           with_reducible rfl
          rotate_left
          ·simp only [Act.put, List.setIfInBounds_toArray, List.set_cons_zero, List.set_cons_succ, i64_w, i32_w]
           rfl
          refine pure_ (i := 12) (N := some 39) (v := ?_) (a' := ?_) (bz 16 8191) rfl rfl (any_of HT_.out (by kernel_rfl)) zQ (Or.inl ⟨by rfl, ?_⟩) ?_ ?_
          rotate_left
          ·intro w'
           go_simp
           with_reducible rfl
          rotate_left
          ·simp only [Act.put, List.setIfInBounds_toArray, List.set_cons_zero, List.set_cons_succ, i64_w, i32_w]
           rfl
          refine pure_ (i := 13) (N := some 40) (v := ?_) (a' := ?_) (bz 16 16383) rfl rfl (any_of HT_.out (by kernel_rfl)) zQ (Or.inl ⟨by rfl, ?_⟩) ?_ ?_
          rotate_left
          ·intro w'
           go_simp
           with_reducible rfl
          rotate_left
          ·simp only [Act.put, List.setIfInBounds_toArray, List.set_cons_zero, List.set_cons_succ, i64_w, i32_w]
           rfl
          refine pure_ (i := 14) (N := some 8) (v := ?_) (a' := ?_) (bz 16 32767) rfl rfl (any_of HT_.out (by kernel_rfl)) zQ (Or.inl ⟨by rfl, ?_⟩) ?_ ?_
          rotate_left
          ·intro w'
           go_simp
           with_reducible rfl
          rotate_left
          ·simp only [Act.put, List.setIfInBounds_toArray, List.set_cons_zero, List.set_cons_succ, i64_w, i32_w]
           rfl
          refine pure_ (i := 15) (N := some 9) (v := ?_) (a' := ?_) (bz 16 65535) rfl rfl (any_of HT_.out (by kernel_rfl)) zQ (Or.inl ⟨by rfl, ?_⟩) ?_ ?_
          rotate_left
          ·intro w'
           go_simp
           with_reducible rfl
          rotate_left
          ·simp only [Act.put, List.setIfInBounds_toArray, List.set_cons_zero, List.set_cons_succ, i64_w, i32_w]
           rfl
          refine done_ (done_of HT_.out (by kernel_rfl)) ?_
          have hcz21_0 : w20.cell? ⟨gb374, 0, none⟩ = some (.slice (some ad376) l0_0.length c0_0) := (blk_cell BK374.out 0).trans rfl
          have hcz21_1 : w20.cell? ⟨gb374, 1, none⟩ = some (.int .i64 a0_1) := (blk_cell BK374.out 1).trans rfl
          have hfz21_0 := blk_frozen BK374.out 0
          have hfz21_1 := blk_frozen BK374.out 1
          have p380 : 0 ≤ (x7_2 : Int) := zT
          have q380 : x7_2 < (l0_0.length : Int) := zT
          obtain ⟨ad380, A380_0, c380_0, e380, hx380_0, hl380_0, hi380_0⟩ := at_L4 HR0_0.out x7_2 p380 q380
          obtain rfl : ad376 = ad380 := (by injection e380)
          have hz_ := hw376_0.symm.trans hx380_0
          injection hz_ with hz1_
          injection hz1_ with hz2_ hz3_ hz4_
          subst hz2_
          subst hz4_
          clear hz3_
          replace hx380_0 := (HB.out.cell (World.block_lt_of_cell? w _ hx380_0)).trans hx380_0
          have HR380_0 := Aside0.mk hi380_0
          have HC380_0 := Aside0.mk hl380_0
          clear hi380_0 hl380_0
          replace p380 := eq_true p380
          replace q380 := eq_true q380
          try go_wp2_with (first | ((with_reducible refine gate_callee (f := 101) rfl ?_); refine goesL_ (some 49) rfl rfl Try.func101 (by kernel_rfl) rfl #[.slice A376_0 (rd_L4 l0_0 x7_2).length c376_0] rfl zM ?_; (with_reducible refine (leadtrailref03_Size.calls k2 _ _ (rd_L4 l0_0 x7_2) t381 _ ?side1 ?side2 A18.out).mono ?_); (case side1 => repeat (first | exact (Kd.C_below HR380_0.out HB.out) | (with_reducible refine Kd.C_alloc ?_ _) | (with_reducible refine Kd.C_drewN ?_ _) | (with_reducible refine Kd.C_drew ?_))); (case side2 => exact HC380_0.out); rintro e w22 ⟨rfl, hb⟩; refine ⟨_, rfl, ?_⟩; have n0_ := Aside0.mk (blk_below (g := gb374) (o := .cells #[.slice (some ad376) l0_0.length c0_0, .int .i64 a0_1] 50 (0, 0)) (by (with_reducible repeat (first | refine blk_drewN ?_ _ | refine blk_drew ?_ | refine blk_alloc ?_ _)); exact BK374.out) hb); have n1_ := Aside0.mk (below_step (by repeat (first | (with_reducible first | exact HB.out | apply zD | apply zE | apply zF | refine below_set ?_ GE374.out) | exact HB.out)) hb); clear BK374; clear HB; have BK374 := n0_; have HB := n1_; clear n0_ n1_; (try clear hb); (try clear hb2); (try clear hk); (try clear hi)))
          go_roundg k2
          case measure => have := HJ2.out; have := HK2.out; omega
          case rel => exact ⟨(wrap64 ((wrap64 (x6_2 * t381)) + t378)), (wrap64 (x7_2 + 1)), zR, zR, H', ⟨by have := HJ2.out; have := HK2.out; omega⟩, ⟨by (with_reducible repeat (first | refine blk_drewN ?_ _ | refine blk_drew ?_ | refine blk_alloc ?_ _)); exact BK374.out⟩, ⟨by repeat (first | (with_reducible first | exact HB.out | apply zD | apply zE | apply zF | refine below_set ?_ GE374.out) | exact HB.out)⟩⟩
         ·replace c17 := Bool.eq_false_iff.mpr c17
          subst c17
          have H1 : (some (0, false)) = some (r1, r2) := by rw [if_neg (show ¬ (false = true) by decide)] at H; exact H
          clear H
          have H := H1
          clear H1
          simp only [Option.some.injEq, Prod.mk.injEq] at H
          obtain ⟨rfl, rfl⟩ := H
          try go_wp2
          have n0_ := Aside0.mk (blk_drew BK374.out)
          have n1_ := Aside0.mk (below_drew1 HB.out)
          clear BK374
          clear HB
          have BK374 := n0_
          have HB := n1_
          clear n0_ n1_
          have p376 : 0 ≤ (x7_2 : Int) := zT
          have q376 : x7_2 < (l0_0.length : Int) := zT
          obtain ⟨ad376, A376_0, c376_0, e376, hx376_0, hl376_0, hi376_0⟩ := at_L4 HR0_0.out x7_2 p376 q376
          have hw376_0 := hx376_0
          cases e376
          replace hx376_0 := (HB.out.cell (World.block_lt_of_cell? w _ hx376_0)).trans hx376_0
          have HR376_0 := Aside0.mk hi376_0
          have HC376_0 := Aside0.mk hl376_0
          clear hi376_0 hl376_0
          replace p376 := eq_true p376
          replace q376 := eq_true q376
          have p377 : 0 ≤ (x7_2 : Int) := zT
          have q377 : x7_2 < (l1.length : Int) := zT
          obtain ⟨ad377, e377, hx377_0⟩ := Kd.at_int HR1.out x7_2 p377 q377
          have hw377_0 := hx377_0
          cases e377
          replace hx377_0 := (HB.out.cell (World.block_lt_of_cell? w _ hx377_0)).trans hx377_0
          replace p377 := eq_true p377
          replace q377 := eq_true q377
          refine start_ (n := 16) (S := fun w' => w'.cell? ⟨gb374, 0, none⟩ = some (.slice (some ad376) l0_0.length c0_0) ∧ w'.cell? ⟨gb374, 1, none⟩ = some (.int .i64 a0_1) ∧ w'.cell? (ad376.add (x7_2).toNat) = some (.slice A376_0 (rd_L4 l0_0 x7_2).length c376_0) ∧ w'.cell? (ad377.add (x7_2).toNat) = some (.int .u8 (rd l1 x7_2))) (ds := []) #[false, false, false, false, false, false, false, false, false, false, false, false, false, false, false, false] (by kernel_rfl) rfl rfl ⟨(blk_cell BK374.out 0).trans rfl, (blk_cell BK374.out 1).trans rfl, ((HB.out.cell (World.block_lt_of_cell? w _ hw376_0)).trans hw376_0), ((HB.out.cell (World.block_lt_of_cell? w _ hw377_0)).trans hw377_0)⟩ (fun hHeld => ?_); refine with_tabW leadtrailref09_Rank.tab7 leadtrailref09_Rank.bits7 (fun HT_ HW_ => ?_)
          generalize wr.drew = w23 at BK374 HB HR376_0 hx376_0 hx377_0 hHeld ⊢
          refine pure_ (i := 0) (N := some 28) (v := ?_) (a' := ?_) (bz 16 1) rfl rfl (any_of HT_.out (by kernel_rfl)) zQ (Or.inl ⟨by rfl, ?_⟩) ?_ ?_
          rotate_left
          ·intro w'
           go_simp
           with_reducible rfl
          rotate_left
          ·simp only [Act.put, List.setIfInBounds_toArray, List.set_cons_zero, List.set_cons_succ, i64_w, i32_w]
           rfl
          refine pure_ (i := 2) (N := some 30) (v := ?_) (a' := ?_) (bz 16 5) rfl rfl (any_of HT_.out (by kernel_rfl)) zQ (Or.inl ⟨by rfl, ?_⟩) ?_ ?_
          rotate_left
          ·intro w'
           go_simp
           with_reducible rfl
          rotate_left
          ·simp only [Act.put, List.setIfInBounds_toArray, List.set_cons_zero, List.set_cons_succ, i64_w, i32_w]
           rfl
          refine pure_ (i := 5) (N := some 33) (v := ?_) (a' := ?_) (bz 16 37) rfl rfl (any_of HT_.out (by kernel_rfl)) zQ (Or.inl ⟨by rfl, ?_⟩) ?_ ?_
          rotate_left
          ·intro w'
           go_simp
           with_reducible rfl
          rotate_left
          ·simp only [Act.put, List.setIfInBounds_toArray, List.set_cons_zero, List.set_cons_succ, i64_w, i32_w]
           rfl
          refine pure_ (i := 6) (N := some 34) (v := ?_) (a' := ?_) (bz 16 101) rfl rfl (any_of HT_.out (by kernel_rfl)) zQ (Or.inl ⟨by rfl, ?_⟩) ?_ ?_
          rotate_left
          ·intro w'
           go_simp
           with_reducible rfl
          rotate_left
          ·simp only [Act.put, List.setIfInBounds_toArray, List.set_cons_zero, List.set_cons_succ, i64_w, i32_w]
           rfl
          refine pure_ (i := 7) (N := some 35) (v := ?_) (a' := ?_) (bz 16 229) rfl rfl (any_of HT_.out (by kernel_rfl)) zQ (Or.inl ⟨by rfl, ?_⟩) ?_ ?_
          rotate_left
          ·intro w'
           go_simp
           with_reducible rfl
          rotate_left
          ·simp only [Act.put, List.setIfInBounds_toArray, List.set_cons_zero, List.set_cons_succ, i64_w, i32_w]
           rfl
          refine take_ (i := 1) (N := some 29) (v := ?_) (a' := ?_) (bz 16 231) rfl rfl (take_ofW HT_.out HW_.out (by kernel_rfl)) zQ (Or.inl ⟨by rfl, ?_⟩) hHeld ?_ ?_
          rotate_left
          ·rintro w' ⟨s0, s1, s2, s3⟩
           go_simp
           with_reducible rfl
          rotate_left
          ·simp only [Act.put, List.setIfInBounds_toArray, List.set_cons_zero, List.set_cons_succ, i64_w, i32_w]
           rfl
          refine pure_ (i := 3) (N := some 31) (v := ?_) (a' := ?_) (bz 16 239) rfl rfl (any_of HT_.out (by kernel_rfl)) zQ (Or.inl ⟨by rfl, ?_⟩) ?_ ?_
          rotate_left
          ·intro w'
           go_simp
           with_reducible rfl
          rotate_left
          ·simp only [Act.put, List.setIfInBounds_toArray, List.set_cons_zero, List.set_cons_succ, i64_w, i32_w]
           rfl
          refine take_ (i := 4) (N := some 32) (v := ?_) (a' := ?_) (bz 16 255) rfl rfl (take_ofW HT_.out HW_.out (by kernel_rfl)) zQ (Or.inl ⟨by rfl, ?_⟩) hHeld ?_ ?_
          rotate_left
          ·rintro w' ⟨s0, s1, s2, s3⟩
           go_simp
           with_reducible rfl
          rotate_left
          ·simp only [Act.put, List.setIfInBounds_toArray, List.set_cons_zero, List.set_cons_succ, i64_w, i32_w]
           rfl
          refine take_ (i := 8) (N := some 36) (v := ?_) (a' := ?_) (bz 16 511) rfl rfl (take_ofW HT_.out HW_.out (by kernel_rfl)) zQ (Or.inl ⟨by rfl, ?_⟩) hHeld ?_ ?_
          rotate_left
          ·rintro w' ⟨s0, s1, s2, s3⟩
           go_simp
           with_reducible rfl
          rotate_left
          ·simp only [Act.put, List.setIfInBounds_toArray, List.set_cons_zero, List.set_cons_succ, i64_w, i32_w]
           rfl
          refine pure_ (i := 9) (N := some 37) (v := ?_) (a' := ?_) (bz 16 1023) rfl rfl (any_of HT_.out (by kernel_rfl)) zQ (Or.inl ⟨by rfl, ?_⟩) ?_ ?_
          rotate_left
          ·intro w'
           go_simp
           with_reducible rfl
          rotate_left
          ·simp only [Act.put, List.setIfInBounds_toArray, List.set_cons_zero, List.set_cons_succ, i64_w, i32_w]
           rfl
          refine one_ (i := 10) (N := some 38) (bz 16 2047) rfl rfl (one_of HT_.out (by kernel_rfl)) (by decide) (fun K hK => ?_)
          refine goes_ Try.func100 (by kernel_rfl) rfl #[.slice A376_0 (rd_L4 l0_0 x7_2).length c376_0, .int .i64 (wrap64 (rd l1 x7_2))] (by rfl) rfl rfl zM ?_
          with_reducible refine (leadtrailref03_Rank.calls k2 _ _ (rd_L4 l0_0 x7_2) (wrap64 (rd l1 x7_2)) t378 false _ ?side1 ?side2 A16.out).mono ?_
          (case side1 => repeat (first | exact (Kd.C_below HR376_0.out HB.out) | (with_reducible refine Kd.C_alloc ?_ _) | (with_reducible refine Kd.C_drewN ?_ _) | (with_reducible refine Kd.C_drew ?_)))
          (case side2 => exact HC376_0.out)
          rintro e w24 ⟨rfl, hb⟩
          refine ⟨_, rfl, ?_⟩
          have n0_ := Aside0.mk (blk_below (g := gb374) (o := .cells #[.slice (some ad376) l0_0.length c0_0, .int .i64 a0_1] 50 (0, 0)) (by (with_reducible repeat (first | refine blk_drewN ?_ _ | refine blk_drew ?_ | refine blk_alloc ?_ _)); exact BK374.out) hb)
          have n1_ := Aside0.mk (below_step (by repeat (first | (with_reducible first | exact HB.out | apply zD | apply zE | apply zF | refine below_set ?_ GE374.out) | exact HB.out)) hb)
          clear BK374
          clear HB
          have BK374 := n0_
          have HB := n1_
          clear n0_ n1_
          (try clear hb)
          (try clear hb2)
          (try clear hk)
          (try clear hi)
          refine hK.out _ _ ⟨(blk_cell BK374.out 0).trans rfl, (blk_cell BK374.out 1).trans rfl, ((HB.out.cell (World.block_lt_of_cell? w _ hw376_0)).trans hw376_0), ((HB.out.cell (World.block_lt_of_cell? w _ hw377_0)).trans hw377_0)⟩ (fun hHeld => ?_)
          clear hK K
          refine norm_ (a' := ?_) ?_ ?_
          rotate_left
          ·show Act.put _ (some 38) _ = _
           simp only [Act.put, List.setIfInBounds_toArray, List.set_cons_zero, List.set_cons_succ, i64_w, i32_w]
           rfl
          refine pure_ (i := 11) (N := some 27) (v := ?_) (a' := ?_) (bz 16 4095) rfl rfl (any_of HT_.out (by kernel_rfl)) zQ (Or.inl ⟨by rfl, ?_⟩) ?_ ?_
          rotate_left
          ·intro w'
           go_simp
           with_reducible rfl
          rotate_left
          ·simp only [Act.put, List.setIfInBounds_toArray, List.set_cons_zero, List.set_cons_succ, i64_w, i32_w]
           rfl
          refine pure_ (i := 12) (N := some 39) (v := ?_) (a' := ?_) (bz 16 8191) rfl rfl (any_of HT_.out (by kernel_rfl)) zQ (Or.inl ⟨by rfl, ?_⟩) ?_ ?_
          rotate_left
          ·intro w'
           go_simp
           with_reducible rfl
          rotate_left
          ·simp only [Act.put, List.setIfInBounds_toArray, List.set_cons_zero, List.set_cons_succ, i64_w, i32_w]
           rfl
          refine pure_ (i := 13) (N := some 40) (v := ?_) (a' := ?_) (bz 16 16383) rfl rfl (any_of HT_.out (by kernel_rfl)) zQ (Or.inl ⟨by rfl, ?_⟩) ?_ ?_
          rotate_left
          ·intro w'
           go_simp
           with_reducible rfl
          rotate_left
          ·simp only [Act.put, List.setIfInBounds_toArray, List.set_cons_zero, List.set_cons_succ, i64_w, i32_w]
           rfl
          refine pure_ (i := 14) (N := some 8) (v := ?_) (a' := ?_) (bz 16 32767) rfl rfl (any_of HT_.out (by kernel_rfl)) zQ (Or.inl ⟨by rfl, ?_⟩) ?_ ?_
          rotate_left
          ·intro w'
           go_simp
           with_reducible rfl
          rotate_left
          ·simp only [Act.put, List.setIfInBounds_toArray, List.set_cons_zero, List.set_cons_succ, i64_w, i32_w]
           rfl
          refine pure_ (i := 15) (N := some 9) (v := ?_) (a' := ?_) (bz 16 65535) rfl rfl (any_of HT_.out (by kernel_rfl)) zQ (Or.inl ⟨by rfl, ?_⟩) ?_ ?_
          rotate_left
          ·intro w'
           go_simp
           with_reducible rfl
          rotate_left
          ·simp only [Act.put, List.setIfInBounds_toArray, List.set_cons_zero, List.set_cons_succ, i64_w, i32_w]
           rfl
          refine done_ (done_of HT_.out (by kernel_rfl)) ?_
          try go_wp2
          go_ret2
          exact ⟨by first | rfl | (simp [errW_none, errW_some] <;> rfl) | (simp [*, errW_none, errW_some] <;> rfl), by repeat (first | (with_reducible first | exact HB.out | apply zD | apply zE | apply zF | refine below_set ?_ GE374.out) | exact HB.out)⟩
        ·rw [if_neg c15] at H
         exact absurd H (by simp)
       ·rw [if_neg c14] at H
        exact absurd H (by simp)
      ·rw [if_neg c13] at H
       have c13b0 : decide (x7_2 < (l1.length : Int)) = false := decide_eq_false c13
       clear c13
       simp only [Option.some.injEq, Prod.mk.injEq] at H
       obtain ⟨rfl, rfl⟩ := H
       go_wp2
       go_ret2
       exact ⟨by first | rfl | (simp [errW_none, errW_some] <;> rfl) | (simp [*, errW_none, errW_some] <;> rfl), by repeat (first | (with_reducible first | exact HB.out | apply zD | apply zE | apply zF | refine below_set ?_ GE374.out) | exact HB.out)⟩
def selB (p : Nat → Bool) (k : Int) : Nat → Nat → Int × Bool
 | 0, _ => (0, false)
 | f + 1, x => if p x = true ∧ (cntB p x : Int) = k then ((x : Int), true) else selB p k f (x + 1)
set_option maxHeartbeats 8000000 in
set_option maxRecDepth 100000 in
theorem R3Select.calls (k : Nat) (A0 : Option Addr) (c0 : Nat) (l0 : List S113) (x : Int) (b : Bool) (w : World) (hr0 : Kd.C k113 w A0 l0.length l0) (hc0 : l0.length ≤ c0) (h : leadtrailref03_Valid.f k l0 = some b) (hok : b = true → ∀ r ∈ l0, okPiece r = true) (hsm : l0.length ≤ 8796093022207) :
  Calls Try.prog 102 #[.slice A0 l0.length c0, .int .i64 x] w fun e w' => e = .returned (.tuple #[.int .i64 (selB (membersB b l0) x 256 0).1, .bool (selB (membersB b l0) x 256 0).2]) ∧ Below w.heap.size w w' := by
 have hMem := R3Members.calls k A0 c0 l0 b w hr0 hc0 h hok hsm
 clear hr0 hc0 h hok
 change Calls Try.prog 82 _ w (fun e w' => e = .returned (.agg (bitsV (membersB b l0))) ∧ _) at hMem
 generalize membersB b l0 = p at hMem ⊢
 generalize hR : selB p x 256 0 = R
 go_enter Try.func102, Try.ntmps102
 go_wp2_with (go_at_call 82; refine hMem.mono ?_; rintro e w2 ⟨rfl, hb⟩; clear hMem; have HB3 := Aside0.mk hb; clear hb)
 rw [run_store_new w2 p]
 have D := Aside0.mk (blk_new w2 (.cells (bitsV p) 110))
 have HB4 := Aside0.mk (below_alloc HB3.out (.cells (bitsV p) 110))
 have RR := Aside0.mk hR
 clear HB3 hR
 generalize w2.heap.size = g at D ⊢
 generalize w2.alloc (.cells (bitsV p) 110) = w3 at D HB4 ⊢
 go_wp2
 go_loopg [7, 8] 257 (fun kq v7 v8 w' => ∃ n : Nat, v7 = .int .i64 (cntB p n : Nat) ∧ v8 = .int .i64 (n : Int) ∧ Aside0 (n + kq = 257) ∧ Aside0 (n ≤ 256) ∧ Aside0 (selB p x (256 - n) n = R) ∧ Aside0 (w'.heap[g]? = some (.cells (bitsV p) 110 (0, 0))) ∧ Aside0 (Below w.heap.size w w'))
 case atStart => exact ⟨0, rfl, rfl, ⟨by omega⟩, ⟨by omega⟩, RR, D, HB4⟩
 case round =>
  clear RR
  obtain ⟨n, rfl, rfl, HN, HN2, RR, C, HB'⟩ := hrel
  have hcl := cntB_le p n
  cases gk with
  | zero => exact absurd HN.out (by have := HN2.out; omega)
  | succ k1 =>
  by_cases c : n ≤ 255
  ·have cb : decide ((n : Int) ≤ 255) = true := decide_eq_true (by omega)
   have p2 : (0 ≤ (n : Int)) = True := eq_true (by omega)
   have q2 : ((n : Int) < 256) = True := eq_true (by omega)
   have c_ := Aside0.mk c
   have hcl_ := Aside0.mk hcl
   have hc := blk_cell C.out n
   rw [bitsV_get _ _ (by omega)] at hc
   have eq1 : 256 - n = (255 - n) + 1 := by omega
   have eq2 : 255 - n = 256 - (n + 1) := by omega
   have hS := Aside0.mk (show selB p x (256 - n) n = if p n = true ∧ (cntB p n : Int) = x then ((n : Int), true) else selB p x (256 - (n + 1)) (n + 1) by rw [eq1, selB, eq2])
   clear c hcl eq1 eq2
   cases hpn : p n with
   | true =>
    rw [hpn] at hc
    by_cases e : (cntB p n : Int) = x
    ·have hRn := Aside0.mk (RR.out.symm.trans (hS.out.trans (if_pos ⟨hpn, e⟩)))
     clear hS RR
     subst e
     go_wp2
     go_ret2
     rw [hRn.out]
     exact ⟨rfl, HB'.out⟩
    ·have eb0 : decide ((cntB p n : Int) = x) = false := decide_eq_false e
     have eb1 : ((cntB p n : Int) == x) = false := by simpa using e
     have hRn := Aside0.mk ((show selB p x (256 - (n + 1)) (n + 1) = R from (hS.out.trans (if_neg fun h => e h.2)).symm.trans RR.out))
     go_wp2
     have hcl := hcl_.out
     have hN := HN.out
     have c := c_.out
     go_roundg k1
     case measure => omega
     case rel => exact ⟨n + 1, by simp only [cntB, hpn, if_true]; rw [w64' (by omega) (by omega)]; simp, by rw [w64' (by omega) (by omega)]; simp, ⟨by omega⟩, ⟨by omega⟩, hRn, C, HB'⟩
   | false =>
    rw [hpn] at hc
    have hRn := Aside0.mk ((show selB p x (256 - (n + 1)) (n + 1) = R from (hS.out.trans (if_neg fun h => by rw [hpn] at h; cases h.1)).symm.trans RR.out))
    go_wp2
    have hcl := hcl_.out
    have hN := HN.out
    have c := c_.out
    go_roundg k1
    case measure => omega
    case rel => exact ⟨n + 1, by simp only [cntB, hpn, Bool.false_eq_true, if_false, Nat.add_zero], by rw [w64' (by omega) (by omega)]; simp, ⟨by omega⟩, ⟨by omega⟩, hRn, C, HB'⟩
  ·have cb : decide ((n : Int) ≤ 255) = false := decide_eq_false (by omega)
   have hn := Aside0.mk (show n = 256 by have := HN.out; have := HN2.out; omega)
   clear c hcl
   go_wp2
   go_ret2
   have hn := hn.out
   subst hn
   have := RR.out
   simp only [Nat.sub_self, selB] at this
   rw [← this]
   exact ⟨rfl, HB'.out⟩
def leadtrailref03_Select.f (k : Nat) (l0 : List (S113)) (a1 : Int) : Option (Int × Bool) := (leadtrailref03_memb k l0).bind fun p => some (selB p a1 256 0)
theorem leadtrailref03_Select.calls (k : Nat) (A0 : Option Addr) (c0 : Nat) (l0 : List (S113)) (a1 : Int) (r1 : Int) (r2 : Bool) (w : World) (hr0 : Kd.C k113 w A0 l0.length l0) (hc0 : l0.length ≤ c0) (h : leadtrailref03_Select.f k l0 a1 = some (r1, r2)) :
  Calls Try.prog 102 #[.slice A0 l0.length c0, .int .i64 a1] w fun e w' => e = .returned (.tuple #[.int .i64 r1, .bool r2]) ∧ Below w.heap.size w w' := by
 obtain ⟨p, h1, h2⟩ := Option.bind_eq_some_iff.mp h
 obtain ⟨b, hv, rfl, hok, hsm⟩ := memb_some h1
 have hh := R3Select.calls k A0 c0 l0 a1 b w hr0 hc0 hv hok hsm
 have e := Option.some.inj h2
 rw [e] at hh
 exact hh
end Go.Proofs.Ytkcklnmbeinfkaa.B
