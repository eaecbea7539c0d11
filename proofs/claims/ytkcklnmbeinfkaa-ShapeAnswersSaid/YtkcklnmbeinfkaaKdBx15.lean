/- Words and walks of this claim, of the text Bx15. -/
import Derived.Test.YtkcklnmbeinfkaaKdZq
import Derived.Test.YtkcklnmbeinfkaaKdBx0
import Derived.Test.YtkcklnmbeinfkaaKdBx2
import Derived.Test.YtkcklnmbeinfkaaKdBx12
namespace Go.Proofs.Ytkcklnmbeinfkaa.B
open Go.RowKit Go.Proofs.YtkcklnmbeinfkaaW.PrintWords Go.Proofs.YtkcklnmbeinfkaaW.PrintLast Go.Proofs.YtkcklnmbeinfkaaW.PrintMore
attribute [local go_sem] max2_int min2_int max_two min_two max_three min_three max_four min_four
set_option linter.unusedVariables false
set_option linter.unusedSimpArgs false
attribute [local go_sem high] eqA113
mutual
def leadtrailref09_Begins.j0 : Nat → List Int → Bool → List (List (S113)) → Int → Option (Bool)
 | 0, _, _, _, _ => none
 | k + 1, x1, x16, x401000, x401001 => if x16 = true then (some false) else (leadtrailref09_Begins.l0 k x1 0 x401000 x401001)
def leadtrailref09_Begins.l0 : Nat → List Int → Int → List (List (S113)) → Int → Option (Bool)
 | 0, _, _, _, _ => none
 | k + 1, x1, x5, x401000, x401001 => if x5 < (x1.length : Int) then (if 0 ≤ x5 then (if x5 < (x401000.length : Int) then ((leadtrailref03_Has.f k (rd_L4 x401000 x5) (wrap64 (rd x1 x5))).bind fun t404 => (if t404 = true then (leadtrailref09_Begins.l0 k x1 (wrap64 (x5 + 1)) x401000 x401001) else (some false))) else (none)) else (none)) else (some true)
end
def leadtrailref09_Begins.f (k : Nat) (l0_0 : List (List (S113))) (a0_1 : Int) (l1 : List Int) : Option (Bool) := (leadtrailref09_Count.f k l0_0 a0_1).bind fun t401 => (if t401 = 0 then (leadtrailref09_Begins.j0 k l1 true l0_0 a0_1) else (leadtrailref09_Begins.j0 k l1 (decide ((l1.length : Int) > (l0_0.length : Int))) l0_0 a0_1))
def leadtrailref09_Begins.T6 : Bool × List (List Nat × List Nat) := (true, [([], []), ([0], [0]), ([], []), ([1, 2], [1, 2]), ([3], [3]), ([], []), ([], []), ([5, 6], [5, 6]), ([7], [7]), ([8], [8]), ([4, 9], [4, 9]), ([10], [10])])
def leadtrailref09_Begins.B6 : List Nat := [0, 1, 0, 7, 15, 0, 0, 96, 224, 480, 1023, 2047]
theorem leadtrailref09_Begins.tab6 : rtab .any (opsOf Try.f55 6) = leadtrailref09_Begins.T6 := by kernel_rfl
theorem leadtrailref09_Begins.bits6 : waitsOk leadtrailref09_Begins.T6.2 leadtrailref09_Begins.B6 = true := by kernel_rfl
set_option maxHeartbeats 8000000 in
set_option maxRecDepth 100000 in
theorem leadtrailref09_Begins.calls (k : Nat) (A0_0 : Option Addr) (c0_0 : Nat) (l0_0 : List (List (S113))) (a0_1 : Int) (A1 : Option Addr) (c1 : Nat) (l1 : List Int) (r : Bool) (w : World) (hr0_0 : Kd.C (Kd.slice 113 k113) w A0_0 l0_0.length l0_0) (hc0_0 : l0_0.length ≤ c0_0) (hr1 : Kd.C (Kd.int .u8) w A1 l1.length l1) (hc1 : l1.length ≤ c1) (h : leadtrailref09_Begins.f k l0_0 a0_1 l1 = some r) :
  Calls Try.prog 55 #[.agg #[.slice A0_0 l0_0.length c0_0, .int .i64 a0_1], .slice A1 l1.length c1] w fun e w' => e = .returned (.bool r) ∧ Below w.heap.size w w' := by
 have hu50 := Try.underlying50
 have HR0_0 := Aside0.mk hr0_0
 have HC0_0 := Aside0.mk hc0_0
 clear hr0_0 hc0_0
 have HR1 := Aside0.mk hr1
 have HC1 := Aside0.mk hc1
 clear hr1 hc1
 have HB := Aside0.mk (Below.refl w.heap.size w)
 have H : ((leadtrailref09_Count.f k l0_0 a0_1).bind fun t401 => (if t401 = 0 then (leadtrailref09_Begins.j0 k l1 true l0_0 a0_1) else (leadtrailref09_Begins.j0 k l1 (decide ((l1.length : Int) > (l0_0.length : Int))) l0_0 a0_1))) = some r := h
 clear h
 have HC3 := Aside0.mk H
 clear H
 go_enter Try.func55, Try.ntmps55
 go_upto_region 1 with (first | ((with_reducible refine gate_dst (N := 2) rfl ?_); (try (refine gate_guard (by rfl) ?_; dsimp only)); refine box_event ?hg (N := 2) ?hd (cs := #[.slice A0_0 l0_0.length c0_0, .int .i64 a0_1]) (t := 50) ?hr ?_; (case hd => rfl); (case hg => rfl); (case hr => first | (go_simp; done) | (go_simp; rfl)); intro gb400 hg w4 hbox hb; have n0_ := Aside0.mk (below_step (by repeat (first | (with_reducible first | exact HB.out | apply zD | apply zE | apply zF) | exact HB.out)) hb); have n1_ := Aside0.mk (hbox); have n2_ := Aside0.mk ((by rw [hg]; exact (below_size (by repeat (first | (with_reducible first | exact HB.out | apply zD | apply zE | apply zF) | exact HB.out))) : w.heap.size ≤ gb400)); have n3_ := Aside0.mk ((by rw [hg]; exact (below_size (by repeat (first | (with_reducible first | exact HB.out | apply zD | apply zE | apply zF) | exact HB.out))) : w.heap.size ≤ gb400)); clear HB; have HB := n0_; have BK400 := n1_; have GW400 := n2_; have GE400 := n3_; clear n0_ n1_ n2_ n3_; clear hb hbox hg))
 (try simp only [Act.put, List.setIfInBounds_toArray, List.set_cons_zero, List.set_cons_succ])
 go_cut [16] (fun v16 wc => ∃ (kq : Nat) (x16_2 : Bool), v16 = .bool x16_2 ∧ Aside0 (leadtrailref09_Begins.j0 kq l1 x16_2 l0_0 a0_1 = some r) ∧ Aside0 (kq ≤ k) ∧ Aside0 (wc.heap[gb400]? = some (.cells #[(.slice A0_0 l0_0.length c0_0), .int .i64 a0_1] 50 (0, 0))) ∧ Aside0 (Below w.heap.size w wc))
 case first =>
  have H := HC3.out
  clear HC3
  replace H := Option.bind_eq_some_iff.mp H
  obtain ⟨t401, A50, H⟩ := H
  replace H : (if t401 = 0 then (leadtrailref09_Begins.j0 k l1 true l0_0 a0_1) else (leadtrailref09_Begins.j0 k l1 (decide ((l1.length : Int) > (l0_0.length : Int))) l0_0 a0_1)) = some r := H
  have A5 := Aside0.mk A50
  clear A50
  by_cases c6 : t401 = 0
  ·rw [if_pos c6] at H
   have c6b0 : (t401 == 0) = true := beq_iff_eq.mpr c6
   have c6b1 : (t401 != 0) = false := bne_eq_false_iff_eq.mpr c6
   clear c6
   (first | rw [c6b0] | (simp only [i64_w, i32_w]; rw [c6b0]) | skip)
   have H' := Aside0.mk H
   clear H
   have hcz7_0 : w4.cell? ⟨gb400, 0, none⟩ = some (.slice A0_0 l0_0.length c0_0) := (blk_cell BK400.out 0).trans rfl
   have hcz7_1 : w4.cell? ⟨gb400, 1, none⟩ = some (.int .i64 a0_1) := (blk_cell BK400.out 1).trans rfl
   have hfz7_0 := blk_frozen BK400.out 0
   have hfz7_1 := blk_frozen BK400.out 1
   go_wp2_with (first | ((with_reducible refine gate_callee (f := 53) rfl ?_); refine goesL_ (some 7) rfl rfl Try.func53 (by kernel_rfl) rfl #[.agg #[.slice A0_0 l0_0.length c0_0, .int .i64 a0_1]] rfl zM ?_; (with_reducible refine (leadtrailref09_Count.calls k _ _ l0_0 a0_1 t401 _ ?side1 ?side2 A5.out).mono ?_); (case side1 => repeat (first | exact (Kd.C_below HR0_0.out HB.out) | (with_reducible refine Kd.C_alloc ?_ _) | (with_reducible refine Kd.C_drewN ?_ _) | (with_reducible refine Kd.C_drew ?_))); (case side2 => exact HC0_0.out); rintro e w8 ⟨rfl, hb⟩; refine ⟨_, rfl, ?_⟩; have n0_ := Aside0.mk (blk_below (g := gb400) (o := .cells #[.slice A0_0 l0_0.length c0_0, .int .i64 a0_1] 50 (0, 0)) (by (with_reducible repeat (first | refine blk_drewN ?_ _ | refine blk_drew ?_ | refine blk_alloc ?_ _)); exact BK400.out) hb); have n1_ := Aside0.mk (below_step (by repeat (first | (with_reducible first | exact HB.out | apply zD | apply zE | apply zF | refine below_set ?_ GE400.out) | exact HB.out)) hb); clear BK400; clear HB; have BK400 := n0_; have HB := n1_; clear n0_ n1_; (try clear hb); (try clear hb2); (try clear hk); (try clear hi)))
   go_meet
   case rel => exact ⟨_, (true), zR, H', ⟨by first | omega | exact Nat.le_refl _⟩, ⟨by (with_reducible repeat (first | refine blk_drewN ?_ _ | refine blk_drew ?_ | refine blk_alloc ?_ _)); exact BK400.out⟩, ⟨by repeat (first | (with_reducible first | exact HB.out | apply zD | apply zE | apply zF | refine below_set ?_ GE400.out) | exact HB.out)⟩⟩
  ·rw [if_neg c6] at H
   have c6b0 : (t401 == 0) = false := beq_eq_false_iff_ne.mpr c6
   have c6b1 : (t401 != 0) = true := bne_iff_ne.mpr c6
   (first | rw [c6b0] | (simp only [i64_w, i32_w]; rw [c6b0]) | skip)
   have H' := Aside0.mk H
   clear H
   have hcz9_0 : w4.cell? ⟨gb400, 0, none⟩ = some (.slice A0_0 l0_0.length c0_0) := (blk_cell BK400.out 0).trans rfl
   have hcz9_1 : w4.cell? ⟨gb400, 1, none⟩ = some (.int .i64 a0_1) := (blk_cell BK400.out 1).trans rfl
   have hfz9_0 := blk_frozen BK400.out 0
   have hfz9_1 := blk_frozen BK400.out 1
   go_wp2_with (first | ((with_reducible refine gate_callee (f := 53) rfl ?_); refine goesL_ (some 7) rfl rfl Try.func53 (by kernel_rfl) rfl #[.agg #[.slice A0_0 l0_0.length c0_0, .int .i64 a0_1]] rfl zM ?_; (with_reducible refine (leadtrailref09_Count.calls k _ _ l0_0 a0_1 t401 _ ?side1 ?side2 A5.out).mono ?_); (case side1 => repeat (first | exact (Kd.C_below HR0_0.out HB.out) | (with_reducible refine Kd.C_alloc ?_ _) | (with_reducible refine Kd.C_drewN ?_ _) | (with_reducible refine Kd.C_drew ?_))); (case side2 => exact HC0_0.out); rintro e w10 ⟨rfl, hb⟩; refine ⟨_, rfl, ?_⟩; have n0_ := Aside0.mk (blk_below (g := gb400) (o := .cells #[.slice A0_0 l0_0.length c0_0, .int .i64 a0_1] 50 (0, 0)) (by (with_reducible repeat (first | refine blk_drewN ?_ _ | refine blk_drew ?_ | refine blk_alloc ?_ _)); exact BK400.out) hb); have n1_ := Aside0.mk (below_step (by repeat (first | (with_reducible first | exact HB.out | apply zD | apply zE | apply zF | refine below_set ?_ GE400.out) | exact HB.out)) hb); clear BK400; clear HB; have BK400 := n0_; have HB := n1_; clear n0_ n1_; (try clear hb); (try clear hb2); (try clear hk); (try clear hi); have hcz11_0 : w10.cell? ⟨gb400, 0, none⟩ = some (.slice A0_0 l0_0.length c0_0) := (blk_cell BK400.out 0).trans rfl; have hcz11_1 : w10.cell? ⟨gb400, 1, none⟩ = some (.int .i64 a0_1) := (blk_cell BK400.out 1).trans rfl; have hfz11_0 := blk_frozen BK400.out 0; have hfz11_1 := blk_frozen BK400.out 1))
   go_meet
   case rel => exact ⟨_, (decide ((l1.length : Int) > (l0_0.length : Int))), zR, H', ⟨by first | omega | exact Nat.le_refl _⟩, ⟨by (with_reducible repeat (first | refine blk_drewN ?_ _ | refine blk_drew ?_ | refine blk_alloc ?_ _)); exact BK400.out⟩, ⟨by repeat (first | (with_reducible first | exact HB.out | apply zD | apply zE | apply zF | refine below_set ?_ GE400.out) | exact HB.out)⟩⟩
 case rest =>
  clear HC3
  try clear c1
  try clear p2
  try clear c5
  try clear c6
  try clear c6b0
  try clear c6b1
  try clear hcz11_0
  try clear hcz11_1
  try clear hcz7_0
  try clear hcz7_1
  try clear hcz9_0
  try clear hcz9_1
  try clear hfz11_0
  try clear hfz11_1
  try clear hfz7_0
  try clear hfz7_1
  try clear hfz9_0
  try clear hfz9_1
  obtain ⟨kq, x16_2, rfl, HA, HJ2, BK400, HB⟩ := hcut
  cases kq with
  | zero => exact absurd HA.out (by simp [leadtrailref09_Begins.j0])
  | succ kj2 =>
   have H := HA.out
   clear HA
   simp only [leadtrailref09_Begins.j0] at H
   by_cases c12 : x16_2 = true
   ·subst c12
    have H1 : (some false) = some r := by rw [if_pos rfl] at H; exact H
    clear H
    have H := H1
    clear H1
    obtain rfl := Option.some.inj H
    go_wp2
    go_ret
    exact ⟨by first | rfl | (simp [errW_none, errW_some] <;> rfl) | (simp [*, errW_none, errW_some] <;> rfl), by repeat (first | (with_reducible first | exact HB.out | apply zD | apply zE | apply zF | refine below_set ?_ GE400.out) | exact HB.out)⟩
   ·replace c12 := Bool.eq_false_iff.mpr c12
    subst c12
    have H1 : (leadtrailref09_Begins.l0 kj2 l1 0 l0_0 a0_1) = some r := by rw [if_neg (show ¬ (false = true) by decide)] at H; exact H
    clear H
    have H := H1
    clear H1
    have H' := Aside0.mk H
    clear H
    go_wp2
    go_loopg [5] kj2 (fun kq v5 w' => ∃ (x5_2 : Int), v5 = .int .i64 x5_2 ∧ Aside0 (leadtrailref09_Begins.l0 kq l1 x5_2 l0_0 a0_1 = some r) ∧ Aside0 (kq ≤ kj2) ∧ Aside0 (w'.heap[gb400]? = some (.cells #[(.slice A0_0 l0_0.length c0_0), .int .i64 a0_1] 50 (0, 0))) ∧ Aside0 (Below w.heap.size w w'))
    case atStart => exact ⟨(0), zR, H', ⟨Nat.le_refl _⟩, ⟨by (with_reducible repeat (first | refine blk_drewN ?_ _ | refine blk_drew ?_ | refine blk_alloc ?_ _)); exact BK400.out⟩, ⟨by repeat (first | (with_reducible first | exact HB.out | apply zD | apply zE | apply zF | refine below_set ?_ GE400.out) | exact HB.out)⟩⟩
    case round =>
     clear H'
     try clear c1
     try clear p2
     try clear c5
     try clear c6
     try clear c6b0
     try clear c6b1
     try clear c12
     try clear hcz11_0
     try clear hcz11_1
     try clear hcz7_0
     try clear hcz7_1
     try clear hcz9_0
     try clear hcz9_1
     try clear hfz11_0
     try clear hfz11_1
     try clear hfz7_0
     try clear hfz7_1
     try clear hfz9_0
     try clear hfz9_1
     try clear p2
     obtain ⟨x5_2, rfl, HA, HK2, BK400, HB⟩ := hrel
     cases gk with
     | zero => exact absurd HA.out (by simp [leadtrailref09_Begins.l0])
     | succ k2 =>
      have H := HA.out
      clear HA
      simp only [leadtrailref09_Begins.l0] at H
      by_cases c13 : x5_2 < (l1.length : Int)
      ·rw [if_pos c13] at H
       have c13b0 : decide (x5_2 < (l1.length : Int)) = true := decide_eq_true c13
       clear c13
       by_cases c14 : 0 ≤ x5_2
       ·rw [if_pos c14] at H
        have c14b0 : decide (0 ≤ x5_2) = true := decide_eq_true c14
        clear c14
        by_cases c15 : x5_2 < (l0_0.length : Int)
        ·rw [if_pos c15] at H
         have c15b0 : decide (x5_2 < (l0_0.length : Int)) = true := decide_eq_true c15
         clear c15
         replace H := Option.bind_eq_some_iff.mp H
         obtain ⟨t404, A160, H⟩ := H
         replace H : (if t404 = true then (leadtrailref09_Begins.l0 k2 l1 (wrap64 (x5_2 + 1)) l0_0 a0_1) else (some false)) = some r := H
         have A16 := Aside0.mk A160
         clear A160
         by_cases c17 : t404 = true
         ·subst c17
          have H1 : (leadtrailref09_Begins.l0 k2 l1 (wrap64 (x5_2 + 1)) l0_0 a0_1) = some r := by rw [if_pos rfl] at H; exact H
          clear H
          have H := H1
          clear H1
          have H' := Aside0.mk H
          clear H
          try go_wp2
          have n0_ := Aside0.mk (blk_drew BK400.out)
          have n1_ := Aside0.mk (below_drew1 HB.out)
          clear BK400
          clear HB
          have BK400 := n0_
          have HB := n1_
          clear n0_ n1_
          have p402 : 0 ≤ (x5_2 : Int) := zT
          have q402 : x5_2 < (l0_0.length : Int) := zT
          obtain ⟨ad402, A402_0, c402_0, e402, hx402_0, hl402_0, hi402_0⟩ := at_L4 HR0_0.out x5_2 p402 q402
          have hw402_0 := hx402_0
          cases e402
          replace hx402_0 := (HB.out.cell (World.block_lt_of_cell? w _ hx402_0)).trans hx402_0
          have HR402_0 := Aside0.mk hi402_0
          have HC402_0 := Aside0.mk hl402_0
          clear hi402_0 hl402_0
          replace p402 := eq_true p402
          replace q402 := eq_true q402
          have p403 : 0 ≤ (x5_2 : Int) := zT
          have q403 : x5_2 < (l1.length : Int) := zT
          obtain ⟨ad403, e403, hx403_0⟩ := Kd.at_int HR1.out x5_2 p403 q403
          have hw403_0 := hx403_0
          cases e403
          replace hx403_0 := (HB.out.cell (World.block_lt_of_cell? w _ hx403_0)).trans hx403_0
          replace p403 := eq_true p403
          replace q403 := eq_true q403
          refine start_ (n := 12) (S := fun w' => w'.cell? ⟨gb400, 0, none⟩ = some (.slice (some ad402) l0_0.length c0_0) ∧ w'.cell? ⟨gb400, 1, none⟩ = some (.int .i64 a0_1) ∧ w'.cell? (ad402.add (x5_2).toNat) = some (.slice A402_0 (rd_L4 l0_0 x5_2).length c402_0) ∧ w'.cell? (ad403.add (x5_2).toNat) = some (.int .u8 (rd l1 x5_2))) (ds := []) #[false, false, false, false, false, false, false, false, false, false, false, false] (by kernel_rfl) rfl rfl ⟨(blk_cell BK400.out 0).trans rfl, (blk_cell BK400.out 1).trans rfl, ((HB.out.cell (World.block_lt_of_cell? w _ hw402_0)).trans hw402_0), ((HB.out.cell (World.block_lt_of_cell? w _ hw403_0)).trans hw403_0)⟩ (fun hHeld => ?_); refine with_tabW leadtrailref09_Begins.tab6 leadtrailref09_Begins.bits6 (fun HT_ HW_ => ?_)
          generalize wr.drew = w18 at BK400 HB HR402_0 hx402_0 hx403_0 hHeld ⊢
          refine pure_ (i := 0) (N := some 23) (v := ?_) (a' := ?_) (bz 12 1) rfl rfl (any_of HT_.out (by kernel_rfl)) zQ (Or.inl ⟨by rfl, ?_⟩) ?_ ?_
          rotate_left
          ·intro w'
           go_simp
           with_reducible rfl
          rotate_left
          ·simp only [Act.put, List.setIfInBounds_toArray, List.set_cons_zero, List.set_cons_succ, i64_w, i32_w]
           rfl
          refine pure_ (i := 2) (N := some 25) (v := ?_) (a' := ?_) (bz 12 5) rfl rfl (any_of HT_.out (by kernel_rfl)) zQ (Or.inl ⟨by rfl, ?_⟩) ?_ ?_
          rotate_left
          ·intro w'
           go_simp
           with_reducible rfl
          rotate_left
          ·simp only [Act.put, List.setIfInBounds_toArray, List.set_cons_zero, List.set_cons_succ, i64_w, i32_w]
           rfl
          refine pure_ (i := 5) (N := some 28) (v := ?_) (a' := ?_) (bz 12 37) rfl rfl (any_of HT_.out (by kernel_rfl)) zQ (Or.inl ⟨by rfl, ?_⟩) ?_ ?_
          rotate_left
          ·intro w'
           go_simp
           with_reducible rfl
          rotate_left
          ·simp only [Act.put, List.setIfInBounds_toArray, List.set_cons_zero, List.set_cons_succ, i64_w, i32_w]
           rfl
          refine pure_ (i := 6) (N := some 29) (v := ?_) (a' := ?_) (bz 12 101) rfl rfl (any_of HT_.out (by kernel_rfl)) zQ (Or.inl ⟨by rfl, ?_⟩) ?_ ?_
          rotate_left
          ·intro w'
           go_simp
           with_reducible rfl
          rotate_left
          ·simp only [Act.put, List.setIfInBounds_toArray, List.set_cons_zero, List.set_cons_succ, i64_w, i32_w]
           rfl
          refine pure_ (i := 7) (N := some 30) (v := ?_) (a' := ?_) (bz 12 229) rfl rfl (any_of HT_.out (by kernel_rfl)) zQ (Or.inl ⟨by rfl, ?_⟩) ?_ ?_
          rotate_left
          ·intro w'
           go_simp
           with_reducible rfl
          rotate_left
          ·simp only [Act.put, List.setIfInBounds_toArray, List.set_cons_zero, List.set_cons_succ, i64_w, i32_w]
           rfl
          refine take_ (i := 1) (N := some 24) (v := ?_) (a' := ?_) (bz 12 231) rfl rfl (take_ofW HT_.out HW_.out (by kernel_rfl)) zQ (Or.inl ⟨by rfl, ?_⟩) hHeld ?_ ?_
          rotate_left
          ·rintro w' ⟨s0, s1, s2, s3⟩
           go_simp
           with_reducible rfl
          rotate_left
          ·simp only [Act.put, List.setIfInBounds_toArray, List.set_cons_zero, List.set_cons_succ, i64_w, i32_w]
           rfl
          refine pure_ (i := 3) (N := some 26) (v := ?_) (a' := ?_) (bz 12 239) rfl rfl (any_of HT_.out (by kernel_rfl)) zQ (Or.inl ⟨by rfl, ?_⟩) ?_ ?_
          rotate_left
          ·intro w'
           go_simp
           with_reducible rfl
          rotate_left
          ·simp only [Act.put, List.setIfInBounds_toArray, List.set_cons_zero, List.set_cons_succ, i64_w, i32_w]
           rfl
          refine take_ (i := 4) (N := some 27) (v := ?_) (a' := ?_) (bz 12 255) rfl rfl (take_ofW HT_.out HW_.out (by kernel_rfl)) zQ (Or.inl ⟨by rfl, ?_⟩) hHeld ?_ ?_
          rotate_left
          ·rintro w' ⟨s0, s1, s2, s3⟩
           go_simp
           with_reducible rfl
          rotate_left
          ·simp only [Act.put, List.setIfInBounds_toArray, List.set_cons_zero, List.set_cons_succ, i64_w, i32_w]
           rfl
          refine take_ (i := 8) (N := some 31) (v := ?_) (a' := ?_) (bz 12 511) rfl rfl (take_ofW HT_.out HW_.out (by kernel_rfl)) zQ (Or.inl ⟨by rfl, ?_⟩) hHeld ?_ ?_
          rotate_left
          ·rintro w' ⟨s0, s1, s2, s3⟩
           go_simp
           with_reducible rfl
          rotate_left
          ·simp only [Act.put, List.setIfInBounds_toArray, List.set_cons_zero, List.set_cons_succ, i64_w, i32_w]
           rfl
          refine pure_ (i := 9) (N := some 32) (v := ?_) (a' := ?_) (bz 12 1023) rfl rfl (any_of HT_.out (by kernel_rfl)) zQ (Or.inl ⟨by rfl, ?_⟩) ?_ ?_
          rotate_left
          ·intro w'
           go_simp
           with_reducible rfl
          rotate_left
          ·simp only [Act.put, List.setIfInBounds_toArray, List.set_cons_zero, List.set_cons_succ, i64_w, i32_w]
           rfl
          refine one_ (i := 10) (N := some 33) (bz 12 2047) rfl rfl (one_of HT_.out (by kernel_rfl)) (by decide) (fun K hK => ?_)
          refine goes_ Try.func73 (by kernel_rfl) rfl #[.slice A402_0 (rd_L4 l0_0 x5_2).length c402_0, .int .i64 (wrap64 (rd l1 x5_2))] (by rfl) rfl rfl zM ?_
          with_reducible refine (leadtrailref03_Has.calls k2 _ _ (rd_L4 l0_0 x5_2) (wrap64 (rd l1 x5_2)) true _ ?side1 ?side2 A16.out).mono ?_
          (case side1 => repeat (first | exact (Kd.C_below HR402_0.out HB.out) | (with_reducible refine Kd.C_alloc ?_ _) | (with_reducible refine Kd.C_drewN ?_ _) | (with_reducible refine Kd.C_drew ?_)))
          (case side2 => exact HC402_0.out)
          rintro e w19 ⟨rfl, hb⟩
          refine ⟨_, rfl, ?_⟩
          have n0_ := Aside0.mk (blk_below (g := gb400) (o := .cells #[.slice (some ad402) l0_0.length c0_0, .int .i64 a0_1] 50 (0, 0)) (by (with_reducible repeat (first | refine blk_drewN ?_ _ | refine blk_drew ?_ | refine blk_alloc ?_ _)); exact BK400.out) hb)
          have n1_ := Aside0.mk (below_step (by repeat (first | (with_reducible first | exact HB.out | apply zD | apply zE | apply zF | refine below_set ?_ GE400.out) | exact HB.out)) hb)
          clear BK400
          clear HB
          have BK400 := n0_
          have HB := n1_
          clear n0_ n1_
          (try clear hb)
          (try clear hb2)
          (try clear hk)
          (try clear hi)
          refine hK.out _ _ ⟨(blk_cell BK400.out 0).trans rfl, (blk_cell BK400.out 1).trans rfl, ((HB.out.cell (World.block_lt_of_cell? w _ hw402_0)).trans hw402_0), ((HB.out.cell (World.block_lt_of_cell? w _ hw403_0)).trans hw403_0)⟩ (fun hHeld => ?_)
          clear hK K
          refine norm_ (a' := ?_) ?_ ?_
          rotate_left
          ·show Act.put _ (some 33) _ = _
           simp only [Act.put, List.setIfInBounds_toArray, List.set_cons_zero, List.set_cons_succ, i64_w, i32_w]
           rfl
          refine pure_ (i := 11) (N := some 34) (v := ?_) (a' := ?_) (bz 12 4095) rfl rfl (any_of HT_.out (by kernel_rfl)) zQ (Or.inl ⟨by rfl, ?_⟩) ?_ ?_
          rotate_left
          ·intro w'
           go_simp
           with_reducible rfl
          rotate_left
          ·simp only [Act.put, List.setIfInBounds_toArray, List.set_cons_zero, List.set_cons_succ, i64_w, i32_w]
           rfl
          refine done_ (done_of HT_.out (by kernel_rfl)) ?_
          try go_wp2
          go_roundg k2
          case measure => have := HJ2.out; have := HK2.out; omega
          case rel => exact ⟨(wrap64 (x5_2 + 1)), zR, H', ⟨by have := HJ2.out; have := HK2.out; omega⟩, ⟨by (with_reducible repeat (first | refine blk_drewN ?_ _ | refine blk_drew ?_ | refine blk_alloc ?_ _)); exact BK400.out⟩, ⟨by repeat (first | (with_reducible first | exact HB.out | apply zD | apply zE | apply zF | refine below_set ?_ GE400.out) | exact HB.out)⟩⟩
         ·replace c17 := Bool.eq_false_iff.mpr c17
          subst c17
          have H1 : (some false) = some r := by rw [if_neg (show ¬ (false = true) by decide)] at H; exact H
          clear H
          have H := H1
          clear H1
          obtain rfl := Option.some.inj H
          try go_wp2
          have n0_ := Aside0.mk (blk_drew BK400.out)
          have n1_ := Aside0.mk (below_drew1 HB.out)
          clear BK400
          clear HB
          have BK400 := n0_
          have HB := n1_
          clear n0_ n1_
          have p402 : 0 ≤ (x5_2 : Int) := zT
          have q402 : x5_2 < (l0_0.length : Int) := zT
          obtain ⟨ad402, A402_0, c402_0, e402, hx402_0, hl402_0, hi402_0⟩ := at_L4 HR0_0.out x5_2 p402 q402
          have hw402_0 := hx402_0
          cases e402
          replace hx402_0 := (HB.out.cell (World.block_lt_of_cell? w _ hx402_0)).trans hx402_0
          have HR402_0 := Aside0.mk hi402_0
          have HC402_0 := Aside0.mk hl402_0
          clear hi402_0 hl402_0
          replace p402 := eq_true p402
          replace q402 := eq_true q402
          have p403 : 0 ≤ (x5_2 : Int) := zT
          have q403 : x5_2 < (l1.length : Int) := zT
          obtain ⟨ad403, e403, hx403_0⟩ := Kd.at_int HR1.out x5_2 p403 q403
          have hw403_0 := hx403_0
          cases e403
          replace hx403_0 := (HB.out.cell (World.block_lt_of_cell? w _ hx403_0)).trans hx403_0
          replace p403 := eq_true p403
          replace q403 := eq_true q403
          refine start_ (n := 12) (S := fun w' => w'.cell? ⟨gb400, 0, none⟩ = some (.slice (some ad402) l0_0.length c0_0) ∧ w'.cell? ⟨gb400, 1, none⟩ = some (.int .i64 a0_1) ∧ w'.cell? (ad402.add (x5_2).toNat) = some (.slice A402_0 (rd_L4 l0_0 x5_2).length c402_0) ∧ w'.cell? (ad403.add (x5_2).toNat) = some (.int .u8 (rd l1 x5_2))) (ds := []) #[false, false, false, false, false, false, false, false, false, false, false, false] (by kernel_rfl) rfl rfl ⟨(blk_cell BK400.out 0).trans rfl, (blk_cell BK400.out 1).trans rfl, ((HB.out.cell (World.block_lt_of_cell? w _ hw402_0)).trans hw402_0), ((HB.out.cell (World.block_lt_of_cell? w _ hw403_0)).trans hw403_0)⟩ (fun hHeld => ?_); refine with_tabW leadtrailref09_Begins.tab6 leadtrailref09_Begins.bits6 (fun HT_ HW_ => ?_)
          generalize wr.drew = w20 at BK400 HB HR402_0 hx402_0 hx403_0 hHeld ⊢
          refine pure_ (i := 0) (N := some 23) (v := ?_) (a' := ?_) (bz 12 1) rfl rfl (any_of HT_.out (by kernel_rfl)) zQ (Or.inl ⟨by rfl, ?_⟩) ?_ ?_
          rotate_left
          ·intro w'
           go_simp
           with_reducible rfl
          rotate_left
          ·simp only [Act.put, List.setIfInBounds_toArray, List.set_cons_zero, List.set_cons_succ, i64_w, i32_w]
           rfl
          refine pure_ (i := 2) (N := some 25) (v := ?_) (a' := ?_) (bz 12 5) rfl rfl (any_of HT_.out (by kernel_rfl)) zQ (Or.inl ⟨by rfl, ?_⟩) ?_ ?_
          rotate_left
          ·intro w'
           go_simp
           with_reducible rfl
          rotate_left
          ·simp only [Act.put, List.setIfInBounds_toArray, List.set_cons_zero, List.set_cons_succ, i64_w, i32_w]
           rfl
          refine pure_ (i := 5) (N := some 28) (v := ?_) (a' := ?_) (bz 12 37) rfl rfl (any_of HT_.out (by kernel_rfl)) zQ (Or.inl ⟨by rfl, ?_⟩) ?_ ?_
          rotate_left
          ·intro w'
           go_simp
           with_reducible rfl
          rotate_left
          ·simp only [Act.put, List.setIfInBounds_toArray, List.set_cons_zero, List.set_cons_succ, i64_w, i32_w]
           rfl
          refine pure_ (i := 6) (N := some 29) (v := ?_) (a' := ?_) (bz 12 101) rfl rfl (any_of HT_.out (by kernel_rfl)) zQ (Or.inl ⟨by rfl, ?_⟩) ?_ ?_
          rotate_left
          ·intro w'
           go_simp
           with_reducible rfl
          rotate_left
          ·simp only [Act.put, List.setIfInBounds_toArray, List.set_cons_zero, List.set_cons_succ, i64_w, i32_w]
           rfl
          refine pure_ (i := 7) (N := some 30) (v := ?_) (a' := ?_) (bz 12 229) rfl rfl (any_of HT_.out (by kernel_rfl)) zQ (Or.inl ⟨by rfl, ?_⟩) ?_ ?_
          rotate_left
          ·intro w'
           go_simp
           with_reducible rfl
          rotate_left
          ·simp only [Act.put, List.setIfInBounds_toArray, List.set_cons_zero, List.set_cons_succ, i64_w, i32_w]
           rfl
          refine take_ (i := 1) (N := some 24) (v := ?_) (a' := ?_) (bz 12 231) rfl rfl (take_ofW HT_.out HW_.out (by kernel_rfl)) zQ (Or.inl ⟨by rfl, ?_⟩) hHeld ?_ ?_
          rotate_left
          ·rintro w' ⟨s0, s1, s2, s3⟩
           go_simp
           with_reducible rfl
          rotate_left
          ·simp only [Act.put, List.setIfInBounds_toArray, List.set_cons_zero, List.set_cons_succ, i64_w, i32_w]
           rfl
          refine pure_ (i := 3) (N := some 26) (v := ?_) (a' := ?_) (bz 12 239) rfl rfl (any_of HT_.out (by kernel_rfl)) zQ (Or.inl ⟨by rfl, ?_⟩) ?_ ?_
          rotate_left
          ·intro w'
           go_simp
           with_reducible rfl
          rotate_left
          ·simp only [Act.put, List.setIfInBounds_toArray, List.set_cons_zero, List.set_cons_succ, i64_w, i32_w]
           rfl
          refine take_ (i := 4) (N := some 27) (v := ?_) (a' := ?_) (bz 12 255) rfl rfl (take_ofW HT_.out HW_.out (by kernel_rfl)) zQ (Or.inl ⟨by rfl, ?_⟩) hHeld ?_ ?_
          rotate_left
          ·rintro w' ⟨s0, s1, s2, s3⟩
           go_simp
           with_reducible rfl
          rotate_left
          ·simp only [Act.put, List.setIfInBounds_toArray, List.set_cons_zero, List.set_cons_succ, i64_w, i32_w]
           rfl
          refine take_ (i := 8) (N := some 31) (v := ?_) (a' := ?_) (bz 12 511) rfl rfl (take_ofW HT_.out HW_.out (by kernel_rfl)) zQ (Or.inl ⟨by rfl, ?_⟩) hHeld ?_ ?_
          rotate_left
          ·rintro w' ⟨s0, s1, s2, s3⟩
           go_simp
           with_reducible rfl
          rotate_left
          ·simp only [Act.put, List.setIfInBounds_toArray, List.set_cons_zero, List.set_cons_succ, i64_w, i32_w]
           rfl
          refine pure_ (i := 9) (N := some 32) (v := ?_) (a' := ?_) (bz 12 1023) rfl rfl (any_of HT_.out (by kernel_rfl)) zQ (Or.inl ⟨by rfl, ?_⟩) ?_ ?_
          rotate_left
          ·intro w'
           go_simp
           with_reducible rfl
          rotate_left
          ·simp only [Act.put, List.setIfInBounds_toArray, List.set_cons_zero, List.set_cons_succ, i64_w, i32_w]
           rfl
          refine one_ (i := 10) (N := some 33) (bz 12 2047) rfl rfl (one_of HT_.out (by kernel_rfl)) (by decide) (fun K hK => ?_)
          refine goes_ Try.func73 (by kernel_rfl) rfl #[.slice A402_0 (rd_L4 l0_0 x5_2).length c402_0, .int .i64 (wrap64 (rd l1 x5_2))] (by rfl) rfl rfl zM ?_
          with_reducible refine (leadtrailref03_Has.calls k2 _ _ (rd_L4 l0_0 x5_2) (wrap64 (rd l1 x5_2)) false _ ?side1 ?side2 A16.out).mono ?_
          (case side1 => repeat (first | exact (Kd.C_below HR402_0.out HB.out) | (with_reducible refine Kd.C_alloc ?_ _) | (with_reducible refine Kd.C_drewN ?_ _) | (with_reducible refine Kd.C_drew ?_)))
          (case side2 => exact HC402_0.out)
          rintro e w21 ⟨rfl, hb⟩
          refine ⟨_, rfl, ?_⟩
          have n0_ := Aside0.mk (blk_below (g := gb400) (o := .cells #[.slice (some ad402) l0_0.length c0_0, .int .i64 a0_1] 50 (0, 0)) (by (with_reducible repeat (first | refine blk_drewN ?_ _ | refine blk_drew ?_ | refine blk_alloc ?_ _)); exact BK400.out) hb)
          have n1_ := Aside0.mk (below_step (by repeat (first | (with_reducible first | exact HB.out | apply zD | apply zE | apply zF | refine below_set ?_ GE400.out) | exact HB.out)) hb)
          clear BK400
          clear HB
          have BK400 := n0_
          have HB := n1_
          clear n0_ n1_
          (try clear hb)
          (try clear hb2)
          (try clear hk)
          (try clear hi)
          refine hK.out _ _ ⟨(blk_cell BK400.out 0).trans rfl, (blk_cell BK400.out 1).trans rfl, ((HB.out.cell (World.block_lt_of_cell? w _ hw402_0)).trans hw402_0), ((HB.out.cell (World.block_lt_of_cell? w _ hw403_0)).trans hw403_0)⟩ (fun hHeld => ?_)
          clear hK K
          refine norm_ (a' := ?_) ?_ ?_
          rotate_left
          ·show Act.put _ (some 33) _ = _
           simp only [Act.put, List.setIfInBounds_toArray, List.set_cons_zero, List.set_cons_succ, i64_w, i32_w]
           rfl
          refine pure_ (i := 11) (N := some 34) (v := ?_) (a' := ?_) (bz 12 4095) rfl rfl (any_of HT_.out (by kernel_rfl)) zQ (Or.inl ⟨by rfl, ?_⟩) ?_ ?_
          rotate_left
          ·intro w'
           go_simp
           with_reducible rfl
          rotate_left
          ·simp only [Act.put, List.setIfInBounds_toArray, List.set_cons_zero, List.set_cons_succ, i64_w, i32_w]
           rfl
          refine done_ (done_of HT_.out (by kernel_rfl)) ?_
          try go_wp2
          go_ret
          exact ⟨by first | rfl | (simp [errW_none, errW_some] <;> rfl) | (simp [*, errW_none, errW_some] <;> rfl), by repeat (first | (with_reducible first | exact HB.out | apply zD | apply zE | apply zF | refine below_set ?_ GE400.out) | exact HB.out)⟩
        ·rw [if_neg c15] at H
         exact absurd H (by simp)
       ·rw [if_neg c14] at H
        exact absurd H (by simp)
      ·rw [if_neg c13] at H
       have c13b0 : decide (x5_2 < (l1.length : Int)) = false := decide_eq_false c13
       clear c13
       obtain rfl := Option.some.inj H
       go_wp2
       go_ret
       exact ⟨by first | rfl | (simp [errW_none, errW_some] <;> rfl) | (simp [*, errW_none, errW_some] <;> rfl), by repeat (first | (with_reducible first | exact HB.out | apply zD | apply zE | apply zF | refine below_set ?_ GE400.out) | exact HB.out)⟩
def leadtrailref03_Same.l0 : Nat → List (S113) → List (S113) → Int → Option (Bool)
 | 0, _, _, _ => none
 | k + 1, x0, x1, x5 => if x5 < (x0.length : Int) then (if 0 ≤ x5 then (if x5 < (x1.length : Int) then (if (!(((rd_T113 x0 x5).f0) == ((rd_T113 x1 x5).f0)) || (!(((rd_T113 x0 x5).f1) == ((rd_T113 x1 x5).f1)))) = true then (some false) else (leadtrailref03_Same.l0 k x0 x1 (wrap64 (x5 + 1)))) else (none)) else (none)) else (some true)
def leadtrailref03_Same.f (k : Nat) (l0 : List (S113)) (l1 : List (S113)) : Option (Bool) := if (l0.length : Int) = (l1.length : Int) then (leadtrailref03_Same.l0 k l0 l1 0) else (some false)
set_option maxHeartbeats 8000000 in
set_option maxRecDepth 100000 in
theorem leadtrailref03_Same.calls (k : Nat) (A0 : Option Addr) (c0 : Nat) (l0 : List (S113)) (A1 : Option Addr) (c1 : Nat) (l1 : List (S113)) (r : Bool) (w : World) (hr0 : Kd.C k113 w A0 l0.length l0) (hc0 : l0.length ≤ c0) (hr1 : Kd.C k113 w A1 l1.length l1) (hc1 : l1.length ≤ c1) (h : leadtrailref03_Same.f k l0 l1 = some r) :
  Calls Try.prog 30 #[.slice A0 l0.length c0, .slice A1 l1.length c1] w fun e w' => e = .returned (.bool r) ∧ Drawn0 w w' := by
 have hu113 := Try.underlying113
 have HR0 := Aside0.mk hr0
 have HC0 := Aside0.mk hc0
 clear hr0 hc0
 have HR1 := Aside0.mk hr1
 have HC1 := Aside0.mk hc1
 clear hr1 hc1
 have H : (if (l0.length : Int) = (l1.length : Int) then (leadtrailref03_Same.l0 k l0 l1 0) else (some false)) = some r := h
 clear h
 by_cases c3 : (l0.length : Int) = (l1.length : Int)
 ·rw [if_pos c3] at H
  have c3b0 : ((l0.length : Int) == (l1.length : Int)) = true := beq_iff_eq.mpr c3
  have c3b1 : ((l0.length : Int) != (l1.length : Int)) = false := bne_eq_false_iff_eq.mpr c3
  have c3b2 : (l0.length == l1.length) = true := by first | simpa using c3 | (simp at c3 ⊢; omega)
  clear c3
  have H' := Aside0.mk H
  clear H
  go_enter Try.func30, Try.ntmps30
  go_wp2
  repeat (go_quiet (fail); try go_wp2)
  go_loopg [5] k (fun kq v5 w' => ∃ (x5_1 : Int), v5 = .int .i64 x5_1 ∧ Aside0 (leadtrailref03_Same.l0 kq l0 l1 x5_1 = some r) ∧ Aside0 (kq ≤ k) ∧ Drawn0 w w')
  case atStart => exact ⟨(0), zR, H', ⟨Nat.le_refl _⟩, by repeat (first | exact Drawn0.refl _ | apply Drawn0.step)⟩
  case round =>
   clear H'
   try clear c1
   try clear p2
   try clear c3
   try clear c3b0
   try clear c3b1
   try clear c3b2
   obtain ⟨x5_1, rfl, HA, HK1, ⟨m1, rfl⟩⟩ := hrel
   cases gk with
   | zero => exact absurd HA.out (by simp [leadtrailref03_Same.l0])
   | succ k1 =>
    have H := HA.out
    clear HA
    simp only [leadtrailref03_Same.l0] at H
    by_cases c4 : x5_1 < (l0.length : Int)
    ·rw [if_pos c4] at H
     have c4b0 : decide (x5_1 < (l0.length : Int)) = true := decide_eq_true c4
     clear c4
     by_cases c5 : 0 ≤ x5_1
     ·rw [if_pos c5] at H
      have c5b0 : decide (0 ≤ x5_1) = true := decide_eq_true c5
      clear c5
      by_cases c6 : x5_1 < (l1.length : Int)
      ·rw [if_pos c6] at H
       have c6b0 : decide (x5_1 < (l1.length : Int)) = true := decide_eq_true c6
       clear c6
       by_cases c7 : (!(((rd_T113 l0 x5_1).f0) == ((rd_T113 l1 x5_1).f0)) || (!(((rd_T113 l0 x5_1).f1) == ((rd_T113 l1 x5_1).f1)))) = true
       ·rw [if_pos c7] at H
        have c7b0 : (!(((rd_T113 l0 x5_1).f0) == ((rd_T113 l1 x5_1).f0)) || (!(((rd_T113 l0 x5_1).f1) == ((rd_T113 l1 x5_1).f1)))) = true := c7
        clear c7
        obtain rfl := Option.some.inj H
        have p405 : 0 ≤ (x5_1 : Int) := zT
        have q405 : x5_1 < (l0.length : Int) := zT
        obtain ⟨ad405, e405, hx405_0, hx405_1⟩ := at_T113 HR0.out x5_1 p405 q405
        cases e405
        replace p405 := eq_true p405
        replace q405 := eq_true q405
        have p406 : 0 ≤ (x5_1 : Int) := zT
        have q406 : x5_1 < (l1.length : Int) := zT
        obtain ⟨ad406, e406, hx406_0, hx406_1⟩ := at_T113 HR1.out x5_1 p406 q406
        cases e406
        replace p406 := eq_true p406
        replace q406 := eq_true q406
        go_wp2
        repeat (go_quiet (fail); try go_wp2)
        go_ret
        exact ⟨by first | rfl | (simp; done) | (simp [*]; done), by repeat (first | exact Drawn0.refl _ | apply Drawn0.step)⟩
       ·rw [if_neg c7] at H
        have c7b0 : (!(((rd_T113 l0 x5_1).f0) == ((rd_T113 l1 x5_1).f0)) || (!(((rd_T113 l0 x5_1).f1) == ((rd_T113 l1 x5_1).f1)))) = false := by simpa using c7
        clear c7
        have H' := Aside0.mk H
        clear H
        have p405 : 0 ≤ (x5_1 : Int) := zT
        have q405 : x5_1 < (l0.length : Int) := zT
        obtain ⟨ad405, e405, hx405_0, hx405_1⟩ := at_T113 HR0.out x5_1 p405 q405
        cases e405
        replace p405 := eq_true p405
        replace q405 := eq_true q405
        have p406 : 0 ≤ (x5_1 : Int) := zT
        have q406 : x5_1 < (l1.length : Int) := zT
        obtain ⟨ad406, e406, hx406_0, hx406_1⟩ := at_T113 HR1.out x5_1 p406 q406
        cases e406
        replace p406 := eq_true p406
        replace q406 := eq_true q406
        go_wp2
        repeat (go_quiet (fail); try go_wp2)
        go_roundg k1
        case measure => have := HK1.out; omega
        case rel => exact ⟨(wrap64 (x5_1 + 1)), zR, H', ⟨by have := HK1.out; omega⟩, by repeat (first | exact Drawn0.refl _ | apply Drawn0.step)⟩
      ·rw [if_neg c6] at H
       exact absurd H (by simp)
     ·rw [if_neg c5] at H
      exact absurd H (by simp)
    ·rw [if_neg c4] at H
     have c4b0 : decide (x5_1 < (l0.length : Int)) = false := decide_eq_false c4
     clear c4
     obtain rfl := Option.some.inj H
     go_wp2
     repeat (go_quiet (fail); try go_wp2)
     go_ret
     exact ⟨by first | rfl | (simp; done) | (simp [*]; done), by repeat (first | exact Drawn0.refl _ | apply Drawn0.step)⟩
 ·rw [if_neg c3] at H
  have c3b0 : ((l0.length : Int) == (l1.length : Int)) = false := beq_eq_false_iff_ne.mpr c3
  have c3b1 : ((l0.length : Int) != (l1.length : Int)) = true := bne_iff_ne.mpr c3
  have c3b2 : (l0.length == l1.length) = false := by first | simpa using c3 | (simp at c3 ⊢; omega)
  obtain rfl := Option.some.inj H
  go_enter Try.func30, Try.ntmps30
  go_wp2
  repeat (go_quiet (fail); try go_wp2)
  go_ret
  exact ⟨by first | rfl | (simp; done) | (simp [*]; done), by repeat (first | exact Drawn0.refl _ | apply Drawn0.step)⟩
end Go.Proofs.Ytkcklnmbeinfkaa.B
