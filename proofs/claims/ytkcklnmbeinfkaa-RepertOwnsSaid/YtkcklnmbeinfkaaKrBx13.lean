/- Words and walks of this claim, of the text Bx13. -/
import Derived.Test.YtkcklnmbeinfkaaKrQW0
import Derived.Test.YtkcklnmbeinfkaaKrBx0
import Derived.Test.YtkcklnmbeinfkaaKrBx12
namespace Go.Proofs.Ytkcklnmbeinfkaa.B
open Go.RowKit Go.Proofs.YtkcklnmbeinfkaaW.PrintWords Go.Proofs.YtkcklnmbeinfkaaW.PrintLast Go.Proofs.YtkcklnmbeinfkaaW.PrintMore
attribute [local go_sem] max2_int min2_int max_two min_two max_three min_three max_four min_four
set_option linter.unusedVariables false
set_option linter.unusedSimpArgs false
mutual
def leadtrailref08_ValidShape.j0 : Nat → Bool → List (List (S113)) → Int → Option (Bool)
 | 0, _, _, _ => none
 | k + 1, x23, x367000, x367001 => if x23 = true then (some false) else (leadtrailref08_ValidShape.l0 k 0 x367000 x367001)
def leadtrailref08_ValidShape.l0 : Nat → Int → List (List (S113)) → Int → Option (Bool)
 | 0, _, _, _ => none
 | k + 1, x3, x367000, x367001 => if x3 < (x367000.length : Int) then (if 0 ≤ x3 then (if ((rd_L4 x367000 x3).length : Int) = 0 then (some false) else ((leadtrailref03_Valid.f k (rd_L4 x367000 x3)).bind fun t370 => (if t370 = true then (leadtrailref08_ValidShape.l0 k (wrap64 (x3 + 1)) x367000 x367001) else (some false)))) else (none)) else ((leadtrailref08_Count.f k x367000 x367001).bind fun t367 => (some (decide ((wrap64 ((wrap64 (x367001 + t367)) - 1)) ≤ 1073741823))))
end
def leadtrailref08_ValidShape.f (k : Nat) (l0_0 : List (List (S113))) (a0_1 : Int) : Option (Bool) := if (l0_0.length : Int) < 1 then (leadtrailref08_ValidShape.j0 k true l0_0 a0_1) else (if (l0_0.length : Int) > 8 then (leadtrailref08_ValidShape.j0 k true l0_0 a0_1) else (if a0_1 < 0 then (leadtrailref08_ValidShape.j0 k true l0_0 a0_1) else (leadtrailref08_ValidShape.j0 k (decide (a0_1 > 1073741823)) l0_0 a0_1)))
def leadtrailref08_ValidShape.T8 : Bool × List (List Nat × List Nat) := (true, [([], []), ([0], [0]), ([], []), ([2], [2]), ([1, 3], [1, 3]), ([4], [4]), ([5], [5]), ([6, 3, 0, 1, 2, 3, 4, 5, 6], [6])])
def leadtrailref08_ValidShape.B8 : List Nat := [0, 1, 0, 4, 15, 31, 63, 127]
theorem leadtrailref08_ValidShape.tab8 : rtab .any (opsOf Try.f52 8) = leadtrailref08_ValidShape.T8 := by kernel_rfl
theorem leadtrailref08_ValidShape.bits8 : waitsOk leadtrailref08_ValidShape.T8.2 leadtrailref08_ValidShape.B8 = true := by kernel_rfl
set_option maxHeartbeats 8000000 in
set_option maxRecDepth 100000 in
theorem leadtrailref08_ValidShape.calls (k : Nat) (A0_0 : Option Addr) (c0_0 : Nat) (l0_0 : List (List (S113))) (a0_1 : Int) (r : Bool) (w : World) (hr0_0 : Kd.C (Kd.slice 113 k113) w A0_0 l0_0.length l0_0) (hc0_0 : l0_0.length ≤ c0_0) (h : leadtrailref08_ValidShape.f k l0_0 a0_1 = some r) :
 Calls Try.prog 52 #[.agg #[.slice A0_0 l0_0.length c0_0, .int .i64 a0_1]] w fun e w' => e = .returned (.bool r) ∧ Below w.heap.size w w' := by
 have hu50 := Try.underlying50; have HR0_0 := zk hr0_0; have HC0_0 := zk hc0_0; clear hr0_0 hc0_0; have HB := zk (Below.refl w.heap.size w); have H : (if (l0_0.length : Int) < 1 then (leadtrailref08_ValidShape.j0 k true l0_0 a0_1) else (if (l0_0.length : Int) > 8 then (leadtrailref08_ValidShape.j0 k true l0_0 a0_1) else (if a0_1 < 0 then (leadtrailref08_ValidShape.j0 k true l0_0 a0_1) else (leadtrailref08_ValidShape.j0 k (decide (a0_1 > 1073741823)) l0_0 a0_1)))) = some r := h; clear h; have HC2 := zk H; clear H; go_enter Try.func52, Try.ntmps52
 go_upto_region 1 with (first | ((with_reducible refine gate_dst (N := 1) rfl ?_); (try (refine gate_guard (by rfl) ?_; dsimp only)); refine box_event ?hg (N := 1) ?hd (cs := #[.slice A0_0 l0_0.length c0_0, .int .i64 a0_1]) (t := 50) ?hr ?_; (case hd => rfl); (case hg => rfl); (case hr => first | (go_simp; done) | (go_simp; rfl)); intro gb366 hg w3 hbox hb; have BK366 := zk (hbox); have GE366 := zk ((zg hg HB.out : w.heap.size ≤ gb366)); replace HB := zk (below_step (zU HB.out) hb);  clear hb hbox hg))
 (try simp only [Act.put, List.setIfInBounds_toArray, List.set_cons_zero, List.set_cons_succ])
 go_cut [23] (fun v23 wc => ∃ (kq : Nat) (x23_1 : Bool), v23 = .bool x23_1 ∧ Aside0 (leadtrailref08_ValidShape.j0 kq x23_1 l0_0 a0_1 = some r) ∧ Aside0 (kq ≤ k) ∧ Aside0 (wc.heap[gb366]? = some (.cells #[(.slice A0_0 l0_0.length c0_0), .int .i64 a0_1] 50 (0, 0))) ∧ Aside0 (Below w.heap.size w wc))
 case first =>
  have H := HC2.out; clear HC2; by_cases c4 : (l0_0.length : Int) < 1
  ·rw [if_pos c4] at H; have c4b0 : decide ((l0_0.length : Int) < 1) = true := decide_eq_true c4; have c4b1 : decide (l0_0.length < 1) = true := decide_eq_true (by omega); clear c4
   (first | rw [c4b0] | (simp only [i64_w, i32_w]; rw [c4b0]) | skip)
   have H' := zk H; clear H; have hcz5_0 : w3.cell? ⟨gb366, 0, none⟩ = some (.slice A0_0 l0_0.length c0_0) := zh BK366.out 0; have hcz5_1 : w3.cell? ⟨gb366, 1, none⟩ = some (.int .i64 a0_1) := zh BK366.out 1; have hfz5_0 := blk_frozen BK366.out 0; have hfz5_1 := blk_frozen BK366.out 1; go_wp2
   go_meet
   case rel => exact ⟨_, (true), zR, H', ⟨by first | omega | exact Nat.le_refl _⟩, ⟨zb BK366.out⟩, ⟨zU HB.out⟩⟩
  ·rw [if_neg c4] at H; have c4b0 : decide ((l0_0.length : Int) < 1) = false := decide_eq_false c4; have c4b1 : decide (l0_0.length < 1) = false := decide_eq_false (by omega); clear c4
   (first | rw [c4b0] | (simp only [i64_w, i32_w]; rw [c4b0]) | skip)
   by_cases c6 : (l0_0.length : Int) > 8
   ·rw [if_pos c6] at H; have c6b0 : decide (8 < (l0_0.length : Int)) = true := decide_eq_true c6; have c6b1 : decide (8 < l0_0.length) = true := decide_eq_true (by omega); clear c6; have H' := zk H; clear H; have hcz7_0 : w3.cell? ⟨gb366, 0, none⟩ = some (.slice A0_0 l0_0.length c0_0) := zh BK366.out 0; have hcz7_1 : w3.cell? ⟨gb366, 1, none⟩ = some (.int .i64 a0_1) := zh BK366.out 1; have hfz7_0 := blk_frozen BK366.out 0; have hfz7_1 := blk_frozen BK366.out 1; go_wp2
    go_meet
    case rel => exact ⟨_, (true), zR, H', ⟨by first | omega | exact Nat.le_refl _⟩, ⟨zb BK366.out⟩, ⟨zU HB.out⟩⟩
   ·rw [if_neg c6] at H; have c6b0 : decide (8 < (l0_0.length : Int)) = false := decide_eq_false c6; have c6b1 : decide (8 < l0_0.length) = false := decide_eq_false (by omega); clear c6; by_cases c8 : a0_1 < 0
    ·rw [if_pos c8] at H; have c8b0 : decide (a0_1 < 0) = true := decide_eq_true c8; clear c8; have H' := zk H; clear H; have hcz9_0 : w3.cell? ⟨gb366, 0, none⟩ = some (.slice A0_0 l0_0.length c0_0) := zh BK366.out 0; have hcz9_1 : w3.cell? ⟨gb366, 1, none⟩ = some (.int .i64 a0_1) := zh BK366.out 1; have hfz9_0 := blk_frozen BK366.out 0; have hfz9_1 := blk_frozen BK366.out 1; go_wp2
     go_meet
     case rel => exact ⟨_, (true), zR, H', ⟨by first | omega | exact Nat.le_refl _⟩, ⟨zb BK366.out⟩, ⟨zU HB.out⟩⟩
    ·rw [if_neg c8] at H; have c8b0 : decide (a0_1 < 0) = false := decide_eq_false c8; clear c8; have H' := zk H; clear H; have hcz10_0 : w3.cell? ⟨gb366, 0, none⟩ = some (.slice A0_0 l0_0.length c0_0) := zh BK366.out 0; have hcz10_1 : w3.cell? ⟨gb366, 1, none⟩ = some (.int .i64 a0_1) := zh BK366.out 1; have hfz10_0 := blk_frozen BK366.out 0; have hfz10_1 := blk_frozen BK366.out 1; go_wp2
     go_meet
     case rel => exact ⟨_, (decide (a0_1 > 1073741823)), zR, H', ⟨by first | omega | exact Nat.le_refl _⟩, ⟨zb BK366.out⟩, ⟨zU HB.out⟩⟩
 case rest =>
  clear HC2; (try clear p2); (try clear c4); (try clear c4b0); (try clear c4b1); (try clear c5); (try clear c6); (try clear c6b0); (try clear c6b1); (try clear c8); (try clear c8b0); (try clear hcz10_0); (try clear hcz10_1); (try clear hcz5_0); (try clear hcz5_1); (try clear hcz7_0); (try clear hcz7_1); (try clear hcz9_0); (try clear hcz9_1); (try clear hfz10_0); (try clear hfz10_1); (try clear hfz5_0); (try clear hfz5_1); (try clear hfz7_0); (try clear hfz7_1); (try clear hfz9_0); (try clear hfz9_1); obtain ⟨kq, x23_1, rfl, HA, HJ1, BK366, HB⟩ := hcut; cases kq with
  | zero => exact absurd HA.out (by simp [leadtrailref08_ValidShape.j0])
  | succ kj1 =>
   have H := HA.out; clear HA; simp only [leadtrailref08_ValidShape.j0] at H; by_cases c11 : x23_1 = true
   ·subst c11; have H1 : (some false) = some r := by rw [if_pos rfl] at H; exact H
    clear H; have H := H1; clear H1; obtain rfl := Option.some.inj H; go_wp2
    go_ret
    exact ⟨ze, zU HB.out⟩
   ·replace c11 := Bool.eq_false_iff.mpr c11; subst c11; have H1 : (leadtrailref08_ValidShape.l0 kj1 0 l0_0 a0_1) = some r := by rw [if_neg (show ¬ (false = true) by decide)] at H; exact H
    clear H; have H := H1; clear H1; have H' := zk H; clear H; go_wp2
    go_loopg [3] kj1 (fun kq v3 w' => ∃ (x3_2 : Int), v3 = .int .i64 x3_2 ∧ Aside0 (leadtrailref08_ValidShape.l0 kq x3_2 l0_0 a0_1 = some r) ∧ Aside0 (kq ≤ kj1) ∧ Aside0 (w'.heap[gb366]? = some (.cells #[(.slice A0_0 l0_0.length c0_0), .int .i64 a0_1] 50 (0, 0))) ∧ Aside0 (Below w.heap.size w w'))
    case atStart => exact ⟨(0), zR, H', ⟨Nat.le_refl _⟩, ⟨zb BK366.out⟩, ⟨zU HB.out⟩⟩
    case round =>
     clear H'; (try clear c1); (try clear p2); (try clear c4); (try clear c4b0); (try clear c4b1); (try clear c5); (try clear c6); (try clear c6b0); (try clear c6b1); (try clear c8); (try clear c8b0); (try clear c11); (try clear hcz10_0); (try clear hcz10_1); (try clear hcz5_0); (try clear hcz5_1); (try clear hcz7_0); (try clear hcz7_1); (try clear hcz9_0); (try clear hcz9_1); (try clear hfz10_0); (try clear hfz10_1); (try clear hfz5_0); (try clear hfz5_1); (try clear hfz7_0); (try clear hfz7_1); (try clear hfz9_0); (try clear hfz9_1); (try clear p2); obtain ⟨x3_2, rfl, HA, HK2, BK366, HB⟩ := hrel
     cases gk with
     | zero => exact absurd HA.out (by simp [leadtrailref08_ValidShape.l0])
     | succ k2 =>
      have H := HA.out; clear HA; simp only [leadtrailref08_ValidShape.l0] at H; by_cases c12 : x3_2 < (l0_0.length : Int)
      ·rw [if_pos c12] at H; have c12b0 : decide (x3_2 < (l0_0.length : Int)) = true := decide_eq_true c12; clear c12; by_cases c13 : 0 ≤ x3_2
       ·rw [if_pos c13] at H; have c13b0 : decide (0 ≤ x3_2) = true := decide_eq_true c13; clear c13; by_cases c14 : ((rd_L4 l0_0 x3_2).length : Int) = 0
        ·rw [if_pos c14] at H; have c14b0 : (((rd_L4 l0_0 x3_2).length : Int) == 0) = true := beq_iff_eq.mpr c14; have c14b1 : (((rd_L4 l0_0 x3_2).length : Int) != 0) = false := bne_eq_false_iff_eq.mpr c14; clear c14; obtain rfl := Option.some.inj H; have hcz15_0 : wr.cell? ⟨gb366, 0, none⟩ = some (.slice A0_0 l0_0.length c0_0) := zh BK366.out 0; have hcz15_1 : wr.cell? ⟨gb366, 1, none⟩ = some (.int .i64 a0_1) := zh BK366.out 1; have hfz15_0 := blk_frozen BK366.out 0; have hfz15_1 := blk_frozen BK366.out 1; have p368 : 0 ≤ (x3_2 : Int) := zT; have q368 : x3_2 < (l0_0.length : Int) := zT; obtain ⟨ad368, A368_0, c368_0, e368, hx368_0, hl368_0, hi368_0⟩ := at_L4 HR0_0.out x3_2 p368 q368; cases e368; replace hx368_0 := zcl HB.out hx368_0; have HR368_0 := zk hi368_0; have HC368_0 := zk hl368_0; clear hi368_0 hl368_0; replace p368 := eq_true p368; replace q368 := eq_true q368; go_wp2
         go_ret
         exact ⟨ze, zU HB.out⟩
        ·rw [if_neg c14] at H; have c14b0 : (((rd_L4 l0_0 x3_2).length : Int) == 0) = false := beq_eq_false_iff_ne.mpr c14; have c14b1 : (((rd_L4 l0_0 x3_2).length : Int) != 0) = true := bne_iff_ne.mpr c14; have c14b2 : ¬ ((rd_L4 l0_0 x3_2) = []) := fun h_ => c14 (by rw [h_]; rfl)
         replace H := Option.bind_eq_some_iff.mp H; obtain ⟨t370, A160, H⟩ := H; replace H : (if t370 = true then (leadtrailref08_ValidShape.l0 k2 (wrap64 (x3_2 + 1)) l0_0 a0_1) else (some false)) = some r := H; have A16 := zk A160; clear A160; by_cases c17 : t370 = true
         ·subst c17; have H1 : (leadtrailref08_ValidShape.l0 k2 (wrap64 (x3_2 + 1)) l0_0 a0_1) = some r := by rw [if_pos rfl] at H; exact H
          clear H; have H := H1; clear H1; have H' := zk H; clear H; have hcz18_0 : wr.cell? ⟨gb366, 0, none⟩ = some (.slice A0_0 l0_0.length c0_0) := zh BK366.out 0; have hcz18_1 : wr.cell? ⟨gb366, 1, none⟩ = some (.int .i64 a0_1) := zh BK366.out 1; have hfz18_0 := blk_frozen BK366.out 0; have hfz18_1 := blk_frozen BK366.out 1; have p368 : 0 ≤ (x3_2 : Int) := zT; have q368 : x3_2 < (l0_0.length : Int) := zT; obtain ⟨ad368, A368_0, c368_0, e368, hx368_0, hl368_0, hi368_0⟩ := at_L4 HR0_0.out x3_2 p368 q368; cases e368; replace hx368_0 := zcl HB.out hx368_0; have HR368_0 := zk hi368_0; have HC368_0 := zk hl368_0; clear hi368_0 hl368_0; replace p368 := eq_true p368; replace q368 := eq_true q368; have p369 : 0 ≤ (x3_2 : Int) := zT; have q369 : x3_2 < (l0_0.length : Int) := zT; obtain ⟨ad369, A369_0, c369_0, e369, hx369_0, hl369_0, hi369_0⟩ := at_L4 HR0_0.out x3_2 p369 q369; obtain rfl : ad368 = ad369 := (by injection e369); replace hx369_0 := zcl HB.out hx369_0; have HR369_0 := zk hi369_0; have HC369_0 := zk hl369_0; clear hi369_0 hl369_0; replace p369 := eq_true p369; replace q369 := eq_true q369; have ea_ := Option.some.inj (hx368_0.symm.trans hx369_0); injection ea_ with ea_ en_ ec_
          subst ea_; subst ec_; clear en_; go_wp2_with (first | (go_at_call 103; (with_reducible refine (leadtrailref03_Valid.calls k2 _ _ (rd_L4 l0_0 x3_2) true _ ?side1 ?side2 A16.out).mono ?_); (case side1 => exact zc (Kd.C_below HR369_0.out HB.out)); (case side2 => exact HC369_0.out); rintro e w' ⟨rfl, ⟨nd, rfl⟩⟩))
          go_roundg k2
          case measure => have := HJ1.out; have := HK2.out; omega
          case rel => exact ⟨(wrap64 (x3_2 + 1)), zR, H', ⟨by have := HJ1.out; have := HK2.out; omega⟩, ⟨zb BK366.out⟩, ⟨zU HB.out⟩⟩
         ·replace c17 := Bool.eq_false_iff.mpr c17; subst c17; have H1 : (some false) = some r := by rw [if_neg (show ¬ (false = true) by decide)] at H; exact H
          clear H; have H := H1; clear H1; obtain rfl := Option.some.inj H; have hcz19_0 : wr.cell? ⟨gb366, 0, none⟩ = some (.slice A0_0 l0_0.length c0_0) := zh BK366.out 0; have hcz19_1 : wr.cell? ⟨gb366, 1, none⟩ = some (.int .i64 a0_1) := zh BK366.out 1; have hfz19_0 := blk_frozen BK366.out 0; have hfz19_1 := blk_frozen BK366.out 1; have p368 : 0 ≤ (x3_2 : Int) := zT; have q368 : x3_2 < (l0_0.length : Int) := zT; obtain ⟨ad368, A368_0, c368_0, e368, hx368_0, hl368_0, hi368_0⟩ := at_L4 HR0_0.out x3_2 p368 q368; cases e368; replace hx368_0 := zcl HB.out hx368_0; have HR368_0 := zk hi368_0; have HC368_0 := zk hl368_0; clear hi368_0 hl368_0; replace p368 := eq_true p368; replace q368 := eq_true q368; have p369 : 0 ≤ (x3_2 : Int) := zT; have q369 : x3_2 < (l0_0.length : Int) := zT; obtain ⟨ad369, A369_0, c369_0, e369, hx369_0, hl369_0, hi369_0⟩ := at_L4 HR0_0.out x3_2 p369 q369; obtain rfl : ad368 = ad369 := (by injection e369); replace hx369_0 := zcl HB.out hx369_0; have HR369_0 := zk hi369_0; have HC369_0 := zk hl369_0; clear hi369_0 hl369_0; replace p369 := eq_true p369; replace q369 := eq_true q369; have ea_ := Option.some.inj (hx368_0.symm.trans hx369_0); injection ea_ with ea_ en_ ec_
          subst ea_; subst ec_; clear en_; go_wp2_with (first | (go_at_call 103; (with_reducible refine (leadtrailref03_Valid.calls k2 _ _ (rd_L4 l0_0 x3_2) false _ ?side1 ?side2 A16.out).mono ?_); (case side1 => exact zc (Kd.C_below HR369_0.out HB.out)); (case side2 => exact HC369_0.out); rintro e w' ⟨rfl, ⟨nd, rfl⟩⟩))
          go_ret
          exact ⟨ze, zU HB.out⟩
       ·rw [if_neg c13] at H; exact absurd H (by simp)
      ·rw [if_neg c12] at H; have c12b0 : decide (x3_2 < (l0_0.length : Int)) = false := decide_eq_false c12; clear c12; replace H := Option.bind_eq_some_iff.mp H; obtain ⟨t367, A200, H⟩ := H; replace H : (some (decide ((wrap64 ((wrap64 (a0_1 + t367)) - 1)) ≤ 1073741823))) = some r := H; have A20 := zk A200; clear A200; obtain rfl := Option.some.inj H; have hcz21_0 : wr.cell? ⟨gb366, 0, none⟩ = some (.slice A0_0 l0_0.length c0_0) := zh BK366.out 0; have hcz21_1 : wr.cell? ⟨gb366, 1, none⟩ = some (.int .i64 a0_1) := zh BK366.out 1; have hfz21_0 := blk_frozen BK366.out 0; have hfz21_1 := blk_frozen BK366.out 1; try go_wp2
       have n0_ := zk (blk_drew BK366.out); have n1_ := zk (below_drew1 HB.out); clear BK366; clear HB; have BK366 := n0_; have HB := n1_; clear n0_ n1_; refine start_ (n := 8) (S := fun w' => w'.cell? ⟨gb366, 0, none⟩ = some (.slice A0_0 l0_0.length c0_0) ∧ w'.cell? ⟨gb366, 1, none⟩ = some (.int .i64 a0_1)) (ds := []) #[false, false, false, false, false, false, false, false] zz rfl rfl ⟨(blk_cell BK366.out 0).trans rfl, (blk_cell BK366.out 1).trans rfl⟩ (fun hHeld => ?_); refine with_tabW leadtrailref08_ValidShape.tab8 leadtrailref08_ValidShape.bits8 (fun HT_ HW_ => ?_); generalize wr.drew = w22 at BK366 HB hHeld ⊢; refine zp 0 (some 47) (v := ?_) (a' := ?_) (bz 8 1) rfl rfl HT_.out zz zQ ?_ ?_ ?_; rotate_left
       ·intro w'; go_simp; with_reducible rfl
       rotate_left
       ·simp only [Act.put, zv, i64_w, i32_w]; rfl
       refine take_ (i := 1) (N := some 48) (v := ?_) (a' := ?_) (bz 8 3) rfl rfl (take_ofW HT_.out HW_.out zz) zQ (Or.inl ⟨by rfl, ?_⟩) hHeld ?_ ?_; rotate_left
       ·rintro w' ⟨s0, s1⟩; go_simp; with_reducible rfl
       rotate_left
       ·simp only [Act.put, zv, i64_w, i32_w]; rfl
       refine take_ (i := 2) (N := some 49) (v := ?_) (a' := ?_) (bz 8 7) rfl rfl (take_ofW HT_.out HW_.out zz) zQ (Or.inl ⟨by rfl, ?_⟩) hHeld ?_ ?_; rotate_left
       ·rintro w' ⟨s0, s1⟩; go_simp; with_reducible rfl
       rotate_left
       ·simp only [Act.put, zv, i64_w, i32_w]; rfl
       refine one_ (i := 3) (N := some 50) (bz 8 15) rfl rfl (one_of HT_.out zz) (by decide) (fun K hK => ?_); refine goes_ Try.func81 zz rfl #[.agg #[.slice A0_0 l0_0.length c0_0, .int .i64 a0_1]] (by rfl) rfl rfl zM ?_; with_reducible refine (leadtrailref08_Count.calls k2 _ _ l0_0 a0_1 t367 _ ?side1 ?side2 A20.out).mono ?_; (case side1 => exact zc (Kd.C_below HR0_0.out HB.out))
       (case side2 => exact HC0_0.out)
       rintro e w23 ⟨rfl, hb⟩; refine ⟨_, rfl, ?_⟩; have n0_ := zk (zbb BK366.out hb); have n1_ := zk (below_step (zU HB.out) hb); clear BK366; clear HB; have BK366 := n0_; have HB := n1_; clear n0_ n1_; (try clear hb); (try clear hb2); (try clear hk); (try clear hi); refine hK.out _ _ ⟨(blk_cell BK366.out 0).trans rfl, (blk_cell BK366.out 1).trans rfl⟩ (fun hHeld => ?_); clear hK K; refine norm_ (a' := ?_) ?_ ?_; rotate_left
       ·show Act.put _ (some 50) _ = _; simp only [Act.put, zv, i64_w, i32_w]; rfl
       refine zp 4 (some 51) (v := ?_) (a' := ?_) (bz 8 31) rfl rfl HT_.out zz zQ ?_ ?_ ?_; rotate_left
       ·intro w'; go_simp; with_reducible rfl
       rotate_left
       ·simp only [Act.put, zv, i64_w, i32_w]; rfl
       refine zp 5 (some 52) (v := ?_) (a' := ?_) (bz 8 63) rfl rfl HT_.out zz zQ ?_ ?_ ?_; rotate_left
       ·intro w'; go_simp; with_reducible rfl
       rotate_left
       ·simp only [Act.put, zv, i64_w, i32_w]; rfl
       refine zp 6 (some 53) (v := ?_) (a' := ?_) (bz 8 127) rfl rfl HT_.out zz zQ ?_ ?_ ?_; rotate_left
       ·intro w'; go_simp; with_reducible rfl
       rotate_left
       ·simp only [Act.put, zv, i64_w, i32_w]; rfl
       refine zp 7 (some 2) (v := ?_) (a' := ?_) (bz 8 255) rfl rfl HT_.out zz zQ ?_ ?_ ?_; rotate_left
       ·intro w'; go_simp; with_reducible rfl
       rotate_left
       ·simp only [Act.put, zv, i64_w, i32_w]; rfl
       refine done_ (done_of HT_.out zz) ?_; try go_wp2
       go_ret
       exact ⟨ze, zU HB.out⟩
end Go.Proofs.Ytkcklnmbeinfkaa.B
