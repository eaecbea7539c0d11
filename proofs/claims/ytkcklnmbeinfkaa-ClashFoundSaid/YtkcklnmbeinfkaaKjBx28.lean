/- Words and walks of this claim, of the text Bx28. -/
import Derived.Test.YtkcklnmbeinfkaaKjQW0
import Derived.Test.YtkcklnmbeinfkaaKjBx0
import Derived.Test.YtkcklnmbeinfkaaKjBx8
import Derived.Test.YtkcklnmbeinfkaaKjBx9
import Derived.Test.YtkcklnmbeinfkaaKjBx15
import Derived.Test.YtkcklnmbeinfkaaKjBx23
import Derived.Test.YtkcklnmbeinfkaaKjBx13
import Derived.Test.YtkcklnmbeinfkaaKjBx12
namespace Go.Proofs.Ytkcklnmbeinfkaa.B
open Go.RowKit Go.Proofs.YtkcklnmbeinfkaaW.PrintWords Go.Proofs.YtkcklnmbeinfkaaW.PrintLast Go.Proofs.YtkcklnmbeinfkaaW.PrintMore
attribute [local go_sem] max2_int min2_int max_two min_two max_three min_three max_four min_four
set_option linter.unusedVariables false
set_option linter.unusedSimpArgs false
def code_encode.l0 : Nat → Int → List (S50) → Int → Int → Option (List Int)
 | 0, _, _, _, _ => none
 | k + 1, x1, x10, x11, x12 => if x12 < x11 then (if 0 ≤ x12 then (if x12 < (x10.length : Int) then (if x1 < ((rd_T50 x10 x12).f1) then (code_encode.l0 k x1 x10 x11 (wrap64 (x12 + 1))) else ((shape_Unrank.f k ((rd_T50 x10 x12).f0) ((rd_T50 x10 x12).f1) (wrap64 (x1 - ((rd_T50 x10 x12).f1)))).bind fun bt606 => (if bt606.2 = true then (if bt606.1.length = 0 then none else (some bt606.1)) else (code_encode.l0 k x1 x10 x11 (wrap64 (x12 + 1)))))) else (none)) else (none)) else (some ([] : List Int))
def code_encode.f (k : Nat) (l0_0 : List (S50)) (a1 : Int) : Option (List Int) := code_encode.l0 k a1 l0_0 (l0_0.length : Int) 0
set_option maxHeartbeats 8000000 in
set_option maxRecDepth 100000 in
theorem code_encode.calls (k : Nat) (A0_0 : Option Addr) (c0_0 : Nat) (l0_0 : List (S50)) (a1 : Int) (r : List Int) (w : World) (hr0_0 : Kd.C k50 w A0_0 l0_0.length l0_0) (hc0_0 : l0_0.length ≤ c0_0) (h : code_encode.f k l0_0 a1 = some r) :
 Calls Try.prog 111 #[.agg #[.slice A0_0 l0_0.length c0_0], .int .i64 a1] w fun e w' => ∃ v0_ : Value, e = .returned (v0_) ∧ Kd.R (Kd.int .u8) 5 w' w.heap.size (fun _ => True) v0_ r ∧ Below w.heap.size w w' ∧ (r = [] → v0_ = .slice none 0 0) := by
 have hu24 := Try.underlying24; have hu50 := Try.underlying50; have HR0_0 := zk hr0_0; have HC0_0 := zk hc0_0; clear hr0_0 hc0_0; have HB := zk (Below.refl w.heap.size w); have H : (code_encode.l0 k a1 l0_0 (l0_0.length : Int) 0) = some r := h
 clear h; have H' := zk H
 clear H
 go_enter Try.func111, Try.ntmps111
 go_wp2_with (first | ((with_reducible refine gate_dst (N := 2) rfl ?_); refine box_event ?hg (N := 2) ?hd (cs := #[.slice A0_0 l0_0.length c0_0]) (t := 24) ?hr ?_; (case hd => rfl); (case hg => rfl); (case hr => first | (go_simp; done) | (go_simp; rfl)); intro gb603 hg w3 hbox hb; have BK603 := zk (hbox); have GW603 := zk ((zg hg HB.out : w.heap.size ≤ gb603)); have GE603 := zk ((zg hg HB.out : w.heap.size ≤ gb603)); replace HB := zk (below_step (zU HB.out) hb);  clear hb hbox hg; have hcz4_0 : w3.cell? ⟨gb603, 0, none⟩ = some (.slice A0_0 l0_0.length c0_0) := zh BK603.out 0; have hfz4_0 := blk_frozen BK603.out 0))
 go_loopg [12] k (fun kq v12 w' => ∃ (x12_1 : Int), v12 = .int .i64 x12_1 ∧ Aside0 (code_encode.l0 kq a1 l0_0 (l0_0.length : Int) x12_1 = some r) ∧ Aside0 (kq ≤ k) ∧ Aside0 (w'.heap[gb603]? = some (.cells #[(.slice A0_0 l0_0.length c0_0)] 24 (0, 0))) ∧ Aside0 (Below w.heap.size w w'))
 case atStart => exact ⟨(0), zR, H', ⟨Nat.le_refl _⟩, ⟨zb BK603.out⟩, ⟨zU HB.out⟩⟩
 case round =>
  clear H'; (try clear c1); (try clear p2); (try clear hcz4_0); (try clear hfz4_0); obtain ⟨x12_1, rfl, HA, HK1, BK603, HB⟩ := hrel
  cases gk with
  | zero => exact absurd HA.out (by simp [code_encode.l0])
  | succ k1 =>
   have H := HA.out; clear HA; simp only [code_encode.l0] at H
   by_cases c5 : x12_1 < (l0_0.length : Int)
   ·rw [if_pos c5] at H; have c5b0 : decide (x12_1 < (l0_0.length : Int)) = true := decide_eq_true c5
    clear c5
    by_cases c6 : 0 ≤ x12_1
    ·rw [if_pos c6] at H; have c6b0 : decide (0 ≤ x12_1) = true := decide_eq_true c6
     clear c6
     by_cases c7 : x12_1 < (l0_0.length : Int)
     ·rw [if_pos c7] at H; have c7b0 : decide (x12_1 < (l0_0.length : Int)) = true := decide_eq_true c7
      clear c7
      by_cases c8 : a1 < ((rd_T50 l0_0 x12_1).f1)
      ·rw [if_pos c8] at H; have c8b0 : decide (a1 < ((rd_T50 l0_0 x12_1).f1)) = true := decide_eq_true c8
       clear c8; have H' := zk H
       clear H; have p604 : 0 ≤ (x12_1 : Int) := zT
       have q604 : x12_1 < (l0_0.length : Int) := zT
       obtain ⟨ad604, A604_0, c604_0, e604, hx604_0, hx604_1, hl604_0, hi604_0⟩ := at_T50 HR0_0.out x12_1 p604 q604; cases e604; replace hx604_0 := zcl HB.out hx604_0; replace hx604_1 := zcl HB.out hx604_1; have HR604_0 := zk hi604_0; have HC604_0 := zk hl604_0; clear hi604_0 hl604_0; replace p604 := eq_true p604; replace q604 := eq_true q604
       go_wp2_with (first | ((with_reducible refine gate_dst (N := 6) rfl ?_); refine box_event ?hg (N := 6) ?hd (cs := #[.slice none 0 0, .int .i64 0]) (t := 50) ?hr ?_; (case hd => rfl); (case hg => rfl); (case hr => first | (go_simp; done) | (go_simp; rfl)); intro gb605 hg w9 hbox hb; have BK605 := zk (hbox); have GW605 := zk ((zg hg HB.out : w.heap.size ≤ gb605)); have GE605 := zk ((zg hg HB.out : w.heap.size ≤ gb605)); replace HB := zk (below_step (zU HB.out) hb); have NB603_605 := zk ((zlt hg BK603.out : gb603 ≠ gb605)); have NB605_603 := zk ((zgt hg BK603.out : gb605 ≠ gb603)); replace BK603 := zk (zbb BK603.out hb);  clear hb hbox hg; have hnb10 := NB605_603.out; have hnc10 := NB603_605.out; have hcz11_0 : w9.cell? ⟨gb605, 0, none⟩ = some (.slice none 0 0) := zh BK605.out 0; have hcz11_1 : w9.cell? ⟨gb605, 1, none⟩ = some (.int .i64 0) := zh BK605.out 1; have hfz11_0 := blk_frozen BK605.out 0; have hfz11_1 := blk_frozen BK605.out 1))
       go_roundg k1
       case measure => have := HK1.out; omega
       case rel => exact ⟨(wrap64 (x12_1 + 1)), zR, H', ⟨by have := HK1.out; omega⟩, ⟨zb BK603.out⟩, ⟨zU HB.out⟩⟩
      ·rw [if_neg c8] at H; have c8b0 : decide (a1 < ((rd_T50 l0_0 x12_1).f1)) = false := decide_eq_false c8
       clear c8; replace H := Option.bind_eq_some_iff.mp H; obtain ⟨⟨t606, t609⟩, A120, H⟩ := H; replace H : (if t609 = true then (if t606.length = 0 then none else (some t606)) else (code_encode.l0 k1 a1 l0_0 (l0_0.length : Int) (wrap64 (x12_1 + 1)))) = some r := H
       have A12 := zk A120; clear A120
       by_cases c13 : t609 = true
       ·subst c13
        have H1 : (if t606.length = 0 then none else (some t606)) = some r := by rw [if_pos rfl] at H; exact H
        clear H; have H := H1; clear H1; have hne_ : ¬ t606.length = 0 := fun e_ => by rw [if_pos e_] at H; cases H
        rw [if_neg hne_] at H; obtain rfl := Option.some.inj H; have HNE_ := zk hne_; clear hne_; have p604 : 0 ≤ (x12_1 : Int) := zT
        have q604 : x12_1 < (l0_0.length : Int) := zT
        obtain ⟨ad604, A604_0, c604_0, e604, hx604_0, hx604_1, hl604_0, hi604_0⟩ := at_T50 HR0_0.out x12_1 p604 q604; cases e604; replace hx604_0 := zcl HB.out hx604_0; replace hx604_1 := zcl HB.out hx604_1; have HR604_0 := zk hi604_0; have HC604_0 := zk hl604_0; clear hi604_0 hl604_0; replace p604 := eq_true p604; replace q604 := eq_true q604
        go_wp2_with (first | ((with_reducible refine gate_dst (N := 6) rfl ?_); refine box_event ?hg (N := 6) ?hd (cs := #[.slice none 0 0, .int .i64 0]) (t := 50) ?hr ?_; (case hd => rfl); (case hg => rfl); (case hr => first | (go_simp; done) | (go_simp; rfl)); intro gb605 hg w14 hbox hb; have BK605 := zk (hbox); have GW605 := zk ((zg hg HB.out : w.heap.size ≤ gb605)); have GE605 := zk ((zg hg HB.out : w.heap.size ≤ gb605)); replace HB := zk (below_step (zU HB.out) hb); have NB603_605 := zk ((zlt hg BK603.out : gb603 ≠ gb605)); have NB605_603 := zk ((zgt hg BK603.out : gb605 ≠ gb603)); replace BK603 := zk (zbb BK603.out hb);  clear hb hbox hg; have hnb15 := NB605_603.out; have hnc15 := NB603_605.out; have hcz16_0 : w14.cell? ⟨gb605, 0, none⟩ = some (.slice none 0 0) := zh BK605.out 0; have hcz16_1 : w14.cell? ⟨gb605, 1, none⟩ = some (.int .i64 0) := zh BK605.out 1; have hfz16_0 := blk_frozen BK605.out 0; have hfz16_1 := blk_frozen BK605.out 1) | ((with_reducible refine gate_callee (f := 34) rfl ?_); refine goesL_ (some 26) rfl rfl Try.func34 zz rfl #[.agg #[.slice A604_0 ((rd_T50 l0_0 x12_1).f0).length c604_0, .int .i64 ((rd_T50 l0_0 x12_1).f1)], .int .i64 (wrap64 (a1 - ((rd_T50 l0_0 x12_1).f1)))] rfl zM ?_; (with_reducible refine (shape_Unrank.calls k1 _ _ ((rd_T50 l0_0 x12_1).f0) ((rd_T50 l0_0 x12_1).f1) (wrap64 (a1 - ((rd_T50 l0_0 x12_1).f1))) t606 true _ ?side1 ?side2 A12.out).mono ?_); (case side1 => exact Kd.C_below HR604_0.out (zU HB.out)); (case side2 => exact HC604_0.out); rintro e w17 ⟨v607, rfl, ho0, hb⟩; refine ⟨_, rfl, ?_⟩; have HO608 := zk (Kd.R_lower ho0 (below_size (zU HB.out))); replace BK603 := zk (zbb BK603.out hb); replace BK605 := zk (blk_below (g := gb605) (o := .cells #[.slice A604_0 ((rd_T50 l0_0 x12_1).f0).length c604_0, .int .i64 ((rd_T50 l0_0 x12_1).f1)] 50 (0, 0)) (by (with_reducible repeat (first | refine blk_drewN ?_ _ | refine blk_drew ?_ | refine blk_alloc ?_ _)); refine blk_put (cs := #[.slice A604_0 ((rd_T50 l0_0 x12_1).f0).length c604_0, .int .i64 0]) ?_ 1 _ rfl; (with_reducible repeat (first | refine blk_drewN ?_ _ | refine blk_drew ?_ | refine blk_alloc ?_ _)); refine blk_put (cs := #[.slice none 0 0, .int .i64 0]) ?_ 0 _ rfl; exact zb BK605.out) hb); replace HB := zk (below_step (zU HB.out) hb);  (try clear hb); (try clear hb2); (try clear hk); (try clear hi); (try clear ho0)))
        go_ret
        exact ⟨_, ze, by (with_reducible repeat (first | apply zA | apply zB | apply zC)); exact HO608.out, zU HB.out, fun e_ => absurd (congrArg List.length e_) HNE_.out⟩
       ·replace c13 := Bool.eq_false_iff.mpr c13; subst c13
        have H1 : (code_encode.l0 k1 a1 l0_0 (l0_0.length : Int) (wrap64 (x12_1 + 1))) = some r := by rw [if_neg (show ¬ (false = true) by decide)] at H; exact H
        clear H; have H := H1; clear H1; have H' := zk H
        clear H; have p604 : 0 ≤ (x12_1 : Int) := zT
        have q604 : x12_1 < (l0_0.length : Int) := zT
        obtain ⟨ad604, A604_0, c604_0, e604, hx604_0, hx604_1, hl604_0, hi604_0⟩ := at_T50 HR0_0.out x12_1 p604 q604; cases e604; replace hx604_0 := zcl HB.out hx604_0; replace hx604_1 := zcl HB.out hx604_1; have HR604_0 := zk hi604_0; have HC604_0 := zk hl604_0; clear hi604_0 hl604_0; replace p604 := eq_true p604; replace q604 := eq_true q604
        go_wp2_with (first | ((with_reducible refine gate_dst (N := 6) rfl ?_); refine box_event ?hg (N := 6) ?hd (cs := #[.slice none 0 0, .int .i64 0]) (t := 50) ?hr ?_; (case hd => rfl); (case hg => rfl); (case hr => first | (go_simp; done) | (go_simp; rfl)); intro gb605 hg w18 hbox hb; have BK605 := zk (hbox); have GW605 := zk ((zg hg HB.out : w.heap.size ≤ gb605)); have GE605 := zk ((zg hg HB.out : w.heap.size ≤ gb605)); replace HB := zk (below_step (zU HB.out) hb); have NB603_605 := zk ((zlt hg BK603.out : gb603 ≠ gb605)); have NB605_603 := zk ((zgt hg BK603.out : gb605 ≠ gb603)); replace BK603 := zk (zbb BK603.out hb);  clear hb hbox hg; have hnb19 := NB605_603.out; have hnc19 := NB603_605.out; have hcz20_0 : w18.cell? ⟨gb605, 0, none⟩ = some (.slice none 0 0) := zh BK605.out 0; have hcz20_1 : w18.cell? ⟨gb605, 1, none⟩ = some (.int .i64 0) := zh BK605.out 1; have hfz20_0 := blk_frozen BK605.out 0; have hfz20_1 := blk_frozen BK605.out 1) | ((with_reducible refine gate_callee (f := 34) rfl ?_); refine goesL_ (some 26) rfl rfl Try.func34 zz rfl #[.agg #[.slice A604_0 ((rd_T50 l0_0 x12_1).f0).length c604_0, .int .i64 ((rd_T50 l0_0 x12_1).f1)], .int .i64 (wrap64 (a1 - ((rd_T50 l0_0 x12_1).f1)))] rfl zM ?_; (with_reducible refine (shape_Unrank.calls k1 _ _ ((rd_T50 l0_0 x12_1).f0) ((rd_T50 l0_0 x12_1).f1) (wrap64 (a1 - ((rd_T50 l0_0 x12_1).f1))) t606 false _ ?side1 ?side2 A12.out).mono ?_); (case side1 => exact Kd.C_below HR604_0.out (zU HB.out)); (case side2 => exact HC604_0.out); rintro e w21 ⟨v607, rfl, ho0, hb⟩; refine ⟨_, rfl, ?_⟩; have HO608 := zk (Kd.R_lower ho0 (below_size (zU HB.out))); replace BK603 := zk (zbb BK603.out hb); replace BK605 := zk (blk_below (g := gb605) (o := .cells #[.slice A604_0 ((rd_T50 l0_0 x12_1).f0).length c604_0, .int .i64 ((rd_T50 l0_0 x12_1).f1)] 50 (0, 0)) (by (with_reducible repeat (first | refine blk_drewN ?_ _ | refine blk_drew ?_ | refine blk_alloc ?_ _)); refine blk_put (cs := #[.slice A604_0 ((rd_T50 l0_0 x12_1).f0).length c604_0, .int .i64 0]) ?_ 1 _ rfl; (with_reducible repeat (first | refine blk_drewN ?_ _ | refine blk_drew ?_ | refine blk_alloc ?_ _)); refine blk_put (cs := #[.slice none 0 0, .int .i64 0]) ?_ 0 _ rfl; exact zb BK605.out) hb); replace HB := zk (below_step (zU HB.out) hb);  (try clear hb); (try clear hb2); (try clear hk); (try clear hi); (try clear ho0)))
        go_roundg k1
        case measure => have := HK1.out; omega
        case rel => exact ⟨(wrap64 (x12_1 + 1)), zR, H', ⟨by have := HK1.out; omega⟩, ⟨zb BK603.out⟩, ⟨zU HB.out⟩⟩
     ·rw [if_neg c7] at H
      exact absurd H (by simp)
    ·rw [if_neg c6] at H
     exact absurd H (by simp)
   ·rw [if_neg c5] at H; have c5b0 : decide (x12_1 < (l0_0.length : Int)) = false := decide_eq_false c5
    clear c5; obtain rfl := Option.some.inj H
    go_wp2
    go_ret
    exact ⟨_, ze, by first | exact Kd.R_nil _ _ _ _ _ | exact Kd.N_nil _ _ _ _ _ | exact Kd.V_nil _ _ _ _ _ | exact Kd.Q_nil _ _ _ _ _ | exact Kd.S_nil _ _ _ _ _, zU HB.out, by first | exact fun _ => rfl | rfl⟩
def code_Encode.f (k : Nat) (l0_0 : List (S50)) (a1 : Int) : Option (List Int × Int) := (scheme_Valid.f k l0_0).bind fun t611 => (if t611 = true then ((code_encode.f k l0_0 a1).bind fun t612 => (if (t612.length : Int) = 0 then (some (([] : List Int), 100)) else (some (t612, 0)))) else (some (([] : List Int), 84)))
set_option maxHeartbeats 8000000 in
set_option maxRecDepth 100000 in
theorem code_Encode.calls (k : Nat) (A0_0 : Option Addr) (c0_0 : Nat) (l0_0 : List (S50)) (a1 : Int) (r1 : List Int) (r2 : Int) (w : World) (hr0_0 : Kd.C k50 w A0_0 l0_0.length l0_0) (hc0_0 : l0_0.length ≤ c0_0) (h : code_Encode.f k l0_0 a1 = some (r1, r2)) :
 Calls Try.prog 65 #[.agg #[.slice A0_0 l0_0.length c0_0], .int .i64 a1] w fun e w' => ∃ v0_ : Value, e = .returned (.tuple #[v0_, .int .i64 r2]) ∧ Kd.R (Kd.int .u8) 5 w' w.heap.size (fun _ => True) v0_ r1 ∧ Below w.heap.size w w' := by
 have hu24 := Try.underlying24; have HR0_0 := zk hr0_0; have HC0_0 := zk hc0_0; clear hr0_0 hc0_0; have HB := zk (Below.refl w.heap.size w); have H : ((scheme_Valid.f k l0_0).bind fun t611 => (if t611 = true then ((code_encode.f k l0_0 a1).bind fun t612 => (if (t612.length : Int) = 0 then (some (([] : List Int), 100)) else (some (t612, 0)))) else (some (([] : List Int), 84)))) = some (r1, r2) := h
 clear h; replace H := Option.bind_eq_some_iff.mp H; obtain ⟨t611, A30, H⟩ := H; replace H : (if t611 = true then ((code_encode.f k l0_0 a1).bind fun t612 => (if (t612.length : Int) = 0 then (some (([] : List Int), 100)) else (some (t612, 0)))) else (some (([] : List Int), 84))) = some (r1, r2) := H
 have A3 := zk A30; clear A30
 by_cases c4 : t611 = true
 ·subst c4
  have H1 : ((code_encode.f k l0_0 a1).bind fun t612 => (if (t612.length : Int) = 0 then (some (([] : List Int), 100)) else (some (t612, 0)))) = some (r1, r2) := by rw [if_pos rfl] at H; exact H
  clear H; have H := H1; clear H1; replace H := Option.bind_eq_some_iff.mp H; obtain ⟨t612, A50, H⟩ := H; replace H : (if (t612.length : Int) = 0 then (some (([] : List Int), 100)) else (some (t612, 0))) = some (r1, r2) := H
  have A5 := zk A50; clear A50
  by_cases c6 : (t612.length : Int) = 0
  ·rw [if_pos c6] at H; have c6b0 : ((t612.length : Int) == 0) = true := beq_iff_eq.mpr c6
   have c6b1 : ((t612.length : Int) != 0) = false := bne_eq_false_iff_eq.mpr c6
   clear c6; simp only [Option.some.injEq, Prod.mk.injEq] at H; obtain ⟨rfl, rfl⟩ := H
   go_enter Try.func65, Try.ntmps65
   go_wp2_with (first | ((with_reducible refine gate_dst (N := 2) rfl ?_); refine box_event ?hg (N := 2) ?hd (cs := #[.slice A0_0 l0_0.length c0_0]) (t := 24) ?hr ?_; (case hd => rfl); (case hg => rfl); (case hr => first | (go_simp; done) | (go_simp; rfl)); intro gb610 hg w7 hbox hb; have BK610 := zk (hbox); have GW610 := zk ((zg hg HB.out : w.heap.size ≤ gb610)); have GE610 := zk ((zg hg HB.out : w.heap.size ≤ gb610)); replace HB := zk (below_step (zU HB.out) hb);  clear hb hbox hg; have hcz8_0 : w7.cell? ⟨gb610, 0, none⟩ = some (.slice A0_0 l0_0.length c0_0) := zh BK610.out 0; have hfz8_0 := blk_frozen BK610.out 0) | ((with_reducible refine gate_callee (f := 76) rfl ?_); refine goesL_ (some 8) rfl rfl Try.func76 zz rfl #[.agg #[.slice A0_0 l0_0.length c0_0]] rfl zM ?_; (with_reducible refine (scheme_Valid.calls k _ _ l0_0 true _ ?side1 ?side2 A3.out).mono ?_); (case side1 => exact zc (Kd.C_below HR0_0.out HB.out)); (case side2 => exact HC0_0.out); rintro e w9 ⟨rfl, hb⟩; refine ⟨_, rfl, ?_⟩; replace BK610 := zk (zbb BK610.out hb); replace HB := zk (below_step (zU HB.out) hb);  (try clear hb); (try clear hb2); (try clear hk); (try clear hi); have hcz10_0 : w9.cell? ⟨gb610, 0, none⟩ = some (.slice A0_0 l0_0.length c0_0) := zh BK610.out 0; have hfz10_0 := blk_frozen BK610.out 0) | ((with_reducible refine gate_callee (f := 111) rfl ?_); refine goesL_ (some 12) rfl rfl Try.func111 zz rfl #[.agg #[.slice A0_0 l0_0.length c0_0], .int .i64 a1] rfl zM ?_; (with_reducible refine (code_encode.calls k _ _ l0_0 a1 t612 _ ?side1 ?side2 A5.out).mono ?_); (case side1 => exact zc (Kd.C_below HR0_0.out HB.out)); (case side2 => exact HC0_0.out); rintro e w11 ⟨v613, rfl, ho0, hb, hn_⟩; have HN614 := zk hn_; clear hn_; refine ⟨_, rfl, ?_⟩; have HO614 := zk (Kd.R_lower ho0 (below_size (zU HB.out))); replace BK610 := zk (zbb BK610.out hb); replace HB := zk (below_step (zU HB.out) hb);  (try clear hb); (try clear hb2); (try clear hk); (try clear hi); (try clear ho0); obtain ⟨Ao12, co12, eo12⟩ := Kd.R_slice HO614.out; subst eo12; have hnq13 := nil_run (P := Try.prog) (T := 52) Try.underlying52 HN614.out HO614.out; (first | replace hnq13 := nil_is hnq13 (b := true) (by assumption) | replace hnq13 := nil_is hnq13 (b := false) (by assumption))))
   go_ret2
   exact ⟨_, ze, by first | exact Kd.R_nil _ _ _ _ _ | exact Kd.N_nil _ _ _ _ _ | exact Kd.V_nil _ _ _ _ _ | exact Kd.Q_nil _ _ _ _ _ | exact Kd.S_nil _ _ _ _ _, zU HB.out⟩
  ·rw [if_neg c6] at H; have c6b0 : ((t612.length : Int) == 0) = false := beq_eq_false_iff_ne.mpr c6
   have c6b1 : ((t612.length : Int) != 0) = true := bne_iff_ne.mpr c6
   have c6b2 : ¬ (t612 = []) := fun h_ => c6 (by rw [h_]; rfl)
   simp only [Option.some.injEq, Prod.mk.injEq] at H; obtain ⟨rfl, rfl⟩ := H
   go_enter Try.func65, Try.ntmps65
   go_wp2_with (first | ((with_reducible refine gate_dst (N := 2) rfl ?_); refine box_event ?hg (N := 2) ?hd (cs := #[.slice A0_0 l0_0.length c0_0]) (t := 24) ?hr ?_; (case hd => rfl); (case hg => rfl); (case hr => first | (go_simp; done) | (go_simp; rfl)); intro gb610 hg w14 hbox hb; have BK610 := zk (hbox); have GW610 := zk ((zg hg HB.out : w.heap.size ≤ gb610)); have GE610 := zk ((zg hg HB.out : w.heap.size ≤ gb610)); replace HB := zk (below_step (zU HB.out) hb);  clear hb hbox hg; have hcz15_0 : w14.cell? ⟨gb610, 0, none⟩ = some (.slice A0_0 l0_0.length c0_0) := zh BK610.out 0; have hfz15_0 := blk_frozen BK610.out 0) | ((with_reducible refine gate_callee (f := 76) rfl ?_); refine goesL_ (some 8) rfl rfl Try.func76 zz rfl #[.agg #[.slice A0_0 l0_0.length c0_0]] rfl zM ?_; (with_reducible refine (scheme_Valid.calls k _ _ l0_0 true _ ?side1 ?side2 A3.out).mono ?_); (case side1 => exact zc (Kd.C_below HR0_0.out HB.out)); (case side2 => exact HC0_0.out); rintro e w16 ⟨rfl, hb⟩; refine ⟨_, rfl, ?_⟩; replace BK610 := zk (zbb BK610.out hb); replace HB := zk (below_step (zU HB.out) hb);  (try clear hb); (try clear hb2); (try clear hk); (try clear hi); have hcz17_0 : w16.cell? ⟨gb610, 0, none⟩ = some (.slice A0_0 l0_0.length c0_0) := zh BK610.out 0; have hfz17_0 := blk_frozen BK610.out 0) | ((with_reducible refine gate_callee (f := 111) rfl ?_); refine goesL_ (some 12) rfl rfl Try.func111 zz rfl #[.agg #[.slice A0_0 l0_0.length c0_0], .int .i64 a1] rfl zM ?_; (with_reducible refine (code_encode.calls k _ _ l0_0 a1 t612 _ ?side1 ?side2 A5.out).mono ?_); (case side1 => exact zc (Kd.C_below HR0_0.out HB.out)); (case side2 => exact HC0_0.out); rintro e w18 ⟨v613, rfl, ho0, hb, hn_⟩; have HN614 := zk hn_; clear hn_; refine ⟨_, rfl, ?_⟩; have HO614 := zk (Kd.R_lower ho0 (below_size (zU HB.out))); replace BK610 := zk (zbb BK610.out hb); replace HB := zk (below_step (zU HB.out) hb);  (try clear hb); (try clear hb2); (try clear hk); (try clear hi); (try clear ho0); obtain ⟨Ao19, co19, eo19⟩ := Kd.R_slice HO614.out; subst eo19; have hnq20 := nil_run (P := Try.prog) (T := 52) Try.underlying52 HN614.out HO614.out; (first | replace hnq20 := nil_is hnq20 (b := true) (by assumption) | replace hnq20 := nil_is hnq20 (b := false) (by assumption))))
   go_ret2
   exact ⟨_, ze, by (with_reducible repeat (first | apply zA | apply zB | apply zC)); exact HO614.out, zU HB.out⟩
 ·replace c4 := Bool.eq_false_iff.mpr c4; subst c4
  have H1 : (some (([] : List Int), 84)) = some (r1, r2) := by rw [if_neg (show ¬ (false = true) by decide)] at H; exact H
  clear H; have H := H1; clear H1; simp only [Option.some.injEq, Prod.mk.injEq] at H; obtain ⟨rfl, rfl⟩ := H
  go_enter Try.func65, Try.ntmps65
  go_wp2_with (first | ((with_reducible refine gate_dst (N := 2) rfl ?_); refine box_event ?hg (N := 2) ?hd (cs := #[.slice A0_0 l0_0.length c0_0]) (t := 24) ?hr ?_; (case hd => rfl); (case hg => rfl); (case hr => first | (go_simp; done) | (go_simp; rfl)); intro gb610 hg w21 hbox hb; have BK610 := zk (hbox); have GW610 := zk ((zg hg HB.out : w.heap.size ≤ gb610)); have GE610 := zk ((zg hg HB.out : w.heap.size ≤ gb610)); replace HB := zk (below_step (zU HB.out) hb);  clear hb hbox hg; have hcz22_0 : w21.cell? ⟨gb610, 0, none⟩ = some (.slice A0_0 l0_0.length c0_0) := zh BK610.out 0; have hfz22_0 := blk_frozen BK610.out 0) | ((with_reducible refine gate_callee (f := 76) rfl ?_); refine goesL_ (some 8) rfl rfl Try.func76 zz rfl #[.agg #[.slice A0_0 l0_0.length c0_0]] rfl zM ?_; (with_reducible refine (scheme_Valid.calls k _ _ l0_0 false _ ?side1 ?side2 A3.out).mono ?_); (case side1 => exact zc (Kd.C_below HR0_0.out HB.out)); (case side2 => exact HC0_0.out); rintro e w23 ⟨rfl, hb⟩; refine ⟨_, rfl, ?_⟩; replace BK610 := zk (zbb BK610.out hb); replace HB := zk (below_step (zU HB.out) hb);  (try clear hb); (try clear hb2); (try clear hk); (try clear hi)))
  go_ret2
  exact ⟨_, ze, by first | exact Kd.R_nil _ _ _ _ _ | exact Kd.N_nil _ _ _ _ _ | exact Kd.V_nil _ _ _ _ _ | exact Kd.Q_nil _ _ _ _ _ | exact Kd.S_nil _ _ _ _ _, zU HB.out⟩
end Go.Proofs.Ytkcklnmbeinfkaa.B
