/- Words and walks of this claim, of the text Bx40. -/
import Derived.Test.YtkcklnmbeinfkaaKrQW0
import Derived.Test.YtkcklnmbeinfkaaKrBx0
import Derived.Test.YtkcklnmbeinfkaaKrBx4
import Derived.Test.YtkcklnmbeinfkaaKrBx7
import Derived.Test.YtkcklnmbeinfkaaKrBx8
import Derived.Test.YtkcklnmbeinfkaaKrBx9
import Derived.Test.YtkcklnmbeinfkaaKrBx22
import Derived.Test.YtkcklnmbeinfkaaKrBx23
import Derived.Test.YtkcklnmbeinfkaaKrBx1
import Derived.Test.YtkcklnmbeinfkaaKrBx26
import Derived.Test.YtkcklnmbeinfkaaKrBx5
import Derived.Test.YtkcklnmbeinfkaaKrBx12
import Derived.Test.YtkcklnmbeinfkaaKrBx13
import Derived.Test.YtkcklnmbeinfkaaKrBx19
namespace Go.Proofs.Ytkcklnmbeinfkaa.B
open Go.RowKit Go.Proofs.YtkcklnmbeinfkaaW.PrintWords Go.Proofs.YtkcklnmbeinfkaaW.PrintLast Go.Proofs.YtkcklnmbeinfkaaW.PrintMore
attribute [local go_sem] max2_int min2_int max_two min_two max_three min_three max_four min_four
set_option linter.unusedVariables false
set_option linter.unusedSimpArgs false
def scalars_Norm.l0 : Nat → List (S102) → List (S102) → Int → Int → Option ((List (S102)) × Int × Int)
 | 0, _, _, _, _ => none
 | k + 1, x0, x7, x8, x9 => if x9 < x8 then (if 0 ≤ x9 then (if x9 < (x7.length : Int) then (if ((rd_T102 x7 x9).f0) < 0 then (some (([] : List (S102)), x9, 1)) else (if ((rd_T102 x7 x9).f0) > ((rd_T102 x7 x9).f1) then (some (([] : List (S102)), x9, 1)) else (if ((rd_T102 x7 x9).f1) > 1073741823 then (some (([] : List (S102)), x9, 1)) else (scalars_Norm.l0 k x0 x7 x8 (wrap64 (x9 + 1)))))) else (none)) else (none)) else ((api_Range.f k x0).bind fun t1047 => ((sets_Norm.f k t1047).bind fun bt1050 => ((scalars_back.f k bt1050.1).bind fun t1054 => (some (t1054, 0, 0)))))
def scalars_Norm.f (k : Nat) (l0 : List (S102)) : Option ((List (S102)) × Int × Int) := scalars_Norm.l0 k l0 l0 (l0.length : Int) 0
theorem scalars_Norm.mono_l : ∀ k, (∀ y0 y1 y2 y3, LeO (scalars_Norm.l0 k y0 y1 y2 y3) (scalars_Norm.l0 (k + 1) y0 y1 y2 y3))
 | 0 => fun _ _ _ _ r h => by simp [scalars_Norm.l0] at h
 | k + 1 => by
  have ih0 := scalars_Norm.mono_l k
  ·intro y0 y1 y2 y3; unfold scalars_Norm.l0; repeat' first
   | (with_reducible exact ih0 _ _ _ _)
   | (with_reducible exact api_Range.mono _ _)
   | (with_reducible exact scalars_back.mono _ _)
   | (with_reducible exact sets_Norm.mono _ _)
   | (with_reducible exact LeO.refl _)
   | (with_reducible exact LeO.none _)
   | (with_reducible refine LeO.ite ?_ ?_)
   | (with_reducible refine LeO.bind ?_ (fun _ => ?_))
   | exact ih0 _ _ _ _
   | exact api_Range.mono _ _
   | exact scalars_back.mono _ _
   | exact sets_Norm.mono _ _
   | exact LeO.none _
   | refine LeO.ite ?_ ?_
   | refine LeO.bind ?_ (fun _ => ?_)
theorem scalars_Norm.mono : ∀ a0 k, LeO (scalars_Norm.f k a0) (scalars_Norm.f (k + 1) a0) := by
 intro a0 k; have ih0 := scalars_Norm.mono_l k; unfold scalars_Norm.f; repeat' first
  | (with_reducible exact ih0 _ _ _ _)
  | (with_reducible exact api_Range.mono _ _)
  | (with_reducible exact scalars_back.mono _ _)
  | (with_reducible exact sets_Norm.mono _ _)
  | (with_reducible exact LeO.refl _)
  | (with_reducible exact LeO.none _)
  | (with_reducible refine LeO.ite ?_ ?_)
  | (with_reducible refine LeO.bind ?_ (fun _ => ?_))
  | exact ih0 _ _ _ _
  | exact api_Range.mono _ _
  | exact scalars_back.mono _ _
  | exact sets_Norm.mono _ _
  | exact LeO.none _
  | refine LeO.ite ?_ ?_
  | refine LeO.bind ?_ (fun _ => ?_)
set_option maxHeartbeats 8000000 in
set_option maxRecDepth 100000 in
theorem scalars_Norm.calls (k : Nat) (A0 : Option Addr) (c0 : Nat) (l0 : List (S102)) (r1 : List (S102)) (r2 : Int) (r3 : Int) (w : World) (hr0 : Kd.C k102 w A0 l0.length l0) (hc0 : l0.length ≤ c0) (h : scalars_Norm.f k l0 = some (r1, r2, r3)) :
 Calls Try.prog 77 #[.slice A0 l0.length c0] w fun e w' => ∃ v0_ : Value, e = .returned (.tuple #[v0_, .int .i64 r2, .int .i64 r3]) ∧ Kd.R k102 102 w' w.heap.size (fun _ => True) v0_ r1 ∧ Below w.heap.size w w' := by
 have hu102 := Try.underlying102; have HR0 := zk hr0; have HC0 := zk hc0; clear hr0 hc0; have HB := zk (Below.refl w.heap.size w); have H : (scalars_Norm.l0 k l0 l0 (l0.length : Int) 0) = some (r1, r2, r3) := h; clear h; have H' := zk H; clear H; go_enter Try.func77, Try.ntmps77
 go_wp2
 go_loopg [9] k (fun kq v9 w' => ∃ (x9_1 : Int), v9 = .int .i64 x9_1 ∧ Aside0 (scalars_Norm.l0 kq l0 l0 (l0.length : Int) x9_1 = some (r1, r2, r3)) ∧ Aside0 (kq ≤ k) ∧ Aside0 (Below w.heap.size w w'))
 case atStart => exact ⟨(0), zR, H', ⟨Nat.le_refl _⟩, ⟨zU HB.out⟩⟩
 case round =>
  clear H'; obtain ⟨x9_1, rfl, HA, HK1, HB⟩ := hrel
  cases gk with
  | zero => exact absurd HA.out (by simp [scalars_Norm.l0])
  | succ k1 =>
   have H := HA.out; clear HA; simp only [scalars_Norm.l0] at H; by_cases c2 : x9_1 < (l0.length : Int)
   ·rw [if_pos c2] at H; have c2b0 : decide (x9_1 < (l0.length : Int)) = true := decide_eq_true c2; clear c2; by_cases c3 : 0 ≤ x9_1
    ·rw [if_pos c3] at H; have c3b0 : decide (0 ≤ x9_1) = true := decide_eq_true c3; clear c3; by_cases c4 : x9_1 < (l0.length : Int)
     ·rw [if_pos c4] at H; have c4b0 : decide (x9_1 < (l0.length : Int)) = true := decide_eq_true c4; clear c4; by_cases c5 : ((rd_T102 l0 x9_1).f0) < 0
      ·rw [if_pos c5] at H; have c5b0 : decide (((rd_T102 l0 x9_1).f0) < 0) = true := decide_eq_true c5; clear c5; simp only [Option.some.injEq, Prod.mk.injEq] at H; obtain ⟨rfl, rfl, rfl⟩ := H; have p1045 : 0 ≤ (x9_1 : Int) := zT; have q1045 : x9_1 < (l0.length : Int) := zT; obtain ⟨ad1045, e1045, hx1045_0, hx1045_1⟩ := at_T102 HR0.out x9_1 p1045 q1045; cases e1045; replace hx1045_0 := zcl HB.out hx1045_0; replace hx1045_1 := zcl HB.out hx1045_1; replace p1045 := eq_true p1045; replace q1045 := eq_true q1045; go_wp2_with (first | ((with_reducible refine gate_dst (N := 6) rfl ?_); refine box_event ?hg (N := 6) ?hd (cs := #[.int .i64 0, .int .i64 0]) (t := 102) ?hr ?_; (case hd => rfl); (case hg => rfl); (case hr => first | (go_simp; done) | (go_simp; rfl)); intro gb1046 hg w6 hbox hb; have BK1046 := zk (hbox); have GE1046 := zk ((zg hg HB.out : w.heap.size ≤ gb1046)); replace HB := zk (below_step (zU HB.out) hb);  clear hb hbox hg; have hcz7_0 : w6.cell? ⟨gb1046, 0, none⟩ = some (.int .i64 0) := zh BK1046.out 0; have hcz7_1 : w6.cell? ⟨gb1046, 1, none⟩ = some (.int .i64 0) := zh BK1046.out 1; have hfz7_0 := blk_frozen BK1046.out 0; have hfz7_1 := blk_frozen BK1046.out 1))
       go_ret3
       exact ⟨_, ze, by first | exact Kd.R_nil _ _ _ _ _ | exact Kd.N_nil _ _ _ _ _ | exact Kd.V_nil _ _ _ _ _ | exact Kd.Q_nil _ _ _ _ _ | exact Kd.S_nil _ _ _ _ _, zU HB.out⟩
      ·rw [if_neg c5] at H; have c5b0 : decide (((rd_T102 l0 x9_1).f0) < 0) = false := decide_eq_false c5; clear c5; by_cases c8 : ((rd_T102 l0 x9_1).f0) > ((rd_T102 l0 x9_1).f1)
       ·rw [if_pos c8] at H; have c8b0 : decide (((rd_T102 l0 x9_1).f1) < ((rd_T102 l0 x9_1).f0)) = true := decide_eq_true c8; clear c8; simp only [Option.some.injEq, Prod.mk.injEq] at H; obtain ⟨rfl, rfl, rfl⟩ := H; have p1045 : 0 ≤ (x9_1 : Int) := zT; have q1045 : x9_1 < (l0.length : Int) := zT; obtain ⟨ad1045, e1045, hx1045_0, hx1045_1⟩ := at_T102 HR0.out x9_1 p1045 q1045; cases e1045; replace hx1045_0 := zcl HB.out hx1045_0; replace hx1045_1 := zcl HB.out hx1045_1; replace p1045 := eq_true p1045; replace q1045 := eq_true q1045; go_wp2_with (first | ((with_reducible refine gate_dst (N := 6) rfl ?_); refine box_event ?hg (N := 6) ?hd (cs := #[.int .i64 0, .int .i64 0]) (t := 102) ?hr ?_; (case hd => rfl); (case hg => rfl); (case hr => first | (go_simp; done) | (go_simp; rfl)); intro gb1046 hg w9 hbox hb; have BK1046 := zk (hbox); have GE1046 := zk ((zg hg HB.out : w.heap.size ≤ gb1046)); replace HB := zk (below_step (zU HB.out) hb);  clear hb hbox hg; have hcz10_0 : w9.cell? ⟨gb1046, 0, none⟩ = some (.int .i64 0) := zh BK1046.out 0; have hcz10_1 : w9.cell? ⟨gb1046, 1, none⟩ = some (.int .i64 0) := zh BK1046.out 1; have hfz10_0 := blk_frozen BK1046.out 0; have hfz10_1 := blk_frozen BK1046.out 1))
        go_ret3
        exact ⟨_, ze, by first | exact Kd.R_nil _ _ _ _ _ | exact Kd.N_nil _ _ _ _ _ | exact Kd.V_nil _ _ _ _ _ | exact Kd.Q_nil _ _ _ _ _ | exact Kd.S_nil _ _ _ _ _, zU HB.out⟩
       ·rw [if_neg c8] at H; have c8b0 : decide (((rd_T102 l0 x9_1).f1) < ((rd_T102 l0 x9_1).f0)) = false := decide_eq_false c8; clear c8; by_cases c11 : ((rd_T102 l0 x9_1).f1) > 1073741823
        ·rw [if_pos c11] at H; have c11b0 : decide (1073741823 < ((rd_T102 l0 x9_1).f1)) = true := decide_eq_true c11; clear c11; simp only [Option.some.injEq, Prod.mk.injEq] at H; obtain ⟨rfl, rfl, rfl⟩ := H; have p1045 : 0 ≤ (x9_1 : Int) := zT; have q1045 : x9_1 < (l0.length : Int) := zT; obtain ⟨ad1045, e1045, hx1045_0, hx1045_1⟩ := at_T102 HR0.out x9_1 p1045 q1045; cases e1045; replace hx1045_0 := zcl HB.out hx1045_0; replace hx1045_1 := zcl HB.out hx1045_1; replace p1045 := eq_true p1045; replace q1045 := eq_true q1045; go_wp2_with (first | ((with_reducible refine gate_dst (N := 6) rfl ?_); refine box_event ?hg (N := 6) ?hd (cs := #[.int .i64 0, .int .i64 0]) (t := 102) ?hr ?_; (case hd => rfl); (case hg => rfl); (case hr => first | (go_simp; done) | (go_simp; rfl)); intro gb1046 hg w12 hbox hb; have BK1046 := zk (hbox); have GE1046 := zk ((zg hg HB.out : w.heap.size ≤ gb1046)); replace HB := zk (below_step (zU HB.out) hb);  clear hb hbox hg; have hcz13_0 : w12.cell? ⟨gb1046, 0, none⟩ = some (.int .i64 0) := zh BK1046.out 0; have hcz13_1 : w12.cell? ⟨gb1046, 1, none⟩ = some (.int .i64 0) := zh BK1046.out 1; have hfz13_0 := blk_frozen BK1046.out 0; have hfz13_1 := blk_frozen BK1046.out 1))
         go_ret3
         exact ⟨_, ze, by first | exact Kd.R_nil _ _ _ _ _ | exact Kd.N_nil _ _ _ _ _ | exact Kd.V_nil _ _ _ _ _ | exact Kd.Q_nil _ _ _ _ _ | exact Kd.S_nil _ _ _ _ _, zU HB.out⟩
        ·rw [if_neg c11] at H; have c11b0 : decide (1073741823 < ((rd_T102 l0 x9_1).f1)) = false := decide_eq_false c11; clear c11; have H' := zk H; clear H; have p1045 : 0 ≤ (x9_1 : Int) := zT; have q1045 : x9_1 < (l0.length : Int) := zT; obtain ⟨ad1045, e1045, hx1045_0, hx1045_1⟩ := at_T102 HR0.out x9_1 p1045 q1045; cases e1045; replace hx1045_0 := zcl HB.out hx1045_0; replace hx1045_1 := zcl HB.out hx1045_1; replace p1045 := eq_true p1045; replace q1045 := eq_true q1045; go_wp2_with (first | ((with_reducible refine gate_dst (N := 6) rfl ?_); refine box_event ?hg (N := 6) ?hd (cs := #[.int .i64 0, .int .i64 0]) (t := 102) ?hr ?_; (case hd => rfl); (case hg => rfl); (case hr => first | (go_simp; done) | (go_simp; rfl)); intro gb1046 hg w14 hbox hb; have BK1046 := zk (hbox); have GE1046 := zk ((zg hg HB.out : w.heap.size ≤ gb1046)); replace HB := zk (below_step (zU HB.out) hb);  clear hb hbox hg; have hcz15_0 : w14.cell? ⟨gb1046, 0, none⟩ = some (.int .i64 0) := zh BK1046.out 0; have hcz15_1 : w14.cell? ⟨gb1046, 1, none⟩ = some (.int .i64 0) := zh BK1046.out 1; have hfz15_0 := blk_frozen BK1046.out 0; have hfz15_1 := blk_frozen BK1046.out 1))
         go_roundg k1
         case measure => have := HK1.out; omega
         case rel => exact ⟨(wrap64 (x9_1 + 1)), zR, H', ⟨by have := HK1.out; omega⟩, ⟨zU HB.out⟩⟩
     ·rw [if_neg c4] at H; exact absurd H (by simp)
    ·rw [if_neg c3] at H; exact absurd H (by simp)
   ·rw [if_neg c2] at H; have c2b0 : decide (x9_1 < (l0.length : Int)) = false := decide_eq_false c2; clear c2; replace H := Option.bind_eq_some_iff.mp H; obtain ⟨t1047, A160, H⟩ := H; replace H : ((sets_Norm.f k1 t1047).bind fun bt1050 => ((scalars_back.f k1 bt1050.1).bind fun t1054 => (some (t1054, 0, 0)))) = some (r1, r2, r3) := H; have A16 := zk A160; clear A160; replace H := Option.bind_eq_some_iff.mp H; obtain ⟨⟨t1050, t1053⟩, A170, H⟩ := H; replace H : ((scalars_back.f k1 t1050).bind fun t1054 => (some (t1054, 0, 0))) = some (r1, r2, r3) := H; have A17 := zk A170; clear A170; replace H := Option.bind_eq_some_iff.mp H; obtain ⟨t1054, A180, H⟩ := H; replace H : (some (t1054, 0, 0)) = some (r1, r2, r3) := H; have A18 := zk A180; clear A180; simp only [Option.some.injEq, Prod.mk.injEq] at H; obtain ⟨rfl, rfl, rfl⟩ := H; go_wp2_with (first | ((with_reducible refine gate_callee (f := 120) rfl ?_); refine goesL_ (some 32) rfl rfl Try.func120 zz rfl #[.slice A0 l0.length c0] rfl zM ?_; (with_reducible refine (api_Range.calls k1 _ _ l0 t1047 _ ?side1 ?side2 A16.out).mono ?_); (case side1 => exact zc (Kd.C_below HR0.out HB.out)); (case side2 => exact HC0.out); rintro e w19 ⟨v1048, rfl, ho0, hb⟩; refine ⟨_, rfl, ?_⟩; have HO1049 := zk (Kd.R_lower ho0 (below_size (zU HB.out))); replace HB := zk (below_step (zU HB.out) hb);  (try clear hb); (try clear hb2); (try clear hk); (try clear hi); (try clear ho0); obtain ⟨Ao20, co20, eo20⟩ := Kd.R_slice HO1049.out; subst eo20) | ((with_reducible refine gate_callee (f := 119) rfl ?_); refine goesL_ (some 33) rfl rfl Try.func119 zz rfl #[.slice Ao20 t1047.length co20] rfl zM ?_; (with_reducible refine (sets_Norm.calls k1 (fun k_ => some k_ = (.slice Ao20 t1047.length co20 : Value).ownBlock) (.slice Ao20 t1047.length co20) t1047 t1050 t1053 w _ ?side1 ?side2 A17.out).mono ?_); (case side1 => repeat (first | (with_reducible first | exact HB.out | apply zD | apply zE | apply zF) | exact HB.out)); (case side2 => exact Kd.R_tight rfl HO1049.out); rintro e w21 ⟨v1051, rfl, ho0, hy0, hb, hkp⟩; refine ⟨_, rfl, ?_⟩; replace HO1049 := zk (Kd.R_reok rfl hy0 (fun k_ e_ => HO1049.out.1 k_ e_)); have HO1052 := zk (Kd.R_mono (ok' := fun k_ => some k_ ≠ (.slice Ao20 t1047.length co20 : Value).ownBlock) ho0 (fun k_ hk_ => hk_.2)); replace HB := zk (hb);  (try clear hb); (try clear hkp); (try clear ho0); (try clear hy0); obtain ⟨Ao22, co22, eo22⟩ := Kd.R_slice HO1052.out; subst eo22) | ((with_reducible refine gate_callee (f := 118) rfl ?_); refine goesL_ (some 34) rfl rfl Try.func118 zz rfl #[.slice Ao22 t1050.length co22] rfl zM ?_; (with_reducible refine (scalars_back.calls k1 _ _ t1050 t1054 _ ?side1 ?side2 A18.out).mono ?_); (case side1 => exact zc (Kd.R_reads' HO1052.out).2.2); (case side2 => exact (Kd.R_reads' HO1052.out).2.1); rintro e w23 ⟨v1055, rfl, ho0, hb⟩; refine ⟨_, rfl, ?_⟩; replace HO1049 := zk (Kd.R_below (zr HO1049.out) hb); replace HO1052 := zk (Kd.R_below (zr HO1052.out) hb); have HO1056 := zk (Kd.R_lower ho0 (below_size (zU HB.out))); replace HB := zk (below_step (zU HB.out) hb);  (try clear hb); (try clear hb2); (try clear hk); (try clear hi); (try clear ho0)))
    go_ret3
    exact ⟨_, ze, by (with_reducible repeat (first | apply zA | apply zB | apply zC)); exact HO1056.out, zU HB.out⟩
end Go.Proofs.Ytkcklnmbeinfkaa.B
