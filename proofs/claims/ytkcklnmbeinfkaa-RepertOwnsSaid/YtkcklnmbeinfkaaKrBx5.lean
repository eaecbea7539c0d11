/- Words and walks of this claim, of the text Bx5. -/
import Derived.Test.YtkcklnmbeinfkaaKrQW0
import Derived.Test.YtkcklnmbeinfkaaKrBx0
import Derived.Test.YtkcklnmbeinfkaaKrBx4
namespace Go.Proofs.Ytkcklnmbeinfkaa.B
open Go.RowKit Go.Proofs.YtkcklnmbeinfkaaW.PrintWords Go.Proofs.YtkcklnmbeinfkaaW.PrintLast Go.Proofs.YtkcklnmbeinfkaaW.PrintMore
attribute [local go_sem] max2_int min2_int max_two min_two max_three min_three max_four min_four
set_option linter.unusedVariables false
set_option linter.unusedSimpArgs false
def sets_Valid.l0 : Nat → Int → Int → List (S139) → Int → Int → Option (Bool)
 | 0, _, _, _, _, _ => none
 | k + 1, x1, x5, x8, x9, x10 => if x10 < x9 then (if 0 ≤ x10 then (if x10 < (x8.length : Int) then (if ((rd_T139 x8 x10).f0) < 0 then (some false) else (if ((rd_T139 x8 x10).f0) > ((rd_T139 x8 x10).f1) then (some false) else (if ((rd_T139 x8 x10).f1) > x1 then (some false) else (if (wrap64 (((rd_T139 x8 x10).f0) - 1)) ≤ x5 then (some false) else (sets_Valid.l0 k x1 ((rd_T139 x8 x10).f1) x8 x9 (wrap64 (x10 + 1))))))) else (none)) else (none)) else (some true)
def sets_Valid.f (k : Nat) (l0 : List (S139)) (a1 : Int) : Option (Bool) := sets_Valid.l0 k a1 (-2) l0 (l0.length : Int) 0
theorem sets_Valid.mono_l : ∀ k, (∀ y0 y1 y2 y3 y4, LeO (sets_Valid.l0 k y0 y1 y2 y3 y4) (sets_Valid.l0 (k + 1) y0 y1 y2 y3 y4))
 | 0 => fun _ _ _ _ _ r h => by simp [sets_Valid.l0] at h
 | k + 1 => by
  have ih0 := sets_Valid.mono_l k
  ·intro y0 y1 y2 y3 y4; unfold sets_Valid.l0; repeat' first
   | (with_reducible exact ih0 _ _ _ _ _)
   | (with_reducible exact LeO.refl _)
   | (with_reducible exact LeO.none _)
   | (with_reducible refine LeO.ite ?_ ?_)
   | (with_reducible refine LeO.bind ?_ (fun _ => ?_))
   | exact ih0 _ _ _ _ _
   | exact LeO.none _
   | refine LeO.ite ?_ ?_
   | refine LeO.bind ?_ (fun _ => ?_)
theorem sets_Valid.mono : ∀ a0 a1 k, LeO (sets_Valid.f k a0 a1) (sets_Valid.f (k + 1) a0 a1) := by
 intro a0 a1 k; have ih0 := sets_Valid.mono_l k; unfold sets_Valid.f; repeat' first
  | (with_reducible exact ih0 _ _ _ _ _)
  | (with_reducible exact LeO.refl _)
  | (with_reducible exact LeO.none _)
  | (with_reducible refine LeO.ite ?_ ?_)
  | (with_reducible refine LeO.bind ?_ (fun _ => ?_))
  | exact ih0 _ _ _ _ _
  | exact LeO.none _
  | refine LeO.ite ?_ ?_
  | refine LeO.bind ?_ (fun _ => ?_)
set_option maxHeartbeats 8000000 in
set_option maxRecDepth 100000 in
theorem sets_Valid.calls (k : Nat) (A0 : Option Addr) (c0 : Nat) (l0 : List (S139)) (a1 : Int) (r : Bool) (w : World) (hr0 : Kd.C k139 w A0 l0.length l0) (hc0 : l0.length ≤ c0) (h : sets_Valid.f k l0 a1 = some r) :
 Calls Try.prog 145 #[.slice A0 l0.length c0, .int .i64 a1] w fun e w' => e = .returned (.bool r) ∧ Below w.heap.size w w' := by
 have hu139 := Try.underlying139; have HR0 := zk hr0; have HC0 := zk hc0; clear hr0 hc0; have HB := zk (Below.refl w.heap.size w); have H : (sets_Valid.l0 k a1 (-2) l0 (l0.length : Int) 0) = some r := h; clear h; have H' := zk H; clear H; go_enter Try.func145, Try.ntmps145
 go_wp2
 go_loopg [5, 10] k (fun kq v5 v10 w' => ∃ (x5_1 : Int) (x10_1 : Int), v5 = .int .i64 x5_1 ∧ v10 = .int .i64 x10_1 ∧ Aside0 (sets_Valid.l0 kq a1 x5_1 l0 (l0.length : Int) x10_1 = some r) ∧ Aside0 (kq ≤ k) ∧ Aside0 (Below w.heap.size w w'))
 case atStart => exact ⟨((-2)), (0), zR, zR, H', ⟨Nat.le_refl _⟩, ⟨zU HB.out⟩⟩
 case round =>
  clear H'; (try clear c1); (try clear p2); obtain ⟨x5_1, x10_1, rfl, rfl, HA, HK1, HB⟩ := hrel
  cases gk with
  | zero => exact absurd HA.out (by simp [sets_Valid.l0])
  | succ k1 =>
   have H := HA.out; clear HA; simp only [sets_Valid.l0] at H; by_cases c3 : x10_1 < (l0.length : Int)
   ·rw [if_pos c3] at H; have c3b0 : decide (x10_1 < (l0.length : Int)) = true := decide_eq_true c3; clear c3; by_cases c4 : 0 ≤ x10_1
    ·rw [if_pos c4] at H; have c4b0 : decide (0 ≤ x10_1) = true := decide_eq_true c4; clear c4; by_cases c5 : x10_1 < (l0.length : Int)
     ·rw [if_pos c5] at H; have c5b0 : decide (x10_1 < (l0.length : Int)) = true := decide_eq_true c5; clear c5; by_cases c6 : ((rd_T139 l0 x10_1).f0) < 0
      ·rw [if_pos c6] at H; have c6b0 : decide (((rd_T139 l0 x10_1).f0) < 0) = true := decide_eq_true c6; clear c6; obtain rfl := Option.some.inj H; have p151 : 0 ≤ (x10_1 : Int) := zT; have q151 : x10_1 < (l0.length : Int) := zT; obtain ⟨ad151, e151, hx151_0, hx151_1⟩ := at_T139 HR0.out x10_1 p151 q151; cases e151; replace hx151_0 := zcl HB.out hx151_0; replace hx151_1 := zcl HB.out hx151_1; replace p151 := eq_true p151; replace q151 := eq_true q151; go_wp2_with (first | ((with_reducible refine gate_dst (N := 7) rfl ?_); refine box_event ?hg (N := 7) ?hd (cs := #[.int .i64 0, .int .i64 0]) (t := 139) ?hr ?_; (case hd => rfl); (case hg => rfl); (case hr => first | (go_simp; done) | (go_simp; rfl)); intro gb152 hg w7 hbox hb; have BK152 := zk (hbox); have GE152 := zk ((zg hg HB.out : w.heap.size ≤ gb152)); replace HB := zk (below_step (zU HB.out) hb);  clear hb hbox hg; have hcz8_0 : w7.cell? ⟨gb152, 0, none⟩ = some (.int .i64 0) := zh BK152.out 0; have hcz8_1 : w7.cell? ⟨gb152, 1, none⟩ = some (.int .i64 0) := zh BK152.out 1; have hfz8_0 := blk_frozen BK152.out 0; have hfz8_1 := blk_frozen BK152.out 1))
       go_ret
       exact ⟨ze, zU HB.out⟩
      ·rw [if_neg c6] at H; have c6b0 : decide (((rd_T139 l0 x10_1).f0) < 0) = false := decide_eq_false c6; clear c6; by_cases c9 : ((rd_T139 l0 x10_1).f0) > ((rd_T139 l0 x10_1).f1)
       ·rw [if_pos c9] at H; have c9b0 : decide (((rd_T139 l0 x10_1).f1) < ((rd_T139 l0 x10_1).f0)) = true := decide_eq_true c9; clear c9; obtain rfl := Option.some.inj H; have p151 : 0 ≤ (x10_1 : Int) := zT; have q151 : x10_1 < (l0.length : Int) := zT; obtain ⟨ad151, e151, hx151_0, hx151_1⟩ := at_T139 HR0.out x10_1 p151 q151; cases e151; replace hx151_0 := zcl HB.out hx151_0; replace hx151_1 := zcl HB.out hx151_1; replace p151 := eq_true p151; replace q151 := eq_true q151; go_wp2_with (first | ((with_reducible refine gate_dst (N := 7) rfl ?_); refine box_event ?hg (N := 7) ?hd (cs := #[.int .i64 0, .int .i64 0]) (t := 139) ?hr ?_; (case hd => rfl); (case hg => rfl); (case hr => first | (go_simp; done) | (go_simp; rfl)); intro gb152 hg w10 hbox hb; have BK152 := zk (hbox); have GE152 := zk ((zg hg HB.out : w.heap.size ≤ gb152)); replace HB := zk (below_step (zU HB.out) hb);  clear hb hbox hg; have hcz11_0 : w10.cell? ⟨gb152, 0, none⟩ = some (.int .i64 0) := zh BK152.out 0; have hcz11_1 : w10.cell? ⟨gb152, 1, none⟩ = some (.int .i64 0) := zh BK152.out 1; have hfz11_0 := blk_frozen BK152.out 0; have hfz11_1 := blk_frozen BK152.out 1))
        go_ret
        exact ⟨ze, zU HB.out⟩
       ·rw [if_neg c9] at H; have c9b0 : decide (((rd_T139 l0 x10_1).f1) < ((rd_T139 l0 x10_1).f0)) = false := decide_eq_false c9; clear c9; by_cases c12 : ((rd_T139 l0 x10_1).f1) > a1
        ·rw [if_pos c12] at H; have c12b0 : decide (a1 < ((rd_T139 l0 x10_1).f1)) = true := decide_eq_true c12; clear c12; obtain rfl := Option.some.inj H; have p151 : 0 ≤ (x10_1 : Int) := zT; have q151 : x10_1 < (l0.length : Int) := zT; obtain ⟨ad151, e151, hx151_0, hx151_1⟩ := at_T139 HR0.out x10_1 p151 q151; cases e151; replace hx151_0 := zcl HB.out hx151_0; replace hx151_1 := zcl HB.out hx151_1; replace p151 := eq_true p151; replace q151 := eq_true q151; go_wp2_with (first | ((with_reducible refine gate_dst (N := 7) rfl ?_); refine box_event ?hg (N := 7) ?hd (cs := #[.int .i64 0, .int .i64 0]) (t := 139) ?hr ?_; (case hd => rfl); (case hg => rfl); (case hr => first | (go_simp; done) | (go_simp; rfl)); intro gb152 hg w13 hbox hb; have BK152 := zk (hbox); have GE152 := zk ((zg hg HB.out : w.heap.size ≤ gb152)); replace HB := zk (below_step (zU HB.out) hb);  clear hb hbox hg; have hcz14_0 : w13.cell? ⟨gb152, 0, none⟩ = some (.int .i64 0) := zh BK152.out 0; have hcz14_1 : w13.cell? ⟨gb152, 1, none⟩ = some (.int .i64 0) := zh BK152.out 1; have hfz14_0 := blk_frozen BK152.out 0; have hfz14_1 := blk_frozen BK152.out 1))
         go_ret
         exact ⟨ze, zU HB.out⟩
        ·rw [if_neg c12] at H; have c12b0 : decide (a1 < ((rd_T139 l0 x10_1).f1)) = false := decide_eq_false c12; clear c12; by_cases c15 : (wrap64 (((rd_T139 l0 x10_1).f0) - 1)) ≤ x5_1
         ·rw [if_pos c15] at H; have c15b0 : decide ((wrap64 (((rd_T139 l0 x10_1).f0) - 1)) ≤ x5_1) = true := decide_eq_true c15; clear c15; obtain rfl := Option.some.inj H; have p151 : 0 ≤ (x10_1 : Int) := zT; have q151 : x10_1 < (l0.length : Int) := zT; obtain ⟨ad151, e151, hx151_0, hx151_1⟩ := at_T139 HR0.out x10_1 p151 q151; cases e151; replace hx151_0 := zcl HB.out hx151_0; replace hx151_1 := zcl HB.out hx151_1; replace p151 := eq_true p151; replace q151 := eq_true q151; go_wp2_with (first | ((with_reducible refine gate_dst (N := 7) rfl ?_); refine box_event ?hg (N := 7) ?hd (cs := #[.int .i64 0, .int .i64 0]) (t := 139) ?hr ?_; (case hd => rfl); (case hg => rfl); (case hr => first | (go_simp; done) | (go_simp; rfl)); intro gb152 hg w16 hbox hb; have BK152 := zk (hbox); have GE152 := zk ((zg hg HB.out : w.heap.size ≤ gb152)); replace HB := zk (below_step (zU HB.out) hb);  clear hb hbox hg; have hcz17_0 : w16.cell? ⟨gb152, 0, none⟩ = some (.int .i64 0) := zh BK152.out 0; have hcz17_1 : w16.cell? ⟨gb152, 1, none⟩ = some (.int .i64 0) := zh BK152.out 1; have hfz17_0 := blk_frozen BK152.out 0; have hfz17_1 := blk_frozen BK152.out 1))
          go_ret
          exact ⟨ze, zU HB.out⟩
         ·rw [if_neg c15] at H; have c15b0 : decide ((wrap64 (((rd_T139 l0 x10_1).f0) - 1)) ≤ x5_1) = false := decide_eq_false c15; clear c15; have H' := zk H; clear H; have p151 : 0 ≤ (x10_1 : Int) := zT; have q151 : x10_1 < (l0.length : Int) := zT; obtain ⟨ad151, e151, hx151_0, hx151_1⟩ := at_T139 HR0.out x10_1 p151 q151; cases e151; replace hx151_0 := zcl HB.out hx151_0; replace hx151_1 := zcl HB.out hx151_1; replace p151 := eq_true p151; replace q151 := eq_true q151; go_wp2_with (first | ((with_reducible refine gate_dst (N := 7) rfl ?_); refine box_event ?hg (N := 7) ?hd (cs := #[.int .i64 0, .int .i64 0]) (t := 139) ?hr ?_; (case hd => rfl); (case hg => rfl); (case hr => first | (go_simp; done) | (go_simp; rfl)); intro gb152 hg w18 hbox hb; have BK152 := zk (hbox); have GE152 := zk ((zg hg HB.out : w.heap.size ≤ gb152)); replace HB := zk (below_step (zU HB.out) hb);  clear hb hbox hg; have hcz19_0 : w18.cell? ⟨gb152, 0, none⟩ = some (.int .i64 0) := zh BK152.out 0; have hcz19_1 : w18.cell? ⟨gb152, 1, none⟩ = some (.int .i64 0) := zh BK152.out 1; have hfz19_0 := blk_frozen BK152.out 0; have hfz19_1 := blk_frozen BK152.out 1))
          go_roundg k1
          case measure => have := HK1.out; omega
          case rel => exact ⟨((rd_T139 l0 x10_1).f1), (wrap64 (x10_1 + 1)), zR, zR, H', ⟨by have := HK1.out; omega⟩, ⟨zU HB.out⟩⟩
     ·rw [if_neg c5] at H; exact absurd H (by simp)
    ·rw [if_neg c4] at H; exact absurd H (by simp)
   ·rw [if_neg c3] at H; have c3b0 : decide (x10_1 < (l0.length : Int)) = false := decide_eq_false c3; clear c3; obtain rfl := Option.some.inj H; go_wp2
    go_ret
    exact ⟨ze, zU HB.out⟩
def scalars_set.f (k : Nat) (l0 : List (S102)) : Option ((List (S139))) := (api_Range.f k l0).bind fun t153 => ((sets_Valid.f k t153 1073741823).bind fun t156 => (if t156 = true then (some t153) else (some ([] : List (S139)))))
theorem scalars_set.mono : ∀ a0 k, LeO (scalars_set.f k a0) (scalars_set.f (k + 1) a0) := by
 intro a0 k; unfold scalars_set.f; repeat' first
  | (with_reducible exact api_Range.mono _ _)
  | (with_reducible exact sets_Valid.mono _ _ _)
  | (with_reducible exact LeO.refl _)
  | (with_reducible exact LeO.none _)
  | (with_reducible refine LeO.ite ?_ ?_)
  | (with_reducible refine LeO.bind ?_ (fun _ => ?_))
  | exact api_Range.mono _ _
  | exact sets_Valid.mono _ _ _
  | exact LeO.none _
  | refine LeO.ite ?_ ?_
  | refine LeO.bind ?_ (fun _ => ?_)
set_option maxHeartbeats 8000000 in
set_option maxRecDepth 100000 in
theorem scalars_set.calls (k : Nat) (A0 : Option Addr) (c0 : Nat) (l0 : List (S102)) (r : List (S139)) (w : World) (hr0 : Kd.C k102 w A0 l0.length l0) (hc0 : l0.length ≤ c0) (h : scalars_set.f k l0 = some r) :
 Calls Try.prog 132 #[.slice A0 l0.length c0] w fun e w' => ∃ v0_ : Value, e = .returned (v0_) ∧ Kd.R k139 139 w' w.heap.size (fun _ => True) v0_ r ∧ Below w.heap.size w w' := by
 have HR0 := zk hr0; have HC0 := zk hc0; clear hr0 hc0; have HB := zk (Below.refl w.heap.size w); have H : ((api_Range.f k l0).bind fun t153 => ((sets_Valid.f k t153 1073741823).bind fun t156 => (if t156 = true then (some t153) else (some ([] : List (S139)))))) = some r := h; clear h; replace H := Option.bind_eq_some_iff.mp H; obtain ⟨t153, A20, H⟩ := H; replace H : ((sets_Valid.f k t153 1073741823).bind fun t156 => (if t156 = true then (some t153) else (some ([] : List (S139))))) = some r := H; have A2 := zk A20; clear A20; replace H := Option.bind_eq_some_iff.mp H; obtain ⟨t156, A30, H⟩ := H; replace H : (if t156 = true then (some t153) else (some ([] : List (S139)))) = some r := H; have A3 := zk A30; clear A30; by_cases c4 : t156 = true
 ·subst c4; have H1 : (some t153) = some r := by rw [if_pos rfl] at H; exact H
  clear H; have H := H1; clear H1; obtain rfl := Option.some.inj H; go_enter Try.func132, Try.ntmps132
  go_wp2_with (first | ((with_reducible refine gate_callee (f := 120) rfl ?_); refine goesL_ (some 5) rfl rfl Try.func120 zz rfl #[.slice A0 l0.length c0] rfl zM ?_; (with_reducible refine (api_Range.calls k _ _ l0 t153 _ ?side1 ?side2 A2.out).mono ?_); (case side1 => exact zc HR0.out); (case side2 => exact HC0.out); rintro e w5 ⟨v154, rfl, ho0, hb⟩; refine ⟨_, rfl, ?_⟩; have HO155 := zk (Kd.R_lower ho0 (below_size (zU HB.out))); replace HB := zk (below_step (zU HB.out) hb);  (try clear hb); (try clear hb2); (try clear hk); (try clear hi); (try clear ho0); obtain ⟨Ao6, co6, eo6⟩ := Kd.R_slice HO155.out; subst eo6) | ((with_reducible refine gate_callee (f := 145) rfl ?_); refine goesL_ (some 7) rfl rfl Try.func145 zz rfl #[.slice Ao6 t153.length co6, .int .i64 1073741823] rfl zM ?_; (with_reducible refine (sets_Valid.calls k _ _ t153 1073741823 true _ ?side1 ?side2 A3.out).mono ?_); (case side1 => exact zc (Kd.R_reads' HO155.out).2.2); (case side2 => exact (Kd.R_reads' HO155.out).2.1); rintro e w7 ⟨rfl, hb⟩; refine ⟨_, rfl, ?_⟩; replace HO155 := zk (Kd.R_below (zr HO155.out) hb); replace HB := zk (below_step (zU HB.out) hb);  (try clear hb); (try clear hb2); (try clear hk); (try clear hi)))
  go_ret
  exact ⟨_, ze, by (with_reducible repeat (first | apply zA | apply zB | apply zC)); exact HO155.out, zU HB.out⟩
 ·replace c4 := Bool.eq_false_iff.mpr c4; subst c4; have H1 : (some ([] : List (S139))) = some r := by rw [if_neg (show ¬ (false = true) by decide)] at H; exact H
  clear H; have H := H1; clear H1; obtain rfl := Option.some.inj H; go_enter Try.func132, Try.ntmps132
  go_wp2_with (first | ((with_reducible refine gate_callee (f := 120) rfl ?_); refine goesL_ (some 5) rfl rfl Try.func120 zz rfl #[.slice A0 l0.length c0] rfl zM ?_; (with_reducible refine (api_Range.calls k _ _ l0 t153 _ ?side1 ?side2 A2.out).mono ?_); (case side1 => exact zc HR0.out); (case side2 => exact HC0.out); rintro e w8 ⟨v154, rfl, ho0, hb⟩; refine ⟨_, rfl, ?_⟩; have HO155 := zk (Kd.R_lower ho0 (below_size (zU HB.out))); replace HB := zk (below_step (zU HB.out) hb);  (try clear hb); (try clear hb2); (try clear hk); (try clear hi); (try clear ho0); obtain ⟨Ao9, co9, eo9⟩ := Kd.R_slice HO155.out; subst eo9) | ((with_reducible refine gate_callee (f := 145) rfl ?_); refine goesL_ (some 7) rfl rfl Try.func145 zz rfl #[.slice Ao9 t153.length co9, .int .i64 1073741823] rfl zM ?_; (with_reducible refine (sets_Valid.calls k _ _ t153 1073741823 false _ ?side1 ?side2 A3.out).mono ?_); (case side1 => exact zc (Kd.R_reads' HO155.out).2.2); (case side2 => exact (Kd.R_reads' HO155.out).2.1); rintro e w10 ⟨rfl, hb⟩; refine ⟨_, rfl, ?_⟩; replace HO155 := zk (Kd.R_below (zr HO155.out) hb); replace HB := zk (below_step (zU HB.out) hb);  (try clear hb); (try clear hb2); (try clear hk); (try clear hi)))
  go_ret
  exact ⟨_, ze, by first | exact Kd.R_nil _ _ _ _ _ | exact Kd.N_nil _ _ _ _ _ | exact Kd.V_nil _ _ _ _ _ | exact Kd.Q_nil _ _ _ _ _ | exact Kd.S_nil _ _ _ _ _, zU HB.out⟩
def scalars_Meet.f (k : Nat) (l0 : List (S102)) (l1 : List (S102)) : Option ((List (S102))) := (scalars_set.f k l0).bind fun t157 => ((scalars_set.f k l1).bind fun t160 => ((sets_Meet.f k t157 t160).bind fun t163 => ((scalars_back.f k t163).bind fun t166 => (some t166))))
theorem scalars_Meet.mono : ∀ a0 a1 k, LeO (scalars_Meet.f k a0 a1) (scalars_Meet.f (k + 1) a0 a1) := by
 intro a0 a1 k; unfold scalars_Meet.f; repeat' first
  | (with_reducible exact scalars_back.mono _ _)
  | (with_reducible exact scalars_set.mono _ _)
  | (with_reducible exact sets_Meet.mono _ _ _)
  | (with_reducible exact LeO.refl _)
  | (with_reducible exact LeO.none _)
  | (with_reducible refine LeO.ite ?_ ?_)
  | (with_reducible refine LeO.bind ?_ (fun _ => ?_))
  | exact scalars_back.mono _ _
  | exact scalars_set.mono _ _
  | exact sets_Meet.mono _ _ _
  | exact LeO.none _
  | refine LeO.ite ?_ ?_
  | refine LeO.bind ?_ (fun _ => ?_)
set_option maxHeartbeats 8000000 in
set_option maxRecDepth 100000 in
theorem scalars_Meet.calls (k : Nat) (A0 : Option Addr) (c0 : Nat) (l0 : List (S102)) (A1 : Option Addr) (c1 : Nat) (l1 : List (S102)) (r : List (S102)) (w : World) (hr0 : Kd.C k102 w A0 l0.length l0) (hc0 : l0.length ≤ c0) (hr1 : Kd.C k102 w A1 l1.length l1) (hc1 : l1.length ≤ c1) (h : scalars_Meet.f k l0 l1 = some r) :
 Calls Try.prog 96 #[.slice A0 l0.length c0, .slice A1 l1.length c1] w fun e w' => ∃ v0_ : Value, e = .returned (v0_) ∧ Kd.R k102 102 w' w.heap.size (fun _ => True) v0_ r ∧ Below w.heap.size w w' := by
 have HR0 := zk hr0; have HC0 := zk hc0; clear hr0 hc0; have HR1 := zk hr1; have HC1 := zk hc1; clear hr1 hc1; have HB := zk (Below.refl w.heap.size w); have H : ((scalars_set.f k l0).bind fun t157 => ((scalars_set.f k l1).bind fun t160 => ((sets_Meet.f k t157 t160).bind fun t163 => ((scalars_back.f k t163).bind fun t166 => (some t166))))) = some r := h; clear h; replace H := Option.bind_eq_some_iff.mp H; obtain ⟨t157, A30, H⟩ := H; replace H : ((scalars_set.f k l1).bind fun t160 => ((sets_Meet.f k t157 t160).bind fun t163 => ((scalars_back.f k t163).bind fun t166 => (some t166)))) = some r := H; have A3 := zk A30; clear A30; replace H := Option.bind_eq_some_iff.mp H; obtain ⟨t160, A40, H⟩ := H; replace H : ((sets_Meet.f k t157 t160).bind fun t163 => ((scalars_back.f k t163).bind fun t166 => (some t166))) = some r := H; have A4 := zk A40; clear A40; replace H := Option.bind_eq_some_iff.mp H; obtain ⟨t163, A50, H⟩ := H; replace H : ((scalars_back.f k t163).bind fun t166 => (some t166)) = some r := H; have A5 := zk A50; clear A50; replace H := Option.bind_eq_some_iff.mp H; obtain ⟨t166, A60, H⟩ := H; replace H : (some t166) = some r := H; have A6 := zk A60; clear A60; obtain rfl := Option.some.inj H; go_enter Try.func96, Try.ntmps96
 go_wp2_with (first | ((with_reducible refine gate_callee (f := 132) rfl ?_); refine goesL_ (some 6) rfl rfl Try.func132 zz rfl #[.slice A0 l0.length c0] rfl zM ?_; (with_reducible refine (scalars_set.calls k _ _ l0 t157 _ ?side1 ?side2 A3.out).mono ?_); (case side1 => exact zc HR0.out); (case side2 => exact HC0.out); rintro e w7 ⟨v158, rfl, ho0, hb⟩; refine ⟨_, rfl, ?_⟩; have HO159 := zk (Kd.R_lower ho0 (below_size (zU HB.out))); replace HB := zk (below_step (zU HB.out) hb);  (try clear hb); (try clear hb2); (try clear hk); (try clear hi); (try clear ho0)) | ((with_reducible refine gate_callee (f := 132) rfl ?_); refine goesL_ (some 8) rfl rfl Try.func132 zz rfl #[.slice A1 l1.length c1] rfl zM ?_; (with_reducible refine (scalars_set.calls k _ _ l1 t160 _ ?side1 ?side2 A4.out).mono ?_); (case side1 => exact zc (Kd.C_below HR1.out HB.out)); (case side2 => exact HC1.out); rintro e w8 ⟨v161, rfl, ho0, hb⟩; refine ⟨_, rfl, ?_⟩; have HO162 := zk (Kd.R_lower (Kd.R_new' ho0 (Kd.R_lt (zr HO159.out))) (below_size (zU HB.out))); replace HO159 := zk (Kd.R_elder' (zr HO159.out) (Kd.R_base ho0) hb); replace HB := zk (below_step (zU HB.out) hb);  (try clear hb); (try clear hb2); (try clear hk); (try clear hi); (try clear ho0); obtain ⟨Ao9, co9, eo9⟩ := Kd.R_slice HO159.out; subst eo9; obtain ⟨Ao10, co10, eo10⟩ := Kd.R_slice HO162.out; subst eo10) | ((with_reducible refine gate_callee (f := 131) rfl ?_); refine goesL_ (some 9) rfl rfl Try.func131 zz rfl #[.slice Ao9 t157.length co9, .slice Ao10 t160.length co10] rfl zM ?_; (with_reducible refine (sets_Meet.calls k (fun k_ => some k_ = (.slice Ao9 t157.length co9 : Value).ownBlock) _ _ t157 (fun k_ => some k_ = (.slice Ao10 t160.length co10 : Value).ownBlock) _ _ t160 t163 _ ?side1 ?side2 A5.out).mono ?_); (case side1 => exact Kd.R_V (Kd.R_tight rfl (HO159.out))); (case side2 => exact Kd.R_V (Kd.R_tight rfl (HO162.out))); rintro e w11 ⟨v164, rfl, ho0, hb⟩; refine ⟨_, rfl, ?_⟩; have HO165 := zk (Kd.R_lower (Kd.R_new' (Kd.R_new' (Kd.R_mono (ok' := fun k_ => True) ho0 (fun _ hk_ => trivial)) (Kd.R_lt (zr HO159.out))) (Kd.R_lt (zr HO162.out))) (below_size (zU HB.out))); replace HO159 := zk (Kd.R_elder' (zr HO159.out) (Kd.R_base ho0) hb); replace HO162 := zk (Kd.R_elder' (zr HO162.out) (Kd.R_base ho0) hb); replace HB := zk (below_step (zU HB.out) hb);  (try clear hb); (try clear hb2); (try clear hk); (try clear hi); (try clear ho0); obtain ⟨Ao12, co12, eo12⟩ := Kd.R_slice HO165.out; subst eo12) | ((with_reducible refine gate_callee (f := 118) rfl ?_); refine goesL_ (some 10) rfl rfl Try.func118 zz rfl #[.slice Ao12 t163.length co12] rfl zM ?_; (with_reducible refine (scalars_back.calls k _ _ t163 t166 _ ?side1 ?side2 A6.out).mono ?_); (case side1 => exact zc (Kd.R_reads' HO165.out).2.2); (case side2 => exact (Kd.R_reads' HO165.out).2.1); rintro e w13 ⟨v167, rfl, ho0, hb⟩; refine ⟨_, rfl, ?_⟩; replace HO159 := zk (Kd.R_below (zr HO159.out) hb); replace HO162 := zk (Kd.R_below (zr HO162.out) hb); replace HO165 := zk (Kd.R_below (zr HO165.out) hb); have HO168 := zk (Kd.R_lower ho0 (below_size (zU HB.out))); replace HB := zk (below_step (zU HB.out) hb);  (try clear hb); (try clear hb2); (try clear hk); (try clear hi); (try clear ho0)))
 go_ret
 exact ⟨_, ze, by (with_reducible repeat (first | apply zA | apply zB | apply zC)); exact HO168.out, zU HB.out⟩
def api_Span_144.l0 : Nat → List (S139) → List (S113) → Int → Int → Option ((List (S139)))
 | 0, _, _, _, _ => none
 | k + 1, x3, x9, x10, x11 => if x11 < x10 then (if 0 ≤ x11 then (if x11 < (x9.length : Int) then (if x3.length < 8796093022208 then (api_Span_144.l0 k (x3 ++ [(⟨(rd_T113 x9 x11).f0, (rd_T113 x9 x11).f1⟩ : S139)]) x9 x10 (wrap64 (x11 + 1))) else (none)) else (none)) else (none)) else (some x3)
def api_Span_144.f (k : Nat) (l0 : List (S113)) : Option ((List (S139))) := if 0 ≤ (l0.length : Int) then (if ((l0.length : Int) : Int).toNat ≤ 17592186044416 then (api_Span_144.l0 k (([] : List (S139))) l0 (l0.length : Int) 0) else (none)) else (none)
theorem api_Span_144.mono_l : ∀ k, (∀ y0 y1 y2 y3, LeO (api_Span_144.l0 k y0 y1 y2 y3) (api_Span_144.l0 (k + 1) y0 y1 y2 y3))
 | 0 => fun _ _ _ _ r h => by simp [api_Span_144.l0] at h
 | k + 1 => by
  have ih0 := api_Span_144.mono_l k
  ·intro y0 y1 y2 y3; unfold api_Span_144.l0; repeat' first
   | (with_reducible exact ih0 _ _ _ _)
   | (with_reducible exact LeO.refl _)
   | (with_reducible exact LeO.none _)
   | (with_reducible refine LeO.ite ?_ ?_)
   | (with_reducible refine LeO.bind ?_ (fun _ => ?_))
   | exact ih0 _ _ _ _
   | exact LeO.none _
   | refine LeO.ite ?_ ?_
   | refine LeO.bind ?_ (fun _ => ?_)
theorem api_Span_144.mono : ∀ a0 k, LeO (api_Span_144.f k a0) (api_Span_144.f (k + 1) a0) := by
 intro a0 k; have ih0 := api_Span_144.mono_l k; unfold api_Span_144.f; repeat' first
  | (with_reducible exact ih0 _ _ _ _)
  | (with_reducible exact LeO.refl _)
  | (with_reducible exact LeO.none _)
  | (with_reducible refine LeO.ite ?_ ?_)
  | (with_reducible refine LeO.bind ?_ (fun _ => ?_))
  | exact ih0 _ _ _ _
  | exact LeO.none _
  | refine LeO.ite ?_ ?_
  | refine LeO.bind ?_ (fun _ => ?_)
set_option maxHeartbeats 8000000 in
set_option maxRecDepth 100000 in
theorem api_Span_144.calls (k : Nat) (A0 : Option Addr) (c0 : Nat) (l0 : List (S113)) (r : List (S139)) (w : World) (hr0 : Kd.C k113 w A0 l0.length l0) (hc0 : l0.length ≤ c0) (h : api_Span_144.f k l0 = some r) :
 Calls Try.prog 144 #[.slice A0 l0.length c0] w fun e w' => ∃ v0_ : Value, e = .returned (v0_) ∧ Kd.R k139 139 w' w.heap.size (fun _ => True) v0_ r ∧ Below w.heap.size w w' := by
 have hu113 := Try.underlying113; have HR0 := zk hr0; have HC0 := zk hc0; clear hr0 hc0; have HB := zk (Below.refl w.heap.size w); have H : (if 0 ≤ (l0.length : Int) then (if ((l0.length : Int) : Int).toNat ≤ 17592186044416 then (api_Span_144.l0 k (([] : List (S139))) l0 (l0.length : Int) 0) else (none)) else (none)) = some r := h; clear h; by_cases c2 : 0 ≤ (l0.length : Int)
 ·rw [if_pos c2] at H; have c2b0 := eq_true c2; have c2b1 : decide (0 ≤ (l0.length : Int)) = true := decide_eq_true c2; clear c2; by_cases c3 : ((l0.length : Int) : Int).toNat ≤ 17592186044416
  ·rw [if_pos c3] at H; have c3b0 := eq_true c3; have c3b1 : decide (((l0.length : Int) : Int).toNat ≤ 17592186044416) = true := decide_eq_true c3; clear c3; obtain ⟨y169, hy169⟩ : ∃ y_ : List (S139), y_ = (([] : List (S139))) := ⟨_, rfl⟩
   replace H : (api_Span_144.l0 k y169 l0 (l0.length : Int) 0) = some r := by first | (rw [hy169]; with_reducible exact H) | (have H2_ := (Option.bind_some _ _).symm.trans H; rw [hy169]; with_reducible exact H2_) | (have H2_ := (Option.bind_some _ _).symm.trans H; with_reducible exact H2_) | with_reducible exact H | (rw [hy169]; exact H) | exact H
   have Ny169 := zk hy169; clear hy169; have H' := zk H; clear H; go_enter Try.func144, Try.ntmps144
   go_wp2_with (first | ((with_reducible refine gate_dst (N := 8) rfl ?_); refine KdCap.R_makecap k139 _ 139 rfl (N := 8) rfl 136 _ _ rfl (l0.length : Int) rfl rfl Try.underlying136 (.agg #[(.int .i64 0), (.int .i64 0)]) 16 info139 (by decide) (ok := fun _ => True) (okp := fun _ => True) (fun _ hk => hk) trivial zT (Nat.le_trans (Nat.mul_le_mul_right _ (zT : (l0.length : Int).toNat ≤ 17592186044416)) (by omega)) (Below.refl _ _) (Nat.le_refl _) ?_; intro v170 w4 ho5 hb hg_ hnew_; clear hg_ hnew_; (first | rw [← Ny169.out] at ho5 | (simp only [Int.reduceToNat] at ho5; rw [← Ny169.out] at ho5)); have HO171 := zk (Kd.R_lower ho5 (below_size (zU HB.out))); replace HB := zk (below_step (zU HB.out) hb);  clear hb ho5))
   go_loopg [3, 11] k (fun kq v3 v11 w' => ∃ (x3_1 : List (S139)) (x11_1 : Int), v11 = .int .i64 x11_1 ∧ Aside0 (api_Span_144.l0 kq x3_1 l0 (l0.length : Int) x11_1 = some r) ∧ Aside0 (kq ≤ k) ∧ Aside0 (Kd.R k139 139 w' w.heap.size (fun _ => True) v3 x3_1) ∧ Aside0 (Below w.heap.size w w'))
   case atStart => exact ⟨(y169), (0), zR, H', ⟨Nat.le_refl _⟩, ⟨by (with_reducible repeat (first | apply zA | apply zB | apply zC)); exact HO171.out⟩, ⟨zU HB.out⟩⟩
   case round =>
    clear H'; (try clear c1); (try clear c2); (try clear c2b0); (try clear c2b1); (try clear p2); (try clear c3); (try clear c3b0); (try clear c3b1); obtain ⟨x3_1, x11_1, rfl, HA, HK1, HO_3, HB⟩ := hrel
    cases gk with
    | zero => exact absurd HA.out (by simp [api_Span_144.l0])
    | succ k1 =>
     have H := HA.out; clear HA; simp only [api_Span_144.l0] at H; by_cases c6 : x11_1 < (l0.length : Int)
     ·rw [if_pos c6] at H; have c6b0 : decide (x11_1 < (l0.length : Int)) = true := decide_eq_true c6; clear c6; by_cases c7 : 0 ≤ x11_1
      ·rw [if_pos c7] at H; have c7b0 : decide (0 ≤ x11_1) = true := decide_eq_true c7; clear c7; by_cases c8 : x11_1 < (l0.length : Int)
       ·rw [if_pos c8] at H; have c8b0 : decide (x11_1 < (l0.length : Int)) = true := decide_eq_true c8; clear c8; by_cases c9 : x3_1.length < 8796093022208
        ·rw [if_pos c9] at H; have LMc9 := zk c9; clear c9; obtain ⟨y174, hy174⟩ : ∃ y_ : List (S139), y_ = (x3_1 ++ [(⟨(rd_T113 l0 x11_1).f0, (rd_T113 l0 x11_1).f1⟩ : S139)]) := ⟨_, rfl⟩
         replace H : (api_Span_144.l0 k1 y174 l0 (l0.length : Int) (wrap64 (x11_1 + 1))) = some r := by first | (rw [hy174]; with_reducible exact H) | (have H2_ := (Option.bind_some _ _).symm.trans H; rw [hy174]; with_reducible exact H2_) | (have H2_ := (Option.bind_some _ _).symm.trans H; with_reducible exact H2_) | with_reducible exact H | (rw [hy174]; exact H) | exact H
         have Ny174 := zk hy174; clear hy174; have H' := zk H; clear H; have p172 : 0 ≤ (x11_1 : Int) := zT; have q172 : x11_1 < (l0.length : Int) := zT; obtain ⟨ad172, e172, hx172_0, hx172_1⟩ := at_T113 HR0.out x11_1 p172 q172; cases e172; replace hx172_0 := zcl HB.out hx172_0; replace hx172_1 := zcl HB.out hx172_1; replace p172 := eq_true p172; replace q172 := eq_true q172; go_wp2_with (first | ((with_reducible refine gate_dst (N := 5) rfl ?_); refine box_event ?hg (N := 5) ?hd (cs := #[.int .i64 0, .int .i64 0]) (t := 113) ?hr ?_; (case hd => rfl); (case hg => rfl); (case hr => first | (go_simp; done) | (go_simp; rfl)); intro gb173 hg w10 hbox hb; replace HO_3 := zk (Kd.R_below (zr HO_3.out) hb); have BK173 := zk (hbox); have GE173 := zk ((zg hg HB.out : w.heap.size ≤ gb173)); replace HB := zk (below_step (zU HB.out) hb);  clear hb hbox hg; have hcz11_0 : w10.cell? ⟨gb173, 0, none⟩ = some (.int .i64 0) := zh BK173.out 0; have hcz11_1 : w10.cell? ⟨gb173, 1, none⟩ = some (.int .i64 0) := zh BK173.out 1; have hfz11_0 := blk_frozen BK173.out 0; have hfz11_1 := blk_frozen BK173.out 1) | ((with_reducible refine gate_builtin (b := .append) (xs := #[.tmp 15, .tmp 17]) rfl ?_); at_builtin; refine Kd.R_append k139 (w0 := w) w.heap.size rfl (.tmp 15) (.tmp 17) 136 139 (.agg #[(.int .i64 0), (.int .i64 0)]) 16 rfl Try.underlying136 info139 rfl (by decide) (by omega) u3 x3_1 (⟨(rd_T113 l0 x11_1).f0, (rd_T113 l0 x11_1).f1⟩ : S139) [.int .i64 ((rd_T113 l0 x11_1).f0), .int .i64 ((rd_T113 l0 x11_1).f1)] (fun _ => True) (fun _ => False) rfl (by first | (go_simp; done) | (go_simp; rfl)) ?aP (fun _ hk => hk.elim) ?aF ?aO ?aB ?aS ?aL ?_; (case aP => exact k139_mkM _ _ _ (⟨(rd_T113 l0 x11_1).f0, (rd_T113 l0 x11_1).f1⟩ : S139)); (case aB => exact (zU HB.out)); (case aF => exact (fun _ _ => trivial)); (case aO => exact (by (with_reducible repeat (first | apply zA | apply zB | apply zC)); exact Kd.R_mono (Kd.R_far (p := ⟨gb173, 1, none⟩) (Kd.R_far (p := ⟨gb173, 0, none⟩) (Kd.R_types HO_3.out BK173.out (by decide)) (fun _ hk => hk.2) (.int .i64 ((rd_T113 l0 x11_1).f0))) (fun _ hk => hk.2) (.int .i64 ((rd_T113 l0 x11_1).f1))) (fun _ hk => trivial))); (case aS => exact (below_size (zU HB.out))); (case aL => have := LMc9.out; omega); intro v175 w12 ho hb hg hat; rw [← Ny174.out] at ho; have n0_ := zk (blk_grown (g := gb173) (o := .cells #[.int .i64 ((rd_T113 l0 x11_1).f0), .int .i64 ((rd_T113 l0 x11_1).f1)] 113 (0, 0)) (by (with_reducible repeat (first | refine blk_drewN ?_ _ | refine blk_drew ?_ | refine blk_alloc ?_ _)); refine blk_put (cs := #[.int .i64 ((rd_T113 l0 x11_1).f0), .int .i64 0]) ?_ 1 _ rfl; (with_reducible repeat (first | refine blk_drewN ?_ _ | refine blk_drew ?_ | refine blk_alloc ?_ _)); refine blk_put (cs := #[.int .i64 0, .int .i64 0]) ?_ 0 _ rfl; exact zb BK173.out) hg (Kd.R_ne HO_3.out BK173.out (by decide))); have n1_ := zk (hb); have n2_ := zk (ho); clear BK173; clear HB; clear HO_3; have BK173 := n0_; have HB := n1_; have HO176 := n2_; clear n0_ n1_ n2_; clear ho hb hg hat))
         go_roundg k1
         case measure => have := HK1.out; omega
         case rel => exact ⟨(y174), (wrap64 (x11_1 + 1)), zR, H', ⟨by have := HK1.out; omega⟩, ⟨by (with_reducible repeat (first | apply zA | apply zB | apply zC)); exact HO176.out⟩, ⟨zU HB.out⟩⟩
        ·rw [if_neg c9] at H; exact absurd H (by simp)
       ·rw [if_neg c8] at H; exact absurd H (by simp)
      ·rw [if_neg c7] at H; exact absurd H (by simp)
     ·rw [if_neg c6] at H; have c6b0 : decide (x11_1 < (l0.length : Int)) = false := decide_eq_false c6; clear c6; obtain rfl := Option.some.inj H; go_wp2
      go_ret
      exact ⟨_, ze, by (with_reducible repeat (first | apply zA | apply zB | apply zC)); exact HO_3.out, zU HB.out⟩
  ·rw [if_neg c3] at H; exact absurd H (by simp)
 ·rw [if_neg c2] at H; exact absurd H (by simp)
def spans_Valid.f (k : Nat) (l0 : List (S113)) : Option (Bool) := (api_Span_144.f k l0).bind fun t177 => ((sets_Valid.f k t177 255).bind fun t180 => (some t180))
theorem spans_Valid.mono : ∀ a0 k, LeO (spans_Valid.f k a0) (spans_Valid.f (k + 1) a0) := by
 intro a0 k; unfold spans_Valid.f; repeat' first
  | (with_reducible exact api_Span_144.mono _ _)
  | (with_reducible exact sets_Valid.mono _ _ _)
  | (with_reducible exact LeO.refl _)
  | (with_reducible exact LeO.none _)
  | (with_reducible refine LeO.ite ?_ ?_)
  | (with_reducible refine LeO.bind ?_ (fun _ => ?_))
  | exact api_Span_144.mono _ _
  | exact sets_Valid.mono _ _ _
  | exact LeO.none _
  | refine LeO.ite ?_ ?_
  | refine LeO.bind ?_ (fun _ => ?_)
set_option maxHeartbeats 8000000 in
set_option maxRecDepth 100000 in
theorem spans_Valid.calls (k : Nat) (A0 : Option Addr) (c0 : Nat) (l0 : List (S113)) (r : Bool) (w : World) (hr0 : Kd.C k113 w A0 l0.length l0) (hc0 : l0.length ≤ c0) (h : spans_Valid.f k l0 = some r) :
 Calls Try.prog 139 #[.slice A0 l0.length c0] w fun e w' => e = .returned (.bool r) ∧ Below w.heap.size w w' := by
 have HR0 := zk hr0; have HC0 := zk hc0; clear hr0 hc0; have HB := zk (Below.refl w.heap.size w); have H : ((api_Span_144.f k l0).bind fun t177 => ((sets_Valid.f k t177 255).bind fun t180 => (some t180))) = some r := h; clear h; replace H := Option.bind_eq_some_iff.mp H; obtain ⟨t177, A20, H⟩ := H; replace H : ((sets_Valid.f k t177 255).bind fun t180 => (some t180)) = some r := H; have A2 := zk A20; clear A20; replace H := Option.bind_eq_some_iff.mp H; obtain ⟨t180, A30, H⟩ := H; replace H : (some t180) = some r := H; have A3 := zk A30; clear A30; obtain rfl := Option.some.inj H; go_enter Try.func139, Try.ntmps139
 go_wp2_with (first | ((with_reducible refine gate_callee (f := 144) rfl ?_); refine goesL_ (some 4) rfl rfl Try.func144 zz rfl #[.slice A0 l0.length c0] rfl zM ?_; (with_reducible refine (api_Span_144.calls k _ _ l0 t177 _ ?side1 ?side2 A2.out).mono ?_); (case side1 => exact zc HR0.out); (case side2 => exact HC0.out); rintro e w4 ⟨v178, rfl, ho0, hb⟩; refine ⟨_, rfl, ?_⟩; have HO179 := zk (Kd.R_lower ho0 (below_size (zU HB.out))); replace HB := zk (below_step (zU HB.out) hb);  (try clear hb); (try clear hb2); (try clear hk); (try clear hi); (try clear ho0); obtain ⟨Ao5, co5, eo5⟩ := Kd.R_slice HO179.out; subst eo5) | ((with_reducible refine gate_callee (f := 145) rfl ?_); refine goesL_ (some 5) rfl rfl Try.func145 zz rfl #[.slice Ao5 t177.length co5, .int .i64 255] rfl zM ?_; (with_reducible refine (sets_Valid.calls k _ _ t177 255 t180 _ ?side1 ?side2 A3.out).mono ?_); (case side1 => exact zc (Kd.R_reads' HO179.out).2.2); (case side2 => exact (Kd.R_reads' HO179.out).2.1); rintro e w6 ⟨rfl, hb⟩; refine ⟨_, rfl, ?_⟩; replace HO179 := zk (Kd.R_below (zr HO179.out) hb); replace HB := zk (below_step (zU HB.out) hb);  (try clear hb); (try clear hb2); (try clear hk); (try clear hi)))
 go_ret
 exact ⟨ze, zU HB.out⟩
def scheme_none.f (k : Nat) (l0 : List (S113)) : Option (Bool) := if (l0.length : Int) = 0 then (some true) else ((spans_Valid.f k l0).bind fun t181 => (some (!t181)))
theorem scheme_none.mono : ∀ a0 k, LeO (scheme_none.f k a0) (scheme_none.f (k + 1) a0) := by
 intro a0 k; unfold scheme_none.f; repeat' first
  | (with_reducible exact spans_Valid.mono _ _)
  | (with_reducible exact LeO.refl _)
  | (with_reducible exact LeO.none _)
  | (with_reducible refine LeO.ite ?_ ?_)
  | (with_reducible refine LeO.bind ?_ (fun _ => ?_))
  | exact spans_Valid.mono _ _
  | exact LeO.none _
  | refine LeO.ite ?_ ?_
  | refine LeO.bind ?_ (fun _ => ?_)
set_option maxHeartbeats 8000000 in
set_option maxRecDepth 100000 in
theorem scheme_none.calls (k : Nat) (A0 : Option Addr) (c0 : Nat) (l0 : List (S113)) (r : Bool) (w : World) (hr0 : Kd.C k113 w A0 l0.length l0) (hc0 : l0.length ≤ c0) (h : scheme_none.f k l0 = some r) :
 Calls Try.prog 115 #[.slice A0 l0.length c0] w fun e w' => e = .returned (.bool r) ∧ Below w.heap.size w w' := by
 have HR0 := zk hr0; have HC0 := zk hc0; clear hr0 hc0; have HB := zk (Below.refl w.heap.size w); have H : (if (l0.length : Int) = 0 then (some true) else ((spans_Valid.f k l0).bind fun t181 => (some (!t181)))) = some r := h; clear h; by_cases c2 : (l0.length : Int) = 0
 ·rw [if_pos c2] at H; have c2b0 : ((l0.length : Int) == 0) = true := beq_iff_eq.mpr c2; have c2b1 : ((l0.length : Int) != 0) = false := bne_eq_false_iff_eq.mpr c2; clear c2; obtain rfl := Option.some.inj H; go_enter Try.func115, Try.ntmps115
  go_wp2
  go_ret
  exact ⟨ze, zU HB.out⟩
 ·rw [if_neg c2] at H; have c2b0 : ((l0.length : Int) == 0) = false := beq_eq_false_iff_ne.mpr c2; have c2b1 : ((l0.length : Int) != 0) = true := bne_iff_ne.mpr c2; have c2b2 : ¬ (l0 = []) := fun h_ => c2 (by rw [h_]; rfl)
  replace H := Option.bind_eq_some_iff.mp H; obtain ⟨t181, A30, H⟩ := H; replace H : (some (!t181)) = some r := H; have A3 := zk A30; clear A30; obtain rfl := Option.some.inj H; go_enter Try.func115, Try.ntmps115
  go_wp2_with (first | (go_at_call 139; (with_reducible refine (spans_Valid.calls k _ _ l0 t181 _ ?side1 ?side2 A3.out).mono ?_); (case side1 => exact zc HR0.out); (case side2 => exact HC0.out); rintro e w4 ⟨rfl, hb⟩; replace HB := zk (below_step (zU HB.out) hb);  (try clear hb); (try clear hb2); (try clear hk); (try clear hi)))
  go_ret
  exact ⟨ze, zU HB.out⟩
def slices_anyNone.go (k : Nat) : List (List S113) → Option Bool
 | [] => some false
 | x :: t => (scheme_none.f k x).bind fun b => if b = true then some true else slices_anyNone.go k t
def slices_anyNone.f (k : Nat) (l0 : List (List S113)) : Option Bool := if l0.length ≤ 8796093022206 then slices_anyNone.go k l0 else none
theorem slices_anyNone.go_mono (k : Nat) : ∀ l0, LeO (slices_anyNone.go k l0) (slices_anyNone.go (k + 1) l0)
 | [] => LeO.refl _
 | x :: t => LeO.bind (scheme_none.mono _ _) fun b => LeO.ite (LeO.refl _) (slices_anyNone.go_mono k t)
theorem slices_anyNone.mono : ∀ a0 k, LeO (slices_anyNone.f k a0) (slices_anyNone.f (k + 1) a0) := fun a0 k => LeO.ite (slices_anyNone.go_mono k a0) (LeO.refl _)
set_option maxHeartbeats 8000000 in
set_option maxRecDepth 100000 in
theorem slices_anyNone.index (k : Nat) (A0 : Option Addr) (c0 : Nat) (l0 : List (List S113)) (b : Bool) (w : World) (hr0 : Kd.C (Kd.slice 113 k113) w A0 l0.length l0) (hsm : l0.length ≤ 8796093022206) (h : slices_anyNone.go k l0 = some b) :
 Calls Try.prog 138 #[.slice A0 l0.length c0, .func (.func 115) #[] #[]] w fun e w' => ∃ i : Int, e = .returned (.int .i64 i) ∧ Aside0 (b = decide (0 ≤ i) ∧ -1 ≤ i ∧ i ≤ 8796093022206) ∧ Below w.heap.size w w' := by
 have HR0 := zk hr0; have HS := zk hsm; have HG := zk h; clear hr0 hsm h; have HB := zk (Below.refl w.heap.size w); go_enter Try.func138, Try.ntmps138
 go_wp2
 go_loopg [8] (l0.length + 1) (fun kq v8 w' => ∃ n : Nat, v8 = .int .i64 (n : Int) ∧ Aside0 (n + kq = l0.length + 1 ∧ n ≤ l0.length) ∧ Aside0 (slices_anyNone.go k (l0.drop n) = some b) ∧ Aside0 (Below w.heap.size w w'))
 case atStart => exact ⟨0, rfl, ⟨by omega, by omega⟩, HG, HB⟩
 case round =>
  clear HG HB; obtain ⟨n, rfl, HN, HG, HB⟩ := hrel; have hN := HN.out; have hS := HS.out
  cases gk with
  | zero => exact absurd hN (by omega)
  | succ ko =>
  by_cases c : n < l0.length
  ·have c_ := zk c; have p : 0 ≤ (n : Int) := by omega
   have q : (n : Int) < (l0.length : Int) := by omega
   have cb : decide ((n : Int) < (l0.length : Int)) = true := decide_eq_true q; have cb2 : decide (n < l0.length) = true := decide_eq_true c; obtain ⟨ad, cs, rfl, hcl, hK, hcc⟩ := Kd.C_get (Kd.C_below HR0.out HB.out) ([] : List S113) (n : Int) p q; have hx := hcc 0; obtain ⟨A1, c1, rfl, hle, hC⟩ := hK; replace hx := hx _ rfl; have hsz : (Kd.slice 113 k113).sz = 1 := rfl; simp only [hsz, Int.toNat_natCast, Nat.mul_one, Nat.add_zero] at hx hC hle; generalize hxx : l0.getD n [] = x at hx hC hle; have hg := HG.out; rw [List.drop_eq_getElem_cons c] at hg; have hxe : l0[n] = x := by rw [← hxx]; simp [List.getD, c]
   rw [hxe] at hg; have HC1 := zk hC; have HL1 := zk hle; obtain ⟨bx, h1, h2⟩ := Option.bind_eq_some_iff.mp hg; have H1 := zk h1; clear hcc hcl hC hle hg hxx hxe h1 hsz hN hS c HG; replace p := eq_true p; replace q := eq_true q; have HB2 := HB; cases bx with
   | true =>
    simp only [if_true] at h2; obtain rfl := Option.some.inj h2; go_wp2_with (go_at_call 115; refine (scheme_none.calls k A1 c1 x true _ HC1.out HL1.out H1.out).mono ?_; rintro e w1 ⟨rfl, hb⟩; have HB3 := zk (below_step HB2.out hb); clear hb)
    go_ret
    exact ⟨(n : Int), rfl, ⟨by simp, by omega, by have := HS.out; have := c_.out; omega⟩, HB3.out⟩
   | false =>
    simp only [Bool.false_eq_true, if_false] at h2; have H2 := zk h2; clear h2; go_wp2_with (go_at_call 115; refine (scheme_none.calls k A1 c1 x false _ HC1.out HL1.out H1.out).mono ?_; rintro e w1 ⟨rfl, hb⟩; have HB3 := zk (below_step HB2.out hb); clear hb)
    have hN := HN.out; have c := c_.out; have hS := HS.out; go_roundg ko
    case measure => omega
    case rel => exact ⟨n + 1, by first | (rw [w64o (by omega) (by omega)]; simp; done) | (simp; done), ⟨by omega, by omega⟩, H2, HB3⟩
  ·have cb : decide ((n : Int) < (l0.length : Int)) = false := decide_eq_false (by omega); have cb2 : decide (n < l0.length) = false := decide_eq_false c; have hg := HG.out; rw [List.drop_of_length_le (by omega)] at hg; obtain rfl : b = false := (Option.some.inj hg).symm; clear c hN hS hg; go_wp2
   go_ret
   exact ⟨-1, rfl, ⟨by simp, by omega, by omega⟩, HB.out⟩
set_option maxHeartbeats 8000000 in
theorem slices_anyNone.calls (k : Nat) (A0 : Option Addr) (c0 : Nat) (l0 : List (List S113)) (r : Bool) (w : World) (hr0 : Kd.C (Kd.slice 113 k113) w A0 l0.length l0) (hc0 : l0.length ≤ c0) (h : slices_anyNone.f k l0 = some r) :
 Calls Try.prog 114 #[.slice A0 l0.length c0, .func (.func 115) #[] #[]] w fun e w' => e = .returned (.bool r) ∧ Below w.heap.size w w' := by
 unfold slices_anyNone.f at h; by_cases c : l0.length ≤ 8796093022206
 ·rw [if_pos c] at h; have hI := slices_anyNone.index k A0 c0 l0 r w hr0 c h; clear hr0 hc0 h c; go_enter Try.func114, Try.ntmps114
  go_wp2_with (go_at_call 138; refine hI.mono ?_; rintro e w1 ⟨i, rfl, hi, hb⟩; have HI := hi; clear hi hI; have HB1 := zk hb; clear hb)
  go_ret
  exact ⟨by rw [HI.out.1]; rfl, HB1.out⟩
 ·rw [if_neg c] at h; cases h
def spans_set.f (k : Nat) (l0 : List (S113)) : Option ((List (S139))) := (api_Span_144.f k l0).bind fun t182 => ((sets_Valid.f k t182 255).bind fun t185 => (if t185 = true then (some t182) else (some ([] : List (S139)))))
theorem spans_set.mono : ∀ a0 k, LeO (spans_set.f k a0) (spans_set.f (k + 1) a0) := by
 intro a0 k; unfold spans_set.f; repeat' first
  | (with_reducible exact api_Span_144.mono _ _)
  | (with_reducible exact sets_Valid.mono _ _ _)
  | (with_reducible exact LeO.refl _)
  | (with_reducible exact LeO.none _)
  | (with_reducible refine LeO.ite ?_ ?_)
  | (with_reducible refine LeO.bind ?_ (fun _ => ?_))
  | exact api_Span_144.mono _ _
  | exact sets_Valid.mono _ _ _
  | exact LeO.none _
  | refine LeO.ite ?_ ?_
  | refine LeO.bind ?_ (fun _ => ?_)
set_option maxHeartbeats 8000000 in
set_option maxRecDepth 100000 in
theorem spans_set.calls (k : Nat) (A0 : Option Addr) (c0 : Nat) (l0 : List (S113)) (r : List (S139)) (w : World) (hr0 : Kd.C k113 w A0 l0.length l0) (hc0 : l0.length ≤ c0) (h : spans_set.f k l0 = some r) :
 Calls Try.prog 125 #[.slice A0 l0.length c0] w fun e w' => ∃ v0_ : Value, e = .returned (v0_) ∧ Kd.R k139 139 w' w.heap.size (fun _ => True) v0_ r ∧ Below w.heap.size w w' := by
 have HR0 := zk hr0; have HC0 := zk hc0; clear hr0 hc0; have HB := zk (Below.refl w.heap.size w); have H : ((api_Span_144.f k l0).bind fun t182 => ((sets_Valid.f k t182 255).bind fun t185 => (if t185 = true then (some t182) else (some ([] : List (S139)))))) = some r := h; clear h; replace H := Option.bind_eq_some_iff.mp H; obtain ⟨t182, A20, H⟩ := H; replace H : ((sets_Valid.f k t182 255).bind fun t185 => (if t185 = true then (some t182) else (some ([] : List (S139))))) = some r := H; have A2 := zk A20; clear A20; replace H := Option.bind_eq_some_iff.mp H; obtain ⟨t185, A30, H⟩ := H; replace H : (if t185 = true then (some t182) else (some ([] : List (S139)))) = some r := H; have A3 := zk A30; clear A30; by_cases c4 : t185 = true
 ·subst c4; have H1 : (some t182) = some r := by rw [if_pos rfl] at H; exact H
  clear H; have H := H1; clear H1; obtain rfl := Option.some.inj H; go_enter Try.func125, Try.ntmps125
  go_wp2_with (first | ((with_reducible refine gate_callee (f := 144) rfl ?_); refine goesL_ (some 5) rfl rfl Try.func144 zz rfl #[.slice A0 l0.length c0] rfl zM ?_; (with_reducible refine (api_Span_144.calls k _ _ l0 t182 _ ?side1 ?side2 A2.out).mono ?_); (case side1 => exact zc HR0.out); (case side2 => exact HC0.out); rintro e w5 ⟨v183, rfl, ho0, hb⟩; refine ⟨_, rfl, ?_⟩; have HO184 := zk (Kd.R_lower ho0 (below_size (zU HB.out))); replace HB := zk (below_step (zU HB.out) hb);  (try clear hb); (try clear hb2); (try clear hk); (try clear hi); (try clear ho0); obtain ⟨Ao6, co6, eo6⟩ := Kd.R_slice HO184.out; subst eo6) | ((with_reducible refine gate_callee (f := 145) rfl ?_); refine goesL_ (some 7) rfl rfl Try.func145 zz rfl #[.slice Ao6 t182.length co6, .int .i64 255] rfl zM ?_; (with_reducible refine (sets_Valid.calls k _ _ t182 255 true _ ?side1 ?side2 A3.out).mono ?_); (case side1 => exact zc (Kd.R_reads' HO184.out).2.2); (case side2 => exact (Kd.R_reads' HO184.out).2.1); rintro e w7 ⟨rfl, hb⟩; refine ⟨_, rfl, ?_⟩; replace HO184 := zk (Kd.R_below (zr HO184.out) hb); replace HB := zk (below_step (zU HB.out) hb);  (try clear hb); (try clear hb2); (try clear hk); (try clear hi)))
  go_ret
  exact ⟨_, ze, by (with_reducible repeat (first | apply zA | apply zB | apply zC)); exact HO184.out, zU HB.out⟩
 ·replace c4 := Bool.eq_false_iff.mpr c4; subst c4; have H1 : (some ([] : List (S139))) = some r := by rw [if_neg (show ¬ (false = true) by decide)] at H; exact H
  clear H; have H := H1; clear H1; obtain rfl := Option.some.inj H; go_enter Try.func125, Try.ntmps125
  go_wp2_with (first | ((with_reducible refine gate_callee (f := 144) rfl ?_); refine goesL_ (some 5) rfl rfl Try.func144 zz rfl #[.slice A0 l0.length c0] rfl zM ?_; (with_reducible refine (api_Span_144.calls k _ _ l0 t182 _ ?side1 ?side2 A2.out).mono ?_); (case side1 => exact zc HR0.out); (case side2 => exact HC0.out); rintro e w8 ⟨v183, rfl, ho0, hb⟩; refine ⟨_, rfl, ?_⟩; have HO184 := zk (Kd.R_lower ho0 (below_size (zU HB.out))); replace HB := zk (below_step (zU HB.out) hb);  (try clear hb); (try clear hb2); (try clear hk); (try clear hi); (try clear ho0); obtain ⟨Ao9, co9, eo9⟩ := Kd.R_slice HO184.out; subst eo9) | ((with_reducible refine gate_callee (f := 145) rfl ?_); refine goesL_ (some 7) rfl rfl Try.func145 zz rfl #[.slice Ao9 t182.length co9, .int .i64 255] rfl zM ?_; (with_reducible refine (sets_Valid.calls k _ _ t182 255 false _ ?side1 ?side2 A3.out).mono ?_); (case side1 => exact zc (Kd.R_reads' HO184.out).2.2); (case side2 => exact (Kd.R_reads' HO184.out).2.1); rintro e w10 ⟨rfl, hb⟩; refine ⟨_, rfl, ?_⟩; replace HO184 := zk (Kd.R_below (zr HO184.out) hb); replace HB := zk (below_step (zU HB.out) hb);  (try clear hb); (try clear hb2); (try clear hk); (try clear hi)))
  go_ret
  exact ⟨_, ze, by first | exact Kd.R_nil _ _ _ _ _ | exact Kd.N_nil _ _ _ _ _ | exact Kd.V_nil _ _ _ _ _ | exact Kd.Q_nil _ _ _ _ _ | exact Kd.S_nil _ _ _ _ _, zU HB.out⟩
def sets_Size.l0 : Nat → Int → List (S139) → Int → Int → Option (Int)
 | 0, _, _, _, _ => none
 | k + 1, x3, x6, x7, x8 => if x8 < x7 then (if 0 ≤ x8 then (if x8 < (x6.length : Int) then (sets_Size.l0 k (wrap64 (x3 + (wrap64 ((wrap64 (((rd_T139 x6 x8).f1) - ((rd_T139 x6 x8).f0))) + 1)))) x6 x7 (wrap64 (x8 + 1))) else (none)) else (none)) else (some x3)
def sets_Size.f (k : Nat) (l0 : List (S139)) : Option (Int) := sets_Size.l0 k 0 l0 (l0.length : Int) 0
theorem sets_Size.mono_l : ∀ k, (∀ y0 y1 y2 y3, LeO (sets_Size.l0 k y0 y1 y2 y3) (sets_Size.l0 (k + 1) y0 y1 y2 y3))
 | 0 => fun _ _ _ _ r h => by simp [sets_Size.l0] at h
 | k + 1 => by
  have ih0 := sets_Size.mono_l k
  ·intro y0 y1 y2 y3; unfold sets_Size.l0; repeat' first
   | (with_reducible exact ih0 _ _ _ _)
   | (with_reducible exact LeO.refl _)
   | (with_reducible exact LeO.none _)
   | (with_reducible refine LeO.ite ?_ ?_)
   | (with_reducible refine LeO.bind ?_ (fun _ => ?_))
   | exact ih0 _ _ _ _
   | exact LeO.none _
   | refine LeO.ite ?_ ?_
   | refine LeO.bind ?_ (fun _ => ?_)
theorem sets_Size.mono : ∀ a0 k, LeO (sets_Size.f k a0) (sets_Size.f (k + 1) a0) := by
 intro a0 k; have ih0 := sets_Size.mono_l k; unfold sets_Size.f; repeat' first
  | (with_reducible exact ih0 _ _ _ _)
  | (with_reducible exact LeO.refl _)
  | (with_reducible exact LeO.none _)
  | (with_reducible refine LeO.ite ?_ ?_)
  | (with_reducible refine LeO.bind ?_ (fun _ => ?_))
  | exact ih0 _ _ _ _
  | exact LeO.none _
  | refine LeO.ite ?_ ?_
  | refine LeO.bind ?_ (fun _ => ?_)
set_option maxHeartbeats 8000000 in
set_option maxRecDepth 100000 in
theorem sets_Size.calls (k : Nat) (A0 : Option Addr) (c0 : Nat) (l0 : List (S139)) (r : Int) (w : World) (hr0 : Kd.C k139 w A0 l0.length l0) (hc0 : l0.length ≤ c0) (h : sets_Size.f k l0 = some r) :
 Calls Try.prog 143 #[.slice A0 l0.length c0] w fun e w' => e = .returned (.int .i64 r) ∧ Below w.heap.size w w' := by
 have hu139 := Try.underlying139; have HR0 := zk hr0; have HC0 := zk hc0; clear hr0 hc0; have HB := zk (Below.refl w.heap.size w); have H : (sets_Size.l0 k 0 l0 (l0.length : Int) 0) = some r := h; clear h; have H' := zk H; clear H; go_enter Try.func143, Try.ntmps143
 go_wp2
 go_loopg [3, 8] k (fun kq v3 v8 w' => ∃ (x3_1 : Int) (x8_1 : Int), v3 = .int .i64 x3_1 ∧ v8 = .int .i64 x8_1 ∧ Aside0 (sets_Size.l0 kq x3_1 l0 (l0.length : Int) x8_1 = some r) ∧ Aside0 (kq ≤ k) ∧ Aside0 (Below w.heap.size w w'))
 case atStart => exact ⟨(0), (0), zR, zR, H', ⟨Nat.le_refl _⟩, ⟨zU HB.out⟩⟩
 case round =>
  clear H'; (try clear c1); obtain ⟨x3_1, x8_1, rfl, rfl, HA, HK1, HB⟩ := hrel
  cases gk with
  | zero => exact absurd HA.out (by simp [sets_Size.l0])
  | succ k1 =>
   have H := HA.out; clear HA; simp only [sets_Size.l0] at H; by_cases c2 : x8_1 < (l0.length : Int)
   ·rw [if_pos c2] at H; have c2b0 : decide (x8_1 < (l0.length : Int)) = true := decide_eq_true c2; clear c2; by_cases c3 : 0 ≤ x8_1
    ·rw [if_pos c3] at H; have c3b0 : decide (0 ≤ x8_1) = true := decide_eq_true c3; clear c3; by_cases c4 : x8_1 < (l0.length : Int)
     ·rw [if_pos c4] at H; have c4b0 : decide (x8_1 < (l0.length : Int)) = true := decide_eq_true c4; clear c4; have H' := zk H; clear H; have p186 : 0 ≤ (x8_1 : Int) := zT; have q186 : x8_1 < (l0.length : Int) := zT; obtain ⟨ad186, e186, hx186_0, hx186_1⟩ := at_T139 HR0.out x8_1 p186 q186; cases e186; replace hx186_0 := zcl HB.out hx186_0; replace hx186_1 := zcl HB.out hx186_1; replace p186 := eq_true p186; replace q186 := eq_true q186; go_wp2_with (first | ((with_reducible refine gate_dst (N := 5) rfl ?_); refine box_event ?hg (N := 5) ?hd (cs := #[.int .i64 0, .int .i64 0]) (t := 139) ?hr ?_; (case hd => rfl); (case hg => rfl); (case hr => first | (go_simp; done) | (go_simp; rfl)); intro gb187 hg w5 hbox hb; have BK187 := zk (hbox); have GE187 := zk ((zg hg HB.out : w.heap.size ≤ gb187)); replace HB := zk (below_step (zU HB.out) hb);  clear hb hbox hg; have hcz6_0 : w5.cell? ⟨gb187, 0, none⟩ = some (.int .i64 0) := zh BK187.out 0; have hcz6_1 : w5.cell? ⟨gb187, 1, none⟩ = some (.int .i64 0) := zh BK187.out 1; have hfz6_0 := blk_frozen BK187.out 0; have hfz6_1 := blk_frozen BK187.out 1))
      go_roundg k1
      case measure => have := HK1.out; omega
      case rel => exact ⟨(wrap64 (x3_1 + (wrap64 ((wrap64 (((rd_T139 l0 x8_1).f1) - ((rd_T139 l0 x8_1).f0))) + 1)))), (wrap64 (x8_1 + 1)), zR, zR, H', ⟨by have := HK1.out; omega⟩, ⟨zU HB.out⟩⟩
     ·rw [if_neg c4] at H; exact absurd H (by simp)
    ·rw [if_neg c3] at H; exact absurd H (by simp)
   ·rw [if_neg c2] at H; have c2b0 : decide (x8_1 < (l0.length : Int)) = false := decide_eq_false c2; clear c2; obtain rfl := Option.some.inj H; go_wp2
    go_ret
    exact ⟨ze, zU HB.out⟩
def spans_Size.f (k : Nat) (l0 : List (S113)) : Option (Int) := (spans_set.f k l0).bind fun t188 => ((sets_Size.f k t188).bind fun t191 => (some t191))
theorem spans_Size.mono : ∀ a0 k, LeO (spans_Size.f k a0) (spans_Size.f (k + 1) a0) := by
 intro a0 k; unfold spans_Size.f; repeat' first
  | (with_reducible exact sets_Size.mono _ _)
  | (with_reducible exact spans_set.mono _ _)
  | (with_reducible exact LeO.refl _)
  | (with_reducible exact LeO.none _)
  | (with_reducible refine LeO.ite ?_ ?_)
  | (with_reducible refine LeO.bind ?_ (fun _ => ?_))
  | exact sets_Size.mono _ _
  | exact spans_set.mono _ _
  | exact LeO.none _
  | refine LeO.ite ?_ ?_
  | refine LeO.bind ?_ (fun _ => ?_)
set_option maxHeartbeats 8000000 in
set_option maxRecDepth 100000 in
theorem spans_Size.calls (k : Nat) (A0 : Option Addr) (c0 : Nat) (l0 : List (S113)) (r : Int) (w : World) (hr0 : Kd.C k113 w A0 l0.length l0) (hc0 : l0.length ≤ c0) (h : spans_Size.f k l0 = some r) :
 Calls Try.prog 123 #[.slice A0 l0.length c0] w fun e w' => e = .returned (.int .i64 r) ∧ Below w.heap.size w w' := by
 have HR0 := zk hr0; have HC0 := zk hc0; clear hr0 hc0; have HB := zk (Below.refl w.heap.size w); have H : ((spans_set.f k l0).bind fun t188 => ((sets_Size.f k t188).bind fun t191 => (some t191))) = some r := h; clear h; replace H := Option.bind_eq_some_iff.mp H; obtain ⟨t188, A20, H⟩ := H; replace H : ((sets_Size.f k t188).bind fun t191 => (some t191)) = some r := H; have A2 := zk A20; clear A20; replace H := Option.bind_eq_some_iff.mp H; obtain ⟨t191, A30, H⟩ := H; replace H : (some t191) = some r := H; have A3 := zk A30; clear A30; obtain rfl := Option.some.inj H; go_enter Try.func123, Try.ntmps123
 go_wp2_with (first | ((with_reducible refine gate_callee (f := 125) rfl ?_); refine goesL_ (some 4) rfl rfl Try.func125 zz rfl #[.slice A0 l0.length c0] rfl zM ?_; (with_reducible refine (spans_set.calls k _ _ l0 t188 _ ?side1 ?side2 A2.out).mono ?_); (case side1 => exact zc HR0.out); (case side2 => exact HC0.out); rintro e w4 ⟨v189, rfl, ho0, hb⟩; refine ⟨_, rfl, ?_⟩; have HO190 := zk (Kd.R_lower ho0 (below_size (zU HB.out))); replace HB := zk (below_step (zU HB.out) hb);  (try clear hb); (try clear hb2); (try clear hk); (try clear hi); (try clear ho0); obtain ⟨Ao5, co5, eo5⟩ := Kd.R_slice HO190.out; subst eo5) | ((with_reducible refine gate_callee (f := 143) rfl ?_); refine goesL_ (some 5) rfl rfl Try.func143 zz rfl #[.slice Ao5 t188.length co5] rfl zM ?_; (with_reducible refine (sets_Size.calls k _ _ t188 t191 _ ?side1 ?side2 A3.out).mono ?_); (case side1 => exact zc (Kd.R_reads' HO190.out).2.2); (case side2 => exact (Kd.R_reads' HO190.out).2.1); rintro e w6 ⟨rfl, hb⟩; refine ⟨_, rfl, ?_⟩; replace HO190 := zk (Kd.R_below (zr HO190.out) hb); replace HB := zk (below_step (zU HB.out) hb);  (try clear hb); (try clear hb2); (try clear hk); (try clear hi)))
 go_ret
 exact ⟨ze, zU HB.out⟩
end Go.Proofs.Ytkcklnmbeinfkaa.B
