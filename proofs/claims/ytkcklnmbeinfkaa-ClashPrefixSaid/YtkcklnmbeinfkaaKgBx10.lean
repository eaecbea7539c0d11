/- Words and walks of this claim, of the text Bx10. -/
import Derived.Test.YtkcklnmbeinfkaaKgQW0
import Derived.Test.YtkcklnmbeinfkaaKgBx0
import Derived.Test.YtkcklnmbeinfkaaKgBx5
import Derived.Test.YtkcklnmbeinfkaaKgBx8
import Derived.Test.YtkcklnmbeinfkaaKgBx9
namespace Go.Proofs.Ytkcklnmbeinfkaa.B
open Go.RowKit Go.Proofs.YtkcklnmbeinfkaaW.PrintWords Go.Proofs.YtkcklnmbeinfkaaW.PrintLast Go.Proofs.YtkcklnmbeinfkaaW.PrintMore
attribute [local go_sem] max2_int min2_int max_two min_two max_three min_three max_four min_four
set_option linter.unusedVariables false
set_option linter.unusedSimpArgs false
def sets_Rank.l0 : Nat → Int → Int → List (S139) → Int → Int → Option (Int × Bool)
 | 0, _, _, _, _, _ => none
 | k + 1, x1, x6, x9, x10, x11 => if x11 < x10 then (if 0 ≤ x11 then (if x11 < (x9.length : Int) then (if x1 < ((rd_T139 x9 x11).f0) then (some (0, false)) else (if x1 ≤ ((rd_T139 x9 x11).f1) then (some (wrap64 ((wrap64 (x6 + x1)) - ((rd_T139 x9 x11).f0)), true)) else (sets_Rank.l0 k x1 (wrap64 (x6 + (wrap64 ((wrap64 (((rd_T139 x9 x11).f1) - ((rd_T139 x9 x11).f0))) + 1)))) x9 x10 (wrap64 (x11 + 1))))) else (none)) else (none)) else (some (0, false))
def sets_Rank.f (k : Nat) (l0 : List (S139)) (a1 : Int) : Option (Int × Bool) := sets_Rank.l0 k a1 0 l0 (l0.length : Int) 0
set_option maxHeartbeats 8000000 in
set_option maxRecDepth 100000 in
theorem sets_Rank.calls (k : Nat) (A0 : Option Addr) (c0 : Nat) (l0 : List (S139)) (a1 : Int) (r1 : Int) (r2 : Bool) (w : World) (hr0 : Kd.C k139 w A0 l0.length l0) (hc0 : l0.length ≤ c0) (h : sets_Rank.f k l0 a1 = some (r1, r2)) :
 Calls Try.prog 126 #[.slice A0 l0.length c0, .int .i64 a1] w fun e w' => e = .returned (.tuple #[.int .i64 r1, .bool r2]) ∧ Below w.heap.size w w' := by
 have hu139 := Try.underlying139; have HR0 := zk hr0; have HC0 := zk hc0; clear hr0 hc0; have HB := zk (Below.refl w.heap.size w); have H : (sets_Rank.l0 k a1 0 l0 (l0.length : Int) 0) = some (r1, r2) := h; clear h; have H' := zk H; clear H; go_enter Try.func126, Try.ntmps126
 go_wp2
 go_loopg [6, 11] k (fun kq v6 v11 w' => ∃ (x6_1 : Int) (x11_1 : Int), v6 = .int .i64 x6_1 ∧ v11 = .int .i64 x11_1 ∧ Aside0 (sets_Rank.l0 kq a1 x6_1 l0 (l0.length : Int) x11_1 = some (r1, r2)) ∧ Aside0 (kq ≤ k) ∧ Aside0 (Below w.heap.size w w'))
 case atStart => exact ⟨(0), (0), zR, zR, H', ⟨Nat.le_refl _⟩, ⟨zU HB.out⟩⟩
 case round =>
  clear H'; (try clear c1); (try clear p2); obtain ⟨x6_1, x11_1, rfl, rfl, HA, HK1, HB⟩ := hrel
  cases gk with
  | zero => exact absurd HA.out (by simp [sets_Rank.l0])
  | succ k1 =>
   have H := HA.out; clear HA; simp only [sets_Rank.l0] at H; by_cases c3 : x11_1 < (l0.length : Int)
   ·rw [if_pos c3] at H; have c3b0 : decide (x11_1 < (l0.length : Int)) = true := decide_eq_true c3; clear c3; by_cases c4 : 0 ≤ x11_1
    ·rw [if_pos c4] at H; have c4b0 : decide (0 ≤ x11_1) = true := decide_eq_true c4; clear c4; by_cases c5 : x11_1 < (l0.length : Int)
     ·rw [if_pos c5] at H; have c5b0 : decide (x11_1 < (l0.length : Int)) = true := decide_eq_true c5; clear c5; by_cases c6 : a1 < ((rd_T139 l0 x11_1).f0)
      ·rw [if_pos c6] at H; have c6b0 : decide (a1 < ((rd_T139 l0 x11_1).f0)) = true := decide_eq_true c6; clear c6; simp only [Option.some.injEq, Prod.mk.injEq] at H; obtain ⟨rfl, rfl⟩ := H; have p279 : 0 ≤ (x11_1 : Int) := zT; have q279 : x11_1 < (l0.length : Int) := zT; obtain ⟨ad279, e279, hx279_0, hx279_1⟩ := at_T139 HR0.out x11_1 p279 q279; cases e279; replace hx279_0 := zcl HB.out hx279_0; replace hx279_1 := zcl HB.out hx279_1; replace p279 := eq_true p279; replace q279 := eq_true q279; go_wp2_with (first | ((with_reducible refine gate_dst (N := 8) rfl ?_); refine box_event ?hg (N := 8) ?hd (cs := #[.int .i64 0, .int .i64 0]) (t := 139) ?hr ?_; (case hd => rfl); (case hg => rfl); (case hr => first | (go_simp; done) | (go_simp; rfl)); intro gb280 hg w7 hbox hb; have BK280 := zk (hbox); have GE280 := zk ((zg hg HB.out : w.heap.size ≤ gb280)); replace HB := zk (below_step (zU HB.out) hb);  clear hb hbox hg; have hcz8_0 : w7.cell? ⟨gb280, 0, none⟩ = some (.int .i64 0) := zh BK280.out 0; have hcz8_1 : w7.cell? ⟨gb280, 1, none⟩ = some (.int .i64 0) := zh BK280.out 1; have hfz8_0 := blk_frozen BK280.out 0; have hfz8_1 := blk_frozen BK280.out 1))
       go_ret2
       exact ⟨ze, zU HB.out⟩
      ·rw [if_neg c6] at H; have c6b0 : decide (a1 < ((rd_T139 l0 x11_1).f0)) = false := decide_eq_false c6; clear c6; by_cases c9 : a1 ≤ ((rd_T139 l0 x11_1).f1)
       ·rw [if_pos c9] at H; have c9b0 : decide (a1 ≤ ((rd_T139 l0 x11_1).f1)) = true := decide_eq_true c9; clear c9; simp only [Option.some.injEq, Prod.mk.injEq] at H; obtain ⟨rfl, rfl⟩ := H; have p279 : 0 ≤ (x11_1 : Int) := zT; have q279 : x11_1 < (l0.length : Int) := zT; obtain ⟨ad279, e279, hx279_0, hx279_1⟩ := at_T139 HR0.out x11_1 p279 q279; cases e279; replace hx279_0 := zcl HB.out hx279_0; replace hx279_1 := zcl HB.out hx279_1; replace p279 := eq_true p279; replace q279 := eq_true q279; go_wp2_with (first | ((with_reducible refine gate_dst (N := 8) rfl ?_); refine box_event ?hg (N := 8) ?hd (cs := #[.int .i64 0, .int .i64 0]) (t := 139) ?hr ?_; (case hd => rfl); (case hg => rfl); (case hr => first | (go_simp; done) | (go_simp; rfl)); intro gb280 hg w10 hbox hb; have BK280 := zk (hbox); have GE280 := zk ((zg hg HB.out : w.heap.size ≤ gb280)); replace HB := zk (below_step (zU HB.out) hb);  clear hb hbox hg; have hcz11_0 : w10.cell? ⟨gb280, 0, none⟩ = some (.int .i64 0) := zh BK280.out 0; have hcz11_1 : w10.cell? ⟨gb280, 1, none⟩ = some (.int .i64 0) := zh BK280.out 1; have hfz11_0 := blk_frozen BK280.out 0; have hfz11_1 := blk_frozen BK280.out 1))
        go_ret2
        exact ⟨ze, zU HB.out⟩
       ·rw [if_neg c9] at H; have c9b0 : decide (a1 ≤ ((rd_T139 l0 x11_1).f1)) = false := decide_eq_false c9; clear c9; have H' := zk H; clear H; have p279 : 0 ≤ (x11_1 : Int) := zT; have q279 : x11_1 < (l0.length : Int) := zT; obtain ⟨ad279, e279, hx279_0, hx279_1⟩ := at_T139 HR0.out x11_1 p279 q279; cases e279; replace hx279_0 := zcl HB.out hx279_0; replace hx279_1 := zcl HB.out hx279_1; replace p279 := eq_true p279; replace q279 := eq_true q279; go_wp2_with (first | ((with_reducible refine gate_dst (N := 8) rfl ?_); refine box_event ?hg (N := 8) ?hd (cs := #[.int .i64 0, .int .i64 0]) (t := 139) ?hr ?_; (case hd => rfl); (case hg => rfl); (case hr => first | (go_simp; done) | (go_simp; rfl)); intro gb280 hg w12 hbox hb; have BK280 := zk (hbox); have GE280 := zk ((zg hg HB.out : w.heap.size ≤ gb280)); replace HB := zk (below_step (zU HB.out) hb);  clear hb hbox hg; have hcz13_0 : w12.cell? ⟨gb280, 0, none⟩ = some (.int .i64 0) := zh BK280.out 0; have hcz13_1 : w12.cell? ⟨gb280, 1, none⟩ = some (.int .i64 0) := zh BK280.out 1; have hfz13_0 := blk_frozen BK280.out 0; have hfz13_1 := blk_frozen BK280.out 1))
        go_roundg k1
        case measure => have := HK1.out; omega
        case rel => exact ⟨(wrap64 (x6_1 + (wrap64 ((wrap64 (((rd_T139 l0 x11_1).f1) - ((rd_T139 l0 x11_1).f0))) + 1)))), (wrap64 (x11_1 + 1)), zR, zR, H', ⟨by have := HK1.out; omega⟩, ⟨zU HB.out⟩⟩
     ·rw [if_neg c5] at H; exact absurd H (by simp)
    ·rw [if_neg c4] at H; exact absurd H (by simp)
   ·rw [if_neg c3] at H; have c3b0 : decide (x11_1 < (l0.length : Int)) = false := decide_eq_false c3; clear c3; simp only [Option.some.injEq, Prod.mk.injEq] at H; obtain ⟨rfl, rfl⟩ := H; go_wp2
    go_ret2
    exact ⟨ze, zU HB.out⟩
def spans_Rank.f (k : Nat) (l0 : List (S113)) (a1 : Int) : Option (Int × Bool) := (spans_set.f k l0).bind fun t281 => ((sets_Rank.f k t281 a1).bind fun bt284 => (some (bt284.1, bt284.2)))
set_option maxHeartbeats 8000000 in
set_option maxRecDepth 100000 in
theorem spans_Rank.calls (k : Nat) (A0 : Option Addr) (c0 : Nat) (l0 : List (S113)) (a1 : Int) (r1 : Int) (r2 : Bool) (w : World) (hr0 : Kd.C k113 w A0 l0.length l0) (hc0 : l0.length ≤ c0) (h : spans_Rank.f k l0 a1 = some (r1, r2)) :
 Calls Try.prog 87 #[.slice A0 l0.length c0, .int .i64 a1] w fun e w' => e = .returned (.tuple #[.int .i64 r1, .bool r2]) ∧ Below w.heap.size w w' := by
 have HR0 := zk hr0; have HC0 := zk hc0; clear hr0 hc0; have HB := zk (Below.refl w.heap.size w); have H : ((spans_set.f k l0).bind fun t281 => ((sets_Rank.f k t281 a1).bind fun bt284 => (some (bt284.1, bt284.2)))) = some (r1, r2) := h; clear h; replace H := Option.bind_eq_some_iff.mp H; obtain ⟨t281, A30, H⟩ := H; replace H : ((sets_Rank.f k t281 a1).bind fun bt284 => (some (bt284.1, bt284.2))) = some (r1, r2) := H; have A3 := zk A30; clear A30; replace H := Option.bind_eq_some_iff.mp H; obtain ⟨⟨t284, t285⟩, A40, H⟩ := H; replace H : (some (t284, t285)) = some (r1, r2) := H; have A4 := zk A40; clear A40; simp only [Option.some.injEq, Prod.mk.injEq] at H; obtain ⟨rfl, rfl⟩ := H; go_enter Try.func87, Try.ntmps87
 go_wp2_with (first | ((with_reducible refine gate_callee (f := 125) rfl ?_); refine goesL_ (some 7) rfl rfl Try.func125 zz rfl #[.slice A0 l0.length c0] rfl zM ?_; (with_reducible refine (spans_set.calls k _ _ l0 t281 _ ?side1 ?side2 A3.out).mono ?_); (case side1 => exact zc HR0.out); (case side2 => exact HC0.out); rintro e w5 ⟨v282, rfl, ho0, hb⟩; refine ⟨_, rfl, ?_⟩; have HO283 := zk (Kd.R_lower ho0 (below_size (zU HB.out))); replace HB := zk (below_step (zU HB.out) hb);  (try clear hb); (try clear hb2); (try clear hk); (try clear hi); (try clear ho0); obtain ⟨Ao6, co6, eo6⟩ := Kd.R_slice HO283.out; subst eo6) | ((with_reducible refine gate_callee (f := 126) rfl ?_); refine goesL_ (some 9) rfl rfl Try.func126 zz rfl #[.slice Ao6 t281.length co6, .int .i64 a1] rfl zM ?_; (with_reducible refine (sets_Rank.calls k _ _ t281 a1 t284 t285 _ ?side1 ?side2 A4.out).mono ?_); (case side1 => exact zc (Kd.R_reads' HO283.out).2.2); (case side2 => exact (Kd.R_reads' HO283.out).2.1); rintro e w7 ⟨rfl, hb⟩; refine ⟨_, rfl, ?_⟩; replace HO283 := zk (Kd.R_below (zr HO283.out) hb); replace HB := zk (below_step (zU HB.out) hb);  (try clear hb); (try clear hb2); (try clear hk); (try clear hi)))
 go_ret2
 exact ⟨ze, zU HB.out⟩
mutual
def shape_Rank.j0 : Nat → List Int → Bool → List (List (S113)) → Int → Option (Int × Bool)
 | 0, _, _, _, _ => none
 | k + 1, x1, x21, x287000, x287001 => if x21 = true then (some (0, false)) else ((shape_steps.f k x287000 x287001).bind fun t288 => (if 1 ≤ (t288.length : Int) then ((some (t288.drop (1 : Int).toNat : List Int)).bind fun y291 => (shape_Rank.l0 k x1 0 y291 (y291.length : Int) 0 x287000 x287001)) else (none)))
def shape_Rank.l0 : Nat → List Int → Int → List Int → Int → Int → List (List (S113)) → Int → Option (Int × Bool)
 | 0, _, _, _, _, _, _, _ => none
 | k + 1, x1, x6, x24, x25, x26, x287000, x287001 => if x26 < x25 then (if 0 ≤ x26 then (if x26 < (x24.length : Int) then (if x26 < (x287000.length : Int) then (if x26 < (x1.length : Int) then ((spans_Rank.f k (rd_L4 x287000 x26) (wrap64 (rd x1 x26))).bind fun bt297 => (if bt297.2 = true then (shape_Rank.l0 k x1 (wrap64 (x6 + (wrap64 (bt297.1 * (rd x24 x26))))) x24 x25 (wrap64 (x26 + 1)) x287000 x287001) else (some (0, false)))) else (none)) else (none)) else (none)) else (none)) else (some (x6, true))
end
def shape_Rank.f (k : Nat) (l0_0 : List (List (S113))) (a0_1 : Int) (l1 : List Int) : Option (Int × Bool) := (shape_Valid.f k l0_0 a0_1).bind fun t287 => (if t287 = true then (shape_Rank.j0 k l1 ((l1.length : Int) != (l0_0.length : Int)) l0_0 a0_1) else (shape_Rank.j0 k l1 true l0_0 a0_1))
def shape_Rank.T7 : Bool × List (List Nat × List Nat) := (true, [([], []), ([0], [0]), ([], []), ([1, 2], [1, 2]), ([3], [3]), ([], []), ([], []), ([5, 6], [5, 6]), ([7], [7]), ([8], [8]), ([4, 9], [4, 9]), ([10], [10]), ([11], [11]), ([11], [11]), ([12, 10, 0, 1, 2, 3, 4, 5, 6, 7, 8, 9, 10, 11, 12], [12]), ([13, 14, 0, 1, 2, 3, 4, 5, 6, 7, 8, 9, 10, 11, 12, 13, 14], [13])])
def shape_Rank.B7 : List Nat := [0, 1, 0, 7, 15, 0, 0, 96, 224, 480, 1023, 2047, 4095, 4095, 8191, 32767]
theorem shape_Rank.tab7 : rtab .any (opsOf Try.f35 7) = shape_Rank.T7 := by kernel_rfl
theorem shape_Rank.bits7 : waitsOk shape_Rank.T7.2 shape_Rank.B7 = true := by kernel_rfl
set_option maxHeartbeats 8000000 in
set_option maxRecDepth 100000 in
theorem shape_Rank.calls (k : Nat) (A0_0 : Option Addr) (c0_0 : Nat) (l0_0 : List (List (S113))) (a0_1 : Int) (A1 : Option Addr) (c1 : Nat) (l1 : List Int) (r1 : Int) (r2 : Bool) (w : World) (hr0_0 : Kd.C (Kd.slice 113 k113) w A0_0 l0_0.length l0_0) (hc0_0 : l0_0.length ≤ c0_0) (hr1 : Kd.C (Kd.int .u8) w A1 l1.length l1) (hc1 : l1.length ≤ c1) (h : shape_Rank.f k l0_0 a0_1 l1 = some (r1, r2)) :
 Calls Try.prog 35 #[.agg #[.slice A0_0 l0_0.length c0_0, .int .i64 a0_1], .slice A1 l1.length c1] w fun e w' => e = .returned (.tuple #[.int .i64 r1, .bool r2]) ∧ Below w.heap.size w w' := by
 have hu50 := Try.underlying50; have HR0_0 := zk hr0_0; have HC0_0 := zk hc0_0; clear hr0_0 hc0_0; have HR1 := zk hr1; have HC1 := zk hc1; clear hr1 hc1; have HB := zk (Below.refl w.heap.size w); have H : ((shape_Valid.f k l0_0 a0_1).bind fun t287 => (if t287 = true then (shape_Rank.j0 k l1 ((l1.length : Int) != (l0_0.length : Int)) l0_0 a0_1) else (shape_Rank.j0 k l1 true l0_0 a0_1))) = some (r1, r2) := h; clear h; have HC3 := zk H; clear H; go_enter Try.func35, Try.ntmps35
 go_upto_region 1 with (first | ((with_reducible refine gate_dst (N := 2) rfl ?_); (try (refine gate_guard (by rfl) ?_; dsimp only)); refine box_event ?hg (N := 2) ?hd (cs := #[.slice A0_0 l0_0.length c0_0, .int .i64 a0_1]) (t := 50) ?hr ?_; (case hd => rfl); (case hg => rfl); (case hr => first | (go_simp; done) | (go_simp; rfl)); intro gb286 hg w4 hbox hb; have BK286 := zk (hbox); have GE286 := zk ((zg hg HB.out : w.heap.size ≤ gb286)); replace HB := zk (below_step (zU HB.out) hb);  clear hb hbox hg))
 (try simp only [Act.put, List.setIfInBounds_toArray, List.set_cons_zero, List.set_cons_succ])
 go_cut [21] (fun v21 wc => ∃ (kq : Nat) (x21_2 : Bool), v21 = .bool x21_2 ∧ Aside0 (shape_Rank.j0 kq l1 x21_2 l0_0 a0_1 = some (r1, r2)) ∧ Aside0 (kq ≤ k) ∧ Aside0 (wc.heap[gb286]? = some (.cells #[(.slice A0_0 l0_0.length c0_0), .int .i64 a0_1] 50 (0, 0))) ∧ Aside0 (Below w.heap.size w wc))
 case first =>
  have H := HC3.out; clear HC3; replace H := Option.bind_eq_some_iff.mp H; obtain ⟨t287, A50, H⟩ := H; replace H : (if t287 = true then (shape_Rank.j0 k l1 ((l1.length : Int) != (l0_0.length : Int)) l0_0 a0_1) else (shape_Rank.j0 k l1 true l0_0 a0_1)) = some (r1, r2) := H; have A5 := zk A50; clear A50; by_cases c6 : t287 = true
  ·subst c6; have H1 : (shape_Rank.j0 k l1 ((l1.length : Int) != (l0_0.length : Int)) l0_0 a0_1) = some (r1, r2) := by rw [if_pos rfl] at H; exact H
   clear H; have H := H1; clear H1; have H' := zk H; clear H; have hcz7_0 : w4.cell? ⟨gb286, 0, none⟩ = some (.slice A0_0 l0_0.length c0_0) := zh BK286.out 0; have hcz7_1 : w4.cell? ⟨gb286, 1, none⟩ = some (.int .i64 a0_1) := zh BK286.out 1; have hfz7_0 := blk_frozen BK286.out 0; have hfz7_1 := blk_frozen BK286.out 1; go_wp2_with (first | ((with_reducible refine gate_callee (f := 51) rfl ?_); refine goesL_ (some 12) rfl rfl Try.func51 zz rfl #[.agg #[.slice A0_0 l0_0.length c0_0, .int .i64 a0_1]] rfl zM ?_; (with_reducible refine (shape_Valid.calls k (fun k_ => k_ < w.heap.size) _ _ l0_0 a0_1 true _ ?side1 A5.out).mono ?_); (case side1 => exact Kd.V_mk HC0_0.out (Kd.F_below (Kd.C_F (Kd.heap_slice 113 k113_heap) HR0_0.out) (zU HB.out))); rintro e w8 ⟨rfl, hb⟩; refine ⟨_, rfl, ?_⟩; replace BK286 := zk (zbb BK286.out hb); replace HB := zk (below_step (zU HB.out) hb);  (try clear hb); (try clear hb2); (try clear hk); (try clear hi); have hcz9_0 : w8.cell? ⟨gb286, 0, none⟩ = some (.slice A0_0 l0_0.length c0_0) := zh BK286.out 0; have hcz9_1 : w8.cell? ⟨gb286, 1, none⟩ = some (.int .i64 a0_1) := zh BK286.out 1; have hfz9_0 := blk_frozen BK286.out 0; have hfz9_1 := blk_frozen BK286.out 1))
   go_meet
   case rel => exact ⟨_, (((l1.length : Int) != (l0_0.length : Int))), zR, H', ⟨by first | omega | exact Nat.le_refl _⟩, ⟨zb BK286.out⟩, ⟨zU HB.out⟩⟩
  ·replace c6 := Bool.eq_false_iff.mpr c6; subst c6; have H1 : (shape_Rank.j0 k l1 true l0_0 a0_1) = some (r1, r2) := by rw [if_neg (show ¬ (false = true) by decide)] at H; exact H
   clear H; have H := H1; clear H1; have H' := zk H; clear H; have hcz10_0 : w4.cell? ⟨gb286, 0, none⟩ = some (.slice A0_0 l0_0.length c0_0) := zh BK286.out 0; have hcz10_1 : w4.cell? ⟨gb286, 1, none⟩ = some (.int .i64 a0_1) := zh BK286.out 1; have hfz10_0 := blk_frozen BK286.out 0; have hfz10_1 := blk_frozen BK286.out 1; go_wp2_with (first | ((with_reducible refine gate_callee (f := 51) rfl ?_); refine goesL_ (some 12) rfl rfl Try.func51 zz rfl #[.agg #[.slice A0_0 l0_0.length c0_0, .int .i64 a0_1]] rfl zM ?_; (with_reducible refine (shape_Valid.calls k (fun k_ => k_ < w.heap.size) _ _ l0_0 a0_1 false _ ?side1 A5.out).mono ?_); (case side1 => exact Kd.V_mk HC0_0.out (Kd.F_below (Kd.C_F (Kd.heap_slice 113 k113_heap) HR0_0.out) (zU HB.out))); rintro e w11 ⟨rfl, hb⟩; refine ⟨_, rfl, ?_⟩; replace BK286 := zk (zbb BK286.out hb); replace HB := zk (below_step (zU HB.out) hb);  (try clear hb); (try clear hb2); (try clear hk); (try clear hi)))
   go_meet
   case rel => exact ⟨_, (true), zR, H', ⟨by first | omega | exact Nat.le_refl _⟩, ⟨zb BK286.out⟩, ⟨zU HB.out⟩⟩
 case rest =>
  clear HC3; (try clear c1); (try clear p2); (try clear c3); (try clear c5); (try clear c6); (try clear hcz10_0); (try clear hcz10_1); (try clear hcz7_0); (try clear hcz7_1); (try clear hcz9_0); (try clear hcz9_1); (try clear hfz10_0); (try clear hfz10_1); (try clear hfz7_0); (try clear hfz7_1); (try clear hfz9_0); (try clear hfz9_1); obtain ⟨kq, x21_2, rfl, HA, HJ2, BK286, HB⟩ := hcut; cases kq with
  | zero => exact absurd HA.out (by simp [shape_Rank.j0])
  | succ kj2 =>
   have H := HA.out; clear HA; simp only [shape_Rank.j0] at H; by_cases c12 : x21_2 = true
   ·subst c12; have H1 : (some (0, false)) = some (r1, r2) := by rw [if_pos rfl] at H; exact H
    clear H; have H := H1; clear H1; simp only [Option.some.injEq, Prod.mk.injEq] at H; obtain ⟨rfl, rfl⟩ := H; go_wp2
    go_ret2
    exact ⟨ze, zU HB.out⟩
   ·replace c12 := Bool.eq_false_iff.mpr c12; subst c12; have H1 : ((shape_steps.f kj2 l0_0 a0_1).bind fun t288 => (if 1 ≤ (t288.length : Int) then ((some (t288.drop (1 : Int).toNat : List Int)).bind fun y291 => (shape_Rank.l0 kj2 l1 0 y291 (y291.length : Int) 0 l0_0 a0_1)) else (none))) = some (r1, r2) := by rw [if_neg (show ¬ (false = true) by decide)] at H; exact H
    clear H; have H := H1; clear H1; replace H := Option.bind_eq_some_iff.mp H; obtain ⟨t288, A130, H⟩ := H; replace H : (if 1 ≤ (t288.length : Int) then ((some (t288.drop (1 : Int).toNat : List Int)).bind fun y291 => (shape_Rank.l0 kj2 l1 0 y291 (y291.length : Int) 0 l0_0 a0_1)) else (none)) = some (r1, r2) := H; have A13 := zk A130; clear A130; by_cases c14 : 1 ≤ (t288.length : Int)
    ·rw [if_pos c14] at H; have c14b0 := eq_true c14; have c14b1 : decide (1 ≤ (t288.length : Int)) = true := decide_eq_true c14; clear c14; obtain ⟨y291, hy291⟩ : ∃ y_ : List Int, y_ = (t288.drop (1 : Int).toNat) := ⟨_, rfl⟩
     replace H : (shape_Rank.l0 kj2 l1 0 y291 (y291.length : Int) 0 l0_0 a0_1) = some (r1, r2) := by first | (rw [hy291]; with_reducible exact H) | (have H2_ := (Option.bind_some _ _).symm.trans H; rw [hy291]; with_reducible exact H2_) | (have H2_ := (Option.bind_some _ _).symm.trans H; with_reducible exact H2_) | with_reducible exact H | (rw [hy291]; exact H) | exact H
     have Ny291 := zk hy291; clear hy291; have H' := zk H; clear H; have hcz15_0 : wc.cell? ⟨gb286, 0, none⟩ = some (.slice A0_0 l0_0.length c0_0) := zh BK286.out 0; have hcz15_1 : wc.cell? ⟨gb286, 1, none⟩ = some (.int .i64 a0_1) := zh BK286.out 1; have hfz15_0 := blk_frozen BK286.out 0; have hfz15_1 := blk_frozen BK286.out 1; go_wp2_with (first | ((with_reducible refine gate_callee (f := 85) rfl ?_); refine goesL_ (some 23) rfl rfl Try.func85 zz rfl #[.agg #[.slice A0_0 l0_0.length c0_0, .int .i64 a0_1]] rfl zM ?_; (with_reducible refine (shape_steps.calls kj2 _ _ l0_0 a0_1 t288 _ ?side1 ?side2 A13.out).mono ?_); (case side1 => exact zc (Kd.C_below HR0_0.out HB.out)); (case side2 => exact HC0_0.out); rintro e w16 ⟨v289, rfl, ho0, hb⟩; refine ⟨_, rfl, ?_⟩; have HO290 := zk (Kd.R_lower ho0 (below_size (zU HB.out))); replace BK286 := zk (zbb BK286.out hb); replace HB := zk (below_step (zU HB.out) hb);  (try clear hb); (try clear hb2); (try clear hk); (try clear hi); (try clear ho0); obtain ⟨Ao17, co17, eo17⟩ := Kd.R_slice HO290.out; subst eo17; have q18 : (1 : Int) ≤ ((t288.length : Int) : Int) := zT; obtain ⟨i018, hi018, _, hsz18, _⟩ := info_parts info3; have hcut18 := cut_from (P := Try.prog) 31 3 .i64 Try.underlying31 hi018 1 hsz18 Ao17 t288.length co17 1 (by omega) q18; have hr18 := Kd.Q_drop (k := (1 : Int).toNat) (Kd.Q_of_R HO290.out) (by omega); obtain ⟨A18, hA18⟩ : ∃ A1, A1 = (if co17 = (1 : Int).toNat then Ao17 else (Ao17 : Option Addr).map (·.add ((1 : Int).toNat * 1))) := ⟨_, rfl⟩; obtain ⟨c18, hc18⟩ : ∃ c1, c1 = co17 - (1 : Int).toNat := ⟨_, rfl⟩; have hy18 : y291.length = t288.length - (1 : Int).toNat := (by rw [Ny291.out, List.length_drop]); rw [← Ny291.out] at hr18; rw [← hy18, ← hA18, ← hc18] at hcut18; replace hr18 : Kd.Q (Kd.int .i64) 3 w16 w.heap.size (fun _ => True) (.slice A18 y291.length c18) y291 := (by rw [hA18, hc18, hy18]; exact hr18); have HE18 : Aside0 ((Value.slice A18 y291.length c18).ownBlock = (.slice Ao17 t288.length co17 : Value).ownBlock) := ⟨by rw [hA18]; split <;> (cases (Ao17 : Option Addr) <;> rfl)⟩; clear hy18 hi018 hsz18 HO290 hA18 hc18; have HO293 := zk hr18; clear hr18; replace q18 := eq_true q18))
     go_loopg [6, 26] kj2 (fun kq v6 v26 w' => ∃ (x6_2 : Int) (x26_2 : Int), v6 = .int .i64 x6_2 ∧ v26 = .int .i64 x26_2 ∧ Aside0 (shape_Rank.l0 kq l1 x6_2 y291 (y291.length : Int) x26_2 l0_0 a0_1 = some (r1, r2)) ∧ Aside0 (kq ≤ kj2) ∧ Aside0 (Kd.Q (Kd.int .i64) 3 w' w.heap.size (fun _ => True) (.slice A18 y291.length c18) y291) ∧ Aside0 (w'.heap[gb286]? = some (.cells #[(.slice A0_0 l0_0.length c0_0), .int .i64 a0_1] 50 (0, 0))) ∧ Aside0 (Below w.heap.size w w'))
     case atStart => exact ⟨(0), (0), zR, zR, H', ⟨Nat.le_refl _⟩, ⟨by (with_reducible repeat (first | apply Kd.Q_alloc | apply Kd.Q_drewN | apply Kd.Q_drew)); exact HO293.out⟩, ⟨zb BK286.out⟩, ⟨zU HB.out⟩⟩
     case round =>
      clear H'; (try clear c1); (try clear q1); (try clear p2); (try clear c3); (try clear c5); (try clear c6); (try clear c8); (try clear c12); (try clear c14); (try clear c14b0); (try clear c14b1); (try clear c18); (try clear q18); (try clear hcz10_0); (try clear hcz10_1); (try clear hcz15_0); (try clear hcz15_1); (try clear hcz7_0); (try clear hcz7_1); (try clear hcz9_0); (try clear hcz9_1); (try clear hfz10_0); (try clear hfz10_1); (try clear hfz15_0); (try clear hfz15_1); (try clear hfz7_0); (try clear hfz7_1); (try clear hfz9_0); (try clear hfz9_1); (try clear p2); (try clear q18); obtain ⟨x6_2, x26_2, rfl, rfl, HA, HK2, HO_24, BK286, HB⟩ := hrel
      cases gk with
      | zero => exact absurd HA.out (by simp [shape_Rank.l0])
      | succ k2 =>
       have H := HA.out; clear HA; simp only [shape_Rank.l0] at H; by_cases c19 : x26_2 < (y291.length : Int)
       ·rw [if_pos c19] at H; have c19b0 : decide (x26_2 < (y291.length : Int)) = true := decide_eq_true c19; clear c19; by_cases c20 : 0 ≤ x26_2
        ·rw [if_pos c20] at H; have c20b0 : decide (0 ≤ x26_2) = true := decide_eq_true c20; clear c20; by_cases c21 : x26_2 < (y291.length : Int)
         ·rw [if_pos c21] at H; have c21b0 : decide (x26_2 < (y291.length : Int)) = true := decide_eq_true c21; clear c21; by_cases c22 : x26_2 < (l0_0.length : Int)
          ·rw [if_pos c22] at H; have c22b0 : decide (x26_2 < (l0_0.length : Int)) = true := decide_eq_true c22; clear c22; by_cases c23 : x26_2 < (l1.length : Int)
           ·rw [if_pos c23] at H; have c23b0 : decide (x26_2 < (l1.length : Int)) = true := decide_eq_true c23; clear c23; replace H := Option.bind_eq_some_iff.mp H; obtain ⟨⟨t297, t298⟩, A240, H⟩ := H; replace H : (if t298 = true then (shape_Rank.l0 k2 l1 (wrap64 (x6_2 + (wrap64 (t297 * (rd y291 x26_2))))) y291 (y291.length : Int) (wrap64 (x26_2 + 1)) l0_0 a0_1) else (some (0, false))) = some (r1, r2) := H; have A24 := zk A240; clear A240; by_cases c25 : t298 = true
            ·subst c25; have H1 : (shape_Rank.l0 k2 l1 (wrap64 (x6_2 + (wrap64 (t297 * (rd y291 x26_2))))) y291 (y291.length : Int) (wrap64 (x26_2 + 1)) l0_0 a0_1) = some (r1, r2) := by rw [if_pos rfl] at H; exact H
             clear H; have H := H1; clear H1; have H' := zk H; clear H; have p294 : 0 ≤ (x26_2 : Int) := zT; have q294 : x26_2 < (y291.length : Int) := zT; obtain ⟨ad294, e294, hx294_0⟩ := Kd.at_int (Kd.Q_reads' HO_24.out).2.2 x26_2 p294 q294; cases e294; replace p294 := eq_true p294; replace q294 := eq_true q294; try go_wp2
             have n0_ := zk (Kd.Q_drew HO_24.out); have n1_ := zk (blk_drew BK286.out); have n2_ := zk (below_drew1 HB.out); clear HO_24; clear BK286; clear HB; have HO_24 := n0_; have BK286 := n1_; have HB := n2_; clear n0_ n1_ n2_; have p295 : 0 ≤ (x26_2 : Int) := zT; have q295 : x26_2 < (l0_0.length : Int) := zT; obtain ⟨ad295, A295_0, c295_0, e295, hx295_0, hl295_0, hi295_0⟩ := at_L4 HR0_0.out x26_2 p295 q295; have hw295_0 := hx295_0; cases e295; replace hx295_0 := zcl HB.out hx295_0; have HR295_0 := zk hi295_0; have HC295_0 := zk hl295_0; clear hi295_0 hl295_0; replace p295 := eq_true p295; replace q295 := eq_true q295; have p296 : 0 ≤ (x26_2 : Int) := zT; have q296 : x26_2 < (l1.length : Int) := zT; obtain ⟨ad296, e296, hx296_0⟩ := Kd.at_int HR1.out x26_2 p296 q296; have hw296_0 := hx296_0; cases e296; replace hx296_0 := zcl HB.out hx296_0; replace p296 := eq_true p296; replace q296 := eq_true q296; refine start_ (n := 16) (S := fun w' => w'.cell? ⟨gb286, 0, none⟩ = some (.slice (some ad295) l0_0.length c0_0) ∧ w'.cell? ⟨gb286, 1, none⟩ = some (.int .i64 a0_1) ∧ w'.cell? (ad295.add (x26_2).toNat) = some (.slice A295_0 (rd_L4 l0_0 x26_2).length c295_0) ∧ w'.cell? (ad296.add (x26_2).toNat) = some (.int .u8 (rd l1 x26_2))) (ds := []) #[false, false, false, false, false, false, false, false, false, false, false, false, false, false, false, false] zz rfl rfl ⟨(blk_cell BK286.out 0).trans rfl, (blk_cell BK286.out 1).trans rfl, (zcl HB.out hw295_0), (zcl HB.out hw296_0)⟩ (fun hHeld => ?_); refine with_tabW shape_Rank.tab7 shape_Rank.bits7 (fun HT_ HW_ => ?_); generalize wr.drew = w26 at HO_24 BK286 HB HR295_0 hx295_0 hx296_0 hHeld ⊢; refine zp 0 (some 32) (v := ?_) (a' := ?_) (bz 16 1) rfl rfl HT_.out zz zQ ?_ ?_ ?_; rotate_left
             ·intro w'; go_simp; with_reducible rfl
             rotate_left
             ·simp only [Act.put, zv, i64_w, i32_w]; rfl
             refine zp 2 (some 34) (v := ?_) (a' := ?_) (bz 16 5) rfl rfl HT_.out zz zQ ?_ ?_ ?_; rotate_left
             ·intro w'; go_simp; with_reducible rfl
             rotate_left
             ·simp only [Act.put, zv, i64_w, i32_w]; rfl
             refine zp 5 (some 37) (v := ?_) (a' := ?_) (bz 16 37) rfl rfl HT_.out zz zQ ?_ ?_ ?_; rotate_left
             ·intro w'; go_simp; with_reducible rfl
             rotate_left
             ·simp only [Act.put, zv, i64_w, i32_w]; rfl
             refine zp 6 (some 38) (v := ?_) (a' := ?_) (bz 16 101) rfl rfl HT_.out zz zQ ?_ ?_ ?_; rotate_left
             ·intro w'; go_simp; with_reducible rfl
             rotate_left
             ·simp only [Act.put, zv, i64_w, i32_w]; rfl
             refine zp 7 (some 39) (v := ?_) (a' := ?_) (bz 16 229) rfl rfl HT_.out zz zQ ?_ ?_ ?_; rotate_left
             ·intro w'; go_simp; with_reducible rfl
             rotate_left
             ·simp only [Act.put, zv, i64_w, i32_w]; rfl
             refine take_ (i := 1) (N := some 33) (v := ?_) (a' := ?_) (bz 16 231) rfl rfl (take_ofW HT_.out HW_.out zz) zQ (Or.inl ⟨by rfl, ?_⟩) hHeld ?_ ?_; rotate_left
             ·rintro w' ⟨s0, s1, s2, s3⟩; go_simp; with_reducible rfl
             rotate_left
             ·simp only [Act.put, zv, i64_w, i32_w]; rfl
             refine zp 3 (some 35) (v := ?_) (a' := ?_) (bz 16 239) rfl rfl HT_.out zz zQ ?_ ?_ ?_; rotate_left
             ·intro w'; go_simp; with_reducible rfl
             rotate_left
             ·simp only [Act.put, zv, i64_w, i32_w]; rfl
             refine take_ (i := 4) (N := some 36) (v := ?_) (a' := ?_) (bz 16 255) rfl rfl (take_ofW HT_.out HW_.out zz) zQ (Or.inl ⟨by rfl, ?_⟩) hHeld ?_ ?_; rotate_left
             ·rintro w' ⟨s0, s1, s2, s3⟩; go_simp; with_reducible rfl
             rotate_left
             ·simp only [Act.put, zv, i64_w, i32_w]; rfl
             refine take_ (i := 8) (N := some 40) (v := ?_) (a' := ?_) (bz 16 511) rfl rfl (take_ofW HT_.out HW_.out zz) zQ (Or.inl ⟨by rfl, ?_⟩) hHeld ?_ ?_; rotate_left
             ·rintro w' ⟨s0, s1, s2, s3⟩; go_simp; with_reducible rfl
             rotate_left
             ·simp only [Act.put, zv, i64_w, i32_w]; rfl
             refine zp 9 (some 41) (v := ?_) (a' := ?_) (bz 16 1023) rfl rfl HT_.out zz zQ ?_ ?_ ?_; rotate_left
             ·intro w'; go_simp; with_reducible rfl
             rotate_left
             ·simp only [Act.put, zv, i64_w, i32_w]; rfl
             refine one_ (i := 10) (N := some 42) (bz 16 2047) rfl rfl (one_of HT_.out zz) (by decide) (fun K hK => ?_); refine goes_ Try.func87 zz rfl #[.slice A295_0 (rd_L4 l0_0 x26_2).length c295_0, .int .i64 (wrap64 (rd l1 x26_2))] (by rfl) rfl rfl zM ?_; with_reducible refine (spans_Rank.calls k2 _ _ (rd_L4 l0_0 x26_2) (wrap64 (rd l1 x26_2)) t297 true _ ?side1 ?side2 A24.out).mono ?_; (case side1 => exact zc (Kd.C_below HR295_0.out HB.out))
             (case side2 => exact HC295_0.out)
             rintro e w27 ⟨rfl, hb⟩; refine ⟨_, rfl, ?_⟩; have n0_ := zk (Kd.Q_below (by (with_reducible repeat (first | apply Kd.Q_alloc | apply Kd.Q_drewN | apply Kd.Q_drew)); exact HO_24.out) hb); have n1_ := zk (zbb BK286.out hb); have n2_ := zk (below_step (zU HB.out) hb); clear HO_24; clear BK286; clear HB; have HO_24 := n0_; have BK286 := n1_; have HB := n2_; clear n0_ n1_ n2_; (try clear hb); (try clear hb2); (try clear hk); (try clear hi); refine hK.out _ _ ⟨(blk_cell BK286.out 0).trans rfl, (blk_cell BK286.out 1).trans rfl, (zcl HB.out hw295_0), (zcl HB.out hw296_0)⟩ (fun hHeld => ?_); clear hK K; refine norm_ (a' := ?_) ?_ ?_; rotate_left
             ·show Act.put _ (some 42) _ = _; simp only [Act.put, zv, i64_w, i32_w]; rfl
             refine zp 11 (some 31) (v := ?_) (a' := ?_) (bz 16 4095) rfl rfl HT_.out zz zQ ?_ ?_ ?_; rotate_left
             ·intro w'; go_simp; with_reducible rfl
             rotate_left
             ·simp only [Act.put, zv, i64_w, i32_w]; rfl
             refine zp 12 (some 43) (v := ?_) (a' := ?_) (bz 16 8191) rfl rfl HT_.out zz zQ ?_ ?_ ?_; rotate_left
             ·intro w'; go_simp; with_reducible rfl
             rotate_left
             ·simp only [Act.put, zv, i64_w, i32_w]; rfl
             refine zp 13 (some 44) (v := ?_) (a' := ?_) (bz 16 16383) rfl rfl HT_.out zz zQ ?_ ?_ ?_; rotate_left
             ·intro w'; go_simp; with_reducible rfl
             rotate_left
             ·simp only [Act.put, zv, i64_w, i32_w]; rfl
             refine zp 14 (some 9) (v := ?_) (a' := ?_) (bz 16 32767) rfl rfl HT_.out zz zQ ?_ ?_ ?_; rotate_left
             ·intro w'; go_simp; with_reducible rfl
             rotate_left
             ·simp only [Act.put, zv, i64_w, i32_w]; rfl
             refine zp 15 (some 10) (v := ?_) (a' := ?_) (bz 16 65535) rfl rfl HT_.out zz zQ ?_ ?_ ?_; rotate_left
             ·intro w'; go_simp; with_reducible rfl
             rotate_left
             ·simp only [Act.put, zv, i64_w, i32_w]; rfl
             refine done_ (done_of HT_.out zz) ?_; try go_wp2
             go_roundg k2
             case measure => have := HJ2.out; have := HK2.out; omega
             case rel => exact ⟨(wrap64 (x6_2 + (wrap64 (t297 * (rd y291 x26_2))))), (wrap64 (x26_2 + 1)), zR, zR, H', ⟨by have := HJ2.out; have := HK2.out; omega⟩, ⟨by (with_reducible repeat (first | apply Kd.Q_alloc | apply Kd.Q_drewN | apply Kd.Q_drew)); exact HO_24.out⟩, ⟨zb BK286.out⟩, ⟨zU HB.out⟩⟩
            ·replace c25 := Bool.eq_false_iff.mpr c25; subst c25; have H1 : (some (0, false)) = some (r1, r2) := by rw [if_neg (show ¬ (false = true) by decide)] at H; exact H
             clear H; have H := H1; clear H1; simp only [Option.some.injEq, Prod.mk.injEq] at H; obtain ⟨rfl, rfl⟩ := H; have p294 : 0 ≤ (x26_2 : Int) := zT; have q294 : x26_2 < (y291.length : Int) := zT; obtain ⟨ad294, e294, hx294_0⟩ := Kd.at_int (Kd.Q_reads' HO_24.out).2.2 x26_2 p294 q294; cases e294; replace p294 := eq_true p294; replace q294 := eq_true q294; try go_wp2
             have n0_ := zk (Kd.Q_drew HO_24.out); have n1_ := zk (blk_drew BK286.out); have n2_ := zk (below_drew1 HB.out); clear HO_24; clear BK286; clear HB; have HO_24 := n0_; have BK286 := n1_; have HB := n2_; clear n0_ n1_ n2_; have p295 : 0 ≤ (x26_2 : Int) := zT; have q295 : x26_2 < (l0_0.length : Int) := zT; obtain ⟨ad295, A295_0, c295_0, e295, hx295_0, hl295_0, hi295_0⟩ := at_L4 HR0_0.out x26_2 p295 q295; have hw295_0 := hx295_0; cases e295; replace hx295_0 := zcl HB.out hx295_0; have HR295_0 := zk hi295_0; have HC295_0 := zk hl295_0; clear hi295_0 hl295_0; replace p295 := eq_true p295; replace q295 := eq_true q295; have p296 : 0 ≤ (x26_2 : Int) := zT; have q296 : x26_2 < (l1.length : Int) := zT; obtain ⟨ad296, e296, hx296_0⟩ := Kd.at_int HR1.out x26_2 p296 q296; have hw296_0 := hx296_0; cases e296; replace hx296_0 := zcl HB.out hx296_0; replace p296 := eq_true p296; replace q296 := eq_true q296; refine start_ (n := 16) (S := fun w' => w'.cell? ⟨gb286, 0, none⟩ = some (.slice (some ad295) l0_0.length c0_0) ∧ w'.cell? ⟨gb286, 1, none⟩ = some (.int .i64 a0_1) ∧ w'.cell? (ad295.add (x26_2).toNat) = some (.slice A295_0 (rd_L4 l0_0 x26_2).length c295_0) ∧ w'.cell? (ad296.add (x26_2).toNat) = some (.int .u8 (rd l1 x26_2))) (ds := []) #[false, false, false, false, false, false, false, false, false, false, false, false, false, false, false, false] zz rfl rfl ⟨(blk_cell BK286.out 0).trans rfl, (blk_cell BK286.out 1).trans rfl, (zcl HB.out hw295_0), (zcl HB.out hw296_0)⟩ (fun hHeld => ?_); refine with_tabW shape_Rank.tab7 shape_Rank.bits7 (fun HT_ HW_ => ?_); generalize wr.drew = w28 at HO_24 BK286 HB HR295_0 hx295_0 hx296_0 hHeld ⊢; refine zp 0 (some 32) (v := ?_) (a' := ?_) (bz 16 1) rfl rfl HT_.out zz zQ ?_ ?_ ?_; rotate_left
             ·intro w'; go_simp; with_reducible rfl
             rotate_left
             ·simp only [Act.put, zv, i64_w, i32_w]; rfl
             refine zp 2 (some 34) (v := ?_) (a' := ?_) (bz 16 5) rfl rfl HT_.out zz zQ ?_ ?_ ?_; rotate_left
             ·intro w'; go_simp; with_reducible rfl
             rotate_left
             ·simp only [Act.put, zv, i64_w, i32_w]; rfl
             refine zp 5 (some 37) (v := ?_) (a' := ?_) (bz 16 37) rfl rfl HT_.out zz zQ ?_ ?_ ?_; rotate_left
             ·intro w'; go_simp; with_reducible rfl
             rotate_left
             ·simp only [Act.put, zv, i64_w, i32_w]; rfl
             refine zp 6 (some 38) (v := ?_) (a' := ?_) (bz 16 101) rfl rfl HT_.out zz zQ ?_ ?_ ?_; rotate_left
             ·intro w'; go_simp; with_reducible rfl
             rotate_left
             ·simp only [Act.put, zv, i64_w, i32_w]; rfl
             refine zp 7 (some 39) (v := ?_) (a' := ?_) (bz 16 229) rfl rfl HT_.out zz zQ ?_ ?_ ?_; rotate_left
             ·intro w'; go_simp; with_reducible rfl
             rotate_left
             ·simp only [Act.put, zv, i64_w, i32_w]; rfl
             refine take_ (i := 1) (N := some 33) (v := ?_) (a' := ?_) (bz 16 231) rfl rfl (take_ofW HT_.out HW_.out zz) zQ (Or.inl ⟨by rfl, ?_⟩) hHeld ?_ ?_; rotate_left
             ·rintro w' ⟨s0, s1, s2, s3⟩; go_simp; with_reducible rfl
             rotate_left
             ·simp only [Act.put, zv, i64_w, i32_w]; rfl
             refine zp 3 (some 35) (v := ?_) (a' := ?_) (bz 16 239) rfl rfl HT_.out zz zQ ?_ ?_ ?_; rotate_left
             ·intro w'; go_simp; with_reducible rfl
             rotate_left
             ·simp only [Act.put, zv, i64_w, i32_w]; rfl
             refine take_ (i := 4) (N := some 36) (v := ?_) (a' := ?_) (bz 16 255) rfl rfl (take_ofW HT_.out HW_.out zz) zQ (Or.inl ⟨by rfl, ?_⟩) hHeld ?_ ?_; rotate_left
             ·rintro w' ⟨s0, s1, s2, s3⟩; go_simp; with_reducible rfl
             rotate_left
             ·simp only [Act.put, zv, i64_w, i32_w]; rfl
             refine take_ (i := 8) (N := some 40) (v := ?_) (a' := ?_) (bz 16 511) rfl rfl (take_ofW HT_.out HW_.out zz) zQ (Or.inl ⟨by rfl, ?_⟩) hHeld ?_ ?_; rotate_left
             ·rintro w' ⟨s0, s1, s2, s3⟩; go_simp; with_reducible rfl
             rotate_left
             ·simp only [Act.put, zv, i64_w, i32_w]; rfl
             refine zp 9 (some 41) (v := ?_) (a' := ?_) (bz 16 1023) rfl rfl HT_.out zz zQ ?_ ?_ ?_; rotate_left
             ·intro w'; go_simp; with_reducible rfl
             rotate_left
             ·simp only [Act.put, zv, i64_w, i32_w]; rfl
             refine one_ (i := 10) (N := some 42) (bz 16 2047) rfl rfl (one_of HT_.out zz) (by decide) (fun K hK => ?_); refine goes_ Try.func87 zz rfl #[.slice A295_0 (rd_L4 l0_0 x26_2).length c295_0, .int .i64 (wrap64 (rd l1 x26_2))] (by rfl) rfl rfl zM ?_; with_reducible refine (spans_Rank.calls k2 _ _ (rd_L4 l0_0 x26_2) (wrap64 (rd l1 x26_2)) t297 false _ ?side1 ?side2 A24.out).mono ?_; (case side1 => exact zc (Kd.C_below HR295_0.out HB.out))
             (case side2 => exact HC295_0.out)
             rintro e w29 ⟨rfl, hb⟩; refine ⟨_, rfl, ?_⟩; have n0_ := zk (Kd.Q_below (by (with_reducible repeat (first | apply Kd.Q_alloc | apply Kd.Q_drewN | apply Kd.Q_drew)); exact HO_24.out) hb); have n1_ := zk (zbb BK286.out hb); have n2_ := zk (below_step (zU HB.out) hb); clear HO_24; clear BK286; clear HB; have HO_24 := n0_; have BK286 := n1_; have HB := n2_; clear n0_ n1_ n2_; (try clear hb); (try clear hb2); (try clear hk); (try clear hi); refine hK.out _ _ ⟨(blk_cell BK286.out 0).trans rfl, (blk_cell BK286.out 1).trans rfl, (zcl HB.out hw295_0), (zcl HB.out hw296_0)⟩ (fun hHeld => ?_); clear hK K; refine norm_ (a' := ?_) ?_ ?_; rotate_left
             ·show Act.put _ (some 42) _ = _; simp only [Act.put, zv, i64_w, i32_w]; rfl
             refine zp 11 (some 31) (v := ?_) (a' := ?_) (bz 16 4095) rfl rfl HT_.out zz zQ ?_ ?_ ?_; rotate_left
             ·intro w'; go_simp; with_reducible rfl
             rotate_left
             ·simp only [Act.put, zv, i64_w, i32_w]; rfl
             refine zp 12 (some 43) (v := ?_) (a' := ?_) (bz 16 8191) rfl rfl HT_.out zz zQ ?_ ?_ ?_; rotate_left
             ·intro w'; go_simp; with_reducible rfl
             rotate_left
             ·simp only [Act.put, zv, i64_w, i32_w]; rfl
             refine zp 13 (some 44) (v := ?_) (a' := ?_) (bz 16 16383) rfl rfl HT_.out zz zQ ?_ ?_ ?_; rotate_left
             ·intro w'; go_simp; with_reducible rfl
             rotate_left
             ·simp only [Act.put, zv, i64_w, i32_w]; rfl
             refine zp 14 (some 9) (v := ?_) (a' := ?_) (bz 16 32767) rfl rfl HT_.out zz zQ ?_ ?_ ?_; rotate_left
             ·intro w'; go_simp; with_reducible rfl
             rotate_left
             ·simp only [Act.put, zv, i64_w, i32_w]; rfl
             refine zp 15 (some 10) (v := ?_) (a' := ?_) (bz 16 65535) rfl rfl HT_.out zz zQ ?_ ?_ ?_; rotate_left
             ·intro w'; go_simp; with_reducible rfl
             rotate_left
             ·simp only [Act.put, zv, i64_w, i32_w]; rfl
             refine done_ (done_of HT_.out zz) ?_; try go_wp2
             go_ret2
             exact ⟨ze, zU HB.out⟩
           ·rw [if_neg c23] at H; exact absurd H (by simp)
          ·rw [if_neg c22] at H; exact absurd H (by simp)
         ·rw [if_neg c21] at H; exact absurd H (by simp)
        ·rw [if_neg c20] at H; exact absurd H (by simp)
       ·rw [if_neg c19] at H; have c19b0 : decide (x26_2 < (y291.length : Int)) = false := decide_eq_false c19; clear c19; simp only [Option.some.injEq, Prod.mk.injEq] at H; obtain ⟨rfl, rfl⟩ := H; go_wp2
        go_ret2
        exact ⟨ze, zU HB.out⟩
    ·rw [if_neg c14] at H; exact absurd H (by simp)
end Go.Proofs.Ytkcklnmbeinfkaa.B
