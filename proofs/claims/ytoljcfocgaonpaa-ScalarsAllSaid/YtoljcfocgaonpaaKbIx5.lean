/- Words and walks of this claim, of the text Ix5. -/
import Derived.Test.YtoljcfocgaonpaaKbQW0
import Derived.Test.YtoljcfocgaonpaaKbIx0
import Derived.Test.YtoljcfocgaonpaaKbIx3
import Derived.Test.YtoljcfocgaonpaaKbIx4
namespace Go.Proofs.Ytoljcfocgaonpaa.I
open Go.RowKit Go.Proofs.YtoljcfocgaonpaaW.PrintWords Go.Proofs.YtoljcfocgaonpaaW.PrintLast Go.Proofs.YtoljcfocgaonpaaW.PrintMore
attribute [local go_sem] max2_int min2_int max_two min_two max_three min_three max_four min_four
set_option linter.unusedVariables false
set_option linter.unusedSimpArgs false
def sets_Valid.l0 : Nat → Int → Int → List (S133) → Int → Int → Option (Bool)
 | 0, _, _, _, _, _ => none
 | k + 1, x1, x5, x8, x9, x10 => if x10 < x9 then (if 0 ≤ x10 then (if x10 < (x8.length : Int) then (if ((rd_T133 x8 x10).f0) < 0 then (some false) else (if ((rd_T133 x8 x10).f0) > ((rd_T133 x8 x10).f1) then (some false) else (if ((rd_T133 x8 x10).f1) > x1 then (some false) else (if (wrap64 (((rd_T133 x8 x10).f0) - 1)) ≤ x5 then (some false) else (sets_Valid.l0 k x1 ((rd_T133 x8 x10).f1) x8 x9 (wrap64 (x10 + 1))))))) else (none)) else (none)) else (some true)
def sets_Valid.f (k : Nat) (l0 : List (S133)) (a1 : Int) : Option (Bool) := sets_Valid.l0 k a1 (-2) l0 (l0.length : Int) 0
set_option maxHeartbeats 8000000 in
set_option maxRecDepth 100000 in
theorem sets_Valid.calls (k : Nat) (A0 : Option Addr) (c0 : Nat) (l0 : List (S133)) (a1 : Int) (r : Bool) (w : World) (hr0 : Kd.C k133 w A0 l0.length l0) (hc0 : l0.length ≤ c0) (h : sets_Valid.f k l0 a1 = some r) :
 Calls Try.prog 110 #[.slice A0 l0.length c0, .int .i64 a1] w fun e w' => e = .returned (.bool r) ∧ Below w.heap.size w w' := by
 have hu133 := Try.underlying133; have HR0 := zk hr0; have HC0 := zk hc0; clear hr0 hc0; have HB := zk (Below.refl w.heap.size w); have H : (sets_Valid.l0 k a1 (-2) l0 (l0.length : Int) 0) = some r := h; clear h; have H' := zk H; clear H; go_enter Try.func110, Try.ntmps110
 go_wp2
 go_loopg [5, 10] k (fun kq v5 v10 w' => ∃ (x5_1 : Int) (x10_1 : Int), v5 = .int .i64 x5_1 ∧ v10 = .int .i64 x10_1 ∧ Aside0 (sets_Valid.l0 kq a1 x5_1 l0 (l0.length : Int) x10_1 = some r) ∧ Aside0 (kq ≤ k) ∧ Aside0 (Below w.heap.size w w'))
 case atStart => exact ⟨((-2)), (0), zR, zR, H', ⟨Nat.le_refl _⟩, ⟨zU HB.out⟩⟩
 case round =>
  clear H'; (try clear c1); (try clear p2); obtain ⟨x5_1, x10_1, rfl, rfl, HA, HK1, HB⟩ := hrel
  cases gk with
  | zero => exact absurd HA.out (by simp [sets_Valid.l0])
  | succ k1 =>
   have H := HA.out; clear HA; simp only [sets_Valid.l0] at H; by_cases c3 : x10_1 < (l0.length : Int)
   ·rw [if_pos c3] at H; have c3b0 : decide (x10_1 < (l0.length : Int)) = true := decide_eq_true c3; clear c3; by_cases c4 : 0 ≤ x10_1
    ·rw [if_pos c4] at H; have c4b0 : decide (0 ≤ x10_1) = true := decide_eq_true c4; clear c4; by_cases c5 : x10_1 < (l0.length : Int)
     ·rw [if_pos c5] at H; have c5b0 : decide (x10_1 < (l0.length : Int)) = true := decide_eq_true c5; clear c5; by_cases c6 : ((rd_T133 l0 x10_1).f0) < 0
      ·rw [if_pos c6] at H; have c6b0 : decide (((rd_T133 l0 x10_1).f0) < 0) = true := decide_eq_true c6; clear c6; obtain rfl := Option.some.inj H; have p144 : 0 ≤ (x10_1 : Int) := zT; have q144 : x10_1 < (l0.length : Int) := zT; obtain ⟨ad144, e144, hx144_0, hx144_1⟩ := at_T133 HR0.out x10_1 p144 q144; cases e144; replace hx144_0 := zcl HB.out hx144_0; replace hx144_1 := zcl HB.out hx144_1; replace p144 := eq_true p144; replace q144 := eq_true q144; go_wp2_with (first | ((with_reducible refine gate_dst (N := 7) rfl ?_); refine box_event ?hg (N := 7) ?hd (cs := #[.int .i64 0, .int .i64 0]) (t := 133) ?hr ?_; (case hd => rfl); (case hg => rfl); (case hr => first | (go_simp; done) | (go_simp; rfl)); intro gb145 hg w7 hbox hb; have BK145 := zk (hbox); have GE145 := zk ((zg hg HB.out : w.heap.size ≤ gb145)); replace HB := zk (below_step (zU HB.out) hb);  clear hb hbox hg; have hcz8_0 : w7.cell? ⟨gb145, 0, none⟩ = some (.int .i64 0) := zh BK145.out 0; have hcz8_1 : w7.cell? ⟨gb145, 1, none⟩ = some (.int .i64 0) := zh BK145.out 1; have hfz8_0 := blk_frozen BK145.out 0; have hfz8_1 := blk_frozen BK145.out 1))
       go_ret
       exact ⟨ze, zU HB.out⟩
      ·rw [if_neg c6] at H; have c6b0 : decide (((rd_T133 l0 x10_1).f0) < 0) = false := decide_eq_false c6; clear c6; by_cases c9 : ((rd_T133 l0 x10_1).f0) > ((rd_T133 l0 x10_1).f1)
       ·rw [if_pos c9] at H; have c9b0 : decide (((rd_T133 l0 x10_1).f1) < ((rd_T133 l0 x10_1).f0)) = true := decide_eq_true c9; clear c9; obtain rfl := Option.some.inj H; have p144 : 0 ≤ (x10_1 : Int) := zT; have q144 : x10_1 < (l0.length : Int) := zT; obtain ⟨ad144, e144, hx144_0, hx144_1⟩ := at_T133 HR0.out x10_1 p144 q144; cases e144; replace hx144_0 := zcl HB.out hx144_0; replace hx144_1 := zcl HB.out hx144_1; replace p144 := eq_true p144; replace q144 := eq_true q144; go_wp2_with (first | ((with_reducible refine gate_dst (N := 7) rfl ?_); refine box_event ?hg (N := 7) ?hd (cs := #[.int .i64 0, .int .i64 0]) (t := 133) ?hr ?_; (case hd => rfl); (case hg => rfl); (case hr => first | (go_simp; done) | (go_simp; rfl)); intro gb145 hg w10 hbox hb; have BK145 := zk (hbox); have GE145 := zk ((zg hg HB.out : w.heap.size ≤ gb145)); replace HB := zk (below_step (zU HB.out) hb);  clear hb hbox hg; have hcz11_0 : w10.cell? ⟨gb145, 0, none⟩ = some (.int .i64 0) := zh BK145.out 0; have hcz11_1 : w10.cell? ⟨gb145, 1, none⟩ = some (.int .i64 0) := zh BK145.out 1; have hfz11_0 := blk_frozen BK145.out 0; have hfz11_1 := blk_frozen BK145.out 1))
        go_ret
        exact ⟨ze, zU HB.out⟩
       ·rw [if_neg c9] at H; have c9b0 : decide (((rd_T133 l0 x10_1).f1) < ((rd_T133 l0 x10_1).f0)) = false := decide_eq_false c9; clear c9; by_cases c12 : ((rd_T133 l0 x10_1).f1) > a1
        ·rw [if_pos c12] at H; have c12b0 : decide (a1 < ((rd_T133 l0 x10_1).f1)) = true := decide_eq_true c12; clear c12; obtain rfl := Option.some.inj H; have p144 : 0 ≤ (x10_1 : Int) := zT; have q144 : x10_1 < (l0.length : Int) := zT; obtain ⟨ad144, e144, hx144_0, hx144_1⟩ := at_T133 HR0.out x10_1 p144 q144; cases e144; replace hx144_0 := zcl HB.out hx144_0; replace hx144_1 := zcl HB.out hx144_1; replace p144 := eq_true p144; replace q144 := eq_true q144; go_wp2_with (first | ((with_reducible refine gate_dst (N := 7) rfl ?_); refine box_event ?hg (N := 7) ?hd (cs := #[.int .i64 0, .int .i64 0]) (t := 133) ?hr ?_; (case hd => rfl); (case hg => rfl); (case hr => first | (go_simp; done) | (go_simp; rfl)); intro gb145 hg w13 hbox hb; have BK145 := zk (hbox); have GE145 := zk ((zg hg HB.out : w.heap.size ≤ gb145)); replace HB := zk (below_step (zU HB.out) hb);  clear hb hbox hg; have hcz14_0 : w13.cell? ⟨gb145, 0, none⟩ = some (.int .i64 0) := zh BK145.out 0; have hcz14_1 : w13.cell? ⟨gb145, 1, none⟩ = some (.int .i64 0) := zh BK145.out 1; have hfz14_0 := blk_frozen BK145.out 0; have hfz14_1 := blk_frozen BK145.out 1))
         go_ret
         exact ⟨ze, zU HB.out⟩
        ·rw [if_neg c12] at H; have c12b0 : decide (a1 < ((rd_T133 l0 x10_1).f1)) = false := decide_eq_false c12; clear c12; by_cases c15 : (wrap64 (((rd_T133 l0 x10_1).f0) - 1)) ≤ x5_1
         ·rw [if_pos c15] at H; have c15b0 : decide ((wrap64 (((rd_T133 l0 x10_1).f0) - 1)) ≤ x5_1) = true := decide_eq_true c15; clear c15; obtain rfl := Option.some.inj H; have p144 : 0 ≤ (x10_1 : Int) := zT; have q144 : x10_1 < (l0.length : Int) := zT; obtain ⟨ad144, e144, hx144_0, hx144_1⟩ := at_T133 HR0.out x10_1 p144 q144; cases e144; replace hx144_0 := zcl HB.out hx144_0; replace hx144_1 := zcl HB.out hx144_1; replace p144 := eq_true p144; replace q144 := eq_true q144; go_wp2_with (first | ((with_reducible refine gate_dst (N := 7) rfl ?_); refine box_event ?hg (N := 7) ?hd (cs := #[.int .i64 0, .int .i64 0]) (t := 133) ?hr ?_; (case hd => rfl); (case hg => rfl); (case hr => first | (go_simp; done) | (go_simp; rfl)); intro gb145 hg w16 hbox hb; have BK145 := zk (hbox); have GE145 := zk ((zg hg HB.out : w.heap.size ≤ gb145)); replace HB := zk (below_step (zU HB.out) hb);  clear hb hbox hg; have hcz17_0 : w16.cell? ⟨gb145, 0, none⟩ = some (.int .i64 0) := zh BK145.out 0; have hcz17_1 : w16.cell? ⟨gb145, 1, none⟩ = some (.int .i64 0) := zh BK145.out 1; have hfz17_0 := blk_frozen BK145.out 0; have hfz17_1 := blk_frozen BK145.out 1))
          go_ret
          exact ⟨ze, zU HB.out⟩
         ·rw [if_neg c15] at H; have c15b0 : decide ((wrap64 (((rd_T133 l0 x10_1).f0) - 1)) ≤ x5_1) = false := decide_eq_false c15; clear c15; have H' := zk H; clear H; have p144 : 0 ≤ (x10_1 : Int) := zT; have q144 : x10_1 < (l0.length : Int) := zT; obtain ⟨ad144, e144, hx144_0, hx144_1⟩ := at_T133 HR0.out x10_1 p144 q144; cases e144; replace hx144_0 := zcl HB.out hx144_0; replace hx144_1 := zcl HB.out hx144_1; replace p144 := eq_true p144; replace q144 := eq_true q144; go_wp2_with (first | ((with_reducible refine gate_dst (N := 7) rfl ?_); refine box_event ?hg (N := 7) ?hd (cs := #[.int .i64 0, .int .i64 0]) (t := 133) ?hr ?_; (case hd => rfl); (case hg => rfl); (case hr => first | (go_simp; done) | (go_simp; rfl)); intro gb145 hg w18 hbox hb; have BK145 := zk (hbox); have GE145 := zk ((zg hg HB.out : w.heap.size ≤ gb145)); replace HB := zk (below_step (zU HB.out) hb);  clear hb hbox hg; have hcz19_0 : w18.cell? ⟨gb145, 0, none⟩ = some (.int .i64 0) := zh BK145.out 0; have hcz19_1 : w18.cell? ⟨gb145, 1, none⟩ = some (.int .i64 0) := zh BK145.out 1; have hfz19_0 := blk_frozen BK145.out 0; have hfz19_1 := blk_frozen BK145.out 1))
          go_roundg k1
          case measure => have := HK1.out; omega
          case rel => exact ⟨((rd_T133 l0 x10_1).f1), (wrap64 (x10_1 + 1)), zR, zR, H', ⟨by have := HK1.out; omega⟩, ⟨zU HB.out⟩⟩
     ·rw [if_neg c5] at H; exact absurd H (by simp)
    ·rw [if_neg c4] at H; exact absurd H (by simp)
   ·rw [if_neg c3] at H; have c3b0 : decide (x10_1 < (l0.length : Int)) = false := decide_eq_false c3; clear c3; obtain rfl := Option.some.inj H; go_wp2
    go_ret
    exact ⟨ze, zU HB.out⟩
def sets_Select.l0 : Nat → Int → List (S133) → Int → Int → Option (Int × Bool)
 | 0, _, _, _, _ => none
 | k + 1, x1, x10, x11, x12 => if x12 < x11 then (if 0 ≤ x12 then (if x12 < (x10.length : Int) then (if x1 ≤ (wrap64 (((rd_T133 x10 x12).f1) - ((rd_T133 x10 x12).f0))) then (some (wrap64 (((rd_T133 x10 x12).f0) + x1), true)) else (sets_Select.l0 k (wrap64 (x1 - (wrap64 ((wrap64 (((rd_T133 x10 x12).f1) - ((rd_T133 x10 x12).f0))) + 1)))) x10 x11 (wrap64 (x12 + 1)))) else (none)) else (none)) else (some (0, false))
def sets_Select.f (k : Nat) (l0 : List (S133)) (a1 : Int) : Option (Int × Bool) := if a1 < 0 then (some (0, false)) else (sets_Select.l0 k a1 l0 (l0.length : Int) 0)
set_option maxHeartbeats 8000000 in
set_option maxRecDepth 100000 in
theorem sets_Select.calls (k : Nat) (A0 : Option Addr) (c0 : Nat) (l0 : List (S133)) (a1 : Int) (r1 : Int) (r2 : Bool) (w : World) (hr0 : Kd.C k133 w A0 l0.length l0) (hc0 : l0.length ≤ c0) (h : sets_Select.f k l0 a1 = some (r1, r2)) :
 Calls Try.prog 107 #[.slice A0 l0.length c0, .int .i64 a1] w fun e w' => e = .returned (.tuple #[.int .i64 r1, .bool r2]) ∧ Below w.heap.size w w' := by
 have hu133 := Try.underlying133; have HR0 := zk hr0; have HC0 := zk hc0; clear hr0 hc0; have HB := zk (Below.refl w.heap.size w); have H : (if a1 < 0 then (some (0, false)) else (sets_Select.l0 k a1 l0 (l0.length : Int) 0)) = some (r1, r2) := h; clear h; by_cases c3 : a1 < 0
 ·rw [if_pos c3] at H; have c3b0 : decide (a1 < 0) = true := decide_eq_true c3; clear c3; simp only [Option.some.injEq, Prod.mk.injEq] at H; obtain ⟨rfl, rfl⟩ := H; go_enter Try.func107, Try.ntmps107
  go_wp2
  go_ret2
  exact ⟨ze, zU HB.out⟩
 ·rw [if_neg c3] at H; have c3b0 : decide (a1 < 0) = false := decide_eq_false c3; clear c3; have H' := zk H; clear H; go_enter Try.func107, Try.ntmps107
  go_wp2
  go_loopg [1, 12] k (fun kq v1 v12 w' => ∃ (x1_1 : Int) (x12_1 : Int), v1 = .int .i64 x1_1 ∧ v12 = .int .i64 x12_1 ∧ Aside0 (sets_Select.l0 kq x1_1 l0 (l0.length : Int) x12_1 = some (r1, r2)) ∧ Aside0 (kq ≤ k) ∧ Aside0 (Below w.heap.size w w'))
  case atStart => exact ⟨(a1), (0), zR, zR, H', ⟨Nat.le_refl _⟩, ⟨zU HB.out⟩⟩
  case round =>
   clear H'; (try clear c1); (try clear p2); (try clear c3); (try clear c3b0); obtain ⟨x1_1, x12_1, rfl, rfl, HA, HK1, HB⟩ := hrel
   cases gk with
   | zero => exact absurd HA.out (by simp [sets_Select.l0])
   | succ k1 =>
    have H := HA.out; clear HA; simp only [sets_Select.l0] at H; by_cases c4 : x12_1 < (l0.length : Int)
    ·rw [if_pos c4] at H; have c4b0 : decide (x12_1 < (l0.length : Int)) = true := decide_eq_true c4; clear c4; by_cases c5 : 0 ≤ x12_1
     ·rw [if_pos c5] at H; have c5b0 : decide (0 ≤ x12_1) = true := decide_eq_true c5; clear c5; by_cases c6 : x12_1 < (l0.length : Int)
      ·rw [if_pos c6] at H; have c6b0 : decide (x12_1 < (l0.length : Int)) = true := decide_eq_true c6; clear c6; by_cases c7 : x1_1 ≤ (wrap64 (((rd_T133 l0 x12_1).f1) - ((rd_T133 l0 x12_1).f0)))
       ·rw [if_pos c7] at H; have c7b0 : decide (x1_1 ≤ (wrap64 (((rd_T133 l0 x12_1).f1) - ((rd_T133 l0 x12_1).f0)))) = true := decide_eq_true c7; clear c7; simp only [Option.some.injEq, Prod.mk.injEq] at H; obtain ⟨rfl, rfl⟩ := H; have p150 : 0 ≤ (x12_1 : Int) := zT; have q150 : x12_1 < (l0.length : Int) := zT; obtain ⟨ad150, e150, hx150_0, hx150_1⟩ := at_T133 HR0.out x12_1 p150 q150; cases e150; replace hx150_0 := zcl HB.out hx150_0; replace hx150_1 := zcl HB.out hx150_1; replace p150 := eq_true p150; replace q150 := eq_true q150; go_wp2_with (first | ((with_reducible refine gate_dst (N := 7) rfl ?_); refine box_event ?hg (N := 7) ?hd (cs := #[.int .i64 0, .int .i64 0]) (t := 133) ?hr ?_; (case hd => rfl); (case hg => rfl); (case hr => first | (go_simp; done) | (go_simp; rfl)); intro gb151 hg w8 hbox hb; have BK151 := zk (hbox); have GE151 := zk ((zg hg HB.out : w.heap.size ≤ gb151)); replace HB := zk (below_step (zU HB.out) hb);  clear hb hbox hg; have hcz9_0 : w8.cell? ⟨gb151, 0, none⟩ = some (.int .i64 0) := zh BK151.out 0; have hcz9_1 : w8.cell? ⟨gb151, 1, none⟩ = some (.int .i64 0) := zh BK151.out 1; have hfz9_0 := blk_frozen BK151.out 0; have hfz9_1 := blk_frozen BK151.out 1))
        go_ret2
        exact ⟨ze, zU HB.out⟩
       ·rw [if_neg c7] at H; have c7b0 : decide (x1_1 ≤ (wrap64 (((rd_T133 l0 x12_1).f1) - ((rd_T133 l0 x12_1).f0)))) = false := decide_eq_false c7; clear c7; have H' := zk H; clear H; have p150 : 0 ≤ (x12_1 : Int) := zT; have q150 : x12_1 < (l0.length : Int) := zT; obtain ⟨ad150, e150, hx150_0, hx150_1⟩ := at_T133 HR0.out x12_1 p150 q150; cases e150; replace hx150_0 := zcl HB.out hx150_0; replace hx150_1 := zcl HB.out hx150_1; replace p150 := eq_true p150; replace q150 := eq_true q150; go_wp2_with (first | ((with_reducible refine gate_dst (N := 7) rfl ?_); refine box_event ?hg (N := 7) ?hd (cs := #[.int .i64 0, .int .i64 0]) (t := 133) ?hr ?_; (case hd => rfl); (case hg => rfl); (case hr => first | (go_simp; done) | (go_simp; rfl)); intro gb151 hg w10 hbox hb; have BK151 := zk (hbox); have GE151 := zk ((zg hg HB.out : w.heap.size ≤ gb151)); replace HB := zk (below_step (zU HB.out) hb);  clear hb hbox hg; have hcz11_0 : w10.cell? ⟨gb151, 0, none⟩ = some (.int .i64 0) := zh BK151.out 0; have hcz11_1 : w10.cell? ⟨gb151, 1, none⟩ = some (.int .i64 0) := zh BK151.out 1; have hfz11_0 := blk_frozen BK151.out 0; have hfz11_1 := blk_frozen BK151.out 1))
        go_roundg k1
        case measure => have := HK1.out; omega
        case rel => exact ⟨(wrap64 (x1_1 - (wrap64 ((wrap64 (((rd_T133 l0 x12_1).f1) - ((rd_T133 l0 x12_1).f0))) + 1)))), (wrap64 (x12_1 + 1)), zR, zR, H', ⟨by have := HK1.out; omega⟩, ⟨zU HB.out⟩⟩
      ·rw [if_neg c6] at H; exact absurd H (by simp)
     ·rw [if_neg c5] at H; exact absurd H (by simp)
    ·rw [if_neg c4] at H; have c4b0 : decide (x12_1 < (l0.length : Int)) = false := decide_eq_false c4; clear c4; simp only [Option.some.injEq, Prod.mk.injEq] at H; obtain ⟨rfl, rfl⟩ := H; go_wp2
     go_ret2
     exact ⟨ze, zU HB.out⟩
def sets_Size.l0 : Nat → Int → List (S133) → Int → Int → Option (Int)
 | 0, _, _, _, _ => none
 | k + 1, x3, x6, x7, x8 => if x8 < x7 then (if 0 ≤ x8 then (if x8 < (x6.length : Int) then (sets_Size.l0 k (wrap64 (x3 + (wrap64 ((wrap64 (((rd_T133 x6 x8).f1) - ((rd_T133 x6 x8).f0))) + 1)))) x6 x7 (wrap64 (x8 + 1))) else (none)) else (none)) else (some x3)
def sets_Size.f (k : Nat) (l0 : List (S133)) : Option (Int) := sets_Size.l0 k 0 l0 (l0.length : Int) 0
set_option maxHeartbeats 8000000 in
set_option maxRecDepth 100000 in
theorem sets_Size.calls (k : Nat) (A0 : Option Addr) (c0 : Nat) (l0 : List (S133)) (r : Int) (w : World) (hr0 : Kd.C k133 w A0 l0.length l0) (hc0 : l0.length ≤ c0) (h : sets_Size.f k l0 = some r) :
 Calls Try.prog 108 #[.slice A0 l0.length c0] w fun e w' => e = .returned (.int .i64 r) ∧ Below w.heap.size w w' := by
 have hu133 := Try.underlying133; have HR0 := zk hr0; have HC0 := zk hc0; clear hr0 hc0; have HB := zk (Below.refl w.heap.size w); have H : (sets_Size.l0 k 0 l0 (l0.length : Int) 0) = some r := h; clear h; have H' := zk H; clear H; go_enter Try.func108, Try.ntmps108
 go_wp2
 go_loopg [3, 8] k (fun kq v3 v8 w' => ∃ (x3_1 : Int) (x8_1 : Int), v3 = .int .i64 x3_1 ∧ v8 = .int .i64 x8_1 ∧ Aside0 (sets_Size.l0 kq x3_1 l0 (l0.length : Int) x8_1 = some r) ∧ Aside0 (kq ≤ k) ∧ Aside0 (Below w.heap.size w w'))
 case atStart => exact ⟨(0), (0), zR, zR, H', ⟨Nat.le_refl _⟩, ⟨zU HB.out⟩⟩
 case round =>
  clear H'; (try clear c1); obtain ⟨x3_1, x8_1, rfl, rfl, HA, HK1, HB⟩ := hrel
  cases gk with
  | zero => exact absurd HA.out (by simp [sets_Size.l0])
  | succ k1 =>
   have H := HA.out; clear HA; simp only [sets_Size.l0] at H; by_cases c2 : x8_1 < (l0.length : Int)
   ·rw [if_pos c2] at H; have c2b0 : decide (x8_1 < (l0.length : Int)) = true := decide_eq_true c2; clear c2; by_cases c3 : 0 ≤ x8_1
    ·rw [if_pos c3] at H; have c3b0 : decide (0 ≤ x8_1) = true := decide_eq_true c3; clear c3; by_cases c4 : x8_1 < (l0.length : Int)
     ·rw [if_pos c4] at H; have c4b0 : decide (x8_1 < (l0.length : Int)) = true := decide_eq_true c4; clear c4; have H' := zk H; clear H; have p157 : 0 ≤ (x8_1 : Int) := zT; have q157 : x8_1 < (l0.length : Int) := zT; obtain ⟨ad157, e157, hx157_0, hx157_1⟩ := at_T133 HR0.out x8_1 p157 q157; cases e157; replace hx157_0 := zcl HB.out hx157_0; replace hx157_1 := zcl HB.out hx157_1; replace p157 := eq_true p157; replace q157 := eq_true q157; go_wp2_with (first | ((with_reducible refine gate_dst (N := 5) rfl ?_); refine box_event ?hg (N := 5) ?hd (cs := #[.int .i64 0, .int .i64 0]) (t := 133) ?hr ?_; (case hd => rfl); (case hg => rfl); (case hr => first | (go_simp; done) | (go_simp; rfl)); intro gb158 hg w5 hbox hb; have BK158 := zk (hbox); have GE158 := zk ((zg hg HB.out : w.heap.size ≤ gb158)); replace HB := zk (below_step (zU HB.out) hb);  clear hb hbox hg; have hcz6_0 : w5.cell? ⟨gb158, 0, none⟩ = some (.int .i64 0) := zh BK158.out 0; have hcz6_1 : w5.cell? ⟨gb158, 1, none⟩ = some (.int .i64 0) := zh BK158.out 1; have hfz6_0 := blk_frozen BK158.out 0; have hfz6_1 := blk_frozen BK158.out 1))
      go_roundg k1
      case measure => have := HK1.out; omega
      case rel => exact ⟨(wrap64 (x3_1 + (wrap64 ((wrap64 (((rd_T133 l0 x8_1).f1) - ((rd_T133 l0 x8_1).f0))) + 1)))), (wrap64 (x8_1 + 1)), zR, zR, H', ⟨by have := HK1.out; omega⟩, ⟨zU HB.out⟩⟩
     ·rw [if_neg c4] at H; exact absurd H (by simp)
    ·rw [if_neg c3] at H; exact absurd H (by simp)
   ·rw [if_neg c2] at H; have c2b0 : decide (x8_1 < (l0.length : Int)) = false := decide_eq_false c2; clear c2; obtain rfl := Option.some.inj H; go_wp2
    go_ret
    exact ⟨ze, zU HB.out⟩
end Go.Proofs.Ytoljcfocgaonpaa.I
