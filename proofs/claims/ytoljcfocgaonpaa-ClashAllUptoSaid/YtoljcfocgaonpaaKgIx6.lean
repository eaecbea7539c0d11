/- Words and walks of this claim, of the text Ix6. -/
import Derived.Test.YtoljcfocgaonpaaKgQW0
import Derived.Test.YtoljcfocgaonpaaKgIx0
import Derived.Test.YtoljcfocgaonpaaKgIx4
import Derived.Test.YtoljcfocgaonpaaKgIx5
namespace Go.Proofs.Ytoljcfocgaonpaa.I
open Go.RowKit Go.Proofs.YtoljcfocgaonpaaW.PrintWords Go.Proofs.YtoljcfocgaonpaaW.PrintLast Go.Proofs.YtoljcfocgaonpaaW.PrintMore
attribute [local go_sem] max2_int min2_int max_two min_two max_three min_three max_four min_four
set_option linter.unusedVariables false
set_option linter.unusedSimpArgs false
def api_Span_106.l0 : Nat → List (S133) → List (S34) → Int → Int → Option ((List (S133)))
 | 0, _, _, _, _ => none
 | k + 1, x3, x9, x10, x11 => if x11 < x10 then (if 0 ≤ x11 then (if x11 < (x9.length : Int) then (if x3.length < 8796093022208 then (api_Span_106.l0 k (x3 ++ [(⟨(rd_T34 x9 x11).f0, (rd_T34 x9 x11).f1⟩ : S133)]) x9 x10 (wrap64 (x11 + 1))) else (none)) else (none)) else (none)) else (some x3)
def api_Span_106.f (k : Nat) (l0 : List (S34)) : Option ((List (S133))) := if 0 ≤ (l0.length : Int) then (if ((l0.length : Int) : Int).toNat ≤ 17592186044416 then (api_Span_106.l0 k (([] : List (S133))) l0 (l0.length : Int) 0) else (none)) else (none)
set_option maxHeartbeats 8000000 in
set_option maxRecDepth 100000 in
theorem api_Span_106.calls (k : Nat) (A0 : Option Addr) (c0 : Nat) (l0 : List (S34)) (r : List (S133)) (w : World) (hr0 : Kd.C k34 w A0 l0.length l0) (hc0 : l0.length ≤ c0) (h : api_Span_106.f k l0 = some r) :
 Calls Try.prog 106 #[.slice A0 l0.length c0] w fun e w' => ∃ v0_ : Value, e = .returned (v0_) ∧ Kd.R k133 133 w' w.heap.size (fun _ => True) v0_ r ∧ Below w.heap.size w w' := by
 have hu34 := Try.underlying34; have HR0 := zk hr0; have HC0 := zk hc0; clear hr0 hc0; have HB := zk (Below.refl w.heap.size w); have H : (if 0 ≤ (l0.length : Int) then (if ((l0.length : Int) : Int).toNat ≤ 17592186044416 then (api_Span_106.l0 k (([] : List (S133))) l0 (l0.length : Int) 0) else (none)) else (none)) = some r := h; clear h; by_cases c2 : 0 ≤ (l0.length : Int)
 ·rw [if_pos c2] at H; have c2b0 := eq_true c2; have c2b1 : decide (0 ≤ (l0.length : Int)) = true := decide_eq_true c2; clear c2; by_cases c3 : ((l0.length : Int) : Int).toNat ≤ 17592186044416
  ·rw [if_pos c3] at H; have c3b0 := eq_true c3; have c3b1 : decide (((l0.length : Int) : Int).toNat ≤ 17592186044416) = true := decide_eq_true c3; clear c3; obtain ⟨y124, hy124⟩ : ∃ y_ : List (S133), y_ = (([] : List (S133))) := ⟨_, rfl⟩
   replace H : (api_Span_106.l0 k y124 l0 (l0.length : Int) 0) = some r := by first | (rw [hy124]; with_reducible exact H) | (have H2_ := (Option.bind_some _ _).symm.trans H; rw [hy124]; with_reducible exact H2_) | (have H2_ := (Option.bind_some _ _).symm.trans H; with_reducible exact H2_) | with_reducible exact H | (rw [hy124]; exact H) | exact H
   have Ny124 := zk hy124; clear hy124; have H' := zk H; clear H; go_enter Try.func106, Try.ntmps106
   go_wp2_with (first | ((with_reducible refine gate_dst (N := 8) rfl ?_); refine KdCap.R_makecap k133 _ 133 rfl (N := 8) rfl 97 _ _ rfl (l0.length : Int) rfl rfl Try.underlying97 (.agg #[(.int .i64 0), (.int .i64 0)]) 16 info133 (by decide) (ok := fun _ => True) (okp := fun _ => True) (fun _ hk => hk) trivial zT (Nat.le_trans (Nat.mul_le_mul_right _ (zT : (l0.length : Int).toNat ≤ 17592186044416)) (by omega)) (Below.refl _ _) (Nat.le_refl _) ?_; intro v125 w4 ho5 hb hg_ hnew_; clear hg_ hnew_; (first | rw [← Ny124.out] at ho5 | (simp only [Int.reduceToNat] at ho5; rw [← Ny124.out] at ho5)); have HO126 := zk (Kd.R_lower ho5 (below_size (zU HB.out))); replace HB := zk (below_step (zU HB.out) hb);  clear hb ho5))
   go_loopg [3, 11] k (fun kq v3 v11 w' => ∃ (x3_1 : List (S133)) (x11_1 : Int), v11 = .int .i64 x11_1 ∧ Aside0 (api_Span_106.l0 kq x3_1 l0 (l0.length : Int) x11_1 = some r) ∧ Aside0 (kq ≤ k) ∧ Aside0 (Kd.R k133 133 w' w.heap.size (fun _ => True) v3 x3_1) ∧ Aside0 (Below w.heap.size w w'))
   case atStart => exact ⟨(y124), (0), zR, H', ⟨Nat.le_refl _⟩, ⟨by (with_reducible repeat (first | apply zA | apply zB | apply zC)); exact HO126.out⟩, ⟨zU HB.out⟩⟩
   case round =>
    clear H'; (try clear c1); (try clear c2); (try clear c2b0); (try clear c2b1); (try clear p2); (try clear c3); (try clear c3b0); (try clear c3b1); obtain ⟨x3_1, x11_1, rfl, HA, HK1, HO_3, HB⟩ := hrel
    cases gk with
    | zero => exact absurd HA.out (by simp [api_Span_106.l0])
    | succ k1 =>
     have H := HA.out; clear HA; simp only [api_Span_106.l0] at H; by_cases c6 : x11_1 < (l0.length : Int)
     ·rw [if_pos c6] at H; have c6b0 : decide (x11_1 < (l0.length : Int)) = true := decide_eq_true c6; clear c6; by_cases c7 : 0 ≤ x11_1
      ·rw [if_pos c7] at H; have c7b0 : decide (0 ≤ x11_1) = true := decide_eq_true c7; clear c7; by_cases c8 : x11_1 < (l0.length : Int)
       ·rw [if_pos c8] at H; have c8b0 : decide (x11_1 < (l0.length : Int)) = true := decide_eq_true c8; clear c8; by_cases c9 : x3_1.length < 8796093022208
        ·rw [if_pos c9] at H; have LMc9 := zk c9; clear c9; obtain ⟨y129, hy129⟩ : ∃ y_ : List (S133), y_ = (x3_1 ++ [(⟨(rd_T34 l0 x11_1).f0, (rd_T34 l0 x11_1).f1⟩ : S133)]) := ⟨_, rfl⟩
         replace H : (api_Span_106.l0 k1 y129 l0 (l0.length : Int) (wrap64 (x11_1 + 1))) = some r := by first | (rw [hy129]; with_reducible exact H) | (have H2_ := (Option.bind_some _ _).symm.trans H; rw [hy129]; with_reducible exact H2_) | (have H2_ := (Option.bind_some _ _).symm.trans H; with_reducible exact H2_) | with_reducible exact H | (rw [hy129]; exact H) | exact H
         have Ny129 := zk hy129; clear hy129; have H' := zk H; clear H; have p127 : 0 ≤ (x11_1 : Int) := zT; have q127 : x11_1 < (l0.length : Int) := zT; obtain ⟨ad127, e127, hx127_0, hx127_1⟩ := at_T34 HR0.out x11_1 p127 q127; cases e127; replace hx127_0 := zcl HB.out hx127_0; replace hx127_1 := zcl HB.out hx127_1; replace p127 := eq_true p127; replace q127 := eq_true q127; go_wp2_with (first | ((with_reducible refine gate_dst (N := 5) rfl ?_); refine box_event ?hg (N := 5) ?hd (cs := #[.int .i64 0, .int .i64 0]) (t := 34) ?hr ?_; (case hd => rfl); (case hg => rfl); (case hr => first | (go_simp; done) | (go_simp; rfl)); intro gb128 hg w10 hbox hb; replace HO_3 := zk (Kd.R_below (zr HO_3.out) hb); have BK128 := zk (hbox); have GE128 := zk ((zg hg HB.out : w.heap.size ≤ gb128)); replace HB := zk (below_step (zU HB.out) hb);  clear hb hbox hg; have hcz11_0 : w10.cell? ⟨gb128, 0, none⟩ = some (.int .i64 0) := zh BK128.out 0; have hcz11_1 : w10.cell? ⟨gb128, 1, none⟩ = some (.int .i64 0) := zh BK128.out 1; have hfz11_0 := blk_frozen BK128.out 0; have hfz11_1 := blk_frozen BK128.out 1) | ((with_reducible refine gate_builtin (b := .append) (xs := #[.tmp 15, .tmp 17]) rfl ?_); at_builtin; refine Kd.R_append k133 (w0 := w) w.heap.size rfl (.tmp 15) (.tmp 17) 97 133 (.agg #[(.int .i64 0), (.int .i64 0)]) 16 rfl Try.underlying97 info133 rfl (by decide) (by omega) u3 x3_1 (⟨(rd_T34 l0 x11_1).f0, (rd_T34 l0 x11_1).f1⟩ : S133) [.int .i64 ((rd_T34 l0 x11_1).f0), .int .i64 ((rd_T34 l0 x11_1).f1)] (fun _ => True) (fun _ => False) rfl (by first | (go_simp; done) | (go_simp; rfl)) ?aP (fun _ hk => hk.elim) ?aF ?aO ?aB ?aS ?aL ?_; (case aP => exact k133_mkM _ _ _ (⟨(rd_T34 l0 x11_1).f0, (rd_T34 l0 x11_1).f1⟩ : S133)); (case aB => exact (zU HB.out)); (case aF => exact (fun _ _ => trivial)); (case aO => exact (by (with_reducible repeat (first | apply zA | apply zB | apply zC)); exact Kd.R_mono (Kd.R_far (p := ⟨gb128, 1, none⟩) (Kd.R_far (p := ⟨gb128, 0, none⟩) (Kd.R_types HO_3.out BK128.out (by decide)) (fun _ hk => hk.2) (.int .i64 ((rd_T34 l0 x11_1).f0))) (fun _ hk => hk.2) (.int .i64 ((rd_T34 l0 x11_1).f1))) (fun _ hk => trivial))); (case aS => exact (below_size (zU HB.out))); (case aL => have := LMc9.out; omega); intro v130 w12 ho hb hg hat; rw [← Ny129.out] at ho; have n0_ := zk (blk_grown (g := gb128) (o := .cells #[.int .i64 ((rd_T34 l0 x11_1).f0), .int .i64 ((rd_T34 l0 x11_1).f1)] 34 (0, 0)) (by (with_reducible repeat (first | refine blk_drewN ?_ _ | refine blk_drew ?_ | refine blk_alloc ?_ _)); refine blk_put (cs := #[.int .i64 ((rd_T34 l0 x11_1).f0), .int .i64 0]) ?_ 1 _ rfl; (with_reducible repeat (first | refine blk_drewN ?_ _ | refine blk_drew ?_ | refine blk_alloc ?_ _)); refine blk_put (cs := #[.int .i64 0, .int .i64 0]) ?_ 0 _ rfl; exact zb BK128.out) hg (Kd.R_ne HO_3.out BK128.out (by decide))); have n1_ := zk (hb); have n2_ := zk (ho); clear BK128; clear HB; clear HO_3; have BK128 := n0_; have HB := n1_; have HO131 := n2_; clear n0_ n1_ n2_; clear ho hb hg hat))
         go_roundg k1
         case measure => have := HK1.out; omega
         case rel => exact ⟨(y129), (wrap64 (x11_1 + 1)), zR, H', ⟨by have := HK1.out; omega⟩, ⟨by (with_reducible repeat (first | apply zA | apply zB | apply zC)); exact HO131.out⟩, ⟨zU HB.out⟩⟩
        ·rw [if_neg c9] at H; exact absurd H (by simp)
       ·rw [if_neg c8] at H; exact absurd H (by simp)
      ·rw [if_neg c7] at H; exact absurd H (by simp)
     ·rw [if_neg c6] at H; have c6b0 : decide (x11_1 < (l0.length : Int)) = false := decide_eq_false c6; clear c6; obtain rfl := Option.some.inj H; go_wp2
      go_ret
      exact ⟨_, ze, by (with_reducible repeat (first | apply zA | apply zB | apply zC)); exact HO_3.out, zU HB.out⟩
  ·rw [if_neg c3] at H; exact absurd H (by simp)
 ·rw [if_neg c2] at H; exact absurd H (by simp)
def sets_Valid.l0 : Nat → Int → Int → List (S133) → Int → Int → Option (Bool)
 | 0, _, _, _, _, _ => none
 | k + 1, x1, x5, x8, x9, x10 => if x10 < x9 then (if 0 ≤ x10 then (if x10 < (x8.length : Int) then (if ((rd_T133 x8 x10).f0) < 0 then (some false) else (if ((rd_T133 x8 x10).f0) > ((rd_T133 x8 x10).f1) then (some false) else (if ((rd_T133 x8 x10).f1) > x1 then (some false) else (if (wrap64 (((rd_T133 x8 x10).f0) - 1)) ≤ x5 then (some false) else (sets_Valid.l0 k x1 ((rd_T133 x8 x10).f1) x8 x9 (wrap64 (x10 + 1))))))) else (none)) else (none)) else (some true)
def sets_Valid.f (k : Nat) (l0 : List (S133)) (a1 : Int) : Option (Bool) := sets_Valid.l0 k a1 (-2) l0 (l0.length : Int) 0
set_option maxHeartbeats 8000000 in
set_option maxRecDepth 100000 in
theorem sets_Valid.calls (k : Nat) (A0 : Option Addr) (c0 : Nat) (l0 : List (S133)) (a1 : Int) (r : Bool) (w : World) (hr0 : Kd.C k133 w A0 l0.length l0) (hc0 : l0.length ≤ c0) (h : sets_Valid.f k l0 a1 = some r) :
 Calls Try.prog 110 #[.slice A0 l0.length c0, .int .i64 a1] w fun e w' => e = .returned (.bool r) ∧ Below w.heap.size w w' := by
 have hu133 := Try.underlying133; have HR0 := zk hr0; have HC0 := zk hc0; clear hr0 hc0; have HB := zk (Below.refl w.heap.size w); have H : (sets_Valid.l0 k a1 (-2) l0 (l0.length : Int) 0) = some r := h; clear h; have H' := zk H; clear H; go_enter Try.func110, Try.ntmps110
 go_wp2
 go_loopg [5, 10] k (fun kq v5 v10 w' => ∃ (x5_1 : Int) (x10_1 : Int), v5 = .int .i64 x5_1 ∧ v10 = .int .i64 x10_1 ∧ Aside0 (sets_Valid.l0 kq a1 x5_1 l0 (l0.length : Int) x10_1 = some r) ∧ Aside0 (kq ≤ k) ∧ Aside0 (Below w.heap.size w w'))
 case atStart => exact ⟨((-2)), (0), zR, zR, H', ⟨Nat.le_refl _⟩, ⟨zU HB.out⟩⟩
 case round =>
  clear H'; (try clear c1); (try clear p2); obtain ⟨x5_1, x10_1, rfl, rfl, HA, HK1, HB⟩ := hrel
  cases gk with
  | zero => exact absurd HA.out (by simp [sets_Valid.l0])
  | succ k1 =>
   have H := HA.out; clear HA; simp only [sets_Valid.l0] at H; by_cases c3 : x10_1 < (l0.length : Int)
   ·rw [if_pos c3] at H; have c3b0 : decide (x10_1 < (l0.length : Int)) = true := decide_eq_true c3; clear c3; by_cases c4 : 0 ≤ x10_1
    ·rw [if_pos c4] at H; have c4b0 : decide (0 ≤ x10_1) = true := decide_eq_true c4; clear c4; by_cases c5 : x10_1 < (l0.length : Int)
     ·rw [if_pos c5] at H; have c5b0 : decide (x10_1 < (l0.length : Int)) = true := decide_eq_true c5; clear c5; by_cases c6 : ((rd_T133 l0 x10_1).f0) < 0
      ·rw [if_pos c6] at H; have c6b0 : decide (((rd_T133 l0 x10_1).f0) < 0) = true := decide_eq_true c6; clear c6; obtain rfl := Option.some.inj H; have p144 : 0 ≤ (x10_1 : Int) := zT; have q144 : x10_1 < (l0.length : Int) := zT; obtain ⟨ad144, e144, hx144_0, hx144_1⟩ := at_T133 HR0.out x10_1 p144 q144; cases e144; replace hx144_0 := zcl HB.out hx144_0; replace hx144_1 := zcl HB.out hx144_1; replace p144 := eq_true p144; replace q144 := eq_true q144; go_wp2_with (first | ((with_reducible refine gate_dst (N := 7) rfl ?_); refine box_event ?hg (N := 7) ?hd (cs := #[.int .i64 0, .int .i64 0]) (t := 133) ?hr ?_; (case hd => rfl); (case hg => rfl); (case hr => first | (go_simp; done) | (go_simp; rfl)); intro gb145 hg w7 hbox hb; have BK145 := zk (hbox); have GE145 := zk ((zg hg HB.out : w.heap.size ≤ gb145)); replace HB := zk (below_step (zU HB.out) hb);  clear hb hbox hg; have hcz8_0 : w7.cell? ⟨gb145, 0, none⟩ = some (.int .i64 0) := zh BK145.out 0; have hcz8_1 : w7.cell? ⟨gb145, 1, none⟩ = some (.int .i64 0) := zh BK145.out 1; have hfz8_0 := blk_frozen BK145.out 0; have hfz8_1 := blk_frozen BK145.out 1))
       go_ret
       exact ⟨ze, zU HB.out⟩
      ·rw [if_neg c6] at H; have c6b0 : decide (((rd_T133 l0 x10_1).f0) < 0) = false := decide_eq_false c6; clear c6; by_cases c9 : ((rd_T133 l0 x10_1).f0) > ((rd_T133 l0 x10_1).f1)
       ·rw [if_pos c9] at H; have c9b0 : decide (((rd_T133 l0 x10_1).f1) < ((rd_T133 l0 x10_1).f0)) = true := decide_eq_true c9; clear c9; obtain rfl := Option.some.inj H; have p144 : 0 ≤ (x10_1 : Int) := zT; have q144 : x10_1 < (l0.length : Int) := zT; obtain ⟨ad144, e144, hx144_0, hx144_1⟩ := at_T133 HR0.out x10_1 p144 q144; cases e144; replace hx144_0 := zcl HB.out hx144_0; replace hx144_1 := zcl HB.out hx144_1; replace p144 := eq_true p144; replace q144 := eq_true q144; go_wp2_with (first | ((with_reducible refine gate_dst (N := 7) rfl ?_); refine box_event ?hg (N := 7) ?hd (cs := #[.int .i64 0, .int .i64 0]) (t := 133) ?hr ?_; (case hd => rfl); (case hg => rfl); (case hr => first | (go_simp; done) | (go_simp; rfl)); intro gb145 hg w10 hbox hb; have BK145 := zk (hbox); have GE145 := zk ((zg hg HB.out : w.heap.size ≤ gb145)); replace HB := zk (below_step (zU HB.out) hb);  clear hb hbox hg; have hcz11_0 : w10.cell? ⟨gb145, 0, none⟩ = some (.int .i64 0) := zh BK145.out 0; have hcz11_1 : w10.cell? ⟨gb145, 1, none⟩ = some (.int .i64 0) := zh BK145.out 1; have hfz11_0 := blk_frozen BK145.out 0; have hfz11_1 := blk_frozen BK145.out 1))
        go_ret
        exact ⟨ze, zU HB.out⟩
       ·rw [if_neg c9] at H; have c9b0 : decide (((rd_T133 l0 x10_1).f1) < ((rd_T133 l0 x10_1).f0)) = false := decide_eq_false c9; clear c9; by_cases c12 : ((rd_T133 l0 x10_1).f1) > a1
        ·rw [if_pos c12] at H; have c12b0 : decide (a1 < ((rd_T133 l0 x10_1).f1)) = true := decide_eq_true c12; clear c12; obtain rfl := Option.some.inj H; have p144 : 0 ≤ (x10_1 : Int) := zT; have q144 : x10_1 < (l0.length : Int) := zT; obtain ⟨ad144, e144, hx144_0, hx144_1⟩ := at_T133 HR0.out x10_1 p144 q144; cases e144; replace hx144_0 := zcl HB.out hx144_0; replace hx144_1 := zcl HB.out hx144_1; replace p144 := eq_true p144; replace q144 := eq_true q144; go_wp2_with (first | ((with_reducible refine gate_dst (N := 7) rfl ?_); refine box_event ?hg (N := 7) ?hd (cs := #[.int .i64 0, .int .i64 0]) (t := 133) ?hr ?_; (case hd => rfl); (case hg => rfl); (case hr => first | (go_simp; done) | (go_simp; rfl)); intro gb145 hg w13 hbox hb; have BK145 := zk (hbox); have GE145 := zk ((zg hg HB.out : w.heap.size ≤ gb145)); replace HB := zk (below_step (zU HB.out) hb);  clear hb hbox hg; have hcz14_0 : w13.cell? ⟨gb145, 0, none⟩ = some (.int .i64 0) := zh BK145.out 0; have hcz14_1 : w13.cell? ⟨gb145, 1, none⟩ = some (.int .i64 0) := zh BK145.out 1; have hfz14_0 := blk_frozen BK145.out 0; have hfz14_1 := blk_frozen BK145.out 1))
         go_ret
         exact ⟨ze, zU HB.out⟩
        ·rw [if_neg c12] at H; have c12b0 : decide (a1 < ((rd_T133 l0 x10_1).f1)) = false := decide_eq_false c12; clear c12; by_cases c15 : (wrap64 (((rd_T133 l0 x10_1).f0) - 1)) ≤ x5_1
         ·rw [if_pos c15] at H; have c15b0 : decide ((wrap64 (((rd_T133 l0 x10_1).f0) - 1)) ≤ x5_1) = true := decide_eq_true c15; clear c15; obtain rfl := Option.some.inj H; have p144 : 0 ≤ (x10_1 : Int) := zT; have q144 : x10_1 < (l0.length : Int) := zT; obtain ⟨ad144, e144, hx144_0, hx144_1⟩ := at_T133 HR0.out x10_1 p144 q144; cases e144; replace hx144_0 := zcl HB.out hx144_0; replace hx144_1 := zcl HB.out hx144_1; replace p144 := eq_true p144; replace q144 := eq_true q144; go_wp2_with (first | ((with_reducible refine gate_dst (N := 7) rfl ?_); refine box_event ?hg (N := 7) ?hd (cs := #[.int .i64 0, .int .i64 0]) (t := 133) ?hr ?_; (case hd => rfl); (case hg => rfl); (case hr => first | (go_simp; done) | (go_simp; rfl)); intro gb145 hg w16 hbox hb; have BK145 := zk (hbox); have GE145 := zk ((zg hg HB.out : w.heap.size ≤ gb145)); replace HB := zk (below_step (zU HB.out) hb);  clear hb hbox hg; have hcz17_0 : w16.cell? ⟨gb145, 0, none⟩ = some (.int .i64 0) := zh BK145.out 0; have hcz17_1 : w16.cell? ⟨gb145, 1, none⟩ = some (.int .i64 0) := zh BK145.out 1; have hfz17_0 := blk_frozen BK145.out 0; have hfz17_1 := blk_frozen BK145.out 1))
          go_ret
          exact ⟨ze, zU HB.out⟩
         ·rw [if_neg c15] at H; have c15b0 : decide ((wrap64 (((rd_T133 l0 x10_1).f0) - 1)) ≤ x5_1) = false := decide_eq_false c15; clear c15; have H' := zk H; clear H; have p144 : 0 ≤ (x10_1 : Int) := zT; have q144 : x10_1 < (l0.length : Int) := zT; obtain ⟨ad144, e144, hx144_0, hx144_1⟩ := at_T133 HR0.out x10_1 p144 q144; cases e144; replace hx144_0 := zcl HB.out hx144_0; replace hx144_1 := zcl HB.out hx144_1; replace p144 := eq_true p144; replace q144 := eq_true q144; go_wp2_with (first | ((with_reducible refine gate_dst (N := 7) rfl ?_); refine box_event ?hg (N := 7) ?hd (cs := #[.int .i64 0, .int .i64 0]) (t := 133) ?hr ?_; (case hd => rfl); (case hg => rfl); (case hr => first | (go_simp; done) | (go_simp; rfl)); intro gb145 hg w18 hbox hb; have BK145 := zk (hbox); have GE145 := zk ((zg hg HB.out : w.heap.size ≤ gb145)); replace HB := zk (below_step (zU HB.out) hb);  clear hb hbox hg; have hcz19_0 : w18.cell? ⟨gb145, 0, none⟩ = some (.int .i64 0) := zh BK145.out 0; have hcz19_1 : w18.cell? ⟨gb145, 1, none⟩ = some (.int .i64 0) := zh BK145.out 1; have hfz19_0 := blk_frozen BK145.out 0; have hfz19_1 := blk_frozen BK145.out 1))
          go_roundg k1
          case measure => have := HK1.out; omega
          case rel => exact ⟨((rd_T133 l0 x10_1).f1), (wrap64 (x10_1 + 1)), zR, zR, H', ⟨by have := HK1.out; omega⟩, ⟨zU HB.out⟩⟩
     ·rw [if_neg c5] at H; exact absurd H (by simp)
    ·rw [if_neg c4] at H; exact absurd H (by simp)
   ·rw [if_neg c3] at H; have c3b0 : decide (x10_1 < (l0.length : Int)) = false := decide_eq_false c3; clear c3; obtain rfl := Option.some.inj H; go_wp2
    go_ret
    exact ⟨ze, zU HB.out⟩
def spans_set.f (k : Nat) (l0 : List (S34)) : Option ((List (S133))) := (api_Span_106.f k l0).bind fun t146 => ((sets_Valid.f k t146 255).bind fun t149 => (if t149 = true then (some t146) else (some ([] : List (S133)))))
set_option maxHeartbeats 8000000 in
set_option maxRecDepth 100000 in
theorem spans_set.calls (k : Nat) (A0 : Option Addr) (c0 : Nat) (l0 : List (S34)) (r : List (S133)) (w : World) (hr0 : Kd.C k34 w A0 l0.length l0) (hc0 : l0.length ≤ c0) (h : spans_set.f k l0 = some r) :
 Calls Try.prog 60 #[.slice A0 l0.length c0] w fun e w' => ∃ v0_ : Value, e = .returned (v0_) ∧ Kd.R k133 133 w' w.heap.size (fun _ => True) v0_ r ∧ Below w.heap.size w w' := by
 have HR0 := zk hr0; have HC0 := zk hc0; clear hr0 hc0; have HB := zk (Below.refl w.heap.size w); have H : ((api_Span_106.f k l0).bind fun t146 => ((sets_Valid.f k t146 255).bind fun t149 => (if t149 = true then (some t146) else (some ([] : List (S133)))))) = some r := h; clear h; replace H := Option.bind_eq_some_iff.mp H; obtain ⟨t146, A20, H⟩ := H; replace H : ((sets_Valid.f k t146 255).bind fun t149 => (if t149 = true then (some t146) else (some ([] : List (S133))))) = some r := H; have A2 := zk A20; clear A20; replace H := Option.bind_eq_some_iff.mp H; obtain ⟨t149, A30, H⟩ := H; replace H : (if t149 = true then (some t146) else (some ([] : List (S133)))) = some r := H; have A3 := zk A30; clear A30; by_cases c4 : t149 = true
 ·subst c4; have H1 : (some t146) = some r := by rw [if_pos rfl] at H; exact H
  clear H; have H := H1; clear H1; obtain rfl := Option.some.inj H; go_enter Try.func60, Try.ntmps60
  go_wp2_with (first | ((with_reducible refine gate_callee (f := 106) rfl ?_); refine goesL_ (some 5) rfl rfl Try.func106 zz rfl #[.slice A0 l0.length c0] rfl zM ?_; (with_reducible refine (api_Span_106.calls k _ _ l0 t146 _ ?side1 ?side2 A2.out).mono ?_); (case side1 => exact zc HR0.out); (case side2 => exact HC0.out); rintro e w5 ⟨v147, rfl, ho0, hb⟩; refine ⟨_, rfl, ?_⟩; have HO148 := zk (Kd.R_lower ho0 (below_size (zU HB.out))); replace HB := zk (below_step (zU HB.out) hb);  (try clear hb); (try clear hb2); (try clear hk); (try clear hi); (try clear ho0); obtain ⟨Ao6, co6, eo6⟩ := Kd.R_slice HO148.out; subst eo6) | ((with_reducible refine gate_callee (f := 110) rfl ?_); refine goesL_ (some 7) rfl rfl Try.func110 zz rfl #[.slice Ao6 t146.length co6, .int .i64 255] rfl zM ?_; (with_reducible refine (sets_Valid.calls k _ _ t146 255 true _ ?side1 ?side2 A3.out).mono ?_); (case side1 => exact zc (Kd.R_reads' HO148.out).2.2); (case side2 => exact (Kd.R_reads' HO148.out).2.1); rintro e w7 ⟨rfl, hb⟩; refine ⟨_, rfl, ?_⟩; replace HO148 := zk (Kd.R_below (zr HO148.out) hb); replace HB := zk (below_step (zU HB.out) hb);  (try clear hb); (try clear hb2); (try clear hk); (try clear hi)))
  go_ret
  exact ⟨_, ze, by (with_reducible repeat (first | apply zA | apply zB | apply zC)); exact HO148.out, zU HB.out⟩
 ·replace c4 := Bool.eq_false_iff.mpr c4; subst c4; have H1 : (some ([] : List (S133))) = some r := by rw [if_neg (show ¬ (false = true) by decide)] at H; exact H
  clear H; have H := H1; clear H1; obtain rfl := Option.some.inj H; go_enter Try.func60, Try.ntmps60
  go_wp2_with (first | ((with_reducible refine gate_callee (f := 106) rfl ?_); refine goesL_ (some 5) rfl rfl Try.func106 zz rfl #[.slice A0 l0.length c0] rfl zM ?_; (with_reducible refine (api_Span_106.calls k _ _ l0 t146 _ ?side1 ?side2 A2.out).mono ?_); (case side1 => exact zc HR0.out); (case side2 => exact HC0.out); rintro e w8 ⟨v147, rfl, ho0, hb⟩; refine ⟨_, rfl, ?_⟩; have HO148 := zk (Kd.R_lower ho0 (below_size (zU HB.out))); replace HB := zk (below_step (zU HB.out) hb);  (try clear hb); (try clear hb2); (try clear hk); (try clear hi); (try clear ho0); obtain ⟨Ao9, co9, eo9⟩ := Kd.R_slice HO148.out; subst eo9) | ((with_reducible refine gate_callee (f := 110) rfl ?_); refine goesL_ (some 7) rfl rfl Try.func110 zz rfl #[.slice Ao9 t146.length co9, .int .i64 255] rfl zM ?_; (with_reducible refine (sets_Valid.calls k _ _ t146 255 false _ ?side1 ?side2 A3.out).mono ?_); (case side1 => exact zc (Kd.R_reads' HO148.out).2.2); (case side2 => exact (Kd.R_reads' HO148.out).2.1); rintro e w10 ⟨rfl, hb⟩; refine ⟨_, rfl, ?_⟩; replace HO148 := zk (Kd.R_below (zr HO148.out) hb); replace HB := zk (below_step (zU HB.out) hb);  (try clear hb); (try clear hb2); (try clear hk); (try clear hi)))
  go_ret
  exact ⟨_, ze, by first | exact Kd.R_nil _ _ _ _ _ | exact Kd.N_nil _ _ _ _ _ | exact Kd.V_nil _ _ _ _ _ | exact Kd.Q_nil _ _ _ _ _ | exact Kd.S_nil _ _ _ _ _, zU HB.out⟩
def sets_Select.l0 : Nat → Int → List (S133) → Int → Int → Option (Int × Bool)
 | 0, _, _, _, _ => none
 | k + 1, x1, x10, x11, x12 => if x12 < x11 then (if 0 ≤ x12 then (if x12 < (x10.length : Int) then (if x1 ≤ (wrap64 (((rd_T133 x10 x12).f1) - ((rd_T133 x10 x12).f0))) then (some (wrap64 (((rd_T133 x10 x12).f0) + x1), true)) else (sets_Select.l0 k (wrap64 (x1 - (wrap64 ((wrap64 (((rd_T133 x10 x12).f1) - ((rd_T133 x10 x12).f0))) + 1)))) x10 x11 (wrap64 (x12 + 1)))) else (none)) else (none)) else (some (0, false))
def sets_Select.f (k : Nat) (l0 : List (S133)) (a1 : Int) : Option (Int × Bool) := if a1 < 0 then (some (0, false)) else (sets_Select.l0 k a1 l0 (l0.length : Int) 0)
set_option maxHeartbeats 8000000 in
set_option maxRecDepth 100000 in
theorem sets_Select.calls (k : Nat) (A0 : Option Addr) (c0 : Nat) (l0 : List (S133)) (a1 : Int) (r1 : Int) (r2 : Bool) (w : World) (hr0 : Kd.C k133 w A0 l0.length l0) (hc0 : l0.length ≤ c0) (h : sets_Select.f k l0 a1 = some (r1, r2)) :
 Calls Try.prog 107 #[.slice A0 l0.length c0, .int .i64 a1] w fun e w' => e = .returned (.tuple #[.int .i64 r1, .bool r2]) ∧ Below w.heap.size w w' := by
 have hu133 := Try.underlying133; have HR0 := zk hr0; have HC0 := zk hc0; clear hr0 hc0; have HB := zk (Below.refl w.heap.size w); have H : (if a1 < 0 then (some (0, false)) else (sets_Select.l0 k a1 l0 (l0.length : Int) 0)) = some (r1, r2) := h; clear h; by_cases c3 : a1 < 0
 ·rw [if_pos c3] at H; have c3b0 : decide (a1 < 0) = true := decide_eq_true c3; clear c3; simp only [Option.some.injEq, Prod.mk.injEq] at H; obtain ⟨rfl, rfl⟩ := H; go_enter Try.func107, Try.ntmps107
  go_wp2
  go_ret2
  exact ⟨ze, zU HB.out⟩
 ·rw [if_neg c3] at H; have c3b0 : decide (a1 < 0) = false := decide_eq_false c3; clear c3; have H' := zk H; clear H; go_enter Try.func107, Try.ntmps107
  go_wp2
  go_loopg [1, 12] k (fun kq v1 v12 w' => ∃ (x1_1 : Int) (x12_1 : Int), v1 = .int .i64 x1_1 ∧ v12 = .int .i64 x12_1 ∧ Aside0 (sets_Select.l0 kq x1_1 l0 (l0.length : Int) x12_1 = some (r1, r2)) ∧ Aside0 (kq ≤ k) ∧ Aside0 (Below w.heap.size w w'))
  case atStart => exact ⟨(a1), (0), zR, zR, H', ⟨Nat.le_refl _⟩, ⟨zU HB.out⟩⟩
  case round =>
   clear H'; (try clear c1); (try clear p2); (try clear c3); (try clear c3b0); obtain ⟨x1_1, x12_1, rfl, rfl, HA, HK1, HB⟩ := hrel
   cases gk with
   | zero => exact absurd HA.out (by simp [sets_Select.l0])
   | succ k1 =>
    have H := HA.out; clear HA; simp only [sets_Select.l0] at H; by_cases c4 : x12_1 < (l0.length : Int)
    ·rw [if_pos c4] at H; have c4b0 : decide (x12_1 < (l0.length : Int)) = true := decide_eq_true c4; clear c4; by_cases c5 : 0 ≤ x12_1
     ·rw [if_pos c5] at H; have c5b0 : decide (0 ≤ x12_1) = true := decide_eq_true c5; clear c5; by_cases c6 : x12_1 < (l0.length : Int)
      ·rw [if_pos c6] at H; have c6b0 : decide (x12_1 < (l0.length : Int)) = true := decide_eq_true c6; clear c6; by_cases c7 : x1_1 ≤ (wrap64 (((rd_T133 l0 x12_1).f1) - ((rd_T133 l0 x12_1).f0)))
       ·rw [if_pos c7] at H; have c7b0 : decide (x1_1 ≤ (wrap64 (((rd_T133 l0 x12_1).f1) - ((rd_T133 l0 x12_1).f0)))) = true := decide_eq_true c7; clear c7; simp only [Option.some.injEq, Prod.mk.injEq] at H; obtain ⟨rfl, rfl⟩ := H; have p150 : 0 ≤ (x12_1 : Int) := zT; have q150 : x12_1 < (l0.length : Int) := zT; obtain ⟨ad150, e150, hx150_0, hx150_1⟩ := at_T133 HR0.out x12_1 p150 q150; cases e150; replace hx150_0 := zcl HB.out hx150_0; replace hx150_1 := zcl HB.out hx150_1; replace p150 := eq_true p150; replace q150 := eq_true q150; go_wp2_with (first | ((with_reducible refine gate_dst (N := 7) rfl ?_); refine box_event ?hg (N := 7) ?hd (cs := #[.int .i64 0, .int .i64 0]) (t := 133) ?hr ?_; (case hd => rfl); (case hg => rfl); (case hr => first | (go_simp; done) | (go_simp; rfl)); intro gb151 hg w8 hbox hb; have BK151 := zk (hbox); have GE151 := zk ((zg hg HB.out : w.heap.size ≤ gb151)); replace HB := zk (below_step (zU HB.out) hb);  clear hb hbox hg; have hcz9_0 : w8.cell? ⟨gb151, 0, none⟩ = some (.int .i64 0) := zh BK151.out 0; have hcz9_1 : w8.cell? ⟨gb151, 1, none⟩ = some (.int .i64 0) := zh BK151.out 1; have hfz9_0 := blk_frozen BK151.out 0; have hfz9_1 := blk_frozen BK151.out 1))
        go_ret2
        exact ⟨ze, zU HB.out⟩
       ·rw [if_neg c7] at H; have c7b0 : decide (x1_1 ≤ (wrap64 (((rd_T133 l0 x12_1).f1) - ((rd_T133 l0 x12_1).f0)))) = false := decide_eq_false c7; clear c7; have H' := zk H; clear H; have p150 : 0 ≤ (x12_1 : Int) := zT; have q150 : x12_1 < (l0.length : Int) := zT; obtain ⟨ad150, e150, hx150_0, hx150_1⟩ := at_T133 HR0.out x12_1 p150 q150; cases e150; replace hx150_0 := zcl HB.out hx150_0; replace hx150_1 := zcl HB.out hx150_1; replace p150 := eq_true p150; replace q150 := eq_true q150; go_wp2_with (first | ((with_reducible refine gate_dst (N := 7) rfl ?_); refine box_event ?hg (N := 7) ?hd (cs := #[.int .i64 0, .int .i64 0]) (t := 133) ?hr ?_; (case hd => rfl); (case hg => rfl); (case hr => first | (go_simp; done) | (go_simp; rfl)); intro gb151 hg w10 hbox hb; have BK151 := zk (hbox); have GE151 := zk ((zg hg HB.out : w.heap.size ≤ gb151)); replace HB := zk (below_step (zU HB.out) hb);  clear hb hbox hg; have hcz11_0 : w10.cell? ⟨gb151, 0, none⟩ = some (.int .i64 0) := zh BK151.out 0; have hcz11_1 : w10.cell? ⟨gb151, 1, none⟩ = some (.int .i64 0) := zh BK151.out 1; have hfz11_0 := blk_frozen BK151.out 0; have hfz11_1 := blk_frozen BK151.out 1))
        go_roundg k1
        case measure => have := HK1.out; omega
        case rel => exact ⟨(wrap64 (x1_1 - (wrap64 ((wrap64 (((rd_T133 l0 x12_1).f1) - ((rd_T133 l0 x12_1).f0))) + 1)))), (wrap64 (x12_1 + 1)), zR, zR, H', ⟨by have := HK1.out; omega⟩, ⟨zU HB.out⟩⟩
      ·rw [if_neg c6] at H; exact absurd H (by simp)
     ·rw [if_neg c5] at H; exact absurd H (by simp)
    ·rw [if_neg c4] at H; have c4b0 : decide (x12_1 < (l0.length : Int)) = false := decide_eq_false c4; clear c4; simp only [Option.some.injEq, Prod.mk.injEq] at H; obtain ⟨rfl, rfl⟩ := H; go_wp2
     go_ret2
     exact ⟨ze, zU HB.out⟩
def spans_Select.f (k : Nat) (l0 : List (S34)) (a1 : Int) : Option (Int × Bool) := (spans_set.f k l0).bind fun t152 => ((sets_Select.f k t152 a1).bind fun bt155 => (some (bt155.1, bt155.2)))
set_option maxHeartbeats 8000000 in
set_option maxRecDepth 100000 in
theorem spans_Select.calls (k : Nat) (A0 : Option Addr) (c0 : Nat) (l0 : List (S34)) (a1 : Int) (r1 : Int) (r2 : Bool) (w : World) (hr0 : Kd.C k34 w A0 l0.length l0) (hc0 : l0.length ≤ c0) (h : spans_Select.f k l0 a1 = some (r1, r2)) :
 Calls Try.prog 57 #[.slice A0 l0.length c0, .int .i64 a1] w fun e w' => e = .returned (.tuple #[.int .i64 r1, .bool r2]) ∧ Below w.heap.size w w' := by
 have HR0 := zk hr0; have HC0 := zk hc0; clear hr0 hc0; have HB := zk (Below.refl w.heap.size w); have H : ((spans_set.f k l0).bind fun t152 => ((sets_Select.f k t152 a1).bind fun bt155 => (some (bt155.1, bt155.2)))) = some (r1, r2) := h; clear h; replace H := Option.bind_eq_some_iff.mp H; obtain ⟨t152, A30, H⟩ := H; replace H : ((sets_Select.f k t152 a1).bind fun bt155 => (some (bt155.1, bt155.2))) = some (r1, r2) := H; have A3 := zk A30; clear A30; replace H := Option.bind_eq_some_iff.mp H; obtain ⟨⟨t155, t156⟩, A40, H⟩ := H; replace H : (some (t155, t156)) = some (r1, r2) := H; have A4 := zk A40; clear A40; simp only [Option.some.injEq, Prod.mk.injEq] at H; obtain ⟨rfl, rfl⟩ := H; go_enter Try.func57, Try.ntmps57
 go_wp2_with (first | ((with_reducible refine gate_callee (f := 60) rfl ?_); refine goesL_ (some 7) rfl rfl Try.func60 zz rfl #[.slice A0 l0.length c0] rfl zM ?_; (with_reducible refine (spans_set.calls k _ _ l0 t152 _ ?side1 ?side2 A3.out).mono ?_); (case side1 => exact zc HR0.out); (case side2 => exact HC0.out); rintro e w5 ⟨v153, rfl, ho0, hb⟩; refine ⟨_, rfl, ?_⟩; have HO154 := zk (Kd.R_lower ho0 (below_size (zU HB.out))); replace HB := zk (below_step (zU HB.out) hb);  (try clear hb); (try clear hb2); (try clear hk); (try clear hi); (try clear ho0); obtain ⟨Ao6, co6, eo6⟩ := Kd.R_slice HO154.out; subst eo6) | ((with_reducible refine gate_callee (f := 107) rfl ?_); refine goesL_ (some 9) rfl rfl Try.func107 zz rfl #[.slice Ao6 t152.length co6, .int .i64 a1] rfl zM ?_; (with_reducible refine (sets_Select.calls k _ _ t152 a1 t155 t156 _ ?side1 ?side2 A4.out).mono ?_); (case side1 => exact zc (Kd.R_reads' HO154.out).2.2); (case side2 => exact (Kd.R_reads' HO154.out).2.1); rintro e w7 ⟨rfl, hb⟩; refine ⟨_, rfl, ?_⟩; replace HO154 := zk (Kd.R_below (zr HO154.out) hb); replace HB := zk (below_step (zU HB.out) hb);  (try clear hb); (try clear hb2); (try clear hk); (try clear hi)))
 go_ret2
 exact ⟨ze, zU HB.out⟩
def sets_Size.l0 : Nat → Int → List (S133) → Int → Int → Option (Int)
 | 0, _, _, _, _ => none
 | k + 1, x3, x6, x7, x8 => if x8 < x7 then (if 0 ≤ x8 then (if x8 < (x6.length : Int) then (sets_Size.l0 k (wrap64 (x3 + (wrap64 ((wrap64 (((rd_T133 x6 x8).f1) - ((rd_T133 x6 x8).f0))) + 1)))) x6 x7 (wrap64 (x8 + 1))) else (none)) else (none)) else (some x3)
def sets_Size.f (k : Nat) (l0 : List (S133)) : Option (Int) := sets_Size.l0 k 0 l0 (l0.length : Int) 0
set_option maxHeartbeats 8000000 in
set_option maxRecDepth 100000 in
theorem sets_Size.calls (k : Nat) (A0 : Option Addr) (c0 : Nat) (l0 : List (S133)) (r : Int) (w : World) (hr0 : Kd.C k133 w A0 l0.length l0) (hc0 : l0.length ≤ c0) (h : sets_Size.f k l0 = some r) :
 Calls Try.prog 108 #[.slice A0 l0.length c0] w fun e w' => e = .returned (.int .i64 r) ∧ Below w.heap.size w w' := by
 have hu133 := Try.underlying133; have HR0 := zk hr0; have HC0 := zk hc0; clear hr0 hc0; have HB := zk (Below.refl w.heap.size w); have H : (sets_Size.l0 k 0 l0 (l0.length : Int) 0) = some r := h; clear h; have H' := zk H; clear H; go_enter Try.func108, Try.ntmps108
 go_wp2
 go_loopg [3, 8] k (fun kq v3 v8 w' => ∃ (x3_1 : Int) (x8_1 : Int), v3 = .int .i64 x3_1 ∧ v8 = .int .i64 x8_1 ∧ Aside0 (sets_Size.l0 kq x3_1 l0 (l0.length : Int) x8_1 = some r) ∧ Aside0 (kq ≤ k) ∧ Aside0 (Below w.heap.size w w'))
 case atStart => exact ⟨(0), (0), zR, zR, H', ⟨Nat.le_refl _⟩, ⟨zU HB.out⟩⟩
 case round =>
  clear H'; (try clear c1); obtain ⟨x3_1, x8_1, rfl, rfl, HA, HK1, HB⟩ := hrel
  cases gk with
  | zero => exact absurd HA.out (by simp [sets_Size.l0])
  | succ k1 =>
   have H := HA.out; clear HA; simp only [sets_Size.l0] at H; by_cases c2 : x8_1 < (l0.length : Int)
   ·rw [if_pos c2] at H; have c2b0 : decide (x8_1 < (l0.length : Int)) = true := decide_eq_true c2; clear c2; by_cases c3 : 0 ≤ x8_1
    ·rw [if_pos c3] at H; have c3b0 : decide (0 ≤ x8_1) = true := decide_eq_true c3; clear c3; by_cases c4 : x8_1 < (l0.length : Int)
     ·rw [if_pos c4] at H; have c4b0 : decide (x8_1 < (l0.length : Int)) = true := decide_eq_true c4; clear c4; have H' := zk H; clear H; have p157 : 0 ≤ (x8_1 : Int) := zT; have q157 : x8_1 < (l0.length : Int) := zT; obtain ⟨ad157, e157, hx157_0, hx157_1⟩ := at_T133 HR0.out x8_1 p157 q157; cases e157; replace hx157_0 := zcl HB.out hx157_0; replace hx157_1 := zcl HB.out hx157_1; replace p157 := eq_true p157; replace q157 := eq_true q157; go_wp2_with (first | ((with_reducible refine gate_dst (N := 5) rfl ?_); refine box_event ?hg (N := 5) ?hd (cs := #[.int .i64 0, .int .i64 0]) (t := 133) ?hr ?_; (case hd => rfl); (case hg => rfl); (case hr => first | (go_simp; done) | (go_simp; rfl)); intro gb158 hg w5 hbox hb; have BK158 := zk (hbox); have GE158 := zk ((zg hg HB.out : w.heap.size ≤ gb158)); replace HB := zk (below_step (zU HB.out) hb);  clear hb hbox hg; have hcz6_0 : w5.cell? ⟨gb158, 0, none⟩ = some (.int .i64 0) := zh BK158.out 0; have hcz6_1 : w5.cell? ⟨gb158, 1, none⟩ = some (.int .i64 0) := zh BK158.out 1; have hfz6_0 := blk_frozen BK158.out 0; have hfz6_1 := blk_frozen BK158.out 1))
      go_roundg k1
      case measure => have := HK1.out; omega
      case rel => exact ⟨(wrap64 (x3_1 + (wrap64 ((wrap64 (((rd_T133 l0 x8_1).f1) - ((rd_T133 l0 x8_1).f0))) + 1)))), (wrap64 (x8_1 + 1)), zR, zR, H', ⟨by have := HK1.out; omega⟩, ⟨zU HB.out⟩⟩
     ·rw [if_neg c4] at H; exact absurd H (by simp)
    ·rw [if_neg c3] at H; exact absurd H (by simp)
   ·rw [if_neg c2] at H; have c2b0 : decide (x8_1 < (l0.length : Int)) = false := decide_eq_false c2; clear c2; obtain rfl := Option.some.inj H; go_wp2
    go_ret
    exact ⟨ze, zU HB.out⟩
def spans_Size.f (k : Nat) (l0 : List (S34)) : Option (Int) := (spans_set.f k l0).bind fun t159 => ((sets_Size.f k t159).bind fun t162 => (some t162))
set_option maxHeartbeats 8000000 in
set_option maxRecDepth 100000 in
theorem spans_Size.calls (k : Nat) (A0 : Option Addr) (c0 : Nat) (l0 : List (S34)) (r : Int) (w : World) (hr0 : Kd.C k34 w A0 l0.length l0) (hc0 : l0.length ≤ c0) (h : spans_Size.f k l0 = some r) :
 Calls Try.prog 58 #[.slice A0 l0.length c0] w fun e w' => e = .returned (.int .i64 r) ∧ Below w.heap.size w w' := by
 have HR0 := zk hr0; have HC0 := zk hc0; clear hr0 hc0; have HB := zk (Below.refl w.heap.size w); have H : ((spans_set.f k l0).bind fun t159 => ((sets_Size.f k t159).bind fun t162 => (some t162))) = some r := h; clear h; replace H := Option.bind_eq_some_iff.mp H; obtain ⟨t159, A20, H⟩ := H; replace H : ((sets_Size.f k t159).bind fun t162 => (some t162)) = some r := H; have A2 := zk A20; clear A20; replace H := Option.bind_eq_some_iff.mp H; obtain ⟨t162, A30, H⟩ := H; replace H : (some t162) = some r := H; have A3 := zk A30; clear A30; obtain rfl := Option.some.inj H; go_enter Try.func58, Try.ntmps58
 go_wp2_with (first | ((with_reducible refine gate_callee (f := 60) rfl ?_); refine goesL_ (some 4) rfl rfl Try.func60 zz rfl #[.slice A0 l0.length c0] rfl zM ?_; (with_reducible refine (spans_set.calls k _ _ l0 t159 _ ?side1 ?side2 A2.out).mono ?_); (case side1 => exact zc HR0.out); (case side2 => exact HC0.out); rintro e w4 ⟨v160, rfl, ho0, hb⟩; refine ⟨_, rfl, ?_⟩; have HO161 := zk (Kd.R_lower ho0 (below_size (zU HB.out))); replace HB := zk (below_step (zU HB.out) hb);  (try clear hb); (try clear hb2); (try clear hk); (try clear hi); (try clear ho0); obtain ⟨Ao5, co5, eo5⟩ := Kd.R_slice HO161.out; subst eo5) | ((with_reducible refine gate_callee (f := 108) rfl ?_); refine goesL_ (some 5) rfl rfl Try.func108 zz rfl #[.slice Ao5 t159.length co5] rfl zM ?_; (with_reducible refine (sets_Size.calls k _ _ t159 t162 _ ?side1 ?side2 A3.out).mono ?_); (case side1 => exact zc (Kd.R_reads' HO161.out).2.2); (case side2 => exact (Kd.R_reads' HO161.out).2.1); rintro e w6 ⟨rfl, hb⟩; refine ⟨_, rfl, ?_⟩; replace HO161 := zk (Kd.R_below (zr HO161.out) hb); replace HB := zk (below_step (zU HB.out) hb);  (try clear hb); (try clear hb2); (try clear hk); (try clear hi)))
 go_ret
 exact ⟨ze, zU HB.out⟩
end Go.Proofs.Ytoljcfocgaonpaa.I
