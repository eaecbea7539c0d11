/- Words and walks of this claim, of the text Bx19. -/
import Derived.Test.YtkcklnmbeinfkaaKrQW0
import Derived.Test.YtkcklnmbeinfkaaKrBx0
import Derived.Test.YtkcklnmbeinfkaaKrBx4
import Derived.Test.YtkcklnmbeinfkaaKrBx5
namespace Go.Proofs.Ytkcklnmbeinfkaa.B
open Go.RowKit Go.Proofs.YtkcklnmbeinfkaaW.PrintWords Go.Proofs.YtkcklnmbeinfkaaW.PrintLast Go.Proofs.YtkcklnmbeinfkaaW.PrintMore
attribute [local go_sem] max2_int min2_int max_two min_two max_three min_three max_four min_four
set_option linter.unusedVariables false
set_option linter.unusedSimpArgs false
def sets_Run_158.l0 : Nat → List (S113) → List (S139) → Int → Int → Option ((List (S113)))
 | 0, _, _, _, _ => none
 | k + 1, x3, x9, x10, x11 => if x11 < x10 then (if 0 ≤ x11 then (if x11 < (x9.length : Int) then (if x3.length < 8796093022208 then (sets_Run_158.l0 k (x3 ++ [(⟨(rd_T139 x9 x11).f0, (rd_T139 x9 x11).f1⟩ : S113)]) x9 x10 (wrap64 (x11 + 1))) else (none)) else (none)) else (none)) else (some x3)
def sets_Run_158.f (k : Nat) (l0 : List (S139)) : Option ((List (S113))) := if 0 ≤ (l0.length : Int) then (if ((l0.length : Int) : Int).toNat ≤ 17592186044416 then (sets_Run_158.l0 k (([] : List (S113))) l0 (l0.length : Int) 0) else (none)) else (none)
set_option maxHeartbeats 8000000 in
set_option maxRecDepth 100000 in
theorem sets_Run_158.calls (k : Nat) (A0 : Option Addr) (c0 : Nat) (l0 : List (S139)) (r : List (S113)) (w : World) (hr0 : Kd.C k139 w A0 l0.length l0) (hc0 : l0.length ≤ c0) (h : sets_Run_158.f k l0 = some r) :
 Calls Try.prog 158 #[.slice A0 l0.length c0] w fun e w' => ∃ v0_ : Value, e = .returned (v0_) ∧ Kd.R k113 113 w' w.heap.size (fun _ => True) v0_ r ∧ Below w.heap.size w w' := by
 have hu139 := Try.underlying139; have HR0 := zk hr0; have HC0 := zk hc0; clear hr0 hc0; have HB := zk (Below.refl w.heap.size w); have H : (if 0 ≤ (l0.length : Int) then (if ((l0.length : Int) : Int).toNat ≤ 17592186044416 then (sets_Run_158.l0 k (([] : List (S113))) l0 (l0.length : Int) 0) else (none)) else (none)) = some r := h; clear h; by_cases c2 : 0 ≤ (l0.length : Int)
 ·rw [if_pos c2] at H; have c2b0 := eq_true c2; have c2b1 : decide (0 ≤ (l0.length : Int)) = true := decide_eq_true c2; clear c2; by_cases c3 : ((l0.length : Int) : Int).toNat ≤ 17592186044416
  ·rw [if_pos c3] at H; have c3b0 := eq_true c3; have c3b1 : decide (((l0.length : Int) : Int).toNat ≤ 17592186044416) = true := decide_eq_true c3; clear c3; obtain ⟨y438, hy438⟩ : ∃ y_ : List (S113), y_ = (([] : List (S113))) := ⟨_, rfl⟩
   replace H : (sets_Run_158.l0 k y438 l0 (l0.length : Int) 0) = some r := by first | (rw [hy438]; with_reducible exact H) | (have H2_ := (Option.bind_some _ _).symm.trans H; rw [hy438]; with_reducible exact H2_) | (have H2_ := (Option.bind_some _ _).symm.trans H; with_reducible exact H2_) | with_reducible exact H | (rw [hy438]; exact H) | exact H
   have Ny438 := zk hy438; clear hy438; have H' := zk H; clear H; go_enter Try.func158, Try.ntmps158
   go_wp2_with (first | ((with_reducible refine gate_dst (N := 8) rfl ?_); refine KdCap.R_makecap k113 _ 113 rfl (N := 8) rfl 34 _ _ rfl (l0.length : Int) rfl rfl Try.underlying34 (.agg #[(.int .i64 0), (.int .i64 0)]) 16 info113 (by decide) (ok := fun _ => True) (okp := fun _ => True) (fun _ hk => hk) trivial zT (Nat.le_trans (Nat.mul_le_mul_right _ (zT : (l0.length : Int).toNat ≤ 17592186044416)) (by omega)) (Below.refl _ _) (Nat.le_refl _) ?_; intro v439 w4 ho5 hb hg_ hnew_; clear hg_ hnew_; (first | rw [← Ny438.out] at ho5 | (simp only [Int.reduceToNat] at ho5; rw [← Ny438.out] at ho5)); have HO440 := zk (Kd.R_lower ho5 (below_size (zU HB.out))); replace HB := zk (below_step (zU HB.out) hb);  clear hb ho5))
   go_loopg [3, 11] k (fun kq v3 v11 w' => ∃ (x3_1 : List (S113)) (x11_1 : Int), v11 = .int .i64 x11_1 ∧ Aside0 (sets_Run_158.l0 kq x3_1 l0 (l0.length : Int) x11_1 = some r) ∧ Aside0 (kq ≤ k) ∧ Aside0 (Kd.R k113 113 w' w.heap.size (fun _ => True) v3 x3_1) ∧ Aside0 (Below w.heap.size w w'))
   case atStart => exact ⟨(y438), (0), zR, H', ⟨Nat.le_refl _⟩, ⟨by (with_reducible repeat (first | apply zA | apply zB | apply zC)); exact HO440.out⟩, ⟨zU HB.out⟩⟩
   case round =>
    clear H'; (try clear c1); (try clear c2); (try clear c2b0); (try clear c2b1); (try clear p2); (try clear c3); (try clear c3b0); (try clear c3b1); obtain ⟨x3_1, x11_1, rfl, HA, HK1, HO_3, HB⟩ := hrel
    cases gk with
    | zero => exact absurd HA.out (by simp [sets_Run_158.l0])
    | succ k1 =>
     have H := HA.out; clear HA; simp only [sets_Run_158.l0] at H; by_cases c6 : x11_1 < (l0.length : Int)
     ·rw [if_pos c6] at H; have c6b0 : decide (x11_1 < (l0.length : Int)) = true := decide_eq_true c6; clear c6; by_cases c7 : 0 ≤ x11_1
      ·rw [if_pos c7] at H; have c7b0 : decide (0 ≤ x11_1) = true := decide_eq_true c7; clear c7; by_cases c8 : x11_1 < (l0.length : Int)
       ·rw [if_pos c8] at H; have c8b0 : decide (x11_1 < (l0.length : Int)) = true := decide_eq_true c8; clear c8; by_cases c9 : x3_1.length < 8796093022208
        ·rw [if_pos c9] at H; have LMc9 := zk c9; clear c9; obtain ⟨y443, hy443⟩ : ∃ y_ : List (S113), y_ = (x3_1 ++ [(⟨(rd_T139 l0 x11_1).f0, (rd_T139 l0 x11_1).f1⟩ : S113)]) := ⟨_, rfl⟩
         replace H : (sets_Run_158.l0 k1 y443 l0 (l0.length : Int) (wrap64 (x11_1 + 1))) = some r := by first | (rw [hy443]; with_reducible exact H) | (have H2_ := (Option.bind_some _ _).symm.trans H; rw [hy443]; with_reducible exact H2_) | (have H2_ := (Option.bind_some _ _).symm.trans H; with_reducible exact H2_) | with_reducible exact H | (rw [hy443]; exact H) | exact H
         have Ny443 := zk hy443; clear hy443; have H' := zk H; clear H; have p441 : 0 ≤ (x11_1 : Int) := zT; have q441 : x11_1 < (l0.length : Int) := zT; obtain ⟨ad441, e441, hx441_0, hx441_1⟩ := at_T139 HR0.out x11_1 p441 q441; cases e441; replace hx441_0 := zcl HB.out hx441_0; replace hx441_1 := zcl HB.out hx441_1; replace p441 := eq_true p441; replace q441 := eq_true q441; go_wp2_with (first | ((with_reducible refine gate_dst (N := 5) rfl ?_); refine box_event ?hg (N := 5) ?hd (cs := #[.int .i64 0, .int .i64 0]) (t := 139) ?hr ?_; (case hd => rfl); (case hg => rfl); (case hr => first | (go_simp; done) | (go_simp; rfl)); intro gb442 hg w10 hbox hb; replace HO_3 := zk (Kd.R_below (zr HO_3.out) hb); have BK442 := zk (hbox); have GE442 := zk ((zg hg HB.out : w.heap.size ≤ gb442)); replace HB := zk (below_step (zU HB.out) hb);  clear hb hbox hg; have hcz11_0 : w10.cell? ⟨gb442, 0, none⟩ = some (.int .i64 0) := zh BK442.out 0; have hcz11_1 : w10.cell? ⟨gb442, 1, none⟩ = some (.int .i64 0) := zh BK442.out 1; have hfz11_0 := blk_frozen BK442.out 0; have hfz11_1 := blk_frozen BK442.out 1) | ((with_reducible refine gate_builtin (b := .append) (xs := #[.tmp 15, .tmp 17]) rfl ?_); at_builtin; refine Kd.R_append k113 (w0 := w) w.heap.size rfl (.tmp 15) (.tmp 17) 34 113 (.agg #[(.int .i64 0), (.int .i64 0)]) 16 rfl Try.underlying34 info113 rfl (by decide) (by omega) u3 x3_1 (⟨(rd_T139 l0 x11_1).f0, (rd_T139 l0 x11_1).f1⟩ : S113) [.int .i64 ((rd_T139 l0 x11_1).f0), .int .i64 ((rd_T139 l0 x11_1).f1)] (fun _ => True) (fun _ => False) rfl (by first | (go_simp; done) | (go_simp; rfl)) ?aP (fun _ hk => hk.elim) ?aF ?aO ?aB ?aS ?aL ?_; (case aP => exact k113_mkM _ _ _ (⟨(rd_T139 l0 x11_1).f0, (rd_T139 l0 x11_1).f1⟩ : S113)); (case aB => exact (zU HB.out)); (case aF => exact (fun _ _ => trivial)); (case aO => exact (by (with_reducible repeat (first | apply zA | apply zB | apply zC)); exact Kd.R_mono (Kd.R_far (p := ⟨gb442, 1, none⟩) (Kd.R_far (p := ⟨gb442, 0, none⟩) (Kd.R_types HO_3.out BK442.out (by decide)) (fun _ hk => hk.2) (.int .i64 ((rd_T139 l0 x11_1).f0))) (fun _ hk => hk.2) (.int .i64 ((rd_T139 l0 x11_1).f1))) (fun _ hk => trivial))); (case aS => exact (below_size (zU HB.out))); (case aL => have := LMc9.out; omega); intro v444 w12 ho hb hg hat; rw [← Ny443.out] at ho; have n0_ := zk (blk_grown (g := gb442) (o := .cells #[.int .i64 ((rd_T139 l0 x11_1).f0), .int .i64 ((rd_T139 l0 x11_1).f1)] 139 (0, 0)) (by (with_reducible repeat (first | refine blk_drewN ?_ _ | refine blk_drew ?_ | refine blk_alloc ?_ _)); refine blk_put (cs := #[.int .i64 ((rd_T139 l0 x11_1).f0), .int .i64 0]) ?_ 1 _ rfl; (with_reducible repeat (first | refine blk_drewN ?_ _ | refine blk_drew ?_ | refine blk_alloc ?_ _)); refine blk_put (cs := #[.int .i64 0, .int .i64 0]) ?_ 0 _ rfl; exact zb BK442.out) hg (Kd.R_ne HO_3.out BK442.out (by decide))); have n1_ := zk (hb); have n2_ := zk (ho); clear BK442; clear HB; clear HO_3; have BK442 := n0_; have HB := n1_; have HO445 := n2_; clear n0_ n1_ n2_; clear ho hb hg hat))
         go_roundg k1
         case measure => have := HK1.out; omega
         case rel => exact ⟨(y443), (wrap64 (x11_1 + 1)), zR, H', ⟨by have := HK1.out; omega⟩, ⟨by (with_reducible repeat (first | apply zA | apply zB | apply zC)); exact HO445.out⟩, ⟨zU HB.out⟩⟩
        ·rw [if_neg c9] at H; exact absurd H (by simp)
       ·rw [if_neg c8] at H; exact absurd H (by simp)
      ·rw [if_neg c7] at H; exact absurd H (by simp)
     ·rw [if_neg c6] at H; have c6b0 : decide (x11_1 < (l0.length : Int)) = false := decide_eq_false c6; clear c6; obtain rfl := Option.some.inj H; go_wp2
      go_ret
      exact ⟨_, ze, by (with_reducible repeat (first | apply zA | apply zB | apply zC)); exact HO_3.out, zU HB.out⟩
  ·rw [if_neg c3] at H; exact absurd H (by simp)
 ·rw [if_neg c2] at H; exact absurd H (by simp)
def spans_back.f (k : Nat) (l0 : List (S139)) : Option ((List (S113))) := (sets_Run_158.f k l0).bind fun t446 => (some t446)
set_option maxHeartbeats 8000000 in
set_option maxRecDepth 100000 in
theorem spans_back.calls (k : Nat) (A0 : Option Addr) (c0 : Nat) (l0 : List (S139)) (r : List (S113)) (w : World) (hr0 : Kd.C k139 w A0 l0.length l0) (hc0 : l0.length ≤ c0) (h : spans_back.f k l0 = some r) :
 Calls Try.prog 135 #[.slice A0 l0.length c0] w fun e w' => ∃ v0_ : Value, e = .returned (v0_) ∧ Kd.R k113 113 w' w.heap.size (fun _ => True) v0_ r ∧ Below w.heap.size w w' := by
 have HR0 := zk hr0; have HC0 := zk hc0; clear hr0 hc0; have HB := zk (Below.refl w.heap.size w); have H : ((sets_Run_158.f k l0).bind fun t446 => (some t446)) = some r := h; clear h; replace H := Option.bind_eq_some_iff.mp H; obtain ⟨t446, A20, H⟩ := H; replace H : (some t446) = some r := H; have A2 := zk A20; clear A20; obtain rfl := Option.some.inj H; go_enter Try.func135, Try.ntmps135
 go_wp2_with (first | ((with_reducible refine gate_callee (f := 158) rfl ?_); refine goesL_ (some 4) rfl rfl Try.func158 zz rfl #[.slice A0 l0.length c0] rfl zM ?_; (with_reducible refine (sets_Run_158.calls k _ _ l0 t446 _ ?side1 ?side2 A2.out).mono ?_); (case side1 => exact zc HR0.out); (case side2 => exact HC0.out); rintro e w3 ⟨v447, rfl, ho0, hb⟩; refine ⟨_, rfl, ?_⟩; have HO448 := zk (Kd.R_lower ho0 (below_size (zU HB.out))); replace HB := zk (below_step (zU HB.out) hb);  (try clear hb); (try clear hb2); (try clear hk); (try clear hi); (try clear ho0)))
 go_ret
 exact ⟨_, ze, by (with_reducible repeat (first | apply zA | apply zB | apply zC)); exact HO448.out, zU HB.out⟩
end Go.Proofs.Ytkcklnmbeinfkaa.B
