/- Words and walks of this claim, of the text Bx9. -/
import Derived.Test.YtkcklnmbeinfkaaKrQW0
import Derived.Test.YtkcklnmbeinfkaaKrBx0
import Derived.Test.YtkcklnmbeinfkaaKrBx5
import Derived.Test.YtkcklnmbeinfkaaKrBx8
namespace Go.Proofs.Ytkcklnmbeinfkaa.B
open Go.RowKit Go.Proofs.YtkcklnmbeinfkaaW.PrintWords Go.Proofs.YtkcklnmbeinfkaaW.PrintLast Go.Proofs.YtkcklnmbeinfkaaW.PrintMore
attribute [local go_sem] max2_int min2_int max_two min_two max_three min_three max_four min_four
set_option linter.unusedVariables false
set_option linter.unusedSimpArgs false
def shape_steps.l0 : Nat → Int → Int → List Int → List (List (S113)) → Int → Option (List Int)
 | 0, _, _, _, _, _ => none
 | k + 1, x4, x5, x10, x244000, x244001 => if x5 > 0 then (if 0 ≤ x5 then (if x5 < (x10.length : Int) then (if 0 ≤ (wrap64 (x5 - 1)) then (if (wrap64 (x5 - 1)) < (x244000.length : Int) then ((spans_Size.f k (rd_L4 x244000 (wrap64 (x5 - 1)))).bind fun t249 => (shape_steps.l0 k (wrap64 (x4 * t249)) (wrap64 (x5 - 1)) (x10.set (x5 : Int).toNat x4) x244000 x244001)) else (none)) else (none)) else (none)) else (none)) else (if 0 < (x10.length : Int) then (some (x10.set (0 : Int).toNat x4)) else (none))
def shape_steps.f (k : Nat) (l0_0 : List (List (S113))) (a0_1 : Int) : Option (List Int) := if 0 ≤ (wrap64 ((l0_0.length : Int) + 1)) then (if (wrap64 ((l0_0.length : Int) + 1) : Int).toNat ≤ 35184372088832 then (shape_steps.l0 k 1 (l0_0.length : Int) (List.replicate (wrap64 ((l0_0.length : Int) + 1) : Int).toNat 0) l0_0 a0_1) else (none)) else (none)
theorem shape_steps.mono_l : ∀ k, (∀ y0 y1 y2 y3 y4, LeO (shape_steps.l0 k y0 y1 y2 y3 y4) (shape_steps.l0 (k + 1) y0 y1 y2 y3 y4))
 | 0 => fun _ _ _ _ _ r h => by simp [shape_steps.l0] at h
 | k + 1 => by
  have ih0 := shape_steps.mono_l k
  ·intro y0 y1 y2 y3 y4; unfold shape_steps.l0; repeat' first
   | (with_reducible exact ih0 _ _ _ _ _)
   | (with_reducible exact spans_Size.mono _ _)
   | (with_reducible exact LeO.refl _)
   | (with_reducible exact LeO.none _)
   | (with_reducible refine LeO.ite ?_ ?_)
   | (with_reducible refine LeO.bind ?_ (fun _ => ?_))
   | exact ih0 _ _ _ _ _
   | exact spans_Size.mono _ _
   | exact LeO.none _
   | refine LeO.ite ?_ ?_
   | refine LeO.bind ?_ (fun _ => ?_)
theorem shape_steps.mono : ∀ a0 a1 k, LeO (shape_steps.f k a0 a1) (shape_steps.f (k + 1) a0 a1) := by
 intro a0 a1 k; have ih0 := shape_steps.mono_l k; unfold shape_steps.f; repeat' first
  | (with_reducible exact ih0 _ _ _ _ _)
  | (with_reducible exact spans_Size.mono _ _)
  | (with_reducible exact LeO.refl _)
  | (with_reducible exact LeO.none _)
  | (with_reducible refine LeO.ite ?_ ?_)
  | (with_reducible refine LeO.bind ?_ (fun _ => ?_))
  | exact ih0 _ _ _ _ _
  | exact spans_Size.mono _ _
  | exact LeO.none _
  | refine LeO.ite ?_ ?_
  | refine LeO.bind ?_ (fun _ => ?_)
set_option maxHeartbeats 8000000 in
set_option maxRecDepth 100000 in
theorem shape_steps.calls (k : Nat) (A0_0 : Option Addr) (c0_0 : Nat) (l0_0 : List (List (S113))) (a0_1 : Int) (r : List Int) (w : World) (hr0_0 : Kd.C (Kd.slice 113 k113) w A0_0 l0_0.length l0_0) (hc0_0 : l0_0.length ≤ c0_0) (h : shape_steps.f k l0_0 a0_1 = some r) :
 Calls Try.prog 85 #[.agg #[.slice A0_0 l0_0.length c0_0, .int .i64 a0_1]] w fun e w' => ∃ v0_ : Value, e = .returned (v0_) ∧ Kd.R (Kd.int .i64) 3 w' w.heap.size (fun _ => True) v0_ r ∧ Below w.heap.size w w' := by
 have hu50 := Try.underlying50; have HR0_0 := zk hr0_0; have HC0_0 := zk hc0_0; clear hr0_0 hc0_0; have HB := zk (Below.refl w.heap.size w); have H : (if 0 ≤ (wrap64 ((l0_0.length : Int) + 1)) then (if (wrap64 ((l0_0.length : Int) + 1) : Int).toNat ≤ 35184372088832 then (shape_steps.l0 k 1 (l0_0.length : Int) (List.replicate (wrap64 ((l0_0.length : Int) + 1) : Int).toNat 0) l0_0 a0_1) else (none)) else (none)) = some r := h; clear h; obtain ⟨ji2, hji2⟩ : ∃ j_ : Int, (wrap64 ((l0_0.length : Int) + 1)) = j_ := ⟨_, rfl⟩
 replace H : (if 0 ≤ (ji2) then (if (ji2 : Int).toNat ≤ 35184372088832 then (shape_steps.l0 k 1 (l0_0.length : Int) (List.replicate (ji2 : Int).toNat 0) l0_0 a0_1) else (none)) else (none)) = some r := by first | (rw [hji2] at H; exact H) | (simp only [hji2] at H ⊢; exact H)
 have hji2w : (IntKind.i64.wrap ((l0_0.length : Int) + 1)) = ji2 := (i64_w _).trans hji2; by_cases c3 : 0 ≤ (ji2)
 ·rw [if_pos c3] at H; have c3b0 := eq_true c3; have c3b1 : decide (0 ≤ (ji2)) = true := decide_eq_true c3; clear c3; by_cases c4 : (ji2 : Int).toNat ≤ 35184372088832
  ·rw [if_pos c4] at H; have c4b0 := eq_true c4; have c4b1 : decide ((ji2 : Int).toNat ≤ 35184372088832) = true := decide_eq_true c4; clear c4; obtain ⟨y244, hy244⟩ : ∃ y_ : List Int, y_ = (List.replicate (ji2 : Int).toNat 0) := ⟨_, rfl⟩
   replace H : (shape_steps.l0 k 1 (l0_0.length : Int) y244 l0_0 a0_1) = some r := by first | (rw [hy244]; with_reducible exact H) | (have H2_ := (Option.bind_some _ _).symm.trans H; rw [hy244]; with_reducible exact H2_) | (have H2_ := (Option.bind_some _ _).symm.trans H; with_reducible exact H2_) | with_reducible exact H | (rw [hy244]; exact H) | exact H
   have Ny244 := zk hy244; clear hy244; have H' := zk H; clear H; go_enter Try.func85, Try.ntmps85
   go_wp2_with (first | ((with_reducible refine gate_dst (N := 1) rfl ?_); refine box_event ?hg (N := 1) ?hd (cs := #[.slice A0_0 l0_0.length c0_0, .int .i64 a0_1]) (t := 50) ?hr ?_; (case hd => rfl); (case hg => rfl); (case hr => first | (go_simp; done) | (go_simp; rfl)); intro gb243 hg w5 hbox hb; have BK243 := zk (hbox); have GE243 := zk ((zg hg HB.out : w.heap.size ≤ gb243)); replace HB := zk (below_step (zU HB.out) hb);  clear hb hbox hg; have hcz6_0 : w5.cell? ⟨gb243, 0, none⟩ = some (.slice A0_0 l0_0.length c0_0) := zh BK243.out 0; have hcz6_1 : w5.cell? ⟨gb243, 1, none⟩ = some (.int .i64 a0_1) := zh BK243.out 1; have hfz6_0 := blk_frozen BK243.out 0; have hfz6_1 := blk_frozen BK243.out 1) | ((with_reducible refine gate_dst (N := 10) rfl ?_); refine Kd.R_make (Kd.int .i64) _ 3 rfl (N := 10) rfl 31 _ _ rfl ji2 rfl rfl Try.underlying31 (.int .i64 0) 8 info3 rfl (by decide) (by omega) 0 (ok := fun _ => True) (okp := fun _ => True) rfl (fun _ hk => hk) trivial zT (Nat.le_trans (Nat.mul_le_mul_right _ (zT : ji2.toNat ≤ 35184372088832)) (by omega)) (Below.refl _ _) (Nat.le_refl _) ?_; intro v245 w7 ho8 hb hg_ hnew_; clear hg_ hnew_; (first | rw [← Ny244.out] at ho8 | (simp only [Int.reduceToNat] at ho8; rw [← Ny244.out] at ho8)); have HO246 := zk (Kd.R_lower ho8 (below_size (zU HB.out))); replace BK243 := zk (zbb BK243.out hb); replace HB := zk (below_step (zU HB.out) hb);  clear hb ho8; have hcz9_0 : w7.cell? ⟨gb243, 0, none⟩ = some (.slice A0_0 l0_0.length c0_0) := zh BK243.out 0; have hcz9_1 : w7.cell? ⟨gb243, 1, none⟩ = some (.int .i64 a0_1) := zh BK243.out 1; have hfz9_0 := blk_frozen BK243.out 0; have hfz9_1 := blk_frozen BK243.out 1))
   go_loopg [4, 5] k (fun kq v4 v5 w' => ∃ (x4_1 : Int) (x5_1 : Int) (x10_1 : List Int), v4 = .int .i64 x4_1 ∧ v5 = .int .i64 x5_1 ∧ Aside0 (shape_steps.l0 kq x4_1 x5_1 x10_1 l0_0 a0_1 = some r) ∧ Aside0 (kq ≤ k) ∧ Aside0 (Kd.R (Kd.int .i64) 3 w' w.heap.size (fun _ => True) v245 x10_1) ∧ Aside0 (w'.heap[gb243]? = some (.cells #[(.slice A0_0 l0_0.length c0_0), .int .i64 a0_1] 50 (0, 0))) ∧ Aside0 (Below w.heap.size w w'))
   case atStart => exact ⟨(1), ((l0_0.length : Int)), (y244), zR, zR, H', ⟨Nat.le_refl _⟩, ⟨by (with_reducible repeat (first | apply zA | apply zB | apply zC)); exact HO246.out⟩, ⟨zb BK243.out⟩, ⟨zU HB.out⟩⟩
   case round =>
    clear H'; (try clear p2); (try clear c3); (try clear c3b0); (try clear c3b1); (try clear c4); (try clear c4b0); (try clear c4b1); (try clear p6); (try clear c8); (try clear hcz6_0); (try clear hcz6_1); (try clear hcz9_0); (try clear hcz9_1); (try clear hfz6_0); (try clear hfz6_1); (try clear hfz9_0); (try clear hfz9_1); obtain ⟨x4_1, x5_1, x10_1, rfl, rfl, HA, HK1, HO_10, BK243, HB⟩ := hrel
    cases gk with
    | zero => exact absurd HA.out (by simp [shape_steps.l0])
    | succ k1 =>
     have H := HA.out; clear HA; simp only [shape_steps.l0] at H; by_cases c10 : x5_1 > 0
     ·rw [if_pos c10] at H; have c10b0 : decide (0 < x5_1) = true := decide_eq_true c10; clear c10; by_cases c11 : 0 ≤ x5_1
      ·rw [if_pos c11] at H; have c11b0 : decide (0 ≤ x5_1) = true := decide_eq_true c11; clear c11; by_cases c12 : x5_1 < (x10_1.length : Int)
       ·rw [if_pos c12] at H; have c12b0 : decide (x5_1 < (x10_1.length : Int)) = true := decide_eq_true c12; clear c12; obtain ⟨y247, hy247⟩ : ∃ y_ : List Int, y_ = (x10_1.set (x5_1 : Int).toNat x4_1) := ⟨_, rfl⟩
        replace H : (if 0 ≤ (wrap64 (x5_1 - 1)) then (if (wrap64 (x5_1 - 1)) < (l0_0.length : Int) then ((spans_Size.f k1 (rd_L4 l0_0 (wrap64 (x5_1 - 1)))).bind fun t249 => (shape_steps.l0 k1 (wrap64 (x4_1 * t249)) (wrap64 (x5_1 - 1)) y247 l0_0 a0_1)) else (none)) else (none)) = some r := by first | (rw [hy247]; with_reducible exact H) | (have H2_ := (Option.bind_some _ _).symm.trans H; rw [hy247]; with_reducible exact H2_) | (have H2_ := (Option.bind_some _ _).symm.trans H; with_reducible exact H2_) | with_reducible exact H | (rw [hy247]; exact H) | exact H
        have Ny247 := zk hy247; clear hy247; obtain ⟨ji14, hji14⟩ : ∃ j_ : Int, (wrap64 (x5_1 - 1)) = j_ := ⟨_, rfl⟩
        replace H : (if 0 ≤ (ji14) then (if (ji14) < (l0_0.length : Int) then ((spans_Size.f k1 (rd_L4 l0_0 (ji14))).bind fun t249 => (shape_steps.l0 k1 (wrap64 (x4_1 * t249)) ji14 y247 l0_0 a0_1)) else (none)) else (none)) = some r := by first | (rw [hji14] at H; exact H) | (simp only [hji14] at H ⊢; exact H)
        have hji14w : (IntKind.i64.wrap (x5_1 - 1)) = ji14 := (i64_w _).trans hji14; by_cases c15 : 0 ≤ (ji14)
        ·rw [if_pos c15] at H; have c15b0 : decide (0 ≤ (ji14)) = true := decide_eq_true c15; clear c15; by_cases c16 : (ji14) < (l0_0.length : Int)
         ·rw [if_pos c16] at H; have c16b0 : decide ((ji14) < (l0_0.length : Int)) = true := decide_eq_true c16; clear c16; replace H := Option.bind_eq_some_iff.mp H; obtain ⟨t249, A170, H⟩ := H; replace H : (shape_steps.l0 k1 (wrap64 (x4_1 * t249)) ji14 y247 l0_0 a0_1) = some r := H; have A17 := zk A170; clear A170; have H' := zk H; clear H; have p13 : 0 ≤ (x5_1 : Int) := zT; have q13 : (x5_1 : Int) < ((x10_1.length : Int) : Int) := zT; obtain ⟨go13, co13, eo13, gb13, gl13, cl13, HG13⟩ := Kd.R_form HO_10.out (by omega)
          (first | cases eo13 | (injection eo13 with ea_ en_ ec_; (first | subst ea_ | (injection ea_ with ea_; subst ea_)); subst ec_; clear en_))
          have GB13 := zk gb13; have GG13 := zk HG13; clear gb13 gl13 HG13; obtain ⟨hx13_0, hf13_0⟩ := Kd.R_celln 0 HO_10.out (x5_1 : Int) p13 q13; replace p13 := eq_true p13; replace q13 := eq_true q13; have HP18 := Kd.R_putg HO_10.out (x5_1 : Int) x4_1; go_wp2_with (first | ((with_reducible refine gate_store (t := 3) (p := 21) rfl ?_); refine store_event (t := 3) (p := 21) (v := ?vo_w19) (w1 := (wr.setCell ⟨go13, (x5_1 : Int).toNat, none⟩ (.int .i64 x4_1))) ?hg ?ho ?hn ?hr ?_; (case ho => rfl); (case hg => rfl); (case hn => rfl); (case hr => first | (go_simp; done) | (go_simp; rfl)); intro w19 hw; have hg : wr.grownBy w19 (some go13) := (by rw [hw]; exact HP18.2); have hp_ : Kd.R (Kd.int .i64) 3 w19 w.heap.size (fun _ => True) (.slice (some ⟨go13, 0, none⟩) x10_1.length co13) y247 := (by rw [hw, Ny247.out]; exact HP18.1); clear HP18; replace BK243 := zk (blk_grown (g := gb243) (o := .cells #[.slice A0_0 l0_0.length c0_0, .int .i64 a0_1] 50 (0, 0)) (zb BK243.out) hg (Kd.R_ne HO_10.out BK243.out (by decide))); replace HO_10 := zk (hp_); replace HB := zk ((by rw [hw]; exact below_set (HB.out) GB13.out : Below w.heap.size w w19));  clear hg hw hp_; have hcz20_0 : w19.cell? ⟨gb243, 0, none⟩ = some (.slice A0_0 l0_0.length c0_0) := zh BK243.out 0; have hcz20_1 : w19.cell? ⟨gb243, 1, none⟩ = some (.int .i64 a0_1) := zh BK243.out 1; have hfz20_0 := blk_frozen BK243.out 0; have hfz20_1 := blk_frozen BK243.out 1; have p248 : 0 ≤ ((ji14) : Int) := zT; have q248 : (ji14) < (l0_0.length : Int) := zT; obtain ⟨ad248, A248_0, c248_0, e248, hx248_0, hl248_0, hi248_0⟩ := at_L4 HR0_0.out (ji14) p248 q248; cases e248; replace hx248_0 := zcl HB.out hx248_0; have HR248_0 := zk hi248_0; have HC248_0 := zk hl248_0; clear hi248_0 hl248_0; replace p248 := eq_true p248; replace q248 := eq_true q248) | ((with_reducible refine gate_callee (f := 123) rfl ?_); refine goesL_ (some 29) rfl rfl Try.func123 zz rfl #[.slice A248_0 (rd_L4 l0_0 (ji14)).length c248_0] rfl (by (try simp only [List.map_toArray, List.map_cons, List.map_nil]); first | done | (simp only [hji14]; rfl) | rfl | (simp only [List.length_drop, List.length_take]; rfl)) ?_; (with_reducible refine (spans_Size.calls k1 _ _ (rd_L4 l0_0 (ji14)) t249 _ ?side1 ?side2 A17.out).mono ?_); (case side1 => exact zc (Kd.C_below HR248_0.out HB.out)); (case side2 => exact HC248_0.out); rintro e w21 ⟨rfl, hb⟩; refine ⟨_, rfl, ?_⟩; replace HO_10 := zk (Kd.R_below (zr HO_10.out) hb); replace BK243 := zk (zbb BK243.out hb); replace HB := zk (below_step (zU HB.out) hb);  (try clear hb); (try clear hb2); (try clear hk); (try clear hi)))
          go_roundg k1
          case measure => have := HK1.out; omega
          case rel => exact ⟨(wrap64 (x4_1 * t249)), (ji14), (y247), zR, (by first | rfl | (simp; done) | (rw [← hji14_, if_pos (by omega)]; first | done | rfl) | (rw [← hji14_, if_neg (by omega)]; first | done | rfl) | (simp only [← hji14] <;> (first | rfl | simp)) | (simp [*]; done)), H', ⟨by have := HK1.out; omega⟩, ⟨by (with_reducible repeat (first | apply zA | apply zB | apply zC)); exact HO_10.out⟩, ⟨zb BK243.out⟩, ⟨zU HB.out⟩⟩
         ·rw [if_neg c16] at H; exact absurd H (by simp)
        ·rw [if_neg c15] at H; exact absurd H (by simp)
       ·rw [if_neg c12] at H; exact absurd H (by simp)
      ·rw [if_neg c11] at H; exact absurd H (by simp)
     ·rw [if_neg c10] at H; have c10b0 : decide (0 < x5_1) = false := decide_eq_false c10; clear c10; by_cases c22 : 0 < (x10_1.length : Int)
      ·rw [if_pos c22] at H; have c22b0 : decide (0 < (x10_1.length : Int)) = true := decide_eq_true c22; have c22b1 : decide (0 < x10_1.length) = true := decide_eq_true (by omega); clear c22; obtain ⟨y250, hy250⟩ : ∃ y_ : List Int, y_ = (x10_1.set (0 : Int).toNat x4_1) := ⟨_, rfl⟩
       replace H : (some y250) = some r := by first | (rw [hy250]; with_reducible exact H) | (have H2_ := (Option.bind_some _ _).symm.trans H; rw [hy250]; with_reducible exact H2_) | (have H2_ := (Option.bind_some _ _).symm.trans H; with_reducible exact H2_) | with_reducible exact H | (rw [hy250]; exact H) | exact H
       have Ny250 := zk hy250; clear hy250; obtain rfl := Option.some.inj H; have p23 : 0 ≤ (0 : Int) := (by omega); have q23 : (0 : Int) < ((x10_1.length : Int) : Int) := zT; have qi23 : (0 < x10_1.length) = True := eq_true (by omega); obtain ⟨go23, co23, eo23, gb23, gl23, cl23, HG23⟩ := Kd.R_form HO_10.out (by omega)
       (first | cases eo23 | (injection eo23 with ea_ en_ ec_; (first | subst ea_ | (injection ea_ with ea_; subst ea_)); subst ec_; clear en_))
       have GB23 := zk gb23; have GG23 := zk HG23; clear gb23 gl23 HG23; obtain ⟨hx23_0, hf23_0⟩ := Kd.R_celln 0 HO_10.out (0 : Int) p23 q23; (try rw [show ((0 : Int)).toNat = 0 from rfl] at hx23_0)
       (try simp only [Nat.reduceMul, Nat.zero_mul, Nat.zero_add, Nat.reduceAdd] at hx23_0)
       (try rw [show ((0 : Int)).toNat = 0 from rfl] at hf23_0)
       (try simp only [Nat.reduceMul, Nat.zero_mul, Nat.zero_add, Nat.reduceAdd] at hf23_0)
       replace p23 := eq_true p23; replace q23 := eq_true q23; have HP24 := Kd.R_putg HO_10.out (0 : Int) x4_1; go_wp2_with (first | ((with_reducible refine gate_store (t := 3) (p := 33) rfl ?_); refine store_event (t := 3) (p := 33) (v := ?vo_w25) (w1 := (wr.setCell ⟨go23, (0 : Int).toNat, none⟩ (.int .i64 x4_1))) ?hg ?ho ?hn ?hr ?_; (case ho => rfl); (case hg => rfl); (case hn => rfl); (case hr => first | (go_simp; done) | (go_simp; rfl)); intro w25 hw; have hg : wr.grownBy w25 (some go23) := (by rw [hw]; exact HP24.2); have hp_ : Kd.R (Kd.int .i64) 3 w25 w.heap.size (fun _ => True) (.slice (some ⟨go23, 0, none⟩) x10_1.length co23) y250 := (by rw [hw, Ny250.out]; exact HP24.1); clear HP24; replace BK243 := zk (blk_grown (g := gb243) (o := .cells #[.slice A0_0 l0_0.length c0_0, .int .i64 a0_1] 50 (0, 0)) (zb BK243.out) hg (Kd.R_ne HO_10.out BK243.out (by decide))); replace HO_10 := zk (hp_); replace HB := zk ((by rw [hw]; exact below_set (HB.out) GB23.out : Below w.heap.size w w25));  clear hg hw hp_))
       go_ret
       exact ⟨_, by first | rfl | (simp [errW_none, errW_some] <;> rfl) | (simp only [← hji2]; first | rfl | (simp [errW_none, errW_some] <;> rfl)) | (simp [*, errW_none, errW_some] <;> rfl), by (with_reducible repeat (first | apply zA | apply zB | apply zC)); exact HO_10.out, zU HB.out⟩
      ·rw [if_neg c22] at H; exact absurd H (by simp)
  ·rw [if_neg c4] at H; exact absurd H (by simp)
 ·rw [if_neg c3] at H; exact absurd H (by simp)
def shape_Count.f (k : Nat) (l0_0 : List (List (S113))) (a0_1 : Int) : Option (Int) := (shape_Valid.f k l0_0 a0_1).bind fun t252 => (if t252 = true then ((shape_steps.f k l0_0 a0_1).bind fun t253 => (if 0 < (t253.length : Int) then (some (rd t253 0)) else (none))) else (some 0))
theorem shape_Count.mono : ∀ a0 a1 k, LeO (shape_Count.f k a0 a1) (shape_Count.f (k + 1) a0 a1) := by
 intro a0 a1 k; unfold shape_Count.f; repeat' first
  | (with_reducible exact shape_Valid.mono _ _ _)
  | (with_reducible exact shape_steps.mono _ _ _)
  | (with_reducible exact LeO.refl _)
  | (with_reducible exact LeO.none _)
  | (with_reducible refine LeO.ite ?_ ?_)
  | (with_reducible refine LeO.bind ?_ (fun _ => ?_))
  | exact shape_Valid.mono _ _ _
  | exact shape_steps.mono _ _ _
  | exact LeO.none _
  | refine LeO.ite ?_ ?_
  | refine LeO.bind ?_ (fun _ => ?_)
set_option maxHeartbeats 8000000 in
set_option maxRecDepth 100000 in
theorem shape_Count.calls (k : Nat) (A0_0 : Option Addr) (c0_0 : Nat) (l0_0 : List (List (S113))) (a0_1 : Int) (r : Int) (w : World) (hr0_0 : Kd.C (Kd.slice 113 k113) w A0_0 l0_0.length l0_0) (hc0_0 : l0_0.length ≤ c0_0) (h : shape_Count.f k l0_0 a0_1 = some r) :
 Calls Try.prog 33 #[.agg #[.slice A0_0 l0_0.length c0_0, .int .i64 a0_1]] w fun e w' => e = .returned (.int .i64 r) ∧ Below w.heap.size w w' := by
 have hu50 := Try.underlying50; have HR0_0 := zk hr0_0; have HC0_0 := zk hc0_0; clear hr0_0 hc0_0; have HB := zk (Below.refl w.heap.size w); have H : ((shape_Valid.f k l0_0 a0_1).bind fun t252 => (if t252 = true then ((shape_steps.f k l0_0 a0_1).bind fun t253 => (if 0 < (t253.length : Int) then (some (rd t253 0)) else (none))) else (some 0))) = some r := h; clear h; replace H := Option.bind_eq_some_iff.mp H; obtain ⟨t252, A20, H⟩ := H; replace H : (if t252 = true then ((shape_steps.f k l0_0 a0_1).bind fun t253 => (if 0 < (t253.length : Int) then (some (rd t253 0)) else (none))) else (some 0)) = some r := H; have A2 := zk A20; clear A20; by_cases c3 : t252 = true
 ·subst c3; have H1 : ((shape_steps.f k l0_0 a0_1).bind fun t253 => (if 0 < (t253.length : Int) then (some (rd t253 0)) else (none))) = some r := by rw [if_pos rfl] at H; exact H
  clear H; have H := H1; clear H1; replace H := Option.bind_eq_some_iff.mp H; obtain ⟨t253, A40, H⟩ := H; replace H : (if 0 < (t253.length : Int) then (some (rd t253 0)) else (none)) = some r := H; have A4 := zk A40; clear A40; by_cases c5 : 0 < (t253.length : Int)
  ·rw [if_pos c5] at H; have c5b0 : decide (0 < (t253.length : Int)) = true := decide_eq_true c5; have c5b1 : decide (0 < t253.length) = true := decide_eq_true (by omega); clear c5; obtain rfl := Option.some.inj H; go_enter Try.func33, Try.ntmps33
   go_wp2_with (first | ((with_reducible refine gate_dst (N := 1) rfl ?_); refine box_event ?hg (N := 1) ?hd (cs := #[.slice A0_0 l0_0.length c0_0, .int .i64 a0_1]) (t := 50) ?hr ?_; (case hd => rfl); (case hg => rfl); (case hr => first | (go_simp; done) | (go_simp; rfl)); intro gb251 hg w6 hbox hb; have BK251 := zk (hbox); have GE251 := zk ((zg hg HB.out : w.heap.size ≤ gb251)); replace HB := zk (below_step (zU HB.out) hb);  clear hb hbox hg; have hcz7_0 : w6.cell? ⟨gb251, 0, none⟩ = some (.slice A0_0 l0_0.length c0_0) := zh BK251.out 0; have hcz7_1 : w6.cell? ⟨gb251, 1, none⟩ = some (.int .i64 a0_1) := zh BK251.out 1; have hfz7_0 := blk_frozen BK251.out 0; have hfz7_1 := blk_frozen BK251.out 1) | ((with_reducible refine gate_callee (f := 51) rfl ?_); refine goesL_ (some 4) rfl rfl Try.func51 zz rfl #[.agg #[.slice A0_0 l0_0.length c0_0, .int .i64 a0_1]] rfl zM ?_; (with_reducible refine (shape_Valid.calls k (fun k_ => k_ < w.heap.size) _ _ l0_0 a0_1 true _ ?side1 A2.out).mono ?_); (case side1 => exact Kd.V_mk HC0_0.out (Kd.F_below (Kd.C_F (Kd.heap_slice 113 k113_heap) HR0_0.out) (zU HB.out))); rintro e w8 ⟨rfl, hb⟩; refine ⟨_, rfl, ?_⟩; replace BK251 := zk (zbb BK251.out hb); replace HB := zk (below_step (zU HB.out) hb);  (try clear hb); (try clear hb2); (try clear hk); (try clear hi); have hcz9_0 : w8.cell? ⟨gb251, 0, none⟩ = some (.slice A0_0 l0_0.length c0_0) := zh BK251.out 0; have hcz9_1 : w8.cell? ⟨gb251, 1, none⟩ = some (.int .i64 a0_1) := zh BK251.out 1; have hfz9_0 := blk_frozen BK251.out 0; have hfz9_1 := blk_frozen BK251.out 1) | ((with_reducible refine gate_callee (f := 85) rfl ?_); refine goesL_ (some 7) rfl rfl Try.func85 zz rfl #[.agg #[.slice A0_0 l0_0.length c0_0, .int .i64 a0_1]] rfl zM ?_; (with_reducible refine (shape_steps.calls k _ _ l0_0 a0_1 t253 _ ?side1 ?side2 A4.out).mono ?_); (case side1 => exact zc (Kd.C_below HR0_0.out HB.out)); (case side2 => exact HC0_0.out); rintro e w10 ⟨v254, rfl, ho0, hb⟩; refine ⟨_, rfl, ?_⟩; have HO255 := zk (Kd.R_lower ho0 (below_size (zU HB.out))); replace BK251 := zk (zbb BK251.out hb); replace HB := zk (below_step (zU HB.out) hb);  (try clear hb); (try clear hb2); (try clear hk); (try clear hi); (try clear ho0); obtain ⟨Ao11, co11, eo11⟩ := Kd.R_slice HO255.out; subst eo11; have p256 : 0 ≤ (0 : Int) := (by omega); have q256 : 0 < (t253.length : Int) := zT; obtain ⟨ad256, e256, hx256_0⟩ := Kd.at_int (Kd.R_reads' HO255.out).2.2 0 p256 q256; cases e256; have qi256 : (0 < t253.length) = True := eq_true (by omega); (try rw [show ((0 : Int)).toNat = 0 from rfl] at hx256_0); (try rw [Addr.add_zero'] at hx256_0); replace p256 := eq_true p256; replace q256 := eq_true q256))
   go_ret
   exact ⟨ze, zU HB.out⟩
  ·rw [if_neg c5] at H; exact absurd H (by simp)
 ·replace c3 := Bool.eq_false_iff.mpr c3; subst c3; have H1 : (some 0) = some r := by rw [if_neg (show ¬ (false = true) by decide)] at H; exact H
  clear H; have H := H1; clear H1; obtain rfl := Option.some.inj H; go_enter Try.func33, Try.ntmps33
  go_wp2_with (first | ((with_reducible refine gate_dst (N := 1) rfl ?_); refine box_event ?hg (N := 1) ?hd (cs := #[.slice A0_0 l0_0.length c0_0, .int .i64 a0_1]) (t := 50) ?hr ?_; (case hd => rfl); (case hg => rfl); (case hr => first | (go_simp; done) | (go_simp; rfl)); intro gb251 hg w12 hbox hb; have BK251 := zk (hbox); have GE251 := zk ((zg hg HB.out : w.heap.size ≤ gb251)); replace HB := zk (below_step (zU HB.out) hb);  clear hb hbox hg; have hcz13_0 : w12.cell? ⟨gb251, 0, none⟩ = some (.slice A0_0 l0_0.length c0_0) := zh BK251.out 0; have hcz13_1 : w12.cell? ⟨gb251, 1, none⟩ = some (.int .i64 a0_1) := zh BK251.out 1; have hfz13_0 := blk_frozen BK251.out 0; have hfz13_1 := blk_frozen BK251.out 1) | ((with_reducible refine gate_callee (f := 51) rfl ?_); refine goesL_ (some 4) rfl rfl Try.func51 zz rfl #[.agg #[.slice A0_0 l0_0.length c0_0, .int .i64 a0_1]] rfl zM ?_; (with_reducible refine (shape_Valid.calls k (fun k_ => k_ < w.heap.size) _ _ l0_0 a0_1 false _ ?side1 A2.out).mono ?_); (case side1 => exact Kd.V_mk HC0_0.out (Kd.F_below (Kd.C_F (Kd.heap_slice 113 k113_heap) HR0_0.out) (zU HB.out))); rintro e w14 ⟨rfl, hb⟩; refine ⟨_, rfl, ?_⟩; replace BK251 := zk (zbb BK251.out hb); replace HB := zk (below_step (zU HB.out) hb);  (try clear hb); (try clear hb2); (try clear hk); (try clear hi)))
  go_ret
  exact ⟨ze, zU HB.out⟩
end Go.Proofs.Ytkcklnmbeinfkaa.B
