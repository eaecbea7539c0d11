/- Words and walks of this claim, of the text Bx41. -/
import Derived.Test.YtkcklnmbeinfkaaKrQW0
import Derived.Test.YtkcklnmbeinfkaaKrBx0
import Derived.Test.YtkcklnmbeinfkaaKrBx2
import Derived.Test.YtkcklnmbeinfkaaKrBx8
import Derived.Test.YtkcklnmbeinfkaaKrBx9
import Derived.Test.YtkcklnmbeinfkaaKrBx40
namespace Go.Proofs.Ytkcklnmbeinfkaa.B
open Go.RowKit Go.Proofs.YtkcklnmbeinfkaaW.PrintWords Go.Proofs.YtkcklnmbeinfkaaW.PrintLast Go.Proofs.YtkcklnmbeinfkaaW.PrintMore
attribute [local go_sem] max2_int min2_int max_two min_two max_three min_three max_four min_four
set_option linter.unusedVariables false
set_option linter.unusedSimpArgs false
attribute [local go_sem high] eqA102
def repert_Of.l0 : Nat → List (S102) → List (S50) → Int → Int → Option ((List (S102)) × Int)
 | 0, _, _, _, _ => none
 | k + 1, x4, x14, x15, x16 => if x16 < x15 then (if 0 ≤ x16 then (if x16 < (x14.length : Int) then ((shape_Count.f k ((rd_T50 x14 x16).f0) ((rd_T50 x14 x16).f1)).bind fun t1061 => (if x4.length < 8796093022208 then (repert_Of.l0 k (x4 ++ [(⟨(rd_T50 x14 x16).f1, wrap64 ((wrap64 (((rd_T50 x14 x16).f1) + t1061)) - 1)⟩ : S102)]) x14 x15 (wrap64 (x16 + 1))) else (none))) else (none)) else (none)) else ((scalars_Norm.f k x4).bind fun bt1065 => (some (bt1065.1, 0)))
def repert_Of.f (k : Nat) (l0_0 : List (S50)) : Option ((List (S102)) × Int) := (scheme_Valid.f k l0_0).bind fun t1058 => (if t1058 = true then (repert_Of.l0 k ([] : List (S102)) l0_0 (l0_0.length : Int) 0) else (some (([] : List (S102)), 84)))
theorem repert_Of.mono_l : ∀ k, (∀ y0 y1 y2 y3, LeO (repert_Of.l0 k y0 y1 y2 y3) (repert_Of.l0 (k + 1) y0 y1 y2 y3))
 | 0 => fun _ _ _ _ r h => by simp [repert_Of.l0] at h
 | k + 1 => by
  have ih0 := repert_Of.mono_l k
  ·intro y0 y1 y2 y3; unfold repert_Of.l0; repeat' first
   | (with_reducible exact ih0 _ _ _ _)
   | (with_reducible exact scalars_Norm.mono _ _)
   | (with_reducible exact scheme_Valid.mono _ _)
   | (with_reducible exact shape_Count.mono _ _ _)
   | (with_reducible exact LeO.refl _)
   | (with_reducible exact LeO.none _)
   | (with_reducible refine LeO.ite ?_ ?_)
   | (with_reducible refine LeO.bind ?_ (fun _ => ?_))
   | exact ih0 _ _ _ _
   | exact scalars_Norm.mono _ _
   | exact scheme_Valid.mono _ _
   | exact shape_Count.mono _ _ _
   | exact LeO.none _
   | refine LeO.ite ?_ ?_
   | refine LeO.bind ?_ (fun _ => ?_)
theorem repert_Of.mono : ∀ a0 k, LeO (repert_Of.f k a0) (repert_Of.f (k + 1) a0) := by
 intro a0 k; have ih0 := repert_Of.mono_l k; unfold repert_Of.f; repeat' first
  | (with_reducible exact ih0 _ _ _ _)
  | (with_reducible exact scalars_Norm.mono _ _)
  | (with_reducible exact scheme_Valid.mono _ _)
  | (with_reducible exact shape_Count.mono _ _ _)
  | (with_reducible exact LeO.refl _)
  | (with_reducible exact LeO.none _)
  | (with_reducible refine LeO.ite ?_ ?_)
  | (with_reducible refine LeO.bind ?_ (fun _ => ?_))
  | exact ih0 _ _ _ _
  | exact scalars_Norm.mono _ _
  | exact scheme_Valid.mono _ _
  | exact shape_Count.mono _ _ _
  | exact LeO.none _
  | refine LeO.ite ?_ ?_
  | refine LeO.bind ?_ (fun _ => ?_)
def repert_Of.T7 : Bool × List (List Nat × List Nat) := (true, [([], []), ([], []), ([1], [1]), ([], []), ([3], [3]), ([], []), ([5], [5]), ([4, 6], [4, 6]), ([7], [7]), ([2, 8], [2, 8]), ([9], [9]), ([0, 10, 6], [0, 10]), ([11, 11, 0, 1, 2, 3, 4, 5, 6, 7, 8, 9, 10, 11], [0, 11])])
def repert_Of.B7 : List Nat := [0, 0, 2, 0, 8, 0, 32, 120, 248, 510, 1022, 2047, 4095]
theorem repert_Of.tab7 : rtab .any (opsOf Try.f21 7) = repert_Of.T7 := by kernel_rfl
theorem repert_Of.bits7 : waitsOk repert_Of.T7.2 repert_Of.B7 = true := by kernel_rfl
set_option maxHeartbeats 8000000 in
set_option maxRecDepth 100000 in
theorem repert_Of.calls (k : Nat) (A0_0 : Option Addr) (c0_0 : Nat) (l0_0 : List (S50)) (r1 : List (S102)) (r2 : Int) (w : World) (hr0_0 : Kd.C k50 w A0_0 l0_0.length l0_0) (hc0_0 : l0_0.length ≤ c0_0) (h : repert_Of.f k l0_0 = some (r1, r2)) :
 Calls Try.prog 21 #[.agg #[.slice A0_0 l0_0.length c0_0]] w fun e w' => ∃ v0_ : Value, e = .returned (.tuple #[v0_, .int .i64 r2]) ∧ Kd.R k102 102 w' w.heap.size (fun _ => True) v0_ r1 ∧ Below w.heap.size w w' := by
 have hu24 := Try.underlying24; have hu50 := Try.underlying50; have hu102 := Try.underlying102; have HR0_0 := zk hr0_0; have HC0_0 := zk hc0_0; clear hr0_0 hc0_0; have HB := zk (Below.refl w.heap.size w); have H : ((scheme_Valid.f k l0_0).bind fun t1058 => (if t1058 = true then (repert_Of.l0 k ([] : List (S102)) l0_0 (l0_0.length : Int) 0) else (some (([] : List (S102)), 84)))) = some (r1, r2) := h; clear h; replace H := Option.bind_eq_some_iff.mp H; obtain ⟨t1058, A20, H⟩ := H; replace H : (if t1058 = true then (repert_Of.l0 k ([] : List (S102)) l0_0 (l0_0.length : Int) 0) else (some (([] : List (S102)), 84))) = some (r1, r2) := H; have A2 := zk A20; clear A20; by_cases c3 : t1058 = true
 ·subst c3; have H1 : (repert_Of.l0 k ([] : List (S102)) l0_0 (l0_0.length : Int) 0) = some (r1, r2) := by rw [if_pos rfl] at H; exact H
  clear H; have H := H1; clear H1; have H' := zk H; clear H; go_enter Try.func21, Try.ntmps21
  go_wp2_with (first | ((with_reducible refine gate_dst (N := 1) rfl ?_); refine box_event ?hg (N := 1) ?hd (cs := #[.slice A0_0 l0_0.length c0_0]) (t := 24) ?hr ?_; (case hd => rfl); (case hg => rfl); (case hr => first | (go_simp; done) | (go_simp; rfl)); intro gb1057 hg w4 hbox hb; have BK1057 := zk (hbox); have GE1057 := zk ((zg hg HB.out : w.heap.size ≤ gb1057)); replace HB := zk (below_step (zU HB.out) hb);  clear hb hbox hg; have hcz5_0 : w4.cell? ⟨gb1057, 0, none⟩ = some (.slice A0_0 l0_0.length c0_0) := zh BK1057.out 0; have hfz5_0 := blk_frozen BK1057.out 0) | ((with_reducible refine gate_callee (f := 76) rfl ?_); refine goesL_ (some 11) rfl rfl Try.func76 zz rfl #[.agg #[.slice A0_0 l0_0.length c0_0]] rfl zM ?_; (with_reducible refine (scheme_Valid.calls k _ _ l0_0 true _ ?side1 ?side2 A2.out).mono ?_); (case side1 => exact zc (Kd.C_below HR0_0.out HB.out)); (case side2 => exact HC0_0.out); rintro e w6 ⟨rfl, hb⟩; refine ⟨_, rfl, ?_⟩; replace BK1057 := zk (zbb BK1057.out hb); replace HB := zk (below_step (zU HB.out) hb);  (try clear hb); (try clear hb2); (try clear hk); (try clear hi); have hcz7_0 : w6.cell? ⟨gb1057, 0, none⟩ = some (.slice A0_0 l0_0.length c0_0) := zh BK1057.out 0; have hfz7_0 := blk_frozen BK1057.out 0))
  go_loopg [4, 16] k (fun kq v4 v16 w' => ∃ (x4_1 : List (S102)) (x16_1 : Int), v16 = .int .i64 x16_1 ∧ Aside0 (repert_Of.l0 kq x4_1 l0_0 (l0_0.length : Int) x16_1 = some (r1, r2)) ∧ Aside0 (kq ≤ k) ∧ Aside0 (Kd.R k102 102 w' w.heap.size (fun _ => True) v4 x4_1) ∧ Aside0 (w'.heap[gb1057]? = some (.cells #[(.slice A0_0 l0_0.length c0_0)] 24 (0, 0))) ∧ Aside0 (Below w.heap.size w w'))
  case atStart => exact ⟨(([] : List (S102))), (0), zR, H', ⟨Nat.le_refl _⟩, ⟨by first | exact Kd.R_nil _ _ _ _ _ | exact Kd.N_nil _ _ _ _ _ | exact Kd.V_nil _ _ _ _ _ | exact Kd.Q_nil _ _ _ _ _ | exact Kd.S_nil _ _ _ _ _⟩, ⟨zb BK1057.out⟩, ⟨zU HB.out⟩⟩
  case round =>
   clear H'; (try clear c2); (try clear p2); (try clear c3); (try clear c7); (try clear hcz5_0); (try clear hcz7_0); (try clear hfz5_0); (try clear hfz7_0); obtain ⟨x4_1, x16_1, rfl, HA, HK1, HO_4, BK1057, HB⟩ := hrel
   cases gk with
   | zero => exact absurd HA.out (by simp [repert_Of.l0])
   | succ k1 =>
    have H := HA.out; clear HA; simp only [repert_Of.l0] at H; by_cases c8 : x16_1 < (l0_0.length : Int)
    ·rw [if_pos c8] at H; have c8b0 : decide (x16_1 < (l0_0.length : Int)) = true := decide_eq_true c8; clear c8; by_cases c9 : 0 ≤ x16_1
     ·rw [if_pos c9] at H; have c9b0 : decide (0 ≤ x16_1) = true := decide_eq_true c9; clear c9; by_cases c10 : x16_1 < (l0_0.length : Int)
      ·rw [if_pos c10] at H; have c10b0 : decide (x16_1 < (l0_0.length : Int)) = true := decide_eq_true c10; clear c10; replace H := Option.bind_eq_some_iff.mp H; obtain ⟨t1061, A110, H⟩ := H; replace H : (if x4_1.length < 8796093022208 then (repert_Of.l0 k1 (x4_1 ++ [(⟨(rd_T50 l0_0 x16_1).f1, wrap64 ((wrap64 (((rd_T50 l0_0 x16_1).f1) + t1061)) - 1)⟩ : S102)]) l0_0 (l0_0.length : Int) (wrap64 (x16_1 + 1))) else (none)) = some (r1, r2) := H; have A11 := zk A110; clear A110; by_cases c12 : x4_1.length < 8796093022208
       ·rw [if_pos c12] at H; have LMc12 := zk c12; clear c12; obtain ⟨y1062, hy1062⟩ : ∃ y_ : List (S102), y_ = (x4_1 ++ [(⟨(rd_T50 l0_0 x16_1).f1, wrap64 ((wrap64 (((rd_T50 l0_0 x16_1).f1) + t1061)) - 1)⟩ : S102)]) := ⟨_, rfl⟩
        replace H : (repert_Of.l0 k1 y1062 l0_0 (l0_0.length : Int) (wrap64 (x16_1 + 1))) = some (r1, r2) := by first | (rw [hy1062]; with_reducible exact H) | (have H2_ := (Option.bind_some _ _).symm.trans H; rw [hy1062]; with_reducible exact H2_) | (have H2_ := (Option.bind_some _ _).symm.trans H; with_reducible exact H2_) | with_reducible exact H | (rw [hy1062]; exact H) | exact H
        have Ny1062 := zk hy1062; clear hy1062; have H' := zk H; clear H; have p1059 : 0 ≤ (x16_1 : Int) := zT; have q1059 : x16_1 < (l0_0.length : Int) := zT; obtain ⟨ad1059, A1059_0, c1059_0, e1059, hx1059_0, hx1059_1, hl1059_0, hi1059_0⟩ := at_T50 HR0_0.out x16_1 p1059 q1059; cases e1059; replace hx1059_0 := zcl HB.out hx1059_0; replace hx1059_1 := zcl HB.out hx1059_1; have HR1059_0 := zk hi1059_0; have HC1059_0 := zk hl1059_0; clear hi1059_0 hl1059_0; replace p1059 := eq_true p1059; replace q1059 := eq_true q1059; try go_wp2_with (first | ((with_reducible refine gate_dst (N := 6) rfl ?_); refine box_event ?hg (N := 6) ?hd (cs := #[.slice none 0 0, .int .i64 0]) (t := 50) ?hr ?_; (case hd => rfl); (case hg => rfl); (case hr => first | (go_simp; done) | (go_simp; rfl)); intro gb1060 hg w13 hbox hb; replace HO_4 := zk (Kd.R_below (zr HO_4.out) hb); have BK1060 := zk (hbox); have GE1060 := zk ((zg hg HB.out : w.heap.size ≤ gb1060)); replace HB := zk (below_step (zU HB.out) hb); have NB1057_1060 := zk ((zlt hg BK1057.out : gb1057 ≠ gb1060)); have NB1060_1057 := zk ((zgt hg BK1057.out : gb1060 ≠ gb1057)); replace BK1057 := zk (zbb BK1057.out hb);  clear hb hbox hg; have hnb14 := NB1060_1057.out; have hnc14 := NB1057_1060.out; have hcz15_0 : w13.cell? ⟨gb1060, 0, none⟩ = some (.slice none 0 0) := zh BK1060.out 0; have hcz15_1 : w13.cell? ⟨gb1060, 1, none⟩ = some (.int .i64 0) := zh BK1060.out 1; have hfz15_0 := blk_frozen BK1060.out 0; have hfz15_1 := blk_frozen BK1060.out 1))
        have n0_ : Aside0 (Kd.R k102 102 ((w13.setCell ⟨gb1060, 0, none⟩ (.slice A1059_0 ((rd_T50 l0_0 x16_1).f0).length c1059_0)).setCell ⟨gb1060, 1, none⟩ (.int .i64 ((rd_T50 l0_0 x16_1).f1))) w.heap.size (fun _ => True) u4 x4_1) := ⟨by (with_reducible repeat (first | apply zA | apply zB | apply zC)); exact Kd.R_mono (Kd.R_far (p := ⟨gb1060, 1, none⟩) (Kd.R_far (p := ⟨gb1060, 0, none⟩) (Kd.R_types HO_4.out BK1060.out (by decide)) (fun _ hk => hk.2) (.slice A1059_0 ((rd_T50 l0_0 x16_1).f0).length c1059_0)) (fun _ hk => hk.2) (.int .i64 ((rd_T50 l0_0 x16_1).f1))) (fun _ hk => trivial)⟩; have n1_ : Aside0 (((w13.setCell ⟨gb1060, 0, none⟩ (.slice A1059_0 ((rd_T50 l0_0 x16_1).f0).length c1059_0)).setCell ⟨gb1060, 1, none⟩ (.int .i64 ((rd_T50 l0_0 x16_1).f1))).heap[gb1057]? = some (.cells #[.slice (some ad1059) l0_0.length c0_0] 24 (0, 0))) := ⟨zb BK1057.out⟩; have n2_ : Aside0 (((w13.setCell ⟨gb1060, 0, none⟩ (.slice A1059_0 ((rd_T50 l0_0 x16_1).f0).length c1059_0)).setCell ⟨gb1060, 1, none⟩ (.int .i64 ((rd_T50 l0_0 x16_1).f1))).heap[gb1060]? = some (.cells #[.slice A1059_0 ((rd_T50 l0_0 x16_1).f0).length c1059_0, .int .i64 ((rd_T50 l0_0 x16_1).f1)] 50 (0, 0))) := ⟨by (with_reducible repeat (first | refine blk_drewN ?_ _ | refine blk_drew ?_ | refine blk_alloc ?_ _)); refine blk_put (cs := #[.slice A1059_0 ((rd_T50 l0_0 x16_1).f0).length c1059_0, .int .i64 0]) ?_ 1 _ rfl; (with_reducible repeat (first | refine blk_drewN ?_ _ | refine blk_drew ?_ | refine blk_alloc ?_ _)); refine blk_put (cs := #[.slice none 0 0, .int .i64 0]) ?_ 0 _ rfl; exact zb BK1060.out⟩; have n3_ : Aside0 (Below w.heap.size w ((w13.setCell ⟨gb1060, 0, none⟩ (.slice A1059_0 ((rd_T50 l0_0 x16_1).f0).length c1059_0)).setCell ⟨gb1060, 1, none⟩ (.int .i64 ((rd_T50 l0_0 x16_1).f1)))) := ⟨zU HB.out⟩; (try clear HO_4); (try clear BK1057); (try clear BK1060); (try clear HB); generalize ((w13.setCell ⟨gb1060, 0, none⟩ (.slice A1059_0 ((rd_T50 l0_0 x16_1).f0).length c1059_0)).setCell ⟨gb1060, 1, none⟩ (.int .i64 ((rd_T50 l0_0 x16_1).f1))) = w16 at n0_ n1_ n2_ n3_ ⊢; have HO_4 := n0_; have BK1057 := n1_; have BK1060 := n2_; have HB := n3_; clear n0_ n1_ n2_ n3_; have n0_ := zk (Kd.R_drew HO_4.out); have n1_ := zk (blk_drew BK1057.out); have n2_ := zk (blk_drew BK1060.out); have n3_ := zk (below_drew1 HB.out); clear HO_4; clear BK1057; clear BK1060; clear HB; have HO_4 := n0_; have BK1057 := n1_; have BK1060 := n2_; have HB := n3_; clear n0_ n1_ n2_ n3_; refine start_ (n := 13) (S := fun w' => w'.cell? ⟨gb1060, 0, none⟩ = some (.slice A1059_0 ((rd_T50 l0_0 x16_1).f0).length c1059_0) ∧ w'.cell? ⟨gb1060, 1, none⟩ = some (.int .i64 ((rd_T50 l0_0 x16_1).f1))) (ds := []) #[false, false, false, false, false, false, false, false, false, false, false, false, false] zz rfl rfl ⟨(blk_cell BK1060.out 0).trans rfl, (blk_cell BK1060.out 1).trans rfl⟩ (fun hHeld => ?_); refine with_tabW repert_Of.tab7 repert_Of.bits7 (fun HT_ HW_ => ?_); generalize w16.drew = w17 at HO_4 BK1057 BK1060 HB hHeld ⊢; refine zp 0 (some 20) (v := ?_) (a' := ?_) (bz 13 1) rfl rfl HT_.out zz zQ ?_ ?_ ?_; rotate_left
        ·intro w'; go_simp; with_reducible rfl
        rotate_left
        ·simp only [Act.put, zv, i64_w, i32_w]; rfl
        refine zp 1 (some 21) (v := ?_) (a' := ?_) (bz 13 3) rfl rfl HT_.out zz zQ ?_ ?_ ?_; rotate_left
        ·intro w'; go_simp; with_reducible rfl
        rotate_left
        ·simp only [Act.put, zv, i64_w, i32_w]; rfl
        refine zp 3 (some 23) (v := ?_) (a' := ?_) (bz 13 11) rfl rfl HT_.out zz zQ ?_ ?_ ?_; rotate_left
        ·intro w'; go_simp; with_reducible rfl
        rotate_left
        ·simp only [Act.put, zv, i64_w, i32_w]; rfl
        refine take_ (i := 2) (N := some 22) (v := ?_) (a' := ?_) (bz 13 15) rfl rfl (take_ofW HT_.out HW_.out zz) zQ (Or.inl ⟨by rfl, ?_⟩) hHeld ?_ ?_; rotate_left
        ·rintro w' ⟨s0, s1⟩; go_simp; with_reducible rfl
        rotate_left
        ·simp only [Act.put, zv, i64_w, i32_w]; rfl
        refine take_ (i := 4) (N := some 24) (v := ?_) (a' := ?_) (bz 13 31) rfl rfl (take_ofW HT_.out HW_.out zz) zQ (Or.inl ⟨by rfl, ?_⟩) hHeld ?_ ?_; rotate_left
        ·rintro w' ⟨s0, s1⟩; go_simp; with_reducible rfl
        rotate_left
        ·simp only [Act.put, zv, i64_w, i32_w]; rfl
        refine take_ (i := 5) (N := some 25) (v := ?_) (a' := ?_) (bz 13 63) rfl rfl (take_ofW HT_.out HW_.out zz) zQ (Or.inl ⟨by rfl, ?_⟩) hHeld ?_ ?_; rotate_left
        ·rintro w' ⟨s0, s1⟩; go_simp; with_reducible rfl
        rotate_left
        ·simp only [Act.put, zv, i64_w, i32_w]; rfl
        refine one_ (i := 6) (N := some 26) (bz 13 127) rfl rfl (one_of HT_.out zz) (by decide) (fun K hK => ?_); refine goes_ Try.func33 zz rfl #[.agg #[.slice A1059_0 ((rd_T50 l0_0 x16_1).f0).length c1059_0, .int .i64 ((rd_T50 l0_0 x16_1).f1)]] (by rfl) rfl rfl zM ?_; with_reducible refine (shape_Count.calls k1 _ _ ((rd_T50 l0_0 x16_1).f0) ((rd_T50 l0_0 x16_1).f1) t1061 _ ?side1 ?side2 A11.out).mono ?_; (case side1 => exact zc (Kd.C_below HR1059_0.out HB.out))
        (case side2 => exact HC1059_0.out)
        rintro e w18 ⟨rfl, hb⟩; refine ⟨_, rfl, ?_⟩; have n0_ := zk (Kd.R_below (zr HO_4.out) hb); have n1_ := zk (zbb BK1057.out hb); have n2_ := zk (zbb BK1060.out hb); have n3_ := zk (below_step (zU HB.out) hb); clear HO_4; clear BK1057; clear BK1060; clear HB; have HO_4 := n0_; have BK1057 := n1_; have BK1060 := n2_; have HB := n3_; clear n0_ n1_ n2_ n3_; (try clear hb); (try clear hb2); (try clear hk); (try clear hi); refine hK.out _ _ ⟨(blk_cell BK1060.out 0).trans rfl, (blk_cell BK1060.out 1).trans rfl⟩ (fun hHeld => ?_); clear hK K; refine norm_ (a' := ?_) ?_ ?_; rotate_left
        ·show Act.put _ (some 26) _ = _; simp only [Act.put, zv, i64_w, i32_w]; rfl
        refine zp 7 (some 27) (v := ?_) (a' := ?_) (bz 13 255) rfl rfl HT_.out zz zQ ?_ ?_ ?_; rotate_left
        ·intro w'; go_simp; with_reducible rfl
        rotate_left
        ·simp only [Act.put, zv, i64_w, i32_w]; rfl
        refine zp 8 (some 28) (v := ?_) (a' := ?_) (bz 13 511) rfl rfl HT_.out zz zQ ?_ ?_ ?_; rotate_left
        ·intro w'; go_simp; with_reducible rfl
        rotate_left
        ·simp only [Act.put, zv, i64_w, i32_w]; rfl
        refine zp 9 (some 29) (v := ?_) (a' := ?_) (bz 13 1023) rfl rfl HT_.out zz zQ ?_ ?_ ?_; rotate_left
        ·intro w'; go_simp; with_reducible rfl
        rotate_left
        ·simp only [Act.put, zv, i64_w, i32_w]; rfl
        refine one_ (i := 10) (N := some 30) (bz 13 2047) rfl rfl (one_of HT_.out zz) (by decide) (fun K hK => ?_); refine value_ (w1 := ?_) (v := ?_) (by rfl) rfl ?_ ?_; rotate_left 2
        ·go_simp; constructor
         ·rfl
         ·rfl
        refine hK.out _ _ ⟨(blk_cell (blk_alloc BK1060.out _) 0).trans rfl, (blk_cell (blk_alloc BK1060.out _) 1).trans rfl⟩ (fun hHeld => ?_); clear hK K; refine norm_ (a' := ?_) ?_ ?_; rotate_left
        ·show Act.put _ (some 30) _ = _; simp only [Act.put, zv, i64_w, i32_w]; rfl
        refine one_ (i := 11) (N := some 31) (bz 13 4095) rfl rfl (one_of HT_.out zz) (by decide) (fun K hK => ?_); refine Kd.R_append_step k102 (w0 := w) w.heap.size (by rfl) (.tmp 20) (.tmp 30) 27 102 (.agg #[(.int .i64 0), (.int .i64 0)]) 16 rfl Try.underlying27 info102 rfl (by decide) (by omega) u4 x4_1 (⟨(rd_T50 l0_0 x16_1).f1, wrap64 ((wrap64 (((rd_T50 l0_0 x16_1).f1) + t1061)) - 1)⟩ : S102) [.int .i64 ((rd_T50 l0_0 x16_1).f1), .int .i64 (wrap64 ((wrap64 (((rd_T50 l0_0 x16_1).f1) + t1061)) - 1))] (fun _ => True) (fun _ => False) rfl rfl ?aP (fun _ hk => hk.elim) ?aF ?aO ?aB ?aS ?aL ?_; (case aP => exact k102_mkM _ _ _ (⟨(rd_T50 l0_0 x16_1).f1, wrap64 ((wrap64 (((rd_T50 l0_0 x16_1).f1) + t1061)) - 1)⟩ : S102))
        (case aB => exact (zU HB.out))
        (case aF => exact (fun _ _ => trivial))
        (case aO => exact (zr HO_4.out))
        (case aS => exact (below_size (zU HB.out)))
        (case aL => have := LMc12.out; omega)
        intro v1063 w19 ho hb hg hat; rw [← Ny1062.out] at ho; have n0_ := zk (blk_grown (g := gb1057) (o := .cells #[.slice (some ad1059) l0_0.length c0_0] 24 (0, 0)) (zb BK1057.out) hg (Kd.R_ne HO_4.out BK1057.out (by decide))); have n1_ := zk (blk_grown (g := gb1060) (o := .cells #[.slice A1059_0 ((rd_T50 l0_0 x16_1).f0).length c1059_0, .int .i64 ((rd_T50 l0_0 x16_1).f1)] 50 (0, 0)) (zb BK1060.out) hg (Kd.R_ne HO_4.out BK1060.out (by decide))); have n2_ := zk (hb); have n3_ := zk (ho); clear BK1057; clear BK1060; clear HB; clear HO_4; have BK1057 := n0_; have BK1060 := n1_; have HB := n2_; have HO1064 := n3_; clear n0_ n1_ n2_ n3_; clear ho hb hg hat; refine hK.out _ _ ⟨(blk_cell BK1060.out 0).trans rfl, (blk_cell BK1060.out 1).trans rfl⟩ (fun hHeld => ?_); clear hK K; refine norm_ (a' := ?_) ?_ ?_; rotate_left
        ·show Act.put _ (some 31) _ = _; simp only [Act.put, zv, i64_w, i32_w]; rfl
        refine zp 12 (some 4) (v := ?_) (a' := ?_) (bz 13 8191) rfl rfl HT_.out zz zQ ?_ ?_ ?_; rotate_left
        ·intro w'; go_simp; with_reducible rfl
        rotate_left
        ·simp only [Act.put, zv, i64_w, i32_w]; rfl
        refine done_ (done_of HT_.out zz) ?_; try go_wp2
        go_roundg k1
        case measure => have := HK1.out; omega
        case rel => exact ⟨(y1062), (wrap64 (x16_1 + 1)), zR, H', ⟨by have := HK1.out; omega⟩, ⟨by (with_reducible repeat (first | apply zA | apply zB | apply zC)); exact HO1064.out⟩, ⟨zb BK1057.out⟩, ⟨zU HB.out⟩⟩
       ·rw [if_neg c12] at H; exact absurd H (by simp)
      ·rw [if_neg c10] at H; exact absurd H (by simp)
     ·rw [if_neg c9] at H; exact absurd H (by simp)
    ·rw [if_neg c8] at H; have c8b0 : decide (x16_1 < (l0_0.length : Int)) = false := decide_eq_false c8; clear c8; replace H := Option.bind_eq_some_iff.mp H; obtain ⟨⟨t1065, t1066, t1067⟩, A200, H⟩ := H; replace H : (some (t1065, 0)) = some (r1, r2) := H; have A20 := zk A200; clear A200; simp only [Option.some.injEq, Prod.mk.injEq] at H; obtain ⟨rfl, rfl⟩ := H; obtain ⟨Ao21, co21, eo21⟩ := Kd.R_slice HO_4.out; subst eo21; go_wp2_with (first | ((with_reducible refine gate_callee (f := 77) rfl ?_); refine goesL_ (some 35) rfl rfl Try.func77 zz rfl #[.slice Ao21 x4_1.length co21] rfl zM ?_; (with_reducible refine (scalars_Norm.calls k1 _ _ x4_1 t1065 t1066 t1067 _ ?side1 ?side2 A20.out).mono ?_); (case side1 => exact zc (Kd.R_reads' HO_4.out).2.2); (case side2 => exact (Kd.R_reads' HO_4.out).2.1); rintro e w22 ⟨v1068, rfl, ho0, hb⟩; refine ⟨_, rfl, ?_⟩; have HO1069 := zk (Kd.R_lower (Kd.R_new' ho0 (Kd.R_lt (zr HO_4.out))) (below_size (zU HB.out))); replace HO_4 := zk (Kd.R_elder' (zr HO_4.out) (Kd.R_base ho0) hb); replace BK1057 := zk (zbb BK1057.out hb); replace HB := zk (below_step (zU HB.out) hb);  (try clear hb); (try clear hb2); (try clear hk); (try clear hi); (try clear ho0)))
     go_ret2
     exact ⟨_, ze, by (with_reducible repeat (first | apply zA | apply zB | apply zC)); exact Kd.R_mono HO1069.out (fun _ hk => trivial), zU HB.out⟩
 ·replace c3 := Bool.eq_false_iff.mpr c3; subst c3; have H1 : (some (([] : List (S102)), 84)) = some (r1, r2) := by rw [if_neg (show ¬ (false = true) by decide)] at H; exact H
  clear H; have H := H1; clear H1; simp only [Option.some.injEq, Prod.mk.injEq] at H; obtain ⟨rfl, rfl⟩ := H; go_enter Try.func21, Try.ntmps21
  go_wp2_with (first | ((with_reducible refine gate_dst (N := 1) rfl ?_); refine box_event ?hg (N := 1) ?hd (cs := #[.slice A0_0 l0_0.length c0_0]) (t := 24) ?hr ?_; (case hd => rfl); (case hg => rfl); (case hr => first | (go_simp; done) | (go_simp; rfl)); intro gb1057 hg w23 hbox hb; have BK1057 := zk (hbox); have GE1057 := zk ((zg hg HB.out : w.heap.size ≤ gb1057)); replace HB := zk (below_step (zU HB.out) hb);  clear hb hbox hg; have hcz24_0 : w23.cell? ⟨gb1057, 0, none⟩ = some (.slice A0_0 l0_0.length c0_0) := zh BK1057.out 0; have hfz24_0 := blk_frozen BK1057.out 0) | ((with_reducible refine gate_callee (f := 76) rfl ?_); refine goesL_ (some 11) rfl rfl Try.func76 zz rfl #[.agg #[.slice A0_0 l0_0.length c0_0]] rfl zM ?_; (with_reducible refine (scheme_Valid.calls k _ _ l0_0 false _ ?side1 ?side2 A2.out).mono ?_); (case side1 => exact zc (Kd.C_below HR0_0.out HB.out)); (case side2 => exact HC0_0.out); rintro e w25 ⟨rfl, hb⟩; refine ⟨_, rfl, ?_⟩; replace BK1057 := zk (zbb BK1057.out hb); replace HB := zk (below_step (zU HB.out) hb);  (try clear hb); (try clear hb2); (try clear hk); (try clear hi)))
  go_ret2
  exact ⟨_, ze, by first | exact Kd.R_nil _ _ _ _ _ | exact Kd.N_nil _ _ _ _ _ | exact Kd.V_nil _ _ _ _ _ | exact Kd.Q_nil _ _ _ _ _ | exact Kd.S_nil _ _ _ _ _, zU HB.out⟩
def repert_Lengths.l0 : Nat → List Int → List (S50) → Int → Int → Option (List Int × Int)
 | 0, _, _, _, _ => none
 | k + 1, x10, x12, x13, x14 => if x14 < x13 then (if 0 ≤ x14 then (if x14 < (x12.length : Int) then (if 0 ≤ (((rd_T50 x12 x14).f0).length : Int) then (if (((rd_T50 x12 x14).f0).length : Int) < (x10.length : Int) then ((shape_Count.f k ((rd_T50 x12 x14).f0) ((rd_T50 x12 x14).f1)).bind fun t1078 => (repert_Lengths.l0 k (x10.set ((((rd_T50 x12 x14).f0).length : Int) : Int).toNat (wrap64 ((rd x10 (((rd_T50 x12 x14).f0).length : Int)) + t1078))) x12 x13 (wrap64 (x14 + 1)))) else (none)) else (none)) else (none)) else (none)) else (some (x10, 0))
def repert_Lengths.f (k : Nat) (l0_0 : List (S50)) : Option (List Int × Int) := (scheme_Valid.f k l0_0).bind fun t1071 => (if t1071 = true then (if 9 ≤ 35184372088832 then (repert_Lengths.l0 k (List.replicate 9 0) l0_0 (l0_0.length : Int) 0) else (none)) else (some (([] : List Int), 84)))
theorem repert_Lengths.mono_l : ∀ k, (∀ y0 y1 y2 y3, LeO (repert_Lengths.l0 k y0 y1 y2 y3) (repert_Lengths.l0 (k + 1) y0 y1 y2 y3))
 | 0 => fun _ _ _ _ r h => by simp [repert_Lengths.l0] at h
 | k + 1 => by
  have ih0 := repert_Lengths.mono_l k
  ·intro y0 y1 y2 y3; unfold repert_Lengths.l0; repeat' first
   | (with_reducible exact ih0 _ _ _ _)
   | (with_reducible exact scheme_Valid.mono _ _)
   | (with_reducible exact shape_Count.mono _ _ _)
   | (with_reducible exact LeO.refl _)
   | (with_reducible exact LeO.none _)
   | (with_reducible refine LeO.ite ?_ ?_)
   | (with_reducible refine LeO.bind ?_ (fun _ => ?_))
   | exact ih0 _ _ _ _
   | exact scheme_Valid.mono _ _
   | exact shape_Count.mono _ _ _
   | exact LeO.none _
   | refine LeO.ite ?_ ?_
   | refine LeO.bind ?_ (fun _ => ?_)
theorem repert_Lengths.mono : ∀ a0 k, LeO (repert_Lengths.f k a0) (repert_Lengths.f (k + 1) a0) := by
 intro a0 k; have ih0 := repert_Lengths.mono_l k; unfold repert_Lengths.f; repeat' first
  | (with_reducible exact ih0 _ _ _ _)
  | (with_reducible exact scheme_Valid.mono _ _)
  | (with_reducible exact shape_Count.mono _ _ _)
  | (with_reducible exact LeO.refl _)
  | (with_reducible exact LeO.none _)
  | (with_reducible refine LeO.ite ?_ ?_)
  | (with_reducible refine LeO.bind ?_ (fun _ => ?_))
  | exact ih0 _ _ _ _
  | exact scheme_Valid.mono _ _
  | exact shape_Count.mono _ _ _
  | exact LeO.none _
  | refine LeO.ite ?_ ?_
  | refine LeO.bind ?_ (fun _ => ?_)
def repert_Lengths.T7 : Bool × List (List Nat × List Nat) := (true, [([], []), ([], []), ([1], [1]), ([2], [2]), ([0, 3], [0, 3]), ([4], [4]), ([], []), ([6], [6]), ([5, 7], [5, 7]), ([0, 3, 0, 1, 2, 3, 4, 5, 6, 7, 8], [0, 3]), ([9, 8, 7, 0, 1, 2, 3, 4, 5, 6, 7, 8], [8, 9])])
def repert_Lengths.B7 : List Nat := [0, 0, 2, 6, 15, 31, 0, 64, 255, 511, 1023]
theorem repert_Lengths.tab7 : rtab .any (opsOf Try.f22 7) = repert_Lengths.T7 := by kernel_rfl
theorem repert_Lengths.bits7 : waitsOk repert_Lengths.T7.2 repert_Lengths.B7 = true := by kernel_rfl
set_option maxHeartbeats 8000000 in
set_option maxRecDepth 100000 in
theorem repert_Lengths.calls (k : Nat) (A0_0 : Option Addr) (c0_0 : Nat) (l0_0 : List (S50)) (r1 : List Int) (r2 : Int) (w : World) (hr0_0 : Kd.C k50 w A0_0 l0_0.length l0_0) (hc0_0 : l0_0.length ≤ c0_0) (h : repert_Lengths.f k l0_0 = some (r1, r2)) :
 Calls Try.prog 22 #[.agg #[.slice A0_0 l0_0.length c0_0]] w fun e w' => ∃ v0_ : Value, e = .returned (.tuple #[v0_, .int .i64 r2]) ∧ Kd.R (Kd.int .i64) 3 w' w.heap.size (fun _ => True) v0_ r1 ∧ Below w.heap.size w w' := by
 have hu24 := Try.underlying24; have hu50 := Try.underlying50; have HR0_0 := zk hr0_0; have HC0_0 := zk hc0_0; clear hr0_0 hc0_0; have HB := zk (Below.refl w.heap.size w); have H : ((scheme_Valid.f k l0_0).bind fun t1071 => (if t1071 = true then (if 9 ≤ 35184372088832 then (repert_Lengths.l0 k (List.replicate 9 0) l0_0 (l0_0.length : Int) 0) else (none)) else (some (([] : List Int), 84)))) = some (r1, r2) := h; clear h; replace H := Option.bind_eq_some_iff.mp H; obtain ⟨t1071, A20, H⟩ := H; replace H : (if t1071 = true then (if 9 ≤ 35184372088832 then (repert_Lengths.l0 k (List.replicate 9 0) l0_0 (l0_0.length : Int) 0) else (none)) else (some (([] : List Int), 84))) = some (r1, r2) := H; have A2 := zk A20; clear A20; by_cases c3 : t1071 = true
 ·subst c3; have H1 : (if 9 ≤ 35184372088832 then (repert_Lengths.l0 k (List.replicate 9 0) l0_0 (l0_0.length : Int) 0) else (none)) = some (r1, r2) := by rw [if_pos rfl] at H; exact H
  clear H; have H := H1; clear H1; by_cases c4 : 9 ≤ 35184372088832
  ·rw [if_pos c4] at H; have c4b0 := eq_true c4; have c4b1 : decide (9 ≤ 35184372088832) = true := decide_eq_true c4; clear c4; obtain ⟨y1072, hy1072⟩ : ∃ y_ : List Int, y_ = (List.replicate 9 0) := ⟨_, rfl⟩
   replace H : (repert_Lengths.l0 k y1072 l0_0 (l0_0.length : Int) 0) = some (r1, r2) := by first | (rw [hy1072]; with_reducible exact H) | (have H2_ := (Option.bind_some _ _).symm.trans H; rw [hy1072]; with_reducible exact H2_) | (have H2_ := (Option.bind_some _ _).symm.trans H; with_reducible exact H2_) | with_reducible exact H | (rw [hy1072]; exact H) | exact H
   have Ny1072 := zk hy1072; clear hy1072; have H' := zk H; clear H; go_enter Try.func22, Try.ntmps22
   go_wp2_with (first | ((with_reducible refine gate_dst (N := 1) rfl ?_); refine box_event ?hg (N := 1) ?hd (cs := #[.slice A0_0 l0_0.length c0_0]) (t := 24) ?hr ?_; (case hd => rfl); (case hg => rfl); (case hr => first | (go_simp; done) | (go_simp; rfl)); intro gb1070 hg w5 hbox hb; have BK1070 := zk (hbox); have GE1070 := zk ((zg hg HB.out : w.heap.size ≤ gb1070)); replace HB := zk (below_step (zU HB.out) hb);  clear hb hbox hg; have hcz6_0 : w5.cell? ⟨gb1070, 0, none⟩ = some (.slice A0_0 l0_0.length c0_0) := zh BK1070.out 0; have hfz6_0 := blk_frozen BK1070.out 0) | ((with_reducible refine gate_callee (f := 76) rfl ?_); refine goesL_ (some 8) rfl rfl Try.func76 zz rfl #[.agg #[.slice A0_0 l0_0.length c0_0]] rfl zM ?_; (with_reducible refine (scheme_Valid.calls k _ _ l0_0 true _ ?side1 ?side2 A2.out).mono ?_); (case side1 => exact zc (Kd.C_below HR0_0.out HB.out)); (case side2 => exact HC0_0.out); rintro e w7 ⟨rfl, hb⟩; refine ⟨_, rfl, ?_⟩; replace BK1070 := zk (zbb BK1070.out hb); replace HB := zk (below_step (zU HB.out) hb);  (try clear hb); (try clear hb2); (try clear hk); (try clear hi)) | ((with_reducible refine gate_dst (N := 10) rfl ?_); refine Kd.R_make (Kd.int .i64) _ 3 rfl (N := 10) rfl 31 _ _ rfl 9 rfl rfl Try.underlying31 (.int .i64 0) 8 info3 rfl (by decide) (by omega) 0 (ok := fun _ => True) (okp := fun _ => True) rfl (fun _ hk => hk) trivial (by omega) (by omega) (Below.refl _ _) (Nat.le_refl _) ?_; intro v1073 w8 ho9 hb hg_ hnew_; clear hg_ hnew_; (first | rw [← Ny1072.out] at ho9 | (simp only [Int.reduceToNat] at ho9; rw [← Ny1072.out] at ho9)); have HO1074 := zk (Kd.R_lower ho9 (below_size (zU HB.out))); replace BK1070 := zk (zbb BK1070.out hb); replace HB := zk (below_step (zU HB.out) hb);  clear hb ho9; have hcz10_0 : w8.cell? ⟨gb1070, 0, none⟩ = some (.slice A0_0 l0_0.length c0_0) := zh BK1070.out 0; have hfz10_0 := blk_frozen BK1070.out 0))
   go_loopg [14] k (fun kq v14 w' => ∃ (x10_1 : List Int) (x14_1 : Int), v14 = .int .i64 x14_1 ∧ Aside0 (repert_Lengths.l0 kq x10_1 l0_0 (l0_0.length : Int) x14_1 = some (r1, r2)) ∧ Aside0 (kq ≤ k) ∧ Aside0 (Kd.R (Kd.int .i64) 3 w' w.heap.size (fun _ => True) v1073 x10_1) ∧ Aside0 (w'.heap[gb1070]? = some (.cells #[(.slice A0_0 l0_0.length c0_0)] 24 (0, 0))) ∧ Aside0 (Below w.heap.size w w'))
   case atStart => exact ⟨(y1072), (0), zR, H', ⟨Nat.le_refl _⟩, ⟨by (with_reducible repeat (first | apply zA | apply zB | apply zC)); exact HO1074.out⟩, ⟨zb BK1070.out⟩, ⟨zU HB.out⟩⟩
   case round =>
    clear H'; (try clear c2); (try clear p2); (try clear c3); (try clear c4); (try clear c4b0); (try clear c4b1); (try clear c7); (try clear hcz10_0); (try clear hcz6_0); (try clear hfz10_0); (try clear hfz6_0); obtain ⟨x10_1, x14_1, rfl, HA, HK1, HO_10, BK1070, HB⟩ := hrel
    cases gk with
    | zero => exact absurd HA.out (by simp [repert_Lengths.l0])
    | succ k1 =>
     have H := HA.out; clear HA; simp only [repert_Lengths.l0] at H; by_cases c11 : x14_1 < (l0_0.length : Int)
     ·rw [if_pos c11] at H; have c11b0 : decide (x14_1 < (l0_0.length : Int)) = true := decide_eq_true c11; clear c11; by_cases c12 : 0 ≤ x14_1
      ·rw [if_pos c12] at H; have c12b0 : decide (0 ≤ x14_1) = true := decide_eq_true c12; clear c12; by_cases c13 : x14_1 < (l0_0.length : Int)
       ·rw [if_pos c13] at H; have c13b0 : decide (x14_1 < (l0_0.length : Int)) = true := decide_eq_true c13; clear c13; by_cases c14 : 0 ≤ (((rd_T50 l0_0 x14_1).f0).length : Int)
        ·rw [if_pos c14] at H; have c14b0 : decide (0 ≤ (((rd_T50 l0_0 x14_1).f0).length : Int)) = true := decide_eq_true c14; have c14b1 : decide (0 ≤ ((rd_T50 l0_0 x14_1).f0).length) = true := decide_eq_true (by omega); clear c14; by_cases c15 : (((rd_T50 l0_0 x14_1).f0).length : Int) < (x10_1.length : Int)
         ·rw [if_pos c15] at H; have c15b0 : decide ((((rd_T50 l0_0 x14_1).f0).length : Int) < (x10_1.length : Int)) = true := decide_eq_true c15; have c15b1 : decide (((rd_T50 l0_0 x14_1).f0).length < x10_1.length) = true := decide_eq_true (Int.ofNat_lt.mp c15); clear c15; replace H := Option.bind_eq_some_iff.mp H; obtain ⟨t1078, A160, H⟩ := H; replace H : (repert_Lengths.l0 k1 (x10_1.set ((((rd_T50 l0_0 x14_1).f0).length : Int) : Int).toNat (wrap64 ((rd x10_1 (((rd_T50 l0_0 x14_1).f0).length : Int)) + t1078))) l0_0 (l0_0.length : Int) (wrap64 (x14_1 + 1))) = some (r1, r2) := H; have A16 := zk A160; clear A160; obtain ⟨y1079, hy1079⟩ : ∃ y_ : List Int, y_ = (x10_1.set ((((rd_T50 l0_0 x14_1).f0).length : Int) : Int).toNat (wrap64 ((rd x10_1 (((rd_T50 l0_0 x14_1).f0).length : Int)) + t1078))) := ⟨_, rfl⟩
          replace H : (repert_Lengths.l0 k1 y1079 l0_0 (l0_0.length : Int) (wrap64 (x14_1 + 1))) = some (r1, r2) := by first | (rw [hy1079]; with_reducible exact H) | (have H2_ := (Option.bind_some _ _).symm.trans H; rw [hy1079]; with_reducible exact H2_) | (have H2_ := (Option.bind_some _ _).symm.trans H; with_reducible exact H2_) | with_reducible exact H | (rw [hy1079]; exact H) | exact H
          have Ny1079 := zk hy1079; clear hy1079; have H' := zk H; clear H; have p1075 : 0 ≤ (x14_1 : Int) := zT; have q1075 : x14_1 < (l0_0.length : Int) := zT; obtain ⟨ad1075, A1075_0, c1075_0, e1075, hx1075_0, hx1075_1, hl1075_0, hi1075_0⟩ := at_T50 HR0_0.out x14_1 p1075 q1075; cases e1075; replace hx1075_0 := zcl HB.out hx1075_0; replace hx1075_1 := zcl HB.out hx1075_1; have HR1075_0 := zk hi1075_0; have HC1075_0 := zk hl1075_0; clear hi1075_0 hl1075_0; replace p1075 := eq_true p1075; replace q1075 := eq_true q1075; try go_wp2_with (first | ((with_reducible refine gate_dst (N := 6) rfl ?_); refine box_event ?hg (N := 6) ?hd (cs := #[.slice none 0 0, .int .i64 0]) (t := 50) ?hr ?_; (case hd => rfl); (case hg => rfl); (case hr => first | (go_simp; done) | (go_simp; rfl)); intro gb1076 hg w18 hbox hb; replace HO_10 := zk (Kd.R_below (zr HO_10.out) hb); have BK1076 := zk (hbox); have GE1076 := zk ((zg hg HB.out : w.heap.size ≤ gb1076)); replace HB := zk (below_step (zU HB.out) hb); have NB1070_1076 := zk ((zlt hg BK1070.out : gb1070 ≠ gb1076)); have NB1076_1070 := zk ((zgt hg BK1070.out : gb1076 ≠ gb1070)); replace BK1070 := zk (zbb BK1070.out hb);  clear hb hbox hg; have hnb19 := NB1076_1070.out; have hnc19 := NB1070_1076.out; have hcz20_0 : w18.cell? ⟨gb1076, 0, none⟩ = some (.slice none 0 0) := zh BK1076.out 0; have hcz20_1 : w18.cell? ⟨gb1076, 1, none⟩ = some (.int .i64 0) := zh BK1076.out 1; have hfz20_0 := blk_frozen BK1076.out 0; have hfz20_1 := blk_frozen BK1076.out 1))
          have n0_ : Aside0 (Kd.R (Kd.int .i64) 3 ((w18.setCell ⟨gb1076, 0, none⟩ (.slice A1075_0 ((rd_T50 l0_0 x14_1).f0).length c1075_0)).setCell ⟨gb1076, 1, none⟩ (.int .i64 ((rd_T50 l0_0 x14_1).f1))) w.heap.size (fun _ => True) v1073 x10_1) := ⟨by (with_reducible repeat (first | apply zA | apply zB | apply zC)); exact Kd.R_mono (Kd.R_far (p := ⟨gb1076, 1, none⟩) (Kd.R_far (p := ⟨gb1076, 0, none⟩) (Kd.R_types HO_10.out BK1076.out (by decide)) (fun _ hk => hk.2) (.slice A1075_0 ((rd_T50 l0_0 x14_1).f0).length c1075_0)) (fun _ hk => hk.2) (.int .i64 ((rd_T50 l0_0 x14_1).f1))) (fun _ hk => trivial)⟩; have n1_ : Aside0 (((w18.setCell ⟨gb1076, 0, none⟩ (.slice A1075_0 ((rd_T50 l0_0 x14_1).f0).length c1075_0)).setCell ⟨gb1076, 1, none⟩ (.int .i64 ((rd_T50 l0_0 x14_1).f1))).heap[gb1070]? = some (.cells #[.slice (some ad1075) l0_0.length c0_0] 24 (0, 0))) := ⟨zb BK1070.out⟩; have n2_ : Aside0 (((w18.setCell ⟨gb1076, 0, none⟩ (.slice A1075_0 ((rd_T50 l0_0 x14_1).f0).length c1075_0)).setCell ⟨gb1076, 1, none⟩ (.int .i64 ((rd_T50 l0_0 x14_1).f1))).heap[gb1076]? = some (.cells #[.slice A1075_0 ((rd_T50 l0_0 x14_1).f0).length c1075_0, .int .i64 ((rd_T50 l0_0 x14_1).f1)] 50 (0, 0))) := ⟨by (with_reducible repeat (first | refine blk_drewN ?_ _ | refine blk_drew ?_ | refine blk_alloc ?_ _)); refine blk_put (cs := #[.slice A1075_0 ((rd_T50 l0_0 x14_1).f0).length c1075_0, .int .i64 0]) ?_ 1 _ rfl; (with_reducible repeat (first | refine blk_drewN ?_ _ | refine blk_drew ?_ | refine blk_alloc ?_ _)); refine blk_put (cs := #[.slice none 0 0, .int .i64 0]) ?_ 0 _ rfl; exact zb BK1076.out⟩; have n3_ : Aside0 (Below w.heap.size w ((w18.setCell ⟨gb1076, 0, none⟩ (.slice A1075_0 ((rd_T50 l0_0 x14_1).f0).length c1075_0)).setCell ⟨gb1076, 1, none⟩ (.int .i64 ((rd_T50 l0_0 x14_1).f1)))) := ⟨zU HB.out⟩; (try clear HO_10); (try clear BK1070); (try clear BK1076); (try clear HB); generalize ((w18.setCell ⟨gb1076, 0, none⟩ (.slice A1075_0 ((rd_T50 l0_0 x14_1).f0).length c1075_0)).setCell ⟨gb1076, 1, none⟩ (.int .i64 ((rd_T50 l0_0 x14_1).f1))) = w21 at n0_ n1_ n2_ n3_ ⊢; have HO_10 := n0_; have BK1070 := n1_; have BK1076 := n2_; have HB := n3_; clear n0_ n1_ n2_ n3_; have n0_ := zk (Kd.R_drew HO_10.out); have n1_ := zk (blk_drew BK1070.out); have n2_ := zk (blk_drew BK1076.out); have n3_ := zk (below_drew1 HB.out); clear HO_10; clear BK1070; clear BK1076; clear HB; have HO_10 := n0_; have BK1070 := n1_; have BK1076 := n2_; have HB := n3_; clear n0_ n1_ n2_ n3_; obtain ⟨Ao23, co23, eo23⟩ := Kd.R_slice HO_10.out
          (first | subst eo23 | (injection eo23 with f1_ f2_ f3_; have f4_ := f1_.symm; have f5_ := f3_.symm; clear f1_ f2_ f3_; subst f4_; subst f5_))
          have p1077 : 0 ≤ ((((rd_T50 l0_0 x14_1).f0).length : Int) : Int) := zT; have q1077 : (((rd_T50 l0_0 x14_1).f0).length : Int) < (x10_1.length : Int) := zT; obtain ⟨ad1077, e1077, hx1077_0⟩ := Kd.at_int (Kd.R_reads' HO_10.out).2.2 (((rd_T50 l0_0 x14_1).f0).length : Int) p1077 q1077; cases e1077; (try simp only [Go.IntWalk.toNatUp] at hx1077_0)
          replace p1077 := eq_true p1077; replace q1077 := eq_true q1077; refine start_ (n := 11) (S := fun w' => w'.cell? ⟨gb1076, 0, none⟩ = some (.slice A1075_0 ((rd_T50 l0_0 x14_1).f0).length c1075_0) ∧ w'.cell? ⟨gb1076, 1, none⟩ = some (.int .i64 ((rd_T50 l0_0 x14_1).f1)) ∧ w'.cell? (ad1077.add (((rd_T50 l0_0 x14_1).f0).length)) = some (.int .i64 (rd x10_1 (((rd_T50 l0_0 x14_1).f0).length : Int)))) (ds := [10]) #[false, false, false, false, false, false, false, false, false, false, false] zz rfl rfl ⟨(blk_cell BK1076.out 0).trans rfl, (blk_cell BK1076.out 1).trans rfl, hx1077_0⟩ (fun hHeld => ?_); refine with_tabW repert_Lengths.tab7 repert_Lengths.bits7 (fun HT_ HW_ => ?_); generalize w21.drew = w22 at HO_10 BK1070 BK1076 HB hx1077_0 hHeld ⊢; refine zp 0 (some 18) (v := ?_) (a' := ?_) (bz 11 1) rfl rfl HT_.out zz zQ ?_ ?_ ?_; rotate_left
          ·intro w'; go_simp; with_reducible rfl
          rotate_left
          ·simp only [Act.put, zv, i64_w, i32_w]; rfl
          refine zp 1 (some 19) (v := ?_) (a' := ?_) (bz 11 3) rfl rfl HT_.out zz zQ ?_ ?_ ?_; rotate_left
          ·intro w'; go_simp; with_reducible rfl
          rotate_left
          ·simp only [Act.put, zv, i64_w, i32_w]; rfl
          refine take_ (i := 2) (N := some 20) (v := ?_) (a' := ?_) (bz 11 7) rfl rfl (take_ofW HT_.out HW_.out zz) zQ (Or.inl ⟨by rfl, ?_⟩) hHeld ?_ ?_; rotate_left
          ·rintro w' ⟨s0, s1, s2⟩; go_simp; with_reducible rfl
          rotate_left
          ·simp only [Act.put, zv, i64_w, i32_w]; rfl
          refine zp 3 (some 21) (v := ?_) (a' := ?_) (bz 11 15) rfl rfl HT_.out zz zQ ?_ ?_ ?_; rotate_left
          ·intro w'; go_simp; with_reducible rfl
          rotate_left
          ·simp only [Act.put, zv, i64_w, i32_w]; rfl
          refine zp 4 (some 22) (v := ?_) (a' := ?_) (bz 11 31) rfl rfl HT_.out zz zQ ?_ ?_ ?_; rotate_left
          ·intro w'; go_simp; with_reducible rfl
          rotate_left
          ·simp only [Act.put, zv, i64_w, i32_w]; rfl
          refine take_ (i := 5) (N := some 23) (v := ?_) (a' := ?_) (bz 11 63) rfl rfl (take_ofW HT_.out HW_.out zz) zQ (Or.inl ⟨by rfl, ?_⟩) hHeld ?_ ?_; rotate_left
          ·rintro w' ⟨s0, s1, s2⟩; go_simp; with_reducible rfl
          rotate_left
          ·simp only [Act.put, zv, i64_w, i32_w]; rfl
          refine take_ (i := 6) (N := some 24) (v := ?_) (a' := ?_) (bz 11 127) rfl rfl (take_ofW HT_.out HW_.out zz) zQ (Or.inl ⟨by rfl, ?_⟩) hHeld ?_ ?_; rotate_left
          ·rintro w' ⟨s0, s1, s2⟩; go_simp; with_reducible rfl
          rotate_left
          ·simp only [Act.put, zv, i64_w, i32_w]; rfl
          refine one_ (i := 7) (N := some 25) (bz 11 255) rfl rfl (one_of HT_.out zz) (by decide) (fun K hK => ?_); refine goes_ Try.func33 zz rfl #[.agg #[.slice A1075_0 ((rd_T50 l0_0 x14_1).f0).length c1075_0, .int .i64 ((rd_T50 l0_0 x14_1).f1)]] (by rfl) rfl rfl zM ?_; with_reducible refine (shape_Count.calls k1 _ _ ((rd_T50 l0_0 x14_1).f0) ((rd_T50 l0_0 x14_1).f1) t1078 _ ?side1 ?side2 A16.out).mono ?_; (case side1 => exact zc (Kd.C_below HR1075_0.out HB.out))
          (case side2 => exact HC1075_0.out)
          rintro e w24 ⟨rfl, hb⟩; have HS2_ := (hb.cell (World.block_lt_of_cell? _ _ (hHeld.2.2))).trans (hHeld.2.2); refine ⟨_, rfl, ?_⟩; have n0_ := zk (Kd.R_below (zr HO_10.out) hb); have n1_ := zk (zbb BK1070.out hb); have n2_ := zk (zbb BK1076.out hb); have n3_ := zk (below_step (zU HB.out) hb); clear HO_10; clear BK1070; clear BK1076; clear HB; have HO_10 := n0_; have BK1070 := n1_; have BK1076 := n2_; have HB := n3_; clear n0_ n1_ n2_ n3_; (try clear hb); (try clear hb2); (try clear hk); (try clear hi); have p17 : 0 ≤ ((((rd_T50 l0_0 x14_1).f0).length : Int) : Int) := zT; have q17 : ((((rd_T50 l0_0 x14_1).f0).length : Int) : Int) < ((x10_1.length : Int) : Int) := zT; obtain ⟨go17, co17, eo17, gb17, gl17, cl17, HG17⟩ := Kd.R_form HO_10.out (by omega)
          (first | cases eo17 | (injection eo17 with ea_ en_ ec_; (first | subst ea_ | (injection ea_ with ea_; subst ea_)); subst ec_; clear en_))
          have GB17 := zk gb17; have GG17 := zk HG17; clear gb17 gl17 HG17
          (first | simp only [add_plain] at hx1077_0 | skip)
          obtain ⟨hx17_0, hf17_0⟩ := Kd.R_celln 0 HO_10.out ((((rd_T50 l0_0 x14_1).f0).length : Int) : Int) p17 q17; (try simp only [Int.toNat_natCast] at hx17_0 hf17_0)
          replace p17 := eq_true p17; replace q17 := eq_true q17; have HP25 := Kd.R_putn HO_10.out ((((rd_T50 l0_0 x14_1).f0).length : Int) : Int) (wrap64 ((rd x10_1 (((rd_T50 l0_0 x14_1).f0).length : Int)) + t1078)); rw [← Ny1079.out] at HP25; (try simp only [Int.toNat_natCast] at HP25)
          have HQ25 := zk HP25; clear HP25; refine hK.out _ _ ⟨(blk_cell BK1076.out 0).trans rfl, (blk_cell BK1076.out 1).trans rfl, HS2_⟩ (fun hHeld => ?_); clear hK K; refine norm_ (a' := ?_) ?_ ?_; rotate_left
          ·show Act.put _ (some 25) _ = _; simp only [Act.put, zv, i64_w, i32_w]; rfl
          refine zp 8 (some 26) (v := ?_) (a' := ?_) (bz 11 511) rfl rfl HT_.out zz zQ ?_ ?_ ?_; rotate_left
          ·intro w'; go_simp; with_reducible rfl
          rotate_left
          ·simp only [Act.put, zv, i64_w, i32_w]; rfl
          refine zp 9 (some 27) (v := ?_) (a' := ?_) (bz 11 1023) rfl rfl HT_.out zz zQ ?_ ?_ ?_; rotate_left
          ·intro w'; go_simp; with_reducible rfl
          rotate_left
          ·simp only [Act.put, zv, i64_w, i32_w]; rfl
          refine last_ (i := 10) (N := none) (bz 11 2047) rfl rfl (one_of HT_.out zz) (by decide) (fun K hK => ?_); refine skip_ (w1 := ?_) (by rfl) rfl ?_ ?_; rotate_left
          ·go_simp; rfl
          refine hK.out _ _ ?_; clear hK K; refine done_ (done_of HT_.out zz) ?_; try go_wp2
          go_roundg k1
          case measure => have := HK1.out; omega
          case rel => exact ⟨(y1079), (wrap64 (x14_1 + 1)), zR, H', ⟨by have := HK1.out; omega⟩, ⟨by (with_reducible repeat (first | apply zA | apply zB | apply zC)); exact HQ25.out⟩, ⟨by (with_reducible repeat (first | refine blk_drewN ?_ _ | refine blk_drew ?_ | refine blk_alloc ?_ _)); refine blk_far ?_ (by have h_ := Kd.R_ne HO_10.out BK1070.out (by decide); intro e_; exact h_ (by rw [e_]; rfl)) _; exact zb BK1070.out⟩, ⟨by repeat (first | (with_reducible first | exact HB.out | apply zD | apply zE | apply zF | refine below_set ?_ GB17.out | refine below_set ?_ GE1070.out | refine below_set ?_ GE1076.out) | exact HB.out)⟩⟩
         ·rw [if_neg c15] at H; exact absurd H (by simp)
        ·rw [if_neg c14] at H; exact absurd H (by simp)
       ·rw [if_neg c13] at H; exact absurd H (by simp)
      ·rw [if_neg c12] at H; exact absurd H (by simp)
     ·rw [if_neg c11] at H; have c11b0 : decide (x14_1 < (l0_0.length : Int)) = false := decide_eq_false c11; clear c11; simp only [Option.some.injEq, Prod.mk.injEq] at H; obtain ⟨rfl, rfl⟩ := H; go_wp2
      go_ret2
      exact ⟨_, ze, by (with_reducible repeat (first | apply zA | apply zB | apply zC)); exact HO_10.out, zU HB.out⟩
  ·rw [if_neg c4] at H; exact absurd H (by simp)
 ·replace c3 := Bool.eq_false_iff.mpr c3; subst c3; have H1 : (some (([] : List Int), 84)) = some (r1, r2) := by rw [if_neg (show ¬ (false = true) by decide)] at H; exact H
  clear H; have H := H1; clear H1; simp only [Option.some.injEq, Prod.mk.injEq] at H; obtain ⟨rfl, rfl⟩ := H; go_enter Try.func22, Try.ntmps22
  go_wp2_with (first | ((with_reducible refine gate_dst (N := 1) rfl ?_); refine box_event ?hg (N := 1) ?hd (cs := #[.slice A0_0 l0_0.length c0_0]) (t := 24) ?hr ?_; (case hd => rfl); (case hg => rfl); (case hr => first | (go_simp; done) | (go_simp; rfl)); intro gb1070 hg w26 hbox hb; have BK1070 := zk (hbox); have GE1070 := zk ((zg hg HB.out : w.heap.size ≤ gb1070)); replace HB := zk (below_step (zU HB.out) hb);  clear hb hbox hg; have hcz27_0 : w26.cell? ⟨gb1070, 0, none⟩ = some (.slice A0_0 l0_0.length c0_0) := zh BK1070.out 0; have hfz27_0 := blk_frozen BK1070.out 0) | ((with_reducible refine gate_callee (f := 76) rfl ?_); refine goesL_ (some 8) rfl rfl Try.func76 zz rfl #[.agg #[.slice A0_0 l0_0.length c0_0]] rfl zM ?_; (with_reducible refine (scheme_Valid.calls k _ _ l0_0 false _ ?side1 ?side2 A2.out).mono ?_); (case side1 => exact zc (Kd.C_below HR0_0.out HB.out)); (case side2 => exact HC0_0.out); rintro e w28 ⟨rfl, hb⟩; refine ⟨_, rfl, ?_⟩; replace BK1070 := zk (zbb BK1070.out hb); replace HB := zk (below_step (zU HB.out) hb);  (try clear hb); (try clear hb2); (try clear hk); (try clear hi)))
  go_ret2
  exact ⟨_, ze, by first | exact Kd.R_nil _ _ _ _ _ | exact Kd.N_nil _ _ _ _ _ | exact Kd.V_nil _ _ _ _ _ | exact Kd.Q_nil _ _ _ _ _ | exact Kd.S_nil _ _ _ _ _, zU HB.out⟩
def leadtrailref04_Same.l0 : Nat → List (S102) → List (S102) → Int → Option (Bool)
 | 0, _, _, _ => none
 | k + 1, x0, x1, x5 => if x5 < (x0.length : Int) then (if 0 ≤ x5 then (if x5 < (x1.length : Int) then (if (!(((rd_T102 x0 x5).f0) == ((rd_T102 x1 x5).f0)) || (!(((rd_T102 x0 x5).f1) == ((rd_T102 x1 x5).f1)))) = true then (some false) else (leadtrailref04_Same.l0 k x0 x1 (wrap64 (x5 + 1)))) else (none)) else (none)) else (some true)
def leadtrailref04_Same.f (k : Nat) (l0 : List (S102)) (l1 : List (S102)) : Option (Bool) := if (l0.length : Int) = (l1.length : Int) then (leadtrailref04_Same.l0 k l0 l1 0) else (some false)
theorem leadtrailref04_Same.mono_l : ∀ k, (∀ y0 y1 y2, LeO (leadtrailref04_Same.l0 k y0 y1 y2) (leadtrailref04_Same.l0 (k + 1) y0 y1 y2))
 | 0 => fun _ _ _ r h => by simp [leadtrailref04_Same.l0] at h
 | k + 1 => by
  have ih0 := leadtrailref04_Same.mono_l k
  ·intro y0 y1 y2; unfold leadtrailref04_Same.l0; repeat' first
   | (with_reducible exact ih0 _ _ _)
   | (with_reducible exact LeO.refl _)
   | (with_reducible exact LeO.none _)
   | (with_reducible refine LeO.ite ?_ ?_)
   | (with_reducible refine LeO.bind ?_ (fun _ => ?_))
   | exact ih0 _ _ _
   | exact LeO.none _
   | refine LeO.ite ?_ ?_
   | refine LeO.bind ?_ (fun _ => ?_)
theorem leadtrailref04_Same.mono : ∀ a0 a1 k, LeO (leadtrailref04_Same.f k a0 a1) (leadtrailref04_Same.f (k + 1) a0 a1) := by
 intro a0 a1 k; have ih0 := leadtrailref04_Same.mono_l k; unfold leadtrailref04_Same.f; repeat' first
  | (with_reducible exact ih0 _ _ _)
  | (with_reducible exact LeO.refl _)
  | (with_reducible exact LeO.none _)
  | (with_reducible refine LeO.ite ?_ ?_)
  | (with_reducible refine LeO.bind ?_ (fun _ => ?_))
  | exact ih0 _ _ _
  | exact LeO.none _
  | refine LeO.ite ?_ ?_
  | refine LeO.bind ?_ (fun _ => ?_)
set_option maxHeartbeats 8000000 in
set_option maxRecDepth 100000 in
theorem leadtrailref04_Same.calls (k : Nat) (A0 : Option Addr) (c0 : Nat) (l0 : List (S102)) (A1 : Option Addr) (c1 : Nat) (l1 : List (S102)) (r : Bool) (w : World) (hr0 : Kd.C k102 w A0 l0.length l0) (hc0 : l0.length ≤ c0) (hr1 : Kd.C k102 w A1 l1.length l1) (hc1 : l1.length ≤ c1) (h : leadtrailref04_Same.f k l0 l1 = some r) :
 Calls Try.prog 28 #[.slice A0 l0.length c0, .slice A1 l1.length c1] w fun e w' => e = .returned (.bool r) ∧ Drawn0 w w' := by
 have hu102 := Try.underlying102; have HR0 := zk hr0; have HC0 := zk hc0; clear hr0 hc0; have HR1 := zk hr1; have HC1 := zk hc1; clear hr1 hc1; have H : (if (l0.length : Int) = (l1.length : Int) then (leadtrailref04_Same.l0 k l0 l1 0) else (some false)) = some r := h; clear h; by_cases c3 : (l0.length : Int) = (l1.length : Int)
 ·rw [if_pos c3] at H; have c3b0 : ((l0.length : Int) == (l1.length : Int)) = true := beq_iff_eq.mpr c3; have c3b1 : ((l0.length : Int) != (l1.length : Int)) = false := bne_eq_false_iff_eq.mpr c3; have c3b2 : (l0.length == l1.length) = true := by first | simpa using c3 | (simp at c3 ⊢; omega)
  clear c3; have H' := zk H; clear H; go_enter Try.func28, Try.ntmps28
  go_wp2
  repeat (go_quiet (fail); try go_wp2)
  go_loopg [5] k (fun kq v5 w' => ∃ (x5_1 : Int), v5 = .int .i64 x5_1 ∧ Aside0 (leadtrailref04_Same.l0 kq l0 l1 x5_1 = some r) ∧ Aside0 (kq ≤ k) ∧ Drawn0 w w')
  case atStart => exact ⟨(0), zR, H', ⟨Nat.le_refl _⟩, by repeat (first | exact Drawn0.refl _ | apply Drawn0.step)⟩
  case round =>
   clear H'; (try clear c1); (try clear c2); (try clear p2); (try clear c3); (try clear c3b0); (try clear c3b1); (try clear c3b2); obtain ⟨x5_1, rfl, HA, HK1, ⟨m1, rfl⟩⟩ := hrel
   cases gk with
   | zero => exact absurd HA.out (by simp [leadtrailref04_Same.l0])
   | succ k1 =>
    have H := HA.out; clear HA; simp only [leadtrailref04_Same.l0] at H; by_cases c4 : x5_1 < (l0.length : Int)
    ·rw [if_pos c4] at H; have c4b0 : decide (x5_1 < (l0.length : Int)) = true := decide_eq_true c4; clear c4; by_cases c5 : 0 ≤ x5_1
     ·rw [if_pos c5] at H; have c5b0 : decide (0 ≤ x5_1) = true := decide_eq_true c5; clear c5; by_cases c6 : x5_1 < (l1.length : Int)
      ·rw [if_pos c6] at H; have c6b0 : decide (x5_1 < (l1.length : Int)) = true := decide_eq_true c6; clear c6; by_cases c7 : (!(((rd_T102 l0 x5_1).f0) == ((rd_T102 l1 x5_1).f0)) || (!(((rd_T102 l0 x5_1).f1) == ((rd_T102 l1 x5_1).f1)))) = true
       ·rw [if_pos c7] at H; have c7b0 : (!(((rd_T102 l0 x5_1).f0) == ((rd_T102 l1 x5_1).f0)) || (!(((rd_T102 l0 x5_1).f1) == ((rd_T102 l1 x5_1).f1)))) = true := c7; clear c7; obtain rfl := Option.some.inj H; have p1080 : 0 ≤ (x5_1 : Int) := zT; have q1080 : x5_1 < (l0.length : Int) := zT; obtain ⟨ad1080, e1080, hx1080_0, hx1080_1⟩ := at_T102 HR0.out x5_1 p1080 q1080; cases e1080; replace p1080 := eq_true p1080; replace q1080 := eq_true q1080; have p1081 : 0 ≤ (x5_1 : Int) := zT; have q1081 : x5_1 < (l1.length : Int) := zT; obtain ⟨ad1081, e1081, hx1081_0, hx1081_1⟩ := at_T102 HR1.out x5_1 p1081 q1081; cases e1081; replace p1081 := eq_true p1081; replace q1081 := eq_true q1081; go_wp2
        repeat (go_quiet (fail); try go_wp2)
        go_ret
        exact ⟨by first | rfl | (simp; done) | (simp [*]; done), by repeat (first | exact Drawn0.refl _ | apply Drawn0.step)⟩
       ·rw [if_neg c7] at H; have c7b0 : (!(((rd_T102 l0 x5_1).f0) == ((rd_T102 l1 x5_1).f0)) || (!(((rd_T102 l0 x5_1).f1) == ((rd_T102 l1 x5_1).f1)))) = false := by simpa using c7
        clear c7; have H' := zk H; clear H; have p1080 : 0 ≤ (x5_1 : Int) := zT; have q1080 : x5_1 < (l0.length : Int) := zT; obtain ⟨ad1080, e1080, hx1080_0, hx1080_1⟩ := at_T102 HR0.out x5_1 p1080 q1080; cases e1080; replace p1080 := eq_true p1080; replace q1080 := eq_true q1080; have p1081 : 0 ≤ (x5_1 : Int) := zT; have q1081 : x5_1 < (l1.length : Int) := zT; obtain ⟨ad1081, e1081, hx1081_0, hx1081_1⟩ := at_T102 HR1.out x5_1 p1081 q1081; cases e1081; replace p1081 := eq_true p1081; replace q1081 := eq_true q1081; go_wp2
        repeat (go_quiet (fail); try go_wp2)
        go_roundg k1
        case measure => have := HK1.out; omega
        case rel => exact ⟨(wrap64 (x5_1 + 1)), zR, H', ⟨by have := HK1.out; omega⟩, by repeat (first | exact Drawn0.refl _ | apply Drawn0.step)⟩
      ·rw [if_neg c6] at H; exact absurd H (by simp)
     ·rw [if_neg c5] at H; exact absurd H (by simp)
    ·rw [if_neg c4] at H; have c4b0 : decide (x5_1 < (l0.length : Int)) = false := decide_eq_false c4; clear c4; obtain rfl := Option.some.inj H; go_wp2
     repeat (go_quiet (fail); try go_wp2)
     go_ret
     exact ⟨by first | rfl | (simp; done) | (simp [*]; done), by repeat (first | exact Drawn0.refl _ | apply Drawn0.step)⟩
 ·rw [if_neg c3] at H; have c3b0 : ((l0.length : Int) == (l1.length : Int)) = false := beq_eq_false_iff_ne.mpr c3; have c3b1 : ((l0.length : Int) != (l1.length : Int)) = true := bne_iff_ne.mpr c3; have c3b2 : (l0.length == l1.length) = false := by first | simpa using c3 | (simp at c3 ⊢; omega)
  obtain rfl := Option.some.inj H; go_enter Try.func28, Try.ntmps28
  go_wp2
  repeat (go_quiet (fail); try go_wp2)
  go_ret
  exact ⟨by first | rfl | (simp; done) | (simp [*]; done), by repeat (first | exact Drawn0.refl _ | apply Drawn0.step)⟩
end Go.Proofs.Ytkcklnmbeinfkaa.B
