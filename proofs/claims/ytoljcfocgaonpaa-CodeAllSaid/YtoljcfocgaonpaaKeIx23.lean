/- Words and walks of this claim, of the text Ix23. -/
import Derived.Test.YtoljcfocgaonpaaKeQW0
import Derived.Test.YtoljcfocgaonpaaKeIx0
import Derived.Test.YtoljcfocgaonpaaKeIx4
import Derived.Test.YtoljcfocgaonpaaKeIx6
import Derived.Test.YtoljcfocgaonpaaKeIx8
import Derived.Test.YtoljcfocgaonpaaKeIx13
import Derived.Test.YtoljcfocgaonpaaKeIx18
namespace Go.Proofs.Ytoljcfocgaonpaa.I
open Go.RowKit Go.Proofs.YtoljcfocgaonpaaW.PrintWords Go.Proofs.YtoljcfocgaonpaaW.PrintLast Go.Proofs.YtoljcfocgaonpaaW.PrintMore
attribute [local go_sem] max2_int min2_int max_two min_two max_three min_three max_four min_four
set_option linter.unusedVariables false
set_option linter.unusedSimpArgs false
mutual
def leadtrailref09_Unrank.j0 : Nat → Int → Bool → List (List (S34)) → Int → Option (List Int × Bool)
 | 0, _, _, _, _ => none
 | k + 1, x1, x18, x601000, x601001 => if x18 = true then (some (([] : List Int), false)) else (if 0 ≤ (x601000.length : Int) then (if ((x601000.length : Int) : Int).toNat ≤ 281474976710656 then ((some (List.replicate ((x601000.length : Int) : Int).toNat 0 : List Int)).bind fun y602 => (leadtrailref09_Unrank.l0 k x1 (wrap64 ((y602.length : Int) - 1)) y602 x601000 x601001)) else (none)) else (none))
def leadtrailref09_Unrank.l0 : Nat → Int → Int → List Int → List (List (S34)) → Int → Option (List Int × Bool)
 | 0, _, _, _, _, _ => none
 | k + 1, x1, x7, x22, x601000, x601001 => if x7 ≥ 0 then (if 0 ≤ x7 then (if x7 < (x601000.length : Int) then ((leadtrailref03_Size.f k (rd_L4 x601000 x7)).bind fun t606 => (if t606 = 0 then (none) else ((leadtrailref03_Select.f k (rd_L4 x601000 x7) (Int.tmod x1 t606)).bind fun bt608 => (if x7 < (x22.length : Int) then (leadtrailref09_Unrank.l0 k (wrap64 (Int.tdiv x1 t606)) (wrap64 (x7 - 1)) (x22.set (x7 : Int).toNat ((bt608.1) % 256)) x601000 x601001) else (none))))) else (none)) else (none)) else (some (x22, true))
end
def leadtrailref09_Unrank.f (k : Nat) (l0_0 : List (List (S34))) (a0_1 : Int) (a1 : Int) : Option (List Int × Bool) := if a1 < 0 then (leadtrailref09_Unrank.j0 k a1 true l0_0 a0_1) else ((leadtrailref09_Count.f k l0_0 a0_1).bind fun t601 => (leadtrailref09_Unrank.j0 k a1 (decide (a1 ≥ t601)) l0_0 a0_1))
def leadtrailref09_Unrank.T8 : Bool × List (List Nat × List Nat) := (true, [([], []), ([0], [0]), ([], []), ([1, 2], [1, 2]), ([3], [3]), ([], []), ([], []), ([5, 6], [5, 6]), ([4, 7], [4, 7]), ([8], [8]), ([9], [9]), ([9], [9]), ([10, 8, 0, 1, 2, 3, 4, 5, 6, 7, 8, 9, 10], [10]), ([11, 12, 0, 1, 2, 3, 4, 5, 6, 7, 8, 9, 10, 11, 12], [11])])
def leadtrailref09_Unrank.B8 : List Nat := [0, 1, 0, 7, 15, 0, 0, 96, 255, 511, 1023, 1023, 2047, 8191]
theorem leadtrailref09_Unrank.tab8 : rtab .any (opsOf Try.f38 8) = leadtrailref09_Unrank.T8 := by kernel_rfl
theorem leadtrailref09_Unrank.bits8 : waitsOk leadtrailref09_Unrank.T8.2 leadtrailref09_Unrank.B8 = true := by kernel_rfl
set_option maxHeartbeats 8000000 in
set_option maxRecDepth 100000 in
theorem leadtrailref09_Unrank.calls (k : Nat) (A0_0 : Option Addr) (c0_0 : Nat) (l0_0 : List (List (S34))) (a0_1 : Int) (a1 : Int) (r1 : List Int) (r2 : Bool) (w : World) (hr0_0 : Kd.C (Kd.slice 34 k34) w A0_0 l0_0.length l0_0) (hc0_0 : l0_0.length ≤ c0_0) (h : leadtrailref09_Unrank.f k l0_0 a0_1 a1 = some (r1, r2)) :
 Calls Try.prog 38 #[.agg #[.slice A0_0 l0_0.length c0_0, .int .i64 a0_1], .int .i64 a1] w fun e w' => ∃ v0_ : Value, e = .returned (.tuple #[v0_, .bool r2]) ∧ Kd.R (Kd.int .u8) 5 w' w.heap.size (fun _ => True) v0_ r1 ∧ Below w.heap.size w w' := by
 have hu47 := Try.underlying47; have HR0_0 := zk hr0_0; have HC0_0 := zk hc0_0; clear hr0_0 hc0_0; have HB := zk (Below.refl w.heap.size w); have H : (if a1 < 0 then (leadtrailref09_Unrank.j0 k a1 true l0_0 a0_1) else ((leadtrailref09_Count.f k l0_0 a0_1).bind fun t601 => (leadtrailref09_Unrank.j0 k a1 (decide (a1 ≥ t601)) l0_0 a0_1))) = some (r1, r2) := h; clear h; have HC3 := zk H; clear H; go_enter Try.func38, Try.ntmps38
 go_upto_region 1 with (first | ((with_reducible refine gate_dst (N := 2) rfl ?_); refine box_event ?hg (N := 2) ?hd (cs := #[.slice A0_0 l0_0.length c0_0, .int .i64 a0_1]) (t := 47) ?hr ?_; (case hd => rfl); (case hg => rfl); (case hr => first | (go_simp; done) | (go_simp; rfl)); intro gb600 hg w4 hbox hb; have BK600 := zk (hbox); have GE600 := zk ((zg hg HB.out : w.heap.size ≤ gb600)); replace HB := zk (below_step (zU HB.out) hb);  clear hb hbox hg))
 (try simp only [Act.put, List.setIfInBounds_toArray, List.set_cons_zero, List.set_cons_succ])
 go_cut [18] (fun v18 wc => ∃ (kq : Nat) (x18_2 : Bool), v18 = .bool x18_2 ∧ Aside0 (leadtrailref09_Unrank.j0 kq a1 x18_2 l0_0 a0_1 = some (r1, r2)) ∧ Aside0 (kq ≤ k) ∧ Aside0 (wc.heap[gb600]? = some (.cells #[(.slice A0_0 l0_0.length c0_0), .int .i64 a0_1] 47 (0, 0))) ∧ Aside0 (Below w.heap.size w wc))
 case first =>
  have H := HC3.out; clear HC3; by_cases c5 : a1 < 0
  ·rw [if_pos c5] at H; have c5b0 : decide (a1 < 0) = true := decide_eq_true c5; clear c5
   (first | rw [c5b0] | (simp only [i64_w, i32_w]; rw [c5b0]) | skip)
   have H' := zk H; clear H; go_wp2
   go_meet
   case rel => exact ⟨_, (true), zR, H', ⟨by first | omega | exact Nat.le_refl _⟩, ⟨zb BK600.out⟩, ⟨zU HB.out⟩⟩
  ·rw [if_neg c5] at H; have c5b0 : decide (a1 < 0) = false := decide_eq_false c5; clear c5
   (first | rw [c5b0] | (simp only [i64_w, i32_w]; rw [c5b0]) | skip)
   replace H := Option.bind_eq_some_iff.mp H; obtain ⟨t601, A60, H⟩ := H; replace H : (leadtrailref09_Unrank.j0 k a1 (decide (a1 ≥ t601)) l0_0 a0_1) = some (r1, r2) := H; have A6 := zk A60; clear A60; have H' := zk H; clear H; have hcz7_0 : w4.cell? ⟨gb600, 0, none⟩ = some (.slice A0_0 l0_0.length c0_0) := zh BK600.out 0; have hcz7_1 : w4.cell? ⟨gb600, 1, none⟩ = some (.int .i64 a0_1) := zh BK600.out 1; have hfz7_0 := blk_frozen BK600.out 0; have hfz7_1 := blk_frozen BK600.out 1; go_wp2_with (first | (go_at_call 37; (with_reducible refine (leadtrailref09_Count.calls k _ _ l0_0 a0_1 t601 _ ?side1 ?side2 A6.out).mono ?_); (case side1 => exact zc (Kd.C_below HR0_0.out HB.out)); (case side2 => exact HC0_0.out); rintro e w8 ⟨rfl, hb⟩; replace BK600 := zk (zbb BK600.out hb); replace HB := zk (below_step (zU HB.out) hb);  (try clear hb); (try clear hb2); (try clear hk); (try clear hi)))
   go_meet
   case rel => exact ⟨_, (decide (a1 ≥ t601)), zR, H', ⟨by first | omega | exact Nat.le_refl _⟩, ⟨zb BK600.out⟩, ⟨zU HB.out⟩⟩
 case rest =>
  clear HC3; (try clear p2); (try clear c3); (try clear c5); (try clear c5b0); (try clear hcz7_0); (try clear hcz7_1); (try clear hfz7_0); (try clear hfz7_1); obtain ⟨kq, x18_2, rfl, HA, HJ2, BK600, HB⟩ := hcut; cases kq with
  | zero => exact absurd HA.out (by simp [leadtrailref09_Unrank.j0])
  | succ kj2 =>
   have H := HA.out; clear HA; simp only [leadtrailref09_Unrank.j0] at H; by_cases c9 : x18_2 = true
   ·subst c9; have H1 : (some (([] : List Int), false)) = some (r1, r2) := by rw [if_pos rfl] at H; exact H
    clear H; have H := H1; clear H1; simp only [Option.some.injEq, Prod.mk.injEq] at H; obtain ⟨rfl, rfl⟩ := H; go_wp2
    go_ret2
    exact ⟨_, ze, by first | exact Kd.R_nil _ _ _ _ _ | exact Kd.N_nil _ _ _ _ _ | exact Kd.V_nil _ _ _ _ _ | exact Kd.Q_nil _ _ _ _ _ | exact Kd.S_nil _ _ _ _ _, zU HB.out⟩
   ·replace c9 := Bool.eq_false_iff.mpr c9; subst c9; have H1 : (if 0 ≤ (l0_0.length : Int) then (if ((l0_0.length : Int) : Int).toNat ≤ 281474976710656 then ((some (List.replicate ((l0_0.length : Int) : Int).toNat 0 : List Int)).bind fun y602 => (leadtrailref09_Unrank.l0 kj2 a1 (wrap64 ((y602.length : Int) - 1)) y602 l0_0 a0_1)) else (none)) else (none)) = some (r1, r2) := by rw [if_neg (show ¬ (false = true) by decide)] at H; exact H
    clear H; have H := H1; clear H1; by_cases c10 : 0 ≤ (l0_0.length : Int)
    ·rw [if_pos c10] at H; have c10b0 := eq_true c10; have c10b1 : decide (0 ≤ (l0_0.length : Int)) = true := decide_eq_true c10; clear c10; by_cases c11 : ((l0_0.length : Int) : Int).toNat ≤ 281474976710656
     ·rw [if_pos c11] at H; have c11b0 := eq_true c11; have c11b1 : decide (((l0_0.length : Int) : Int).toNat ≤ 281474976710656) = true := decide_eq_true c11; clear c11; obtain ⟨y602, hy602⟩ : ∃ y_ : List Int, y_ = (List.replicate ((l0_0.length : Int) : Int).toNat 0) := ⟨_, rfl⟩
      replace H : (leadtrailref09_Unrank.l0 kj2 a1 (wrap64 ((y602.length : Int) - 1)) y602 l0_0 a0_1) = some (r1, r2) := by first | (rw [hy602]; with_reducible exact H) | (have H2_ := (Option.bind_some _ _).symm.trans H; rw [hy602]; with_reducible exact H2_) | (have H2_ := (Option.bind_some _ _).symm.trans H; with_reducible exact H2_) | with_reducible exact H | (rw [hy602]; exact H) | exact H
      have Ny602 := zk hy602; clear hy602; have H' := zk H; clear H; have hcz12_0 : wc.cell? ⟨gb600, 0, none⟩ = some (.slice A0_0 l0_0.length c0_0) := zh BK600.out 0; have hcz12_1 : wc.cell? ⟨gb600, 1, none⟩ = some (.int .i64 a0_1) := zh BK600.out 1; have hfz12_0 := blk_frozen BK600.out 0; have hfz12_1 := blk_frozen BK600.out 1; go_wp2_with (first | ((with_reducible refine gate_dst (N := 22) rfl ?_); refine Kd.R_make (Kd.int .u8) _ 5 rfl (N := 22) rfl 59 _ _ rfl (l0_0.length : Int) rfl rfl Try.underlying59 (.int .u8 0) 1 info5 rfl (by decide) (by omega) 0 (ok := fun _ => True) (okp := fun _ => True) rfl (fun _ hk => hk) trivial zT (Nat.le_trans (Nat.mul_le_mul_right _ (zT : (l0_0.length : Int).toNat ≤ 281474976710656)) (by omega)) (Below.refl _ _) (Nat.le_refl _) ?_; intro v603 w13 ho14 hb hg_ hnew_; clear hg_ hnew_; (first | rw [← Ny602.out] at ho14 | (simp only [Int.reduceToNat] at ho14; rw [← Ny602.out] at ho14)); have HO604 := zk (Kd.R_lower ho14 (below_size (zU HB.out))); replace BK600 := zk (zbb BK600.out hb); replace HB := zk (below_step (zU HB.out) hb);  clear hb ho14; obtain ⟨Ao15, co15, eo15⟩ := Kd.R_slice HO604.out; subst eo15))
      go_loopg [1, 7] kj2 (fun kq v1 v7 w' => ∃ (x1_2 : Int) (x7_2 : Int) (x22_2 : List Int), v1 = .int .i64 x1_2 ∧ v7 = .int .i64 x7_2 ∧ Aside0 (leadtrailref09_Unrank.l0 kq x1_2 x7_2 x22_2 l0_0 a0_1 = some (r1, r2)) ∧ Aside0 (kq ≤ kj2) ∧ Aside0 (Kd.R (Kd.int .u8) 5 w' w.heap.size (fun _ => True) (.slice Ao15 y602.length co15) x22_2) ∧ Aside0 (w'.heap[gb600]? = some (.cells #[(.slice A0_0 l0_0.length c0_0), .int .i64 a0_1] 47 (0, 0))) ∧ Aside0 (Below w.heap.size w w'))
      case atStart => exact ⟨(a1), (wrap64 ((y602.length : Int) - 1)), (y602), zR, zR, H', ⟨Nat.le_refl _⟩, ⟨by (with_reducible repeat (first | apply zA | apply zB | apply zC)); exact HO604.out⟩, ⟨zb BK600.out⟩, ⟨zU HB.out⟩⟩
      case round =>
       clear H'; (try clear c1); (try clear p2); (try clear c3); (try clear c5); (try clear c5b0); (try clear p6); (try clear c9); (try clear c10); (try clear c10b0); (try clear c10b1); (try clear c11); (try clear c11b0); (try clear c11b1); (try clear hcz12_0); (try clear hcz12_1); (try clear hcz7_0); (try clear hcz7_1); (try clear hfz12_0); (try clear hfz12_1); (try clear hfz7_0); (try clear hfz7_1); (try clear p2); obtain ⟨x1_2, x7_2, x22_2, rfl, rfl, HA, HK2, HO_22, BK600, HB⟩ := hrel; have hl22_2 := (Kd.R_reads' HO_22.out).1; rw [hl22_2] at HO_22; (try simp only [hl22_2])
       (try simp only [hl22_2] at BK600)
       cases gk with
       | zero => exact absurd HA.out (by simp [leadtrailref09_Unrank.l0])
       | succ k2 =>
        have H := HA.out; clear HA; simp only [leadtrailref09_Unrank.l0] at H; by_cases c16 : x7_2 ≥ 0
        ·rw [if_pos c16] at H; have c16b0 : decide (0 ≤ x7_2) = true := decide_eq_true c16; clear c16; by_cases c17 : 0 ≤ x7_2
         ·rw [if_pos c17] at H; have c17b0 : decide (0 ≤ x7_2) = true := decide_eq_true c17; clear c17; by_cases c18 : x7_2 < (l0_0.length : Int)
          ·rw [if_pos c18] at H; have c18b0 : decide (x7_2 < (l0_0.length : Int)) = true := decide_eq_true c18; clear c18; replace H := Option.bind_eq_some_iff.mp H; obtain ⟨t606, A190, H⟩ := H; replace H : (if t606 = 0 then (none) else ((leadtrailref03_Select.f k2 (rd_L4 l0_0 x7_2) (Int.tmod x1_2 t606)).bind fun bt608 => (if x7_2 < (x22_2.length : Int) then (leadtrailref09_Unrank.l0 k2 (wrap64 (Int.tdiv x1_2 t606)) (wrap64 (x7_2 - 1)) (x22_2.set (x7_2 : Int).toNat ((bt608.1) % 256)) l0_0 a0_1) else (none)))) = some (r1, r2) := H; have A19 := zk A190; clear A190; by_cases c20 : t606 = 0
           ·rw [if_pos c20] at H; exact absurd H (by simp)
           ·rw [if_neg c20] at H; have c20b0 : (t606 == 0) = false := beq_eq_false_iff_ne.mpr c20; have c20b1 : (t606 != 0) = true := bne_iff_ne.mpr c20; replace H := Option.bind_eq_some_iff.mp H; obtain ⟨⟨t608, t609⟩, A210, H⟩ := H; replace H : (if x7_2 < (x22_2.length : Int) then (leadtrailref09_Unrank.l0 k2 (wrap64 (Int.tdiv x1_2 t606)) (wrap64 (x7_2 - 1)) (x22_2.set (x7_2 : Int).toNat ((t608) % 256)) l0_0 a0_1) else (none)) = some (r1, r2) := H; have A21 := zk A210; clear A210; by_cases c22 : x7_2 < (x22_2.length : Int)
            ·rw [if_pos c22] at H; have c22b0 : decide (x7_2 < (x22_2.length : Int)) = true := decide_eq_true c22; clear c22; obtain ⟨y610, hy610⟩ : ∃ y_ : List Int, y_ = (x22_2.set (x7_2 : Int).toNat ((t608) % 256)) := ⟨_, rfl⟩
             replace H : (leadtrailref09_Unrank.l0 k2 (wrap64 (Int.tdiv x1_2 t606)) (wrap64 (x7_2 - 1)) y610 l0_0 a0_1) = some (r1, r2) := by first | (rw [hy610]; with_reducible exact H) | (have H2_ := (Option.bind_some _ _).symm.trans H; rw [hy610]; with_reducible exact H2_) | (have H2_ := (Option.bind_some _ _).symm.trans H; with_reducible exact H2_) | with_reducible exact H | (rw [hy610]; exact H) | exact H
             have Ny610 := zk hy610; clear hy610; have H' := zk H; clear H; have hcz24_0 : wr.cell? ⟨gb600, 0, none⟩ = some (.slice A0_0 l0_0.length c0_0) := zh BK600.out 0; have hcz24_1 : wr.cell? ⟨gb600, 1, none⟩ = some (.int .i64 a0_1) := zh BK600.out 1; have hfz24_0 := blk_frozen BK600.out 0; have hfz24_1 := blk_frozen BK600.out 1; have p605 : 0 ≤ (x7_2 : Int) := zT; have q605 : x7_2 < (l0_0.length : Int) := zT; obtain ⟨ad605, A605_0, c605_0, e605, hx605_0, hl605_0, hi605_0⟩ := at_L4 HR0_0.out x7_2 p605 q605; cases e605; replace hx605_0 := zcl HB.out hx605_0; have HR605_0 := zk hi605_0; have HC605_0 := zk hl605_0; clear hi605_0 hl605_0; replace p605 := eq_true p605; replace q605 := eq_true q605; try go_wp2_with (first | ((with_reducible refine gate_callee (f := 19) rfl ?_); refine goesL_ (some 35) rfl rfl Try.func19 zz rfl #[.slice A605_0 (rd_L4 l0_0 x7_2).length c605_0] rfl zM ?_; (with_reducible refine (leadtrailref03_Size.calls k2 _ _ (rd_L4 l0_0 x7_2) t606 _ ?side1 ?side2 A19.out).mono ?_); (case side1 => exact zc (Kd.C_below HR605_0.out HB.out)); (case side2 => exact HC605_0.out); rintro e w25 ⟨rfl, hb⟩; refine ⟨_, rfl, ?_⟩; replace HO_22 := zk (Kd.R_below (zr HO_22.out) hb); replace BK600 := zk (zbb BK600.out hb); replace HB := zk (below_step (zU HB.out) hb);  (try clear hb); (try clear hb2); (try clear hk); (try clear hi)))
             have n0_ := zk (Kd.R_drew HO_22.out); have n1_ := zk (blk_drew BK600.out); have n2_ := zk (below_drew1 HB.out); clear HO_22; clear BK600; clear HB; have HO_22 := n0_; have BK600 := n1_; have HB := n2_; clear n0_ n1_ n2_; have p607 : 0 ≤ (x7_2 : Int) := zT; have q607 : x7_2 < (l0_0.length : Int) := zT; obtain ⟨ad607, A607_0, c607_0, e607, hx607_0, hl607_0, hi607_0⟩ := at_L4 HR0_0.out x7_2 p607 q607; have hw607_0 := hx607_0; obtain rfl : ad605 = ad607 := (by injection e607); replace hx607_0 := zcl HB.out hx607_0; have HR607_0 := zk hi607_0; have HC607_0 := zk hl607_0; clear hi607_0 hl607_0; replace p607 := eq_true p607; replace q607 := eq_true q607; refine start_ (n := 14) (S := fun w' => w'.cell? ⟨gb600, 0, none⟩ = some (.slice (some ad605) l0_0.length c0_0) ∧ w'.cell? ⟨gb600, 1, none⟩ = some (.int .i64 a0_1) ∧ w'.cell? (ad605.add (x7_2).toNat) = some (.slice A607_0 (rd_L4 l0_0 x7_2).length c607_0)) (ds := []) #[false, false, false, false, false, false, false, false, false, false, false, false, false, false] zz rfl rfl ⟨(blk_cell BK600.out 0).trans rfl, (blk_cell BK600.out 1).trans rfl, (zcl HB.out hw607_0)⟩ (fun hHeld => ?_); refine with_tabW leadtrailref09_Unrank.tab8 leadtrailref09_Unrank.bits8 (fun HT_ HW_ => ?_); generalize w25.drew = w26 at HO_22 BK600 HB HR607_0 hx607_0 hHeld ⊢; refine zp 0 (some 37) (v := ?_) (a' := ?_) (bz 14 1) rfl rfl HT_.out zz zQ ?_ ?_ ?_; rotate_left
             ·intro w'; go_simp; with_reducible rfl
             rotate_left
             ·simp only [Act.put, zv, i64_w, i32_w]; rfl
             refine zp 2 (some 39) (v := ?_) (a' := ?_) (bz 14 5) rfl rfl HT_.out zz zQ ?_ ?_ ?_; rotate_left
             ·intro w'; go_simp; with_reducible rfl
             rotate_left
             ·simp only [Act.put, zv, i64_w, i32_w]; rfl
             refine zp 5 (some 42) (v := ?_) (a' := ?_) (bz 14 37) rfl rfl HT_.out zz zQ ?_ ?_ ?_; rotate_left
             ·intro w'; go_simp; with_reducible rfl
             rotate_left
             ·simp only [Act.put, zv, i64_w, i32_w]; rfl
             refine zp 6 (some 43) (v := ?_) (a' := ?_) (bz 14 101) rfl rfl HT_.out zz zQ ?_ ?_ ?_; rotate_left
             ·intro w'; go_simp; with_reducible rfl
             rotate_left
             ·simp only [Act.put, zv, i64_w, i32_w]; rfl
             refine zp 7 (some 44) (v := ?_) (a' := ?_) (bz 14 229) rfl rfl HT_.out zz zQ ?_ ?_ ?_; rotate_left
             ·intro w'; go_simp; with_reducible rfl
             rotate_left
             ·simp only [Act.put, zv, i64_w, i32_w]; rfl
             refine take_ (i := 1) (N := some 38) (v := ?_) (a' := ?_) (bz 14 231) rfl rfl (take_ofW HT_.out HW_.out zz) zQ (Or.inl ⟨by rfl, ?_⟩) hHeld ?_ ?_; rotate_left
             ·rintro w' ⟨s0, s1, s2⟩; go_simp; with_reducible rfl
             rotate_left
             ·simp only [Act.put, zv, i64_w, i32_w]; rfl
             refine zp 3 (some 40) (v := ?_) (a' := ?_) (bz 14 239) rfl rfl HT_.out zz zQ ?_ ?_ ?_; rotate_left
             ·intro w'; go_simp; with_reducible rfl
             rotate_left
             ·simp only [Act.put, zv, i64_w, i32_w]; rfl
             refine take_ (i := 4) (N := some 41) (v := ?_) (a' := ?_) (bz 14 255) rfl rfl (take_ofW HT_.out HW_.out zz) zQ (Or.inl ⟨by rfl, ?_⟩) hHeld ?_ ?_; rotate_left
             ·rintro w' ⟨s0, s1, s2⟩; go_simp; with_reducible rfl
             rotate_left
             ·simp only [Act.put, zv, i64_w, i32_w]; rfl
             refine one_ (i := 8) (N := some 45) (bz 14 511) rfl rfl (one_of HT_.out zz) (by decide) (fun K hK => ?_); refine goes_ Try.func18 zz rfl #[.slice A607_0 (rd_L4 l0_0 x7_2).length c607_0, .int .i64 (Int.tmod x1_2 t606)] (by rfl) rfl rfl zM ?_; with_reducible refine (leadtrailref03_Select.calls k2 _ _ (rd_L4 l0_0 x7_2) (Int.tmod x1_2 t606) t608 t609 _ ?side1 ?side2 A21.out).mono ?_; (case side1 => exact zc (Kd.C_below HR607_0.out HB.out))
             (case side2 => exact HC607_0.out)
             rintro e w27 ⟨rfl, hb⟩; refine ⟨_, rfl, ?_⟩; have n0_ := zk (Kd.R_below (zr HO_22.out) hb); have n1_ := zk (zbb BK600.out hb); have n2_ := zk (below_step (zU HB.out) hb); clear HO_22; clear BK600; clear HB; have HO_22 := n0_; have BK600 := n1_; have HB := n2_; clear n0_ n1_ n2_; (try clear hb); (try clear hb2); (try clear hk); (try clear hi); refine hK.out _ _ ⟨(blk_cell BK600.out 0).trans rfl, (blk_cell BK600.out 1).trans rfl, (zcl HB.out hw607_0)⟩ (fun hHeld => ?_); clear hK K; refine norm_ (a' := ?_) ?_ ?_; rotate_left
             ·show Act.put _ (some 45) _ = _; simp only [Act.put, zv, i64_w, i32_w]; rfl
             refine zp 9 (some 36) (v := ?_) (a' := ?_) (bz 14 1023) rfl rfl HT_.out zz zQ ?_ ?_ ?_; rotate_left
             ·intro w'; go_simp; with_reducible rfl
             rotate_left
             ·simp only [Act.put, zv, i64_w, i32_w]; rfl
             refine zp 10 (some 46) (v := ?_) (a' := ?_) (bz 14 2047) rfl rfl HT_.out zz zQ ?_ ?_ ?_; rotate_left
             ·intro w'; go_simp; with_reducible rfl
             rotate_left
             ·simp only [Act.put, zv, i64_w, i32_w]; rfl
             refine zp 11 (some 47) (v := ?_) (a' := ?_) (bz 14 4095) rfl rfl HT_.out zz zQ ?_ ?_ ?_; rotate_left
             ·intro w'; go_simp; with_reducible rfl
             rotate_left
             ·simp only [Act.put, zv, i64_w, i32_w]; rfl
             refine zp 12 (some 9) (v := ?_) (a' := ?_) (bz 14 8191) rfl rfl HT_.out zz zQ ?_ ?_ ?_; rotate_left
             ·intro w'; go_simp; with_reducible rfl
             rotate_left
             ·simp only [Act.put, zv, i64_w, i32_w]; rfl
             refine zp 13 (some 10) (v := ?_) (a' := ?_) (bz 14 16383) rfl rfl HT_.out zz zQ ?_ ?_ ?_; rotate_left
             ·intro w'; go_simp; with_reducible rfl
             rotate_left
             ·simp only [Act.put, zv, i64_w, i32_w]; rfl
             refine done_ (done_of HT_.out zz) ?_; have p23 : 0 ≤ (x7_2 : Int) := zT; have q23 : (x7_2 : Int) < ((x22_2.length : Int) : Int) := zT; obtain ⟨go23, co23, eo23, gb23, gl23, cl23, HG23⟩ := Kd.R_form HO_22.out (by omega)
             (first | cases eo23 | (injection eo23 with ea_ en_ ec_; (first | subst ea_ | (injection ea_ with ea_; subst ea_)); subst ec_; clear en_))
             have GB23 := zk gb23; have GG23 := zk HG23; clear gb23 gl23 HG23; obtain ⟨hx23_0, hf23_0⟩ := Kd.R_celln 0 HO_22.out (x7_2 : Int) p23 q23; replace p23 := eq_true p23; replace q23 := eq_true q23; obtain ⟨hy28_, hz28_⟩ := Kd.R_celln 0 HO_22.out (x7_2 : Int) zT zT; have HP28 := Kd.R_putg HO_22.out (x7_2 : Int) ((t608) % 256); try go_wp2_with (first | ((with_reducible refine gate_store (t := 5) (p := 52) rfl ?_); refine store_event (t := 5) (p := 52) (v := ?vo_w29) (w1 := (w27.setCell ⟨go23, (x7_2 : Int).toNat, none⟩ (.int .u8 ((t608) % 256)))) ?hg ?ho ?hn ?hr ?_; (case ho => rfl); (case hg => rfl); (case hn => rfl); (case hr => first | (go_simp; done) | (go_simp; rfl)); intro w29 hw; have hg : w27.grownBy w29 (some go23) := (by rw [hw]; exact HP28.2); have hp_ : Kd.R (Kd.int .u8) 5 w29 w.heap.size (fun _ => True) (.slice (some ⟨go23, 0, none⟩) x22_2.length co15) y610 := (by rw [hw, Ny610.out]; exact HP28.1); clear HP28; replace BK600 := zk (blk_grown (g := gb600) (o := .cells #[.slice (some ad605) l0_0.length c0_0, .int .i64 a0_1] 47 (0, 0)) (zb BK600.out) hg (Kd.R_ne HO_22.out BK600.out (by decide))); replace HO_22 := zk (hp_); replace HB := zk ((by rw [hw]; exact below_set (HB.out) GB23.out : Below w.heap.size w w29));  clear hg hw hp_))
             (try simp only [← hl22_2])
             go_roundg k2
             case measure => have := HJ2.out; have := HK2.out; omega
             case rel => exact ⟨(wrap64 (Int.tdiv x1_2 t606)), (wrap64 (x7_2 - 1)), (y610), zR, zR, H', ⟨by have := HJ2.out; have := HK2.out; omega⟩, ⟨by (try simp only [hl22_2]); (with_reducible repeat (first | apply zA | apply zB | apply zC)); exact HO_22.out⟩, ⟨by (try simp only [hl22_2]); exact zb BK600.out⟩, ⟨zU HB.out⟩⟩
            ·rw [if_neg c22] at H; exact absurd H (by simp)
          ·rw [if_neg c18] at H; exact absurd H (by simp)
         ·rw [if_neg c17] at H; exact absurd H (by simp)
        ·rw [if_neg c16] at H; have c16b0 : decide (0 ≤ x7_2) = false := decide_eq_false c16; clear c16; simp only [Option.some.injEq, Prod.mk.injEq] at H; obtain ⟨rfl, rfl⟩ := H; go_wp2
         go_ret2
         exact ⟨_, ze, by (with_reducible repeat (first | apply zA | apply zB | apply zC)); exact HO_22.out, zU HB.out⟩
     ·rw [if_neg c11] at H; exact absurd H (by simp)
    ·rw [if_neg c10] at H; exact absurd H (by simp)
end Go.Proofs.Ytoljcfocgaonpaa.I
