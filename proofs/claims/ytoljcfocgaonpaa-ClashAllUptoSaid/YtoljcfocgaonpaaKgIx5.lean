/- Words and walks of this claim, of the text Ix5. -/
import Derived.Test.YtoljcfocgaonpaaKgQW0
import Derived.Test.YtoljcfocgaonpaaKgIx0
import Derived.Test.YtoljcfocgaonpaaKgIx4
namespace Go.Proofs.Ytoljcfocgaonpaa.I
open Go.RowKit Go.Proofs.YtoljcfocgaonpaaW.PrintWords Go.Proofs.YtoljcfocgaonpaaW.PrintLast Go.Proofs.YtoljcfocgaonpaaW.PrintMore
attribute [local go_sem] max2_int min2_int max_two min_two max_three min_three max_four min_four
set_option linter.unusedVariables false
set_option linter.unusedSimpArgs false
def sets_Norm.l0 : Nat → List (S133) → List (S133) → Int → Int → Option ((List (S133)) × (List (S133)))
 | 0, _, _, _, _ => none
 | k + 1, x0, x3, x10, x11 => if x11 < x10 then (if 0 ≤ x11 then (if x11 < (x0.length : Int) then (if (x3.length : Int) > 0 then (if 0 ≤ (wrap64 ((x3.length : Int) - 1)) then (if (wrap64 ((x3.length : Int) - 1)) < (x3.length : Int) then (if ((rd_T133 x0 x11).f0) ≤ (wrap64 (((rd_T133 x3 (wrap64 ((x3.length : Int) - 1))).f1) + 1)) then (sets_Norm.l0 k x0 (x3.set ((wrap64 ((x3.length : Int) - 1)) : Int).toNat (⟨(rd_T133 x3 (wrap64 ((x3.length : Int) - 1))).f0, mx ((rd_T133 x3 (wrap64 ((x3.length : Int) - 1))).f1) ((rd_T133 x0 x11).f1)⟩ : S133)) x10 (wrap64 (x11 + 1))) else (if x3.length < 8796093022208 then (sets_Norm.l0 k x0 (x3 ++ [(⟨(rd_T133 x0 x11).f0, (rd_T133 x0 x11).f1⟩ : S133)]) x10 (wrap64 (x11 + 1))) else (none))) else (none)) else (none)) else (if x3.length < 8796093022208 then (sets_Norm.l0 k x0 (x3 ++ [(⟨(rd_T133 x0 x11).f0, (rd_T133 x0 x11).f1⟩ : S133)]) x10 (wrap64 (x11 + 1))) else (none))) else (none)) else (none)) else (some (x3, x0))
def sets_Norm.f (k : Nat) (l0 : List (S133)) : Option ((List (S133)) × (List (S133))) := (sortRun.f l0).bind fun t112 => (sets_Norm.l0 k t112 ([] : List (S133)) (l0.length : Int) 0)
def sets_Norm.T7 : Bool × List (List Nat × List Nat) := (true, [([], []), ([0], [0]), ([1], [1]), ([2], [2]), ([3, 2], [2, 3]), ([2], [2]), ([2], [2]), ([6, 2], [2, 6]), ([5, 7, 2], [2, 5, 7]), ([8, 2], [2, 8]), ([9, 2], [2, 9]), ([10, 2], [2, 10]), ([4, 11, 2], [2, 4, 11]), ([2, 12], [2, 12])])
def sets_Norm.B7 : List Nat := [0, 1, 3, 7, 15, 7, 7, 71, 231, 487, 999, 2023, 4095, 8191]
theorem sets_Norm.tab7 : rtab .any (opsOf Try.f105 7) = sets_Norm.T7 := by kernel_rfl
theorem sets_Norm.bits7 : waitsOk sets_Norm.T7.2 sets_Norm.B7 = true := by kernel_rfl
def sets_Norm.T8 : Bool × List (List Nat × List Nat) := (true, [([], []), ([], []), ([1], [1]), ([], []), ([], []), ([4], [4]), ([3, 5], [3, 5]), ([6], [6]), ([7], [7]), ([], []), ([9], [9]), ([8, 10], [8, 10]), ([0, 2, 0, 1, 2, 3, 4, 5, 6, 7, 8, 9, 10, 11], [0, 2]), ([12, 0, 1, 2, 3, 4, 5, 6, 7, 8, 9, 10, 11], [12]), ([13, 11, 0, 1, 2, 3, 4, 5, 6, 7, 8, 9, 10, 11], [11, 13])])
def sets_Norm.B8 : List Nat := [0, 0, 2, 0, 0, 16, 56, 120, 248, 0, 512, 2040, 4095, 8191, 16383]
theorem sets_Norm.tab8 : rtab .any (opsOf Try.f105 8) = sets_Norm.T8 := by kernel_rfl
theorem sets_Norm.bits8 : waitsOk sets_Norm.T8.2 sets_Norm.B8 = true := by kernel_rfl
set_option maxHeartbeats 8000000 in
set_option maxRecDepth 100000 in
theorem sets_Norm.calls (k : Nat) (P0_ : Nat → Prop) (u9000_ : Value) (l0 : List (S133)) (r1 : List (S133)) (r2 : List (S133)) (w0 w : World) (hB : Below w0.heap.size w0 w) (ho0 : Kd.R k133 133 w w0.heap.size P0_ u9000_ l0) (h : sets_Norm.f k l0 = some (r1, r2)) :
 Calls Try.prog 105 #[u9000_] w fun e w' => ∃ v0_ : Value, e = .returned (v0_) ∧ Kd.R k133 133 w' w0.heap.size (fun k_ => (P0_ k_ ∨ w.heap.size ≤ k_) ∧ some k_ ≠ (u9000_ : Value).ownBlock) v0_ r1 ∧ Kd.R k133 133 w' w0.heap.size (fun k_ => (P0_ k_ ∨ w.heap.size ≤ k_)) u9000_ r2 ∧ Below w0.heap.size w0 w' ∧ Kept w w' (fun k_ => P0_ k_) := by
 have hu133 := Try.underlying133; have HO0 := zk (show Kd.R k133 133 w w0.heap.size (fun k_ => (P0_ k_ ∨ w.heap.size ≤ k_)) u9000_ l0 from Kd.R_mono ho0 (fun k_ hk => (.inl hk))); have HK := zk (Kept.refl w (fun k_ => P0_ k_)); have HW0 := zk hB.size; have HB := zk hB; clear hB; have H : ((sortRun.f l0).bind fun t112 => (sets_Norm.l0 k t112 ([] : List (S133)) (l0.length : Int) 0)) = some (r1, r2) := h; clear h; replace H := Option.bind_eq_some_iff.mp H; obtain ⟨t112, A20, H⟩ := H; replace H : (sets_Norm.l0 k t112 ([] : List (S133)) (l0.length : Int) 0) = some (r1, r2) := H; have A2 := zk A20; clear A20; have H' := zk H; clear H; obtain ⟨Ao3, co3, eo3⟩ := Kd.R_slice HO0.out; subst eo3; go_enter Try.func105, Try.ntmps105
 go_wp2_with (first | ((with_reducible refine gate_callee (f := 133) rfl ?_); refine goesL_ (some 8) rfl rfl Try.func133 zz rfl #[.slice Ao3 l0.length co3, .func (.func 134) #[] #[]] rfl zM ?_; (with_reducible refine (sortRun.calls (fun k_ => some k_ = (.slice Ao3 l0.length co3 : Value).ownBlock) (.slice Ao3 l0.length co3) l0 t112 w0 _ ?side1 ?side2 A2.out).mono ?_); (case side1 => repeat (first | (with_reducible first | exact HB.out | apply zD | apply zE | apply zF) | exact HB.out)); (case side2 => exact Kd.R_tight rfl HO0.out); rintro e w4 ⟨rfl, hy0, hb, hkp⟩; refine ⟨_, rfl, ?_⟩; replace HK := zk (Kept.then_ (S := (fun k_ => P0_ k_)) (by repeat (first | (with_reducible first | exact HK.out | apply Kept.alloc | apply Kept.drewN | apply Kept.drew) | exact HK.out)) hkp (fun k_ hs_ => (fun e_ => (HO0.out.1 k_ e_.symm)) hs_)); replace HO0 := zk (Kd.R_reok rfl hy0 (fun k_ e_ => HO0.out.1 k_ e_)); replace HB := zk (hb);  (try clear hb); (try clear hkp); (try clear hy0)))
 go_loopg [3, 11] k (fun kq v3 v11 w' => ∃ (x0_1 : List (S133)) (x3_1 : List (S133)) (x11_1 : Int), v11 = .int .i64 x11_1 ∧ Aside0 (sets_Norm.l0 kq x0_1 x3_1 (l0.length : Int) x11_1 = some (r1, r2)) ∧ Aside0 (kq ≤ k) ∧ Aside0 (Kd.R k133 133 w' w0.heap.size (fun k_ => (P0_ k_ ∨ w.heap.size ≤ k_) ∧ some k_ ≠ (v3 : Value).ownBlock) (.slice Ao3 l0.length co3) x0_1) ∧ Aside0 (Kd.R k133 133 w' w0.heap.size (fun k_ => (P0_ k_ ∨ w.heap.size ≤ k_) ∧ some k_ ≠ ((.slice Ao3 l0.length co3) : Value).ownBlock) v3 x3_1) ∧ Aside0 (Kept w w' (fun k_ => P0_ k_)) ∧ Aside0 (Below w0.heap.size w0 w'))
 case atStart => exact ⟨(t112), (([] : List (S133))), (0), zR, H', ⟨Nat.le_refl _⟩, ⟨by (with_reducible repeat (first | apply zA | apply zB | apply zC)); exact Kd.R_mono HO0.out (fun _ hk => ⟨hk, (by simp [Value.ownBlock])⟩)⟩, ⟨by first | exact Kd.R_nil _ _ _ _ _ | exact Kd.N_nil _ _ _ _ _ | exact Kd.V_nil _ _ _ _ _ | exact Kd.Q_nil _ _ _ _ _ | exact Kd.S_nil _ _ _ _ _⟩, ⟨by repeat (first | (with_reducible first | exact HK.out | apply Kept.alloc | apply Kept.drewN | apply Kept.drew) | exact HK.out)⟩, ⟨zU HB.out⟩⟩
 case round =>
  clear H'; (try clear c1); (try clear p2); obtain ⟨x0_1, x3_1, x11_1, rfl, HA, HK1, HO_0, HO_3, HK, HB⟩ := hrel; have hl0_1 := (Kd.R_reads' HO_0.out).1; rw [hl0_1] at HO_0; (try simp only [hl0_1])
  (try simp only [hl0_1] at HO_3)
  cases gk with
  | zero => exact absurd HA.out (by simp [sets_Norm.l0])
  | succ k1 =>
   have H := HA.out; clear HA; simp only [sets_Norm.l0] at H; by_cases c5 : x11_1 < (l0.length : Int)
   ·rw [if_pos c5] at H; have c5b0 : decide (x11_1 < (l0.length : Int)) = true := decide_eq_true c5; (try have c5b9 : decide (x11_1 < (x0_1.length : Int)) = true := by rw [← hl0_1]; exact c5b0)
    clear c5; by_cases c6 : 0 ≤ x11_1
    ·rw [if_pos c6] at H; have c6b0 : decide (0 ≤ x11_1) = true := decide_eq_true c6; clear c6; by_cases c7 : x11_1 < (x0_1.length : Int)
     ·rw [if_pos c7] at H; have c7b0 : decide (x11_1 < (x0_1.length : Int)) = true := decide_eq_true c7; clear c7; by_cases c8 : (x3_1.length : Int) > 0
      ·rw [if_pos c8] at H; have c8b0 : decide (0 < (x3_1.length : Int)) = true := decide_eq_true c8; have c8b1 : decide (0 < x3_1.length) = true := decide_eq_true (by omega); clear c8; obtain ⟨ji9, hji9⟩ : ∃ j_ : Int, (wrap64 ((x3_1.length : Int) - 1)) = j_ := ⟨_, rfl⟩
       replace H : (if 0 ≤ (ji9) then (if (ji9) < (x3_1.length : Int) then (if ((rd_T133 x0_1 x11_1).f0) ≤ (wrap64 (((rd_T133 x3_1 (ji9)).f1) + 1)) then (sets_Norm.l0 k1 x0_1 (x3_1.set ((ji9) : Int).toNat (⟨(rd_T133 x3_1 (ji9)).f0, mx ((rd_T133 x3_1 (ji9)).f1) ((rd_T133 x0_1 x11_1).f1)⟩ : S133)) (l0.length : Int) (wrap64 (x11_1 + 1))) else (if x3_1.length < 8796093022208 then (sets_Norm.l0 k1 x0_1 (x3_1 ++ [(⟨(rd_T133 x0_1 x11_1).f0, (rd_T133 x0_1 x11_1).f1⟩ : S133)]) (l0.length : Int) (wrap64 (x11_1 + 1))) else (none))) else (none)) else (none)) = some (r1, r2) := by first | (rw [hji9] at H; exact H) | (simp only [hji9] at H ⊢; exact H)
       have hji9w : (IntKind.i64.wrap ((x3_1.length : Int) - 1)) = ji9 := (i64_w _).trans hji9; by_cases c10 : 0 ≤ (ji9)
       ·rw [if_pos c10] at H; have c10b0 : decide (0 ≤ (ji9)) = true := decide_eq_true c10; clear c10; by_cases c11 : (ji9) < (x3_1.length : Int)
        ·rw [if_pos c11] at H; have c11b0 : decide ((ji9) < (x3_1.length : Int)) = true := decide_eq_true c11; clear c11; by_cases c12 : ((rd_T133 x0_1 x11_1).f0) ≤ (wrap64 (((rd_T133 x3_1 (ji9)).f1) + 1))
         ·rw [if_pos c12] at H; have c12b0 : decide (((rd_T133 x0_1 x11_1).f0) ≤ (wrap64 (((rd_T133 x3_1 (ji9)).f1) + 1))) = true := decide_eq_true c12; clear c12; obtain ⟨ji13, hji13⟩ : ∃ j_ : Int, (mx ((rd_T133 x3_1 (ji9)).f1) ((rd_T133 x0_1 x11_1).f1)) = j_ := ⟨_, rfl⟩
          replace H : (sets_Norm.l0 k1 x0_1 (x3_1.set ((ji9) : Int).toNat (⟨(rd_T133 x3_1 (ji9)).f0, ji13⟩ : S133)) (l0.length : Int) (wrap64 (x11_1 + 1))) = some (r1, r2) := by first | (rw [hji13] at H; exact H) | (simp only [hji13] at H ⊢; exact H)
          have hji13_ : (if ((rd_T133 x3_1 (ji9)).f1) < ((rd_T133 x0_1 x11_1).f1) then ((rd_T133 x0_1 x11_1).f1) else ((rd_T133 x3_1 (ji9)).f1)) = ji13 := hji13; obtain ⟨y117, hy117⟩ : ∃ y_ : List (S133), y_ = (x3_1.set ((ji9) : Int).toNat (⟨(rd_T133 x3_1 (ji9)).f0, ji13⟩ : S133)) := ⟨_, rfl⟩
          replace H : (sets_Norm.l0 k1 x0_1 y117 (l0.length : Int) (wrap64 (x11_1 + 1))) = some (r1, r2) := by first | (rw [hy117]; with_reducible exact H) | (have H2_ := (Option.bind_some _ _).symm.trans H; rw [hy117]; with_reducible exact H2_) | (have H2_ := (Option.bind_some _ _).symm.trans H; with_reducible exact H2_) | with_reducible exact H | (rw [hy117]; exact H) | exact H
          have Ny117 := zk hy117; clear hy117; have H' := zk H; clear H; have p113 : 0 ≤ (x11_1 : Int) := zT; have q113 : x11_1 < (x0_1.length : Int) := zT; obtain ⟨ad113, e113, hx113_0, hx113_1⟩ := at_T133 (Kd.R_reads' HO_0.out).2.2 x11_1 p113 q113; cases e113; replace p113 := eq_true p113; replace q113 := eq_true q113; try go_wp2_with (first | ((with_reducible refine gate_dst (N := 5) rfl ?_); refine box_event ?hg (N := 5) ?hd (cs := #[.int .i64 0, .int .i64 0]) (t := 133) ?hr ?_; (case hd => rfl); (case hg => rfl); (case hr => first | (go_simp; done) | (go_simp; rfl)); intro gb114 hg w15 hbox hb; replace HO_0 := zk (Kd.R_below (Kd.R_elderB (zr HO_0.out) gb114 (Nat.le_of_eq hg.symm)) hb); replace HO_3 := zk (Kd.R_below (Kd.R_elderB (zr HO_3.out) gb114 (Nat.le_of_eq hg.symm)) hb); have BK114 := zk (hbox); have GW114 := zk ((by rw [hg]; exact (by first | exact HK.out.1 | exact (show Kept w _ (fun k_ => P0_ k_) from by repeat (first | (with_reducible first | exact HK.out | apply Kept.alloc | apply Kept.drewN | apply Kept.drew) | exact HK.out)).1) : w.heap.size ≤ gb114)); replace HK := zk (Kept.below (S := (fun k_ => P0_ k_)) (by repeat (first | (with_reducible first | exact HK.out | apply Kept.alloc | apply Kept.drewN | apply Kept.drew) | exact HK.out)) hb); have GE114 := zk ((zg hg HB.out : w0.heap.size ≤ gb114)); replace HB := zk (below_step (zU HB.out) hb);  clear hb hbox hg; have hcz16_0 : w15.cell? ⟨gb114, 0, none⟩ = some (.int .i64 0) := zh BK114.out 0; have hcz16_1 : w15.cell? ⟨gb114, 1, none⟩ = some (.int .i64 0) := zh BK114.out 1; have hfz16_0 := blk_frozen BK114.out 0; have hfz16_1 := blk_frozen BK114.out 1; obtain ⟨Ao17, co17, eo17⟩ := Kd.R_slice HO_3.out; subst eo17))
          have n0_ : Aside0 (Kd.R k133 133 ((w15.setCell ⟨gb114, 0, none⟩ (.int .i64 ((rd_T133 x0_1 x11_1).f0))).setCell ⟨gb114, 1, none⟩ (.int .i64 ((rd_T133 x0_1 x11_1).f1))) w0.heap.size (fun k_ => (P0_ k_ ∨ w.heap.size ≤ k_) ∧ some k_ ≠ (.slice Ao17 x3_1.length co17 : Value).ownBlock ∧ k_ ≠ gb114) (.slice (some ad113) x0_1.length co3) x0_1) := ⟨by (with_reducible repeat (first | apply zA | apply zB | apply zC)); exact Kd.R_mono (Kd.R_far (p := ⟨gb114, 1, none⟩) (Kd.R_far (p := ⟨gb114, 0, none⟩) (Kd.R_mono HO_0.out (fun k_ hk => (⟨hk, hk.2⟩ : _ ∧ k_ ≠ gb114))) (fun _ hk => hk.2) (.int .i64 ((rd_T133 x0_1 x11_1).f0))) (fun _ hk => hk.2) (.int .i64 ((rd_T133 x0_1 x11_1).f1))) (fun _ hk => ⟨hk.1.1.1, ⟨hk.1.1.2, hk.1.2⟩⟩)⟩; have n1_ : Aside0 (Kd.R k133 133 ((w15.setCell ⟨gb114, 0, none⟩ (.int .i64 ((rd_T133 x0_1 x11_1).f0))).setCell ⟨gb114, 1, none⟩ (.int .i64 ((rd_T133 x0_1 x11_1).f1))) w0.heap.size (fun k_ => (P0_ k_ ∨ w.heap.size ≤ k_) ∧ some k_ ≠ (.slice (some ad113) x0_1.length co3 : Value).ownBlock ∧ k_ ≠ gb114) (.slice Ao17 x3_1.length co17) x3_1) := ⟨by (with_reducible repeat (first | apply zA | apply zB | apply zC)); exact Kd.R_mono (Kd.R_far (p := ⟨gb114, 1, none⟩) (Kd.R_far (p := ⟨gb114, 0, none⟩) (Kd.R_mono HO_3.out (fun k_ hk => (⟨hk, hk.2⟩ : _ ∧ k_ ≠ gb114))) (fun _ hk => hk.2) (.int .i64 ((rd_T133 x0_1 x11_1).f0))) (fun _ hk => hk.2) (.int .i64 ((rd_T133 x0_1 x11_1).f1))) (fun _ hk => ⟨hk.1.1.1, ⟨hk.1.1.2, hk.1.2⟩⟩)⟩; have n2_ : Aside0 (((w15.setCell ⟨gb114, 0, none⟩ (.int .i64 ((rd_T133 x0_1 x11_1).f0))).setCell ⟨gb114, 1, none⟩ (.int .i64 ((rd_T133 x0_1 x11_1).f1))).heap[gb114]? = some (.cells #[.int .i64 ((rd_T133 x0_1 x11_1).f0), .int .i64 ((rd_T133 x0_1 x11_1).f1)] 133 (0, 0))) := ⟨by (with_reducible repeat (first | refine blk_drewN ?_ _ | refine blk_drew ?_ | refine blk_alloc ?_ _)); refine blk_put (cs := #[.int .i64 ((rd_T133 x0_1 x11_1).f0), .int .i64 0]) ?_ 1 _ rfl; (with_reducible repeat (first | refine blk_drewN ?_ _ | refine blk_drew ?_ | refine blk_alloc ?_ _)); refine blk_put (cs := #[.int .i64 0, .int .i64 0]) ?_ 0 _ rfl; exact zb BK114.out⟩; have n3_ : Aside0 (Kept w ((w15.setCell ⟨gb114, 0, none⟩ (.int .i64 ((rd_T133 x0_1 x11_1).f0))).setCell ⟨gb114, 1, none⟩ (.int .i64 ((rd_T133 x0_1 x11_1).f1))) (fun k_ => P0_ k_)) := ⟨by repeat (first | (with_reducible first | exact HK.out | apply Kept.alloc | apply Kept.drewN | apply Kept.drew | refine Kept.setCell ?_ (.inr GW114.out) _) | exact HK.out)⟩; have n4_ : Aside0 (Below w0.heap.size w0 ((w15.setCell ⟨gb114, 0, none⟩ (.int .i64 ((rd_T133 x0_1 x11_1).f0))).setCell ⟨gb114, 1, none⟩ (.int .i64 ((rd_T133 x0_1 x11_1).f1)))) := ⟨zU HB.out⟩; (try clear HO_0); (try clear HO_3); (try clear BK114); (try clear HK); (try clear HB); generalize ((w15.setCell ⟨gb114, 0, none⟩ (.int .i64 ((rd_T133 x0_1 x11_1).f0))).setCell ⟨gb114, 1, none⟩ (.int .i64 ((rd_T133 x0_1 x11_1).f1))) = w18 at n0_ n1_ n2_ n3_ n4_ ⊢; have HO_0 := n0_; have HO_3 := n1_; have BK114 := n2_; have HK := n3_; have HB := n4_; clear n0_ n1_ n2_ n3_ n4_; have n0_ := zk (Kd.R_drew HO_0.out); have n1_ := zk (Kd.R_drew HO_3.out); have n2_ := zk (blk_drew BK114.out); have n3_ := zk (Kept.drew HK.out); have n4_ := zk (below_drew1 HB.out); clear HO_0; clear HO_3; clear BK114; clear HK; clear HB; have HO_0 := n0_; have HO_3 := n1_; have BK114 := n2_; have HK := n3_; have HB := n4_; clear n0_ n1_ n2_ n3_ n4_; have p115 : 0 ≤ ((ji9) : Int) := zT; have q115 : (ji9) < (x3_1.length : Int) := zT; obtain ⟨ad115, e115, hx115_0, hx115_1⟩ := at_T133 (Kd.R_reads' HO_3.out).2.2 (ji9) p115 q115; cases e115; replace p115 := eq_true p115; replace q115 := eq_true q115; refine start_ (n := 14) (S := fun w' => w'.cell? ⟨gb114, 0, none⟩ = some (.int .i64 ((rd_T133 x0_1 x11_1).f0)) ∧ w'.cell? ⟨gb114, 1, none⟩ = some (.int .i64 ((rd_T133 x0_1 x11_1).f1)) ∧ w'.cell? (ad115.add (((ji9)).toNat * 2)) = some (.int .i64 ((rd_T133 x3_1 (ji9)).f0)) ∧ w'.cell? ⟨(ad115.add (((ji9)).toNat * 2)).block, (ad115.add (((ji9)).toNat * 2)).off + 1, none⟩ = some (.int .i64 ((rd_T133 x3_1 (ji9)).f1))) (ds := []) #[false, false, false, false, false, false, false, false, false, false, false, false, false, false] zz rfl rfl ⟨(blk_cell BK114.out 0).trans rfl, (blk_cell BK114.out 1).trans rfl, hx115_0, hx115_1⟩ (fun hHeld => ?_); refine with_tabW sets_Norm.tab7 sets_Norm.bits7 (fun HT_ HW_ => ?_); generalize w18.drew = w19 at HO_0 HO_3 BK114 HK HB hx115_0 hx115_1 hHeld ⊢; refine zp 0 (some 17) (v := ?_) (a' := ?_) (bz 14 1) rfl rfl HT_.out zz zQ ?_ ?_ ?_; rotate_left
          ·intro w'; go_simp; with_reducible rfl
          rotate_left
          ·simp only [Act.put, zv, i64_w, i32_w]; rfl
          refine zp 1 (some 18) (v := ?_) (a' := ?_) (bz 14 3) rfl rfl HT_.out zz zQ ?_ ?_ ?_; rotate_left
          ·intro w'; go_simp; with_reducible rfl
          rotate_left
          ·simp only [Act.put, zv, i64_w, i32_w]; rfl
          refine zp 2 (some 19) (v := ?_) (a' := ?_) (bz 14 7) rfl rfl HT_.out zz zQ ?_ ?_ ?_; rotate_left
          ·intro w'; go_simp; with_reducible rfl
          rotate_left
          ·simp only [Act.put, zv, i64_w, i32_w]; rfl
          refine zp 3 (some 20) (v := ?_) (a' := ?_) (bz 14 15) rfl rfl HT_.out zz zQ ?_ ?_ ?_; rotate_left
          ·intro w'; go_simp; with_reducible rfl
          rotate_left
          ·simp only [Act.put, zv, i64_w, i32_w]; rfl
          refine zp 5 (some 22) (v := ?_) (a' := ?_) (bz 14 47) rfl rfl HT_.out zz zQ ?_ ?_ ?_; rotate_left
          ·intro w'; go_simp; with_reducible rfl
          rotate_left
          ·simp only [Act.put, zv, i64_w, i32_w]; rfl
          refine zp 6 (some 23) (v := ?_) (a' := ?_) (bz 14 111) rfl rfl HT_.out zz zQ ?_ ?_ ?_; rotate_left
          ·intro w'; go_simp; with_reducible rfl
          rotate_left
          ·simp only [Act.put, zv, i64_w, i32_w]; rfl
          refine zp 7 (some 24) (v := ?_) (a' := ?_) (bz 14 239) rfl rfl HT_.out zz zQ ?_ ?_ ?_; rotate_left
          ·intro w'; go_simp; with_reducible rfl
          rotate_left
          ·simp only [Act.put, zv, i64_w, i32_w]; rfl
          refine zp 8 (some 25) (v := ?_) (a' := ?_) (bz 14 495) rfl rfl HT_.out zz zQ ?_ ?_ ?_; rotate_left
          ·intro w'; go_simp; with_reducible rfl
          rotate_left
          ·simp only [Act.put, zv, i64_w, i32_w]; rfl
          refine zp 9 (some 26) (v := ?_) (a' := ?_) (bz 14 1007) rfl rfl HT_.out zz zQ ?_ ?_ ?_; rotate_left
          ·intro w'; go_simp; with_reducible rfl
          rotate_left
          ·simp only [Act.put, zv, i64_w, i32_w]; rfl
          refine take_ (i := 4) (N := some 21) (v := ?_) (a' := ?_) (bz 14 1023) rfl rfl (take_ofW HT_.out HW_.out zz) zQ (Or.inl ⟨by rfl, ?_⟩) hHeld ?_ ?_; rotate_left
          ·rintro w' ⟨s0, s1, s2, s3⟩; go_simp; with_reducible rfl
          rotate_left
          ·simp only [Act.put, zv, i64_w, i32_w]; rfl
          refine take_ (i := 10) (N := some 27) (v := ?_) (a' := ?_) (bz 14 2047) rfl rfl (take_ofW HT_.out HW_.out zz) zQ (Or.inl ⟨by rfl, ?_⟩) hHeld ?_ ?_; rotate_left
          ·rintro w' ⟨s0, s1, s2, s3⟩; go_simp; with_reducible rfl
          rotate_left
          ·simp only [Act.put, zv, i64_w, i32_w]; rfl
          refine zp 11 (some 28) (v := ?_) (a' := ?_) (bz 14 4095) rfl rfl HT_.out zz zQ ?_ ?_ ?_; rotate_left
          ·intro w'; go_simp; with_reducible rfl
          rotate_left
          ·simp only [Act.put, zv, i64_w, i32_w]; rfl
          refine zp 12 (some 29) (v := ?_) (a' := ?_) (bz 14 8191) rfl rfl HT_.out zz zQ ?_ ?_ ?_; rotate_left
          ·intro w'; go_simp; with_reducible rfl
          rotate_left
          ·simp only [Act.put, zv, i64_w, i32_w]; rfl
          refine zp 13 (some 30) (v := ?_) (a' := ?_) (bz 14 16383) rfl rfl HT_.out zz zQ ?_ ?_ ?_; rotate_left
          ·intro w'; go_simp; with_reducible rfl
          rotate_left
          ·simp only [Act.put, zv, i64_w, i32_w]; rfl
          refine done_ (done_of HT_.out zz) ?_; try go_wp2
          have n0_ := zk (Kd.R_drew HO_0.out); have n1_ := zk (Kd.R_drew HO_3.out); have n2_ := zk (blk_drew BK114.out); have n3_ := zk (Kept.drew HK.out); have n4_ := zk (below_drew1 HB.out); clear HO_0; clear HO_3; clear BK114; clear HK; clear HB; have HO_0 := n0_; have HO_3 := n1_; have BK114 := n2_; have HK := n3_; have HB := n4_; clear n0_ n1_ n2_ n3_ n4_; have p116 : 0 ≤ ((ji9) : Int) := zT; have q116 : (ji9) < (x3_1.length : Int) := zT; obtain ⟨ad116, e116, hx116_0, hx116_1⟩ := at_T133 (Kd.R_reads' HO_3.out).2.2 (ji9) p116 q116; obtain rfl : ad115 = ad116 := (by injection e116); replace p116 := eq_true p116; replace q116 := eq_true q116; have p14 : 0 ≤ ((ji9) : Int) := zT; have q14 : ((ji9) : Int) < ((x3_1.length : Int) : Int) := zT; obtain ⟨go14, co14, eo14, gb14, gl14, cl14, HG14⟩ := Kd.R_form HO_3.out (by omega)
          (first | cases eo14 | (injection eo14 with ea_ en_ ec_; (first | subst ea_ | (injection ea_ with ea_; subst ea_)); subst ec_; clear en_))
          have GB14 := zk gb14; have GG14 := zk HG14; clear gb14 gl14 HG14; have HMgo14 := zk (show (P0_ go14 ∨ w.heap.size ≤ go14) from (HO_3.out.1 _ rfl).1)
          (first | simp only [add_plain] at hx115_0 | skip)
          (first | simp only [add_plain] at hx115_1 | skip)
          (first | simp only [add_plain] at hx116_0 | skip)
          (first | simp only [add_plain] at hx116_1 | skip)
          obtain ⟨ce14, hcl14, hM14, hcc14, hfr14⟩ := Kd.R_elem HO_3.out z133 ((ji9) : Int) p14 q14; obtain rfl := k133_openM hM14; have hx14_0 : World.cell? _ ⟨go14, ((ji9) : Int).toNat * 2, none⟩ = some (.int .i64 ((rd_T133 x3_1 (ji9)).f0)) := hcc14 0 _ rfl; have hx14_1 : World.cell? _ ⟨go14, ((ji9) : Int).toNat * 2 + 1, none⟩ = some (.int .i64 ((rd_T133 x3_1 (ji9)).f1)) := hcc14 1 _ rfl; have hf14_0 : World.frozen? _ ⟨go14, ((ji9) : Int).toNat * 2, none⟩ = false := hfr14 0; have hf14_1 : World.frozen? _ ⟨go14, ((ji9) : Int).toNat * 2 + 1, none⟩ = false := hfr14 1; clear hcl14 hcc14 hfr14 hM14; replace p14 := eq_true p14; replace q14 := eq_true q14; obtain ⟨ce21, hcl21, hM21, hcc21, hfr21⟩ := Kd.R_elem HO_3.out z133 ((ji9) : Int) zT (by have h_ : ((ji9) : Int) < ((x3_1.length : Int) : Int) := zT; first | exact h_ | (have e_ := (Kd.R_reads' HO_3.out).1; omega) | simpa using h_); obtain rfl := k133_openM hM21; have HP21 := (Kd.R_seg HO_3.out ((ji9) : Int) zT (by have h_ : ((ji9) : Int) < ((x3_1.length : Int) : Int) := zT; first | exact h_ | (have e_ := (Kd.R_reads' HO_3.out).1; omega) | simpa using h_) (seg := [.int .i64 ji13]) (j := 1) hcl21 hcc21 (show 2 ≤ 2 from by decide) (x' := (⟨(rd_T133 x3_1 (ji9)).f0, ji13⟩ : S133)) (k133_mkM _ _ _ (⟨(rd_T133 x3_1 (ji9)).f0, ji13⟩ : S133) ) (fun _ hk => hk)).1; rw [← Ny117.out] at HP21; have HQ21 := zk HP21; clear hcl21 hcc21 hfr21 hM21 HP21; refine start_ (n := 15) (S := fun w' => w'.cell? ⟨gb114, 0, none⟩ = some (.int .i64 ((rd_T133 x0_1 x11_1).f0)) ∧ w'.cell? ⟨gb114, 1, none⟩ = some (.int .i64 ((rd_T133 x0_1 x11_1).f1)) ∧ w'.cell? ⟨go14, ((ji9)).toNat * 2, none⟩ = some (.int .i64 ((rd_T133 x3_1 (ji9)).f0)) ∧ w'.cell? ⟨go14, ((ji9)).toNat * 2 + 1, none⟩ = some (.int .i64 ((rd_T133 x3_1 (ji9)).f1))) (ds := [14]) #[false, false, false, false, false, false, false, false, false, false, false, false, false, false, false] zz rfl rfl ⟨(blk_cell BK114.out 0).trans rfl, (blk_cell BK114.out 1).trans rfl, hx116_0, hx116_1⟩ (fun hHeld => ?_); refine with_tabW sets_Norm.tab8 sets_Norm.bits8 (fun HT_ HW_ => ?_); generalize w19.drew = w20 at HO_0 HO_3 BK114 HK HB GG14 HQ21 hf14_0 hf14_1 hx115_0 hx115_1 hx116_0 hx116_1 hx14_0 hx14_1 hHeld ⊢; refine zp 0 (some 31) (v := ?_) (a' := ?_) (bz 15 1) rfl rfl HT_.out zz zQ ?_ ?_ ?_; rotate_left
          ·intro w'; go_simp; with_reducible rfl
          rotate_left
          ·simp only [Act.put, zv, i64_w, i32_w]; rfl
          refine zp 1 (some 32) (v := ?_) (a' := ?_) (bz 15 3) rfl rfl HT_.out zz zQ ?_ ?_ ?_; rotate_left
          ·intro w'; go_simp; with_reducible rfl
          rotate_left
          ·simp only [Act.put, zv, i64_w, i32_w]; rfl
          refine zp 2 (some 33) (v := ?_) (a' := ?_) (bz 15 7) rfl rfl HT_.out zz zQ ?_ ?_ ?_; rotate_left
          ·intro w'; go_simp; with_reducible rfl
          rotate_left
          ·simp only [Act.put, zv, i64_w, i32_w]; rfl
          refine zp 3 (some 34) (v := ?_) (a' := ?_) (bz 15 15) rfl rfl HT_.out zz zQ ?_ ?_ ?_; rotate_left
          ·intro w'; go_simp; with_reducible rfl
          rotate_left
          ·simp only [Act.put, zv, i64_w, i32_w]; rfl
          refine zp 4 (some 35) (v := ?_) (a' := ?_) (bz 15 31) rfl rfl HT_.out zz zQ ?_ ?_ ?_; rotate_left
          ·intro w'; go_simp; with_reducible rfl
          rotate_left
          ·simp only [Act.put, zv, i64_w, i32_w]; rfl
          refine zp 5 (some 36) (v := ?_) (a' := ?_) (bz 15 63) rfl rfl HT_.out zz zQ ?_ ?_ ?_; rotate_left
          ·intro w'; go_simp; with_reducible rfl
          rotate_left
          ·simp only [Act.put, zv, i64_w, i32_w]; rfl
          refine zp 6 (some 37) (v := ?_) (a' := ?_) (bz 15 127) rfl rfl HT_.out zz zQ ?_ ?_ ?_; rotate_left
          ·intro w'; go_simp; with_reducible rfl
          rotate_left
          ·simp only [Act.put, zv, i64_w, i32_w]; rfl
          refine zp 7 (some 38) (v := ?_) (a' := ?_) (bz 15 255) rfl rfl HT_.out zz zQ ?_ ?_ ?_; rotate_left
          ·intro w'; go_simp; with_reducible rfl
          rotate_left
          ·simp only [Act.put, zv, i64_w, i32_w]; rfl
          refine zp 9 (some 40) (v := ?_) (a' := ?_) (bz 15 767) rfl rfl HT_.out zz zQ ?_ ?_ ?_; rotate_left
          ·intro w'; go_simp; with_reducible rfl
          rotate_left
          ·simp only [Act.put, zv, i64_w, i32_w]; rfl
          refine take_ (i := 8) (N := some 39) (v := ?_) (a' := ?_) (bz 15 1023) rfl rfl (take_ofW HT_.out HW_.out zz) zQ (Or.inl ⟨by rfl, ?_⟩) hHeld ?_ ?_; rotate_left
          ·rintro w' ⟨s0, s1, s2, s3⟩; go_simp; with_reducible rfl
          rotate_left
          ·simp only [Act.put, zv, i64_w, i32_w]; rfl
          refine take_ (i := 10) (N := some 41) (v := ?_) (a' := ?_) (bz 15 2047) rfl rfl (take_ofW HT_.out HW_.out zz) zQ (Or.inl ⟨by rfl, ?_⟩) hHeld ?_ ?_; rotate_left
          ·rintro w' ⟨s0, s1, s2, s3⟩; go_simp; with_reducible rfl
          rotate_left
          ·simp only [Act.put, zv, i64_w, i32_w]; rfl
          refine zp 11 (some 42) (v := ?_) (a' := ?_) (bz 15 4095) rfl rfl HT_.out zz zQ ?_ ?_ ?_; rotate_left
          ·intro w'; go_simp; with_reducible rfl
          rotate_left
          ·simp only [Act.put, zv, i64_w, i32_w]; rfl
          refine zp 12 (some 43) (v := ?_) (a' := ?_) (bz 15 8191) rfl rfl HT_.out zz zQ ?_ ?_ ?_; rotate_left
          ·intro w'; go_simp; with_reducible rfl
          rotate_left
          ·simp only [Act.put, zv, i64_w, i32_w]; rfl
          refine zp 13 (some 44) (v := ?_) (a' := ?_) (bz 15 16383) rfl rfl HT_.out zz zQ ?_ ?_ ?_; rotate_left
          ·intro w'; go_simp; with_reducible rfl
          rotate_left
          ·simp only [Act.put, zv, i64_w, i32_w]; rfl
          refine last_ (i := 14) (N := none) (bz 15 32767) rfl rfl (one_of HT_.out zz) (by decide) (fun K hK => ?_); refine skip_ (w1 := ?_) (by rfl) rfl ?_ ?_; rotate_left
          ·go_simp; rfl
          refine hK.out _ _ ?_; clear hK K; refine done_ (done_of HT_.out zz) ?_; try go_wp2
          (try simp only [← hl0_1])
          go_roundg k1
          case measure => have := HK1.out; omega
          case rel => exact ⟨(x0_1), (y117), (wrap64 (x11_1 + 1)), zR, H', ⟨by have := HK1.out; omega⟩, ⟨by (try simp only [hl0_1]); (with_reducible repeat (first | apply zA | apply zB | apply zC)); exact Kd.R_mono (Kd.R_far (p := ⟨go14, ((ji9) : Int).toNat * 2 + 1, none⟩) (Kd.R_mono HO_0.out (fun k_ hk => (⟨hk, fun e_ => hk.2.1 (by rw [e_]; rfl)⟩ : _ ∧ k_ ≠ go14))) (fun _ hk => hk.2) (.int .i64 ji13)) (fun _ hk => ⟨hk.1.1, hk.1.2.1⟩)⟩, ⟨by (try simp only [hl0_1]); (with_reducible repeat (first | apply zA | apply zB | apply zC)); exact Kd.R_mono HQ21.out (fun _ hk => ⟨hk.1, hk.2.1⟩)⟩, ⟨by repeat (first | (with_reducible first | exact HK.out | apply Kept.alloc | apply Kept.drewN | apply Kept.drew | refine Kept.setCell ?_ HMgo14.out _ | refine Kept.setCell ?_ (.inr GW114.out) _) | exact HK.out)⟩, ⟨by repeat (first | (with_reducible first | exact HB.out | apply zD | apply zE | apply zF | refine below_set ?_ GB14.out | refine below_set ?_ GE114.out) | exact HB.out)⟩⟩
         ·rw [if_neg c12] at H; have c12b0 : decide (((rd_T133 x0_1 x11_1).f0) ≤ (wrap64 (((rd_T133 x3_1 (ji9)).f1) + 1))) = false := decide_eq_false c12; clear c12; by_cases c22 : x3_1.length < 8796093022208
          ·rw [if_pos c22] at H; have LMc22 := zk c22; clear c22; obtain ⟨y118, hy118⟩ : ∃ y_ : List (S133), y_ = (x3_1 ++ [(⟨(rd_T133 x0_1 x11_1).f0, (rd_T133 x0_1 x11_1).f1⟩ : S133)]) := ⟨_, rfl⟩
           replace H : (sets_Norm.l0 k1 x0_1 y118 (l0.length : Int) (wrap64 (x11_1 + 1))) = some (r1, r2) := by first | (rw [hy118]; with_reducible exact H) | (have H2_ := (Option.bind_some _ _).symm.trans H; rw [hy118]; with_reducible exact H2_) | (have H2_ := (Option.bind_some _ _).symm.trans H; with_reducible exact H2_) | with_reducible exact H | (rw [hy118]; exact H) | exact H
           have Ny118 := zk hy118; clear hy118; have H' := zk H; clear H; have p113 : 0 ≤ (x11_1 : Int) := zT; have q113 : x11_1 < (x0_1.length : Int) := zT; obtain ⟨ad113, e113, hx113_0, hx113_1⟩ := at_T133 (Kd.R_reads' HO_0.out).2.2 x11_1 p113 q113; cases e113; replace p113 := eq_true p113; replace q113 := eq_true q113; try go_wp2_with (first | ((with_reducible refine gate_dst (N := 5) rfl ?_); refine box_event ?hg (N := 5) ?hd (cs := #[.int .i64 0, .int .i64 0]) (t := 133) ?hr ?_; (case hd => rfl); (case hg => rfl); (case hr => first | (go_simp; done) | (go_simp; rfl)); intro gb114 hg w23 hbox hb; replace HO_0 := zk (Kd.R_below (Kd.R_elderB (zr HO_0.out) gb114 (Nat.le_of_eq hg.symm)) hb); replace HO_3 := zk (Kd.R_below (Kd.R_elderB (zr HO_3.out) gb114 (Nat.le_of_eq hg.symm)) hb); have BK114 := zk (hbox); have GW114 := zk ((by rw [hg]; exact (by first | exact HK.out.1 | exact (show Kept w _ (fun k_ => P0_ k_) from by repeat (first | (with_reducible first | exact HK.out | apply Kept.alloc | apply Kept.drewN | apply Kept.drew) | exact HK.out)).1) : w.heap.size ≤ gb114)); replace HK := zk (Kept.below (S := (fun k_ => P0_ k_)) (by repeat (first | (with_reducible first | exact HK.out | apply Kept.alloc | apply Kept.drewN | apply Kept.drew) | exact HK.out)) hb); have GE114 := zk ((zg hg HB.out : w0.heap.size ≤ gb114)); replace HB := zk (below_step (zU HB.out) hb);  clear hb hbox hg; have hcz24_0 : w23.cell? ⟨gb114, 0, none⟩ = some (.int .i64 0) := zh BK114.out 0; have hcz24_1 : w23.cell? ⟨gb114, 1, none⟩ = some (.int .i64 0) := zh BK114.out 1; have hfz24_0 := blk_frozen BK114.out 0; have hfz24_1 := blk_frozen BK114.out 1; obtain ⟨Ao25, co25, eo25⟩ := Kd.R_slice HO_3.out; subst eo25))
           have n0_ : Aside0 (Kd.R k133 133 ((w23.setCell ⟨gb114, 0, none⟩ (.int .i64 ((rd_T133 x0_1 x11_1).f0))).setCell ⟨gb114, 1, none⟩ (.int .i64 ((rd_T133 x0_1 x11_1).f1))) w0.heap.size (fun k_ => (P0_ k_ ∨ w.heap.size ≤ k_) ∧ some k_ ≠ (.slice Ao25 x3_1.length co25 : Value).ownBlock ∧ k_ ≠ gb114) (.slice (some ad113) x0_1.length co3) x0_1) := ⟨by (with_reducible repeat (first | apply zA | apply zB | apply zC)); exact Kd.R_mono (Kd.R_far (p := ⟨gb114, 1, none⟩) (Kd.R_far (p := ⟨gb114, 0, none⟩) (Kd.R_mono HO_0.out (fun k_ hk => (⟨hk, hk.2⟩ : _ ∧ k_ ≠ gb114))) (fun _ hk => hk.2) (.int .i64 ((rd_T133 x0_1 x11_1).f0))) (fun _ hk => hk.2) (.int .i64 ((rd_T133 x0_1 x11_1).f1))) (fun _ hk => ⟨hk.1.1.1, ⟨hk.1.1.2, hk.1.2⟩⟩)⟩; have n1_ : Aside0 (Kd.R k133 133 ((w23.setCell ⟨gb114, 0, none⟩ (.int .i64 ((rd_T133 x0_1 x11_1).f0))).setCell ⟨gb114, 1, none⟩ (.int .i64 ((rd_T133 x0_1 x11_1).f1))) w0.heap.size (fun k_ => (P0_ k_ ∨ w.heap.size ≤ k_) ∧ some k_ ≠ (.slice (some ad113) x0_1.length co3 : Value).ownBlock ∧ k_ ≠ gb114) (.slice Ao25 x3_1.length co25) x3_1) := ⟨by (with_reducible repeat (first | apply zA | apply zB | apply zC)); exact Kd.R_mono (Kd.R_far (p := ⟨gb114, 1, none⟩) (Kd.R_far (p := ⟨gb114, 0, none⟩) (Kd.R_mono HO_3.out (fun k_ hk => (⟨hk, hk.2⟩ : _ ∧ k_ ≠ gb114))) (fun _ hk => hk.2) (.int .i64 ((rd_T133 x0_1 x11_1).f0))) (fun _ hk => hk.2) (.int .i64 ((rd_T133 x0_1 x11_1).f1))) (fun _ hk => ⟨hk.1.1.1, ⟨hk.1.1.2, hk.1.2⟩⟩)⟩; have n2_ : Aside0 (((w23.setCell ⟨gb114, 0, none⟩ (.int .i64 ((rd_T133 x0_1 x11_1).f0))).setCell ⟨gb114, 1, none⟩ (.int .i64 ((rd_T133 x0_1 x11_1).f1))).heap[gb114]? = some (.cells #[.int .i64 ((rd_T133 x0_1 x11_1).f0), .int .i64 ((rd_T133 x0_1 x11_1).f1)] 133 (0, 0))) := ⟨by (with_reducible repeat (first | refine blk_drewN ?_ _ | refine blk_drew ?_ | refine blk_alloc ?_ _)); refine blk_put (cs := #[.int .i64 ((rd_T133 x0_1 x11_1).f0), .int .i64 0]) ?_ 1 _ rfl; (with_reducible repeat (first | refine blk_drewN ?_ _ | refine blk_drew ?_ | refine blk_alloc ?_ _)); refine blk_put (cs := #[.int .i64 0, .int .i64 0]) ?_ 0 _ rfl; exact zb BK114.out⟩; have n3_ : Aside0 (Kept w ((w23.setCell ⟨gb114, 0, none⟩ (.int .i64 ((rd_T133 x0_1 x11_1).f0))).setCell ⟨gb114, 1, none⟩ (.int .i64 ((rd_T133 x0_1 x11_1).f1))) (fun k_ => P0_ k_)) := ⟨by repeat (first | (with_reducible first | exact HK.out | apply Kept.alloc | apply Kept.drewN | apply Kept.drew | refine Kept.setCell ?_ (.inr GW114.out) _) | exact HK.out)⟩; have n4_ : Aside0 (Below w0.heap.size w0 ((w23.setCell ⟨gb114, 0, none⟩ (.int .i64 ((rd_T133 x0_1 x11_1).f0))).setCell ⟨gb114, 1, none⟩ (.int .i64 ((rd_T133 x0_1 x11_1).f1)))) := ⟨zU HB.out⟩; (try clear HO_0); (try clear HO_3); (try clear BK114); (try clear HK); (try clear HB); generalize ((w23.setCell ⟨gb114, 0, none⟩ (.int .i64 ((rd_T133 x0_1 x11_1).f0))).setCell ⟨gb114, 1, none⟩ (.int .i64 ((rd_T133 x0_1 x11_1).f1))) = w26 at n0_ n1_ n2_ n3_ n4_ ⊢; have HO_0 := n0_; have HO_3 := n1_; have BK114 := n2_; have HK := n3_; have HB := n4_; clear n0_ n1_ n2_ n3_ n4_; have n0_ := zk (Kd.R_drew HO_0.out); have n1_ := zk (Kd.R_drew HO_3.out); have n2_ := zk (blk_drew BK114.out); have n3_ := zk (Kept.drew HK.out); have n4_ := zk (below_drew1 HB.out); clear HO_0; clear HO_3; clear BK114; clear HK; clear HB; have HO_0 := n0_; have HO_3 := n1_; have BK114 := n2_; have HK := n3_; have HB := n4_; clear n0_ n1_ n2_ n3_ n4_; have p115 : 0 ≤ ((ji9) : Int) := zT; have q115 : (ji9) < (x3_1.length : Int) := zT; obtain ⟨ad115, e115, hx115_0, hx115_1⟩ := at_T133 (Kd.R_reads' HO_3.out).2.2 (ji9) p115 q115; cases e115; replace p115 := eq_true p115; replace q115 := eq_true q115; refine start_ (n := 14) (S := fun w' => w'.cell? ⟨gb114, 0, none⟩ = some (.int .i64 ((rd_T133 x0_1 x11_1).f0)) ∧ w'.cell? ⟨gb114, 1, none⟩ = some (.int .i64 ((rd_T133 x0_1 x11_1).f1)) ∧ w'.cell? (ad115.add (((ji9)).toNat * 2)) = some (.int .i64 ((rd_T133 x3_1 (ji9)).f0)) ∧ w'.cell? ⟨(ad115.add (((ji9)).toNat * 2)).block, (ad115.add (((ji9)).toNat * 2)).off + 1, none⟩ = some (.int .i64 ((rd_T133 x3_1 (ji9)).f1))) (ds := []) #[false, false, false, false, false, false, false, false, false, false, false, false, false, false] zz rfl rfl ⟨(blk_cell BK114.out 0).trans rfl, (blk_cell BK114.out 1).trans rfl, hx115_0, hx115_1⟩ (fun hHeld => ?_); refine with_tabW sets_Norm.tab7 sets_Norm.bits7 (fun HT_ HW_ => ?_); generalize w26.drew = w27 at HO_0 HO_3 BK114 HK HB hx115_0 hx115_1 hHeld ⊢; refine zp 0 (some 17) (v := ?_) (a' := ?_) (bz 14 1) rfl rfl HT_.out zz zQ ?_ ?_ ?_; rotate_left
           ·intro w'; go_simp; with_reducible rfl
           rotate_left
           ·simp only [Act.put, zv, i64_w, i32_w]; rfl
           refine zp 1 (some 18) (v := ?_) (a' := ?_) (bz 14 3) rfl rfl HT_.out zz zQ ?_ ?_ ?_; rotate_left
           ·intro w'; go_simp; with_reducible rfl
           rotate_left
           ·simp only [Act.put, zv, i64_w, i32_w]; rfl
           refine zp 2 (some 19) (v := ?_) (a' := ?_) (bz 14 7) rfl rfl HT_.out zz zQ ?_ ?_ ?_; rotate_left
           ·intro w'; go_simp; with_reducible rfl
           rotate_left
           ·simp only [Act.put, zv, i64_w, i32_w]; rfl
           refine zp 3 (some 20) (v := ?_) (a' := ?_) (bz 14 15) rfl rfl HT_.out zz zQ ?_ ?_ ?_; rotate_left
           ·intro w'; go_simp; with_reducible rfl
           rotate_left
           ·simp only [Act.put, zv, i64_w, i32_w]; rfl
           refine zp 5 (some 22) (v := ?_) (a' := ?_) (bz 14 47) rfl rfl HT_.out zz zQ ?_ ?_ ?_; rotate_left
           ·intro w'; go_simp; with_reducible rfl
           rotate_left
           ·simp only [Act.put, zv, i64_w, i32_w]; rfl
           refine zp 6 (some 23) (v := ?_) (a' := ?_) (bz 14 111) rfl rfl HT_.out zz zQ ?_ ?_ ?_; rotate_left
           ·intro w'; go_simp; with_reducible rfl
           rotate_left
           ·simp only [Act.put, zv, i64_w, i32_w]; rfl
           refine zp 7 (some 24) (v := ?_) (a' := ?_) (bz 14 239) rfl rfl HT_.out zz zQ ?_ ?_ ?_; rotate_left
           ·intro w'; go_simp; with_reducible rfl
           rotate_left
           ·simp only [Act.put, zv, i64_w, i32_w]; rfl
           refine zp 8 (some 25) (v := ?_) (a' := ?_) (bz 14 495) rfl rfl HT_.out zz zQ ?_ ?_ ?_; rotate_left
           ·intro w'; go_simp; with_reducible rfl
           rotate_left
           ·simp only [Act.put, zv, i64_w, i32_w]; rfl
           refine zp 9 (some 26) (v := ?_) (a' := ?_) (bz 14 1007) rfl rfl HT_.out zz zQ ?_ ?_ ?_; rotate_left
           ·intro w'; go_simp; with_reducible rfl
           rotate_left
           ·simp only [Act.put, zv, i64_w, i32_w]; rfl
           refine take_ (i := 4) (N := some 21) (v := ?_) (a' := ?_) (bz 14 1023) rfl rfl (take_ofW HT_.out HW_.out zz) zQ (Or.inl ⟨by rfl, ?_⟩) hHeld ?_ ?_; rotate_left
           ·rintro w' ⟨s0, s1, s2, s3⟩; go_simp; with_reducible rfl
           rotate_left
           ·simp only [Act.put, zv, i64_w, i32_w]; rfl
           refine take_ (i := 10) (N := some 27) (v := ?_) (a' := ?_) (bz 14 2047) rfl rfl (take_ofW HT_.out HW_.out zz) zQ (Or.inl ⟨by rfl, ?_⟩) hHeld ?_ ?_; rotate_left
           ·rintro w' ⟨s0, s1, s2, s3⟩; go_simp; with_reducible rfl
           rotate_left
           ·simp only [Act.put, zv, i64_w, i32_w]; rfl
           refine zp 11 (some 28) (v := ?_) (a' := ?_) (bz 14 4095) rfl rfl HT_.out zz zQ ?_ ?_ ?_; rotate_left
           ·intro w'; go_simp; with_reducible rfl
           rotate_left
           ·simp only [Act.put, zv, i64_w, i32_w]; rfl
           refine zp 12 (some 29) (v := ?_) (a' := ?_) (bz 14 8191) rfl rfl HT_.out zz zQ ?_ ?_ ?_; rotate_left
           ·intro w'; go_simp; with_reducible rfl
           rotate_left
           ·simp only [Act.put, zv, i64_w, i32_w]; rfl
           refine zp 13 (some 30) (v := ?_) (a' := ?_) (bz 14 16383) rfl rfl HT_.out zz zQ ?_ ?_ ?_; rotate_left
           ·intro w'; go_simp; with_reducible rfl
           rotate_left
           ·simp only [Act.put, zv, i64_w, i32_w]; rfl
           refine done_ (done_of HT_.out zz) ?_; have hcz28_0 : w27.cell? ⟨gb114, 0, none⟩ = some (.int .i64 ((rd_T133 x0_1 x11_1).f0)) := zh BK114.out 0; have hcz28_1 : w27.cell? ⟨gb114, 1, none⟩ = some (.int .i64 ((rd_T133 x0_1 x11_1).f1)) := zh BK114.out 1; have hfz28_0 := blk_frozen BK114.out 0; have hfz28_1 := blk_frozen BK114.out 1; try go_wp2_with (first | ((with_reducible refine gate_builtin (b := .append) (xs := #[.tmp 45, .tmp 47]) rfl ?_); at_builtin; refine Kd.R_append k133 (w0 := w0) w0.heap.size rfl (.tmp 45) (.tmp 47) 97 133 (.agg #[(.int .i64 0), (.int .i64 0)]) 16 rfl Try.underlying97 info133 rfl (by decide) (by omega) (.slice (some ad115) x3_1.length co25) x3_1 (⟨(rd_T133 x0_1 x11_1).f0, (rd_T133 x0_1 x11_1).f1⟩ : S133) [.int .i64 ((rd_T133 x0_1 x11_1).f0), .int .i64 ((rd_T133 x0_1 x11_1).f1)] (fun k_ => (P0_ k_ ∨ w.heap.size ≤ k_) ∧ some k_ ≠ (.slice (some ad113) x0_1.length co3 : Value).ownBlock ∧ k_ ≠ gb114) (fun _ => False) rfl rfl ?aP (fun _ hk => hk.elim) ?aF ?aO ?aB ?aS ?aL ?_; (case aP => exact k133_mkM _ _ _ (⟨(rd_T133 x0_1 x11_1).f0, (rd_T133 x0_1 x11_1).f1⟩ : S133)); (case aB => exact (zU HB.out)); (case aF => exact (fun k_ hk => ⟨(.inr (Nat.le_trans (by first | exact HK.out.1 | exact (show Kept w _ (fun k_ => P0_ k_) from by repeat (first | (with_reducible first | exact HK.out | apply Kept.alloc | apply Kept.drewN | apply Kept.drew | refine Kept.setCell ?_ (.inr GW114.out) _) | exact HK.out)).1) hk)), Kd.fresh' (Kd.R_lt (zr HO_0.out)) k_ hk, Kd.freshB (g := gb114) (o := .cells #[.int .i64 ((rd_T133 x0_1 x11_1).f0), .int .i64 ((rd_T133 x0_1 x11_1).f1)] 133 (0, 0)) (zb BK114.out) k_ hk⟩)); (case aO => exact (zr HO_3.out)); (case aS => exact (below_size (zU HB.out))); (case aL => have := LMc22.out; omega); intro v119 w29 ho hb hg hat; rw [← Ny118.out] at ho; have n0_ := zk (Kd.R_after (ok := (fun k_ => (P0_ k_ ∨ w.heap.size ≤ k_) ∧ k_ ≠ gb114)) (by (with_reducible repeat (first | apply zA | apply zB | apply zC)); exact Kd.R_mono HO_0.out (fun _ hk => ⟨⟨hk.1, hk.2.2⟩, hk.2.1⟩)) hg hat); have n1_ := zk (blk_grown (g := gb114) (o := .cells #[.int .i64 ((rd_T133 x0_1 x11_1).f0), .int .i64 ((rd_T133 x0_1 x11_1).f1)] 133 (0, 0)) (zb BK114.out) hg (Kd.R_away HO_3.out (fun _ hk => hk.2.2))); have n2_ := zk (hb); have n3_ := zk (Kept.of_grown (S := (fun k_ => P0_ k_)) hg (by repeat (first | (with_reducible first | exact HK.out | apply Kept.alloc | apply Kept.drewN | apply Kept.drew | refine Kept.setCell ?_ (.inr GW114.out) _) | exact HK.out)) (fun k_ e_ => (HO_3.out.1 k_ e_).1)); have n4_ := zk (ho); clear HO_0; clear BK114; clear HB; clear HK; clear HO_3; have HO_0 := n0_; have BK114 := n1_; have HB := n2_; have HK := n3_; have HO120 := n4_; clear n0_ n1_ n2_ n3_ n4_; clear ho hb hg hat))
           (try simp only [← hl0_1])
           go_roundg k1
           case measure => have := HK1.out; omega
           case rel => exact ⟨(x0_1), (y118), (wrap64 (x11_1 + 1)), zR, H', ⟨by have := HK1.out; omega⟩, ⟨by (try simp only [hl0_1]); (with_reducible repeat (first | apply zA | apply zB | apply zC)); exact Kd.R_mono HO_0.out (fun _ hk => ⟨hk.1.1, hk.2⟩)⟩, ⟨by (try simp only [hl0_1]); (with_reducible repeat (first | apply zA | apply zB | apply zC)); exact Kd.R_mono HO120.out (fun _ hk => ⟨hk.1, hk.2.1⟩)⟩, ⟨by repeat (first | (with_reducible first | exact HK.out | apply Kept.alloc | apply Kept.drewN | apply Kept.drew | refine Kept.setCell ?_ (.inr GW114.out) _) | exact HK.out)⟩, ⟨zU HB.out⟩⟩
          ·rw [if_neg c22] at H; exact absurd H (by simp)
        ·rw [if_neg c11] at H; exact absurd H (by simp)
       ·rw [if_neg c10] at H; exact absurd H (by simp)
      ·rw [if_neg c8] at H; have c8b0 : decide (0 < (x3_1.length : Int)) = false := decide_eq_false c8; have c8b1 : decide (0 < x3_1.length) = false := decide_eq_false (by omega); clear c8; by_cases c30 : x3_1.length < 8796093022208
       ·rw [if_pos c30] at H; have LMc30 := zk c30; clear c30; obtain ⟨y121, hy121⟩ : ∃ y_ : List (S133), y_ = (x3_1 ++ [(⟨(rd_T133 x0_1 x11_1).f0, (rd_T133 x0_1 x11_1).f1⟩ : S133)]) := ⟨_, rfl⟩
        replace H : (sets_Norm.l0 k1 x0_1 y121 (l0.length : Int) (wrap64 (x11_1 + 1))) = some (r1, r2) := by first | (rw [hy121]; with_reducible exact H) | (have H2_ := (Option.bind_some _ _).symm.trans H; rw [hy121]; with_reducible exact H2_) | (have H2_ := (Option.bind_some _ _).symm.trans H; with_reducible exact H2_) | with_reducible exact H | (rw [hy121]; exact H) | exact H
        have Ny121 := zk hy121; clear hy121; have H' := zk H; clear H; have p113 : 0 ≤ (x11_1 : Int) := zT; have q113 : x11_1 < (x0_1.length : Int) := zT; obtain ⟨ad113, e113, hx113_0, hx113_1⟩ := at_T133 (Kd.R_reads' HO_0.out).2.2 x11_1 p113 q113; cases e113; replace p113 := eq_true p113; replace q113 := eq_true q113; try go_wp2_with (first | ((with_reducible refine gate_dst (N := 5) rfl ?_); refine box_event ?hg (N := 5) ?hd (cs := #[.int .i64 0, .int .i64 0]) (t := 133) ?hr ?_; (case hd => rfl); (case hg => rfl); (case hr => first | (go_simp; done) | (go_simp; rfl)); intro gb114 hg w31 hbox hb; replace HO_0 := zk (Kd.R_below (Kd.R_elderB (zr HO_0.out) gb114 (Nat.le_of_eq hg.symm)) hb); replace HO_3 := zk (Kd.R_below (Kd.R_elderB (zr HO_3.out) gb114 (Nat.le_of_eq hg.symm)) hb); have BK114 := zk (hbox); have GW114 := zk ((by rw [hg]; exact (by first | exact HK.out.1 | exact (show Kept w _ (fun k_ => P0_ k_) from by repeat (first | (with_reducible first | exact HK.out | apply Kept.alloc | apply Kept.drewN | apply Kept.drew) | exact HK.out)).1) : w.heap.size ≤ gb114)); replace HK := zk (Kept.below (S := (fun k_ => P0_ k_)) (by repeat (first | (with_reducible first | exact HK.out | apply Kept.alloc | apply Kept.drewN | apply Kept.drew) | exact HK.out)) hb); have GE114 := zk ((zg hg HB.out : w0.heap.size ≤ gb114)); replace HB := zk (below_step (zU HB.out) hb);  clear hb hbox hg; have hcz32_0 : w31.cell? ⟨gb114, 0, none⟩ = some (.int .i64 0) := zh BK114.out 0; have hcz32_1 : w31.cell? ⟨gb114, 1, none⟩ = some (.int .i64 0) := zh BK114.out 1; have hfz32_0 := blk_frozen BK114.out 0; have hfz32_1 := blk_frozen BK114.out 1; obtain ⟨Ao33, co33, eo33⟩ := Kd.R_slice HO_3.out; subst eo33))
        have n0_ : Aside0 (Kd.R k133 133 ((w31.setCell ⟨gb114, 0, none⟩ (.int .i64 ((rd_T133 x0_1 x11_1).f0))).setCell ⟨gb114, 1, none⟩ (.int .i64 ((rd_T133 x0_1 x11_1).f1))) w0.heap.size (fun k_ => (P0_ k_ ∨ w.heap.size ≤ k_) ∧ some k_ ≠ (.slice Ao33 x3_1.length co33 : Value).ownBlock ∧ k_ ≠ gb114) (.slice (some ad113) x0_1.length co3) x0_1) := ⟨by (with_reducible repeat (first | apply zA | apply zB | apply zC)); exact Kd.R_mono (Kd.R_far (p := ⟨gb114, 1, none⟩) (Kd.R_far (p := ⟨gb114, 0, none⟩) (Kd.R_mono HO_0.out (fun k_ hk => (⟨hk, hk.2⟩ : _ ∧ k_ ≠ gb114))) (fun _ hk => hk.2) (.int .i64 ((rd_T133 x0_1 x11_1).f0))) (fun _ hk => hk.2) (.int .i64 ((rd_T133 x0_1 x11_1).f1))) (fun _ hk => ⟨hk.1.1.1, ⟨hk.1.1.2, hk.1.2⟩⟩)⟩; have n1_ : Aside0 (Kd.R k133 133 ((w31.setCell ⟨gb114, 0, none⟩ (.int .i64 ((rd_T133 x0_1 x11_1).f0))).setCell ⟨gb114, 1, none⟩ (.int .i64 ((rd_T133 x0_1 x11_1).f1))) w0.heap.size (fun k_ => (P0_ k_ ∨ w.heap.size ≤ k_) ∧ some k_ ≠ (.slice (some ad113) x0_1.length co3 : Value).ownBlock ∧ k_ ≠ gb114) (.slice Ao33 x3_1.length co33) x3_1) := ⟨by (with_reducible repeat (first | apply zA | apply zB | apply zC)); exact Kd.R_mono (Kd.R_far (p := ⟨gb114, 1, none⟩) (Kd.R_far (p := ⟨gb114, 0, none⟩) (Kd.R_mono HO_3.out (fun k_ hk => (⟨hk, hk.2⟩ : _ ∧ k_ ≠ gb114))) (fun _ hk => hk.2) (.int .i64 ((rd_T133 x0_1 x11_1).f0))) (fun _ hk => hk.2) (.int .i64 ((rd_T133 x0_1 x11_1).f1))) (fun _ hk => ⟨hk.1.1.1, ⟨hk.1.1.2, hk.1.2⟩⟩)⟩; have n2_ : Aside0 (((w31.setCell ⟨gb114, 0, none⟩ (.int .i64 ((rd_T133 x0_1 x11_1).f0))).setCell ⟨gb114, 1, none⟩ (.int .i64 ((rd_T133 x0_1 x11_1).f1))).heap[gb114]? = some (.cells #[.int .i64 ((rd_T133 x0_1 x11_1).f0), .int .i64 ((rd_T133 x0_1 x11_1).f1)] 133 (0, 0))) := ⟨by (with_reducible repeat (first | refine blk_drewN ?_ _ | refine blk_drew ?_ | refine blk_alloc ?_ _)); refine blk_put (cs := #[.int .i64 ((rd_T133 x0_1 x11_1).f0), .int .i64 0]) ?_ 1 _ rfl; (with_reducible repeat (first | refine blk_drewN ?_ _ | refine blk_drew ?_ | refine blk_alloc ?_ _)); refine blk_put (cs := #[.int .i64 0, .int .i64 0]) ?_ 0 _ rfl; exact zb BK114.out⟩; have n3_ : Aside0 (Kept w ((w31.setCell ⟨gb114, 0, none⟩ (.int .i64 ((rd_T133 x0_1 x11_1).f0))).setCell ⟨gb114, 1, none⟩ (.int .i64 ((rd_T133 x0_1 x11_1).f1))) (fun k_ => P0_ k_)) := ⟨by repeat (first | (with_reducible first | exact HK.out | apply Kept.alloc | apply Kept.drewN | apply Kept.drew | refine Kept.setCell ?_ (.inr GW114.out) _) | exact HK.out)⟩; have n4_ : Aside0 (Below w0.heap.size w0 ((w31.setCell ⟨gb114, 0, none⟩ (.int .i64 ((rd_T133 x0_1 x11_1).f0))).setCell ⟨gb114, 1, none⟩ (.int .i64 ((rd_T133 x0_1 x11_1).f1)))) := ⟨zU HB.out⟩; (try clear HO_0); (try clear HO_3); (try clear BK114); (try clear HK); (try clear HB); generalize ((w31.setCell ⟨gb114, 0, none⟩ (.int .i64 ((rd_T133 x0_1 x11_1).f0))).setCell ⟨gb114, 1, none⟩ (.int .i64 ((rd_T133 x0_1 x11_1).f1))) = w34 at n0_ n1_ n2_ n3_ n4_ ⊢; have HO_0 := n0_; have HO_3 := n1_; have BK114 := n2_; have HK := n3_; have HB := n4_; clear n0_ n1_ n2_ n3_ n4_; have n0_ := zk (Kd.R_drew HO_0.out); have n1_ := zk (Kd.R_drew HO_3.out); have n2_ := zk (blk_drew BK114.out); have n3_ := zk (Kept.drew HK.out); have n4_ := zk (below_drew1 HB.out); clear HO_0; clear HO_3; clear BK114; clear HK; clear HB; have HO_0 := n0_; have HO_3 := n1_; have BK114 := n2_; have HK := n3_; have HB := n4_; clear n0_ n1_ n2_ n3_ n4_; refine start_ (n := 14) (S := fun w' => True) (ds := []) #[false, false, false, false, false, false, false, false, false, false, false, false, false, false] zz rfl rfl trivial (fun hHeld => ?_); refine with_tabW sets_Norm.tab7 sets_Norm.bits7 (fun HT_ HW_ => ?_); generalize w34.drew = w35 at HO_0 HO_3 BK114 HK HB hHeld ⊢; refine zp 0 (some 17) (v := ?_) (a' := ?_) (bz 14 1) rfl rfl HT_.out zz zQ ?_ ?_ ?_; rotate_left
        ·intro w'; go_simp; with_reducible rfl
        rotate_left
        ·simp only [Act.put, zv, i64_w, i32_w]; rfl
        refine zp 1 (some 18) (v := ?_) (a' := ?_) (bz 14 3) rfl rfl HT_.out zz zQ ?_ ?_ ?_; rotate_left
        ·intro w'; go_simp; with_reducible rfl
        rotate_left
        ·simp only [Act.put, zv, i64_w, i32_w]; rfl
        refine zp 2 (some 19) (v := ?_) (a' := ?_) (bz 14 7) rfl rfl HT_.out zz zQ ?_ ?_ ?_; rotate_left
        ·intro w'; go_simp; with_reducible rfl
        rotate_left
        ·simp only [Act.put, zv, i64_w, i32_w]; rfl
        refine pure_ (i := 3) (N := some 20) (v := undef) (a' := ?_) (bz 14 15) rfl rfl (any_of HT_.out zz) zQ (Or.inr ⟨by rfl, rfl⟩) ?_ ?_; rotate_left
        ·simp only [Act.put, zv, i64_w, i32_w]; rfl
        refine pure_ (i := 4) (N := some 21) (v := undef) (a' := ?_) (bz 14 31) rfl rfl (any_of HT_.out zz) zQ (Or.inr ⟨by rfl, rfl⟩) ?_ ?_; rotate_left
        ·simp only [Act.put, zv, i64_w, i32_w]; rfl
        refine pure_ (i := 5) (N := some 22) (v := undef) (a' := ?_) (bz 14 63) rfl rfl (any_of HT_.out zz) zQ (Or.inr ⟨by rfl, rfl⟩) ?_ ?_; rotate_left
        ·simp only [Act.put, zv, i64_w, i32_w]; rfl
        refine pure_ (i := 6) (N := some 23) (v := undef) (a' := ?_) (bz 14 127) rfl rfl (any_of HT_.out zz) zQ (Or.inr ⟨by rfl, rfl⟩) ?_ ?_; rotate_left
        ·simp only [Act.put, zv, i64_w, i32_w]; rfl
        refine pure_ (i := 7) (N := some 24) (v := undef) (a' := ?_) (bz 14 255) rfl rfl (any_of HT_.out zz) zQ (Or.inr ⟨by rfl, rfl⟩) ?_ ?_; rotate_left
        ·simp only [Act.put, zv, i64_w, i32_w]; rfl
        refine pure_ (i := 8) (N := some 25) (v := undef) (a' := ?_) (bz 14 511) rfl rfl (any_of HT_.out zz) zQ (Or.inr ⟨by rfl, rfl⟩) ?_ ?_; rotate_left
        ·simp only [Act.put, zv, i64_w, i32_w]; rfl
        refine pure_ (i := 9) (N := some 26) (v := undef) (a' := ?_) (bz 14 1023) rfl rfl (any_of HT_.out zz) zQ (Or.inr ⟨by rfl, rfl⟩) ?_ ?_; rotate_left
        ·simp only [Act.put, zv, i64_w, i32_w]; rfl
        refine pure_ (i := 10) (N := some 27) (v := undef) (a' := ?_) (bz 14 2047) rfl rfl (any_of HT_.out zz) zQ (Or.inr ⟨by rfl, rfl⟩) ?_ ?_; rotate_left
        ·simp only [Act.put, zv, i64_w, i32_w]; rfl
        refine pure_ (i := 11) (N := some 28) (v := undef) (a' := ?_) (bz 14 4095) rfl rfl (any_of HT_.out zz) zQ (Or.inr ⟨by rfl, rfl⟩) ?_ ?_; rotate_left
        ·simp only [Act.put, zv, i64_w, i32_w]; rfl
        refine pure_ (i := 12) (N := some 29) (v := undef) (a' := ?_) (bz 14 8191) rfl rfl (any_of HT_.out zz) zQ (Or.inr ⟨by rfl, rfl⟩) ?_ ?_; rotate_left
        ·simp only [Act.put, zv, i64_w, i32_w]; rfl
        refine zp 13 (some 30) (v := ?_) (a' := ?_) (bz 14 16383) rfl rfl HT_.out zz zQ ?_ ?_ ?_; rotate_left
        ·intro w'; go_simp; with_reducible rfl
        rotate_left
        ·simp only [Act.put, zv, i64_w, i32_w]; rfl
        refine done_ (done_of HT_.out zz) ?_; have hcz36_0 : w35.cell? ⟨gb114, 0, none⟩ = some (.int .i64 ((rd_T133 x0_1 x11_1).f0)) := zh BK114.out 0; have hcz36_1 : w35.cell? ⟨gb114, 1, none⟩ = some (.int .i64 ((rd_T133 x0_1 x11_1).f1)) := zh BK114.out 1; have hfz36_0 := blk_frozen BK114.out 0; have hfz36_1 := blk_frozen BK114.out 1; try go_wp2_with (first | ((with_reducible refine gate_builtin (b := .append) (xs := #[.tmp 45, .tmp 47]) rfl ?_); at_builtin; refine Kd.R_append k133 (w0 := w0) w0.heap.size rfl (.tmp 45) (.tmp 47) 97 133 (.agg #[(.int .i64 0), (.int .i64 0)]) 16 rfl Try.underlying97 info133 rfl (by decide) (by omega) (.slice Ao33 x3_1.length co33) x3_1 (⟨(rd_T133 x0_1 x11_1).f0, (rd_T133 x0_1 x11_1).f1⟩ : S133) [.int .i64 ((rd_T133 x0_1 x11_1).f0), .int .i64 ((rd_T133 x0_1 x11_1).f1)] (fun k_ => (P0_ k_ ∨ w.heap.size ≤ k_) ∧ some k_ ≠ (.slice (some ad113) x0_1.length co3 : Value).ownBlock ∧ k_ ≠ gb114) (fun _ => False) rfl rfl ?aP (fun _ hk => hk.elim) ?aF ?aO ?aB ?aS ?aL ?_; (case aP => exact k133_mkM _ _ _ (⟨(rd_T133 x0_1 x11_1).f0, (rd_T133 x0_1 x11_1).f1⟩ : S133)); (case aB => exact (zU HB.out)); (case aF => exact (fun k_ hk => ⟨(.inr (Nat.le_trans (by first | exact HK.out.1 | exact (show Kept w _ (fun k_ => P0_ k_) from by repeat (first | (with_reducible first | exact HK.out | apply Kept.alloc | apply Kept.drewN | apply Kept.drew | refine Kept.setCell ?_ (.inr GW114.out) _) | exact HK.out)).1) hk)), Kd.fresh' (Kd.R_lt (zr HO_0.out)) k_ hk, Kd.freshB (g := gb114) (o := .cells #[.int .i64 ((rd_T133 x0_1 x11_1).f0), .int .i64 ((rd_T133 x0_1 x11_1).f1)] 133 (0, 0)) (zb BK114.out) k_ hk⟩)); (case aO => exact (zr HO_3.out)); (case aS => exact (below_size (zU HB.out))); (case aL => have := LMc30.out; omega); intro v122 w37 ho hb hg hat; rw [← Ny121.out] at ho; have n0_ := zk (Kd.R_after (ok := (fun k_ => (P0_ k_ ∨ w.heap.size ≤ k_) ∧ k_ ≠ gb114)) (by (with_reducible repeat (first | apply zA | apply zB | apply zC)); exact Kd.R_mono HO_0.out (fun _ hk => ⟨⟨hk.1, hk.2.2⟩, hk.2.1⟩)) hg hat); have n1_ := zk (blk_grown (g := gb114) (o := .cells #[.int .i64 ((rd_T133 x0_1 x11_1).f0), .int .i64 ((rd_T133 x0_1 x11_1).f1)] 133 (0, 0)) (zb BK114.out) hg (Kd.R_away HO_3.out (fun _ hk => hk.2.2))); have n2_ := zk (hb); have n3_ := zk (Kept.of_grown (S := (fun k_ => P0_ k_)) hg (by repeat (first | (with_reducible first | exact HK.out | apply Kept.alloc | apply Kept.drewN | apply Kept.drew | refine Kept.setCell ?_ (.inr GW114.out) _) | exact HK.out)) (fun k_ e_ => (HO_3.out.1 k_ e_).1)); have n4_ := zk (ho); clear HO_0; clear BK114; clear HB; clear HK; clear HO_3; have HO_0 := n0_; have BK114 := n1_; have HB := n2_; have HK := n3_; have HO123 := n4_; clear n0_ n1_ n2_ n3_ n4_; clear ho hb hg hat))
        (try simp only [← hl0_1])
        go_roundg k1
        case measure => have := HK1.out; omega
        case rel => exact ⟨(x0_1), (y121), (wrap64 (x11_1 + 1)), zR, H', ⟨by have := HK1.out; omega⟩, ⟨by (try simp only [hl0_1]); (with_reducible repeat (first | apply zA | apply zB | apply zC)); exact Kd.R_mono HO_0.out (fun _ hk => ⟨hk.1.1, hk.2⟩)⟩, ⟨by (try simp only [hl0_1]); (with_reducible repeat (first | apply zA | apply zB | apply zC)); exact Kd.R_mono HO123.out (fun _ hk => ⟨hk.1, hk.2.1⟩)⟩, ⟨by repeat (first | (with_reducible first | exact HK.out | apply Kept.alloc | apply Kept.drewN | apply Kept.drew | refine Kept.setCell ?_ (.inr GW114.out) _) | exact HK.out)⟩, ⟨zU HB.out⟩⟩
       ·rw [if_neg c30] at H; exact absurd H (by simp)
     ·rw [if_neg c7] at H; exact absurd H (by simp)
    ·rw [if_neg c6] at H; exact absurd H (by simp)
   ·rw [if_neg c5] at H; have c5b0 : decide (x11_1 < (l0.length : Int)) = false := decide_eq_false c5; (try have c5b9 : decide (x11_1 < (x0_1.length : Int)) = false := by rw [← hl0_1]; exact c5b0)
    clear c5; simp only [Option.some.injEq, Prod.mk.injEq] at H; obtain ⟨rfl, rfl⟩ := H; go_wp2
    go_ret
    exact ⟨_, ze, by (with_reducible repeat (first | apply zA | apply zB | apply zC)); (try simp only [hl0_1]); exact HO_3.out, (by first | exact (by (with_reducible repeat (first | apply zA | apply zB | apply zC)); exact Kd.R_mono HO_0.out (fun _ hk => hk.1)) | (simp only [hl0_1]; exact (by (with_reducible repeat (first | apply zA | apply zB | apply zC)); exact Kd.R_mono HO_0.out (fun _ hk => hk.1)))), zU HB.out, by repeat (first | (with_reducible first | exact HK.out | apply Kept.alloc | apply Kept.drewN | apply Kept.drew) | exact HK.out)⟩
end Go.Proofs.Ytoljcfocgaonpaa.I
