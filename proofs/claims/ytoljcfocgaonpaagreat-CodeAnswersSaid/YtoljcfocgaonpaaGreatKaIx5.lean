/- Words and walks of this claim, of the text Ix5. -/
import Derived.Test.YtoljcfocgaonpaaGreatKaQW0
import Derived.Test.YtoljcfocgaonpaaGreatKaIx0
import Derived.Test.YtoljcfocgaonpaaGreatKaIx3
import Derived.Test.YtoljcfocgaonpaaGreatKaIx4
namespace Go.Proofs.I
open Go.RowKit Go.Proofs.Zw.PrintWords Go.Proofs.Zw.PrintLast Go.Proofs.Zw.PrintMore
set_option maxHeartbeats 8000000
set_option maxRecDepth 100000
attribute [local go_sem] Dw Ec El Es Dd Dj Dr Eb
set_option linter.unusedVariables false
set_option linter.unusedSimpArgs false
def Bn.l0 : Nat → List (S95) → List (S95) → Int → Int → Option ((List (S95)) × (List (S95)))
 | 0, _, _, _, _ => none
 | k + 1, x0, x3, x10, x11 => if x11 < x10 then (if 0 ≤ x11 then (if x11 < (x0.length : Int) then (if (x3.length : Int) > 0 then (if 0 ≤ (wrap64 ((x3.length : Int) - 1)) then (if (wrap64 ((x3.length : Int) - 1)) < (x3.length : Int) then (if ((Ah x0 x11).f0) ≤ (wrap64 (((Ah x3 (wrap64 ((x3.length : Int) - 1))).f1) + 1)) then (Bn.l0 k x0 (x3.set ((wrap64 ((x3.length : Int) - 1)) : Int).toNat (⟨(Ah x3 (wrap64 ((x3.length : Int) - 1))).f0, mx ((Ah x3 (wrap64 ((x3.length : Int) - 1))).f1) ((Ah x0 x11).f1)⟩ : S95)) x10 (wrap64 (x11 + 1))) else (if x3.length < 8796093022208 then (Bn.l0 k x0 (x3 ++ [(⟨(Ah x0 x11).f0, (Ah x0 x11).f1⟩ : S95)]) x10 (wrap64 (x11 + 1))) else (none))) else (none)) else (none)) else (if x3.length < 8796093022208 then (Bn.l0 k x0 (x3 ++ [(⟨(Ah x0 x11).f0, (Ah x0 x11).f1⟩ : S95)]) x10 (wrap64 (x11 + 1))) else (none))) else (none)) else (none)) else (some (x3, x0))
def Bn.f (k : Nat) (l0 : List (S95)) : Option ((List (S95)) × (List (S95))) := (Cq.f l0).bind fun t195 => (Bn.l0 k t195 ([] : List (S95)) (l0.length : Int) 0)
def Bn.T7 : Bool × List (List Nat × List Nat) := (true, [([], []), ([0], [0]), ([1], [1]), ([2], [2]), ([3, 2], [2, 3]), ([2], [2]), ([2], [2]), ([6, 2], [2, 6]), ([5, 7, 2], [2, 5, 7]), ([8, 2], [2, 8]), ([9, 2], [2, 9]), ([10, 2], [2, 10]), ([4, 11, 2], [2, 4, 11]), ([2, 12], [2, 12])])
def Bn.B7 : List Nat := [0, 1, 3, 7, 15, 7, 7, 71, 231, 487, 999, 2023, 4095, 8191]
theorem Bn.tab7 : rtab .any (Jp Tryz.f50 7) = Bn.T7 := by kernel_rfl
theorem Bn.bits7 : Ff Bn.T7.2 Bn.B7 = true := by kernel_rfl
def Bn.T8 : Bool × List (List Nat × List Nat) := (true, [([], []), ([], []), ([1], [1]), ([], []), ([], []), ([4], [4]), ([3, 5], [3, 5]), ([6], [6]), ([7], [7]), ([], []), ([9], [9]), ([8, 10], [8, 10]), ([0, 2, 0, 1, 2, 3, 4, 5, 6, 7, 8, 9, 10, 11], [0, 2]), ([12, 0, 1, 2, 3, 4, 5, 6, 7, 8, 9, 10, 11], [12]), ([13, 11, 0, 1, 2, 3, 4, 5, 6, 7, 8, 9, 10, 11], [11, 13])])
def Bn.B8 : List Nat := [0, 0, 2, 0, 0, 16, 56, 120, 248, 0, 512, 2040, 4095, 8191, 16383]
theorem Bn.tab8 : rtab .any (Jp Tryz.f50 8) = Bn.T8 := by kernel_rfl
theorem Bn.bits8 : Ff Bn.T8.2 Bn.B8 = true := by kernel_rfl
theorem Bn.calls (k : Nat) (P0_ : Nat → Prop) (u9000_ : Value) (l0 : List (S95)) (r1 : List (S95)) (r2 : List (S95)) (w0 w : World) (hB : Below w0.heap.size w0 w) (ho0 : Kd.R k95 95 w w0.heap.size P0_ u9000_ l0) (h : Bn.f k l0 = some (r1, r2)) :
 Calls Tryz.prog 50 #[u9000_] w fun e w' => ∃ v0_ : Value, e = .returned (v0_) ∧ Kd.R k95 95 w' w0.heap.size (fun k_ => (P0_ k_ ∨ w.heap.size ≤ k_) ∧ some k_ ≠ (u9000_ : Value).ownBlock) v0_ r1 ∧ Kd.R k95 95 w' w0.heap.size (fun k_ => (P0_ k_ ∨ w.heap.size ≤ k_)) u9000_ r2 ∧ Below w0.heap.size w0 w' ∧ Kept w w' (fun k_ => P0_ k_) := by
 have hu95 := Tryz.underlying95; have HO0 := zk (show Kd.R k95 95 w w0.heap.size (fun k_ => (P0_ k_ ∨ w.heap.size ≤ k_)) u9000_ l0 from Kd.R_mono ho0 (fun k_ hk => (.inl hk))); have HK := zk (Kept.refl w (fun k_ => P0_ k_)); have HW0 := zk hB.size; have HB := zk hB; clear hB; have H : ((Cq.f l0).bind fun t195 => (Bn.l0 k t195 ([] : List (S95)) (l0.length : Int) 0)) = some (r1, r2) := h; clear h; replace H := Option.bind_eq_some_iff.mp H; obtain ⟨t195, A20, H⟩ := H; replace H : (Bn.l0 k t195 ([] : List (S95)) (l0.length : Int) 0) = some (r1, r2) := H; have A2 := zk A20; clear A20; have H' := zk H; clear H; obtain ⟨Ao3, co3, eo3⟩ := Kd.R_slice HO0.out; subst eo3; go_enter Tryz.func50, Tryz.ntmps50
 go_wp2_with (first | ((with_reducible refine Al (f := 71) rfl ?_); refine Bz (some 8) rfl rfl Tryz.func71 zz rfl #[.slice Ao3 l0.length co3, .func (.func 72) #[] #[]] rfl zM ?_; (with_reducible refine (Cq.calls (fun k_ => some k_ = (.slice Ao3 l0.length co3 : Value).ownBlock) (.slice Ao3 l0.length co3) l0 t195 w0 _ ?side1 ?side2 A2.out).mono ?_); (case side1 => repeat (first | (with_reducible first | exact HB.out | apply zD | apply zE | apply zF) | exact HB.out)); (case side2 => exact Kd.R_tight rfl HO0.out); rintro e w4 ⟨rfl, hy0, hb, hkp⟩; refine ⟨_, rfl, ?_⟩; replace HK := zk (Kept.then_ (S := (fun k_ => P0_ k_)) (by repeat (first | (with_reducible first | exact HK.out | apply Kept.alloc | apply Kept.drewN | apply Kept.drew) | exact HK.out)) hkp (fun k_ hs_ => (fun e_ => (HO0.out.1 k_ e_.symm)) hs_)); replace HO0 := zk (Kd.R_reok rfl hy0 (fun k_ e_ => HO0.out.1 k_ e_)); replace HB := zk (hb);  (try clear hb); (try clear hkp); (try clear hy0)))
 go_loopg [3, 11] k (fun kq v3 v11 w' => ∃ (x0_1 : List (S95)) (x3_1 : List (S95)) (x11_1 : Int), v11 = .int .i64 x11_1 ∧ Aa (Bn.l0 kq x0_1 x3_1 (l0.length : Int) x11_1 = some (r1, r2)) ∧ Aa (kq ≤ k) ∧ Aa (Kd.R k95 95 w' w0.heap.size (fun k_ => (P0_ k_ ∨ w.heap.size ≤ k_) ∧ some k_ ≠ (v3 : Value).ownBlock) (.slice Ao3 l0.length co3) x0_1) ∧ Aa (Kd.R k95 95 w' w0.heap.size (fun k_ => (P0_ k_ ∨ w.heap.size ≤ k_) ∧ some k_ ≠ ((.slice Ao3 l0.length co3) : Value).ownBlock) v3 x3_1) ∧ Aa (Kept w w' (fun k_ => P0_ k_)) ∧ Aa (Below w0.heap.size w0 w'))
 case atStart => exact ⟨(t195), (([] : List (S95))), (0), zR, H', ⟨Nat.le_refl _⟩, ⟨by (with_reducible repeat (first | apply zA | apply zB | apply zC)); exact Kd.R_mono HO0.out (fun _ hk => ⟨hk, (by simp [Value.ownBlock])⟩)⟩, ⟨by first | exact Kd.R_nil _ _ _ _ _ | exact Kd.N_nil _ _ _ _ _ | exact Kd.V_nil _ _ _ _ _ | exact Kd.Q_nil _ _ _ _ _ | exact Kd.S_nil _ _ _ _ _⟩, ⟨by repeat (first | (with_reducible first | exact HK.out | apply Kept.alloc | apply Kept.drewN | apply Kept.drew) | exact HK.out)⟩, ⟨zU HB.out⟩⟩
 case round =>
  clear H'; (try clear p2); obtain ⟨x0_1, x3_1, x11_1, rfl, HA, HK1, HO_0, HO_3, HK, HB⟩ := hrel; have hl0_1 := (Kd.R_reads' HO_0.out).1; rw [hl0_1] at HO_0; (try simp only [hl0_1])
  (try simp only [hl0_1] at HO_3)
  cases gk with
  | zero => exact absurd HA.out (by simp [Bn.l0])
  | succ k1 =>
   have H := HA.out; clear HA; simp only [Bn.l0] at H; by_cases c5 : x11_1 < (l0.length : Int)
   ·rw [if_pos c5] at H; have c5b0 : decide (x11_1 < (l0.length : Int)) = true := decide_eq_true c5; (try have c5b9 : decide (x11_1 < (x0_1.length : Int)) = true := by rw [← hl0_1]; exact c5b0)
    clear c5; by_cases c6 : 0 ≤ x11_1
    ·rw [if_pos c6] at H; have c6b0 : decide (0 ≤ x11_1) = true := decide_eq_true c6; clear c6; by_cases c7 : x11_1 < (x0_1.length : Int)
     ·rw [if_pos c7] at H; have c7b0 : decide (x11_1 < (x0_1.length : Int)) = true := decide_eq_true c7; clear c7; by_cases c8 : (x3_1.length : Int) > 0
      ·rw [if_pos c8] at H; have c8b0 : decide (0 < (x3_1.length : Int)) = true := decide_eq_true c8; have c8b1 : decide (0 < x3_1.length) = true := decide_eq_true (by omega); clear c8; obtain ⟨ji9, hji9⟩ : ∃ j_ : Int, (wrap64 ((x3_1.length : Int) - 1)) = j_ := ⟨_, rfl⟩
       replace H : (if 0 ≤ (ji9) then (if (ji9) < (x3_1.length : Int) then (if ((Ah x0_1 x11_1).f0) ≤ (wrap64 (((Ah x3_1 (ji9)).f1) + 1)) then (Bn.l0 k1 x0_1 (x3_1.set ((ji9) : Int).toNat (⟨(Ah x3_1 (ji9)).f0, mx ((Ah x3_1 (ji9)).f1) ((Ah x0_1 x11_1).f1)⟩ : S95)) (l0.length : Int) (wrap64 (x11_1 + 1))) else (if x3_1.length < 8796093022208 then (Bn.l0 k1 x0_1 (x3_1 ++ [(⟨(Ah x0_1 x11_1).f0, (Ah x0_1 x11_1).f1⟩ : S95)]) (l0.length : Int) (wrap64 (x11_1 + 1))) else (none))) else (none)) else (none)) = some (r1, r2) := by first | (rw [hji9] at H; exact H) | (simp only [hji9] at H ⊢; exact H)
       have hji9w : (IntKind.i64.wrap ((x3_1.length : Int) - 1)) = ji9 := (Hu _).trans hji9; by_cases c10 : 0 ≤ (ji9)
       ·rw [if_pos c10] at H; have c10b0 : decide (0 ≤ (ji9)) = true := decide_eq_true c10; clear c10; by_cases c11 : (ji9) < (x3_1.length : Int)
        ·rw [if_pos c11] at H; have c11b0 : decide ((ji9) < (x3_1.length : Int)) = true := decide_eq_true c11; clear c11; by_cases c12 : ((Ah x0_1 x11_1).f0) ≤ (wrap64 (((Ah x3_1 (ji9)).f1) + 1))
         ·rw [if_pos c12] at H; have c12b0 : decide (((Ah x0_1 x11_1).f0) ≤ (wrap64 (((Ah x3_1 (ji9)).f1) + 1))) = true := decide_eq_true c12; clear c12; obtain ⟨ji13, hji13⟩ : ∃ j_ : Int, (mx ((Ah x3_1 (ji9)).f1) ((Ah x0_1 x11_1).f1)) = j_ := ⟨_, rfl⟩
          replace H : (Bn.l0 k1 x0_1 (x3_1.set ((ji9) : Int).toNat (⟨(Ah x3_1 (ji9)).f0, ji13⟩ : S95)) (l0.length : Int) (wrap64 (x11_1 + 1))) = some (r1, r2) := by first | (rw [hji13] at H; exact H) | (simp only [hji13] at H ⊢; exact H)
          have hji13_ : (if ((Ah x3_1 (ji9)).f1) < ((Ah x0_1 x11_1).f1) then ((Ah x0_1 x11_1).f1) else ((Ah x3_1 (ji9)).f1)) = ji13 := hji13; obtain ⟨y200, hy200⟩ : ∃ y_ : List (S95), y_ = (x3_1.set ((ji9) : Int).toNat (⟨(Ah x3_1 (ji9)).f0, ji13⟩ : S95)) := ⟨_, rfl⟩
          replace H : (Bn.l0 k1 x0_1 y200 (l0.length : Int) (wrap64 (x11_1 + 1))) = some (r1, r2) := by first | (rw [hy200]; with_reducible exact H) | (have H2_ := (Option.bind_some _ _).symm.trans H; rw [hy200]; with_reducible exact H2_) | (have H2_ := (Option.bind_some _ _).symm.trans H; with_reducible exact H2_) | with_reducible exact H | (rw [hy200]; exact H) | exact H
          have Ny200 := zk hy200; clear hy200; have H' := zk H; clear H; have p196 : 0 ≤ (x11_1 : Int) := zT; have q196 : x11_1 < (x0_1.length : Int) := zT; obtain ⟨ad196, e196, hx196_0, hx196_1⟩ := Dg (Kd.R_reads' HO_0.out).2.2 x11_1 p196 q196; cases e196; replace p196 := eq_true p196; replace q196 := eq_true q196; try go_wp2_with (first | ((with_reducible refine Bd (N := 5) rfl ?_); refine Bb ?hg (N := 5) ?hd (cs := #[.int .i64 0, .int .i64 0]) (t := 95) ?hr ?_; (case hd => rfl); (case hg => rfl); (case hr => first | (go_simp; done) | (go_simp; rfl)); intro gb197 hg w15 hbox hb; replace HO_0 := zk (Kd.R_below (Kd.R_elderB (zr HO_0.out) gb197 (Nat.le_of_eq hg.symm)) hb); replace HO_3 := zk (Kd.R_below (Kd.R_elderB (zr HO_3.out) gb197 (Nat.le_of_eq hg.symm)) hb); have BK197 := zk (hbox); have GW197 := zk ((by rw [hg]; exact (by first | exact HK.out.1 | exact (show Kept w _ (fun k_ => P0_ k_) from by repeat (first | (with_reducible first | exact HK.out | apply Kept.alloc | apply Kept.drewN | apply Kept.drew) | exact HK.out)).1) : w.heap.size ≤ gb197)); replace HK := zk (Kept.below (S := (fun k_ => P0_ k_)) (by repeat (first | (with_reducible first | exact HK.out | apply Kept.alloc | apply Kept.drewN | apply Kept.drew) | exact HK.out)) hb); have GE197 := zk ((zg hg HB.out : w0.heap.size ≤ gb197)); replace HB := zs HB hb;  clear hb hbox hg; have hcz16_0 : w15.cell? ⟨gb197, 0, none⟩ = some (.int .i64 0) := zh BK197.out 0; have hcz16_1 : w15.cell? ⟨gb197, 1, none⟩ = some (.int .i64 0) := zh BK197.out 1; have hfz16_0 := Ac BK197.out 0; have hfz16_1 := Ac BK197.out 1; obtain ⟨Ao17, co17, eo17⟩ := Kd.R_slice HO_3.out; subst eo17))
          have n0_ : Aa (Kd.R k95 95 ((w15.setCell ⟨gb197, 0, none⟩ (.int .i64 ((Ah x0_1 x11_1).f0))).setCell ⟨gb197, 1, none⟩ (.int .i64 ((Ah x0_1 x11_1).f1))) w0.heap.size (fun k_ => (P0_ k_ ∨ w.heap.size ≤ k_) ∧ some k_ ≠ (.slice Ao17 x3_1.length co17 : Value).ownBlock ∧ k_ ≠ gb197) (.slice (some ad196) x0_1.length co3) x0_1) := ⟨by (with_reducible repeat (first | apply zA | apply zB | apply zC)); exact Kd.R_mono (Kd.R_far (p := ⟨gb197, 1, none⟩) (Kd.R_far (p := ⟨gb197, 0, none⟩) (Kd.R_mono HO_0.out (fun k_ hk => (⟨hk, hk.2⟩ : _ ∧ k_ ≠ gb197))) (fun _ hk => hk.2) (.int .i64 ((Ah x0_1 x11_1).f0))) (fun _ hk => hk.2) (.int .i64 ((Ah x0_1 x11_1).f1))) (fun _ hk => ⟨hk.1.1.1, ⟨hk.1.1.2, hk.1.2⟩⟩)⟩; have n1_ : Aa (Kd.R k95 95 ((w15.setCell ⟨gb197, 0, none⟩ (.int .i64 ((Ah x0_1 x11_1).f0))).setCell ⟨gb197, 1, none⟩ (.int .i64 ((Ah x0_1 x11_1).f1))) w0.heap.size (fun k_ => (P0_ k_ ∨ w.heap.size ≤ k_) ∧ some k_ ≠ (.slice (some ad196) x0_1.length co3 : Value).ownBlock ∧ k_ ≠ gb197) (.slice Ao17 x3_1.length co17) x3_1) := ⟨by (with_reducible repeat (first | apply zA | apply zB | apply zC)); exact Kd.R_mono (Kd.R_far (p := ⟨gb197, 1, none⟩) (Kd.R_far (p := ⟨gb197, 0, none⟩) (Kd.R_mono HO_3.out (fun k_ hk => (⟨hk, hk.2⟩ : _ ∧ k_ ≠ gb197))) (fun _ hk => hk.2) (.int .i64 ((Ah x0_1 x11_1).f0))) (fun _ hk => hk.2) (.int .i64 ((Ah x0_1 x11_1).f1))) (fun _ hk => ⟨hk.1.1.1, ⟨hk.1.1.2, hk.1.2⟩⟩)⟩; have n2_ : Aa (((w15.setCell ⟨gb197, 0, none⟩ (.int .i64 ((Ah x0_1 x11_1).f0))).setCell ⟨gb197, 1, none⟩ (.int .i64 ((Ah x0_1 x11_1).f1))).heap[gb197]? = some (.cells #[.int .i64 ((Ah x0_1 x11_1).f0), .int .i64 ((Ah x0_1 x11_1).f1)] 95 (0, 0))) := ⟨by (with_reducible repeat (first | refine Bj ?_ _ | refine Ay ?_ | refine Be ?_ _)); refine Ca (cs := #[.int .i64 ((Ah x0_1 x11_1).f0), .int .i64 0]) ?_ 1 _ rfl; (with_reducible repeat (first | refine Bj ?_ _ | refine Ay ?_ | refine Be ?_ _)); refine Ca (cs := #[.int .i64 0, .int .i64 0]) ?_ 0 _ rfl; exact zb BK197.out⟩; have n3_ : Aa (Kept w ((w15.setCell ⟨gb197, 0, none⟩ (.int .i64 ((Ah x0_1 x11_1).f0))).setCell ⟨gb197, 1, none⟩ (.int .i64 ((Ah x0_1 x11_1).f1))) (fun k_ => P0_ k_)) := ⟨by repeat (first | (with_reducible first | exact HK.out | apply Kept.alloc | apply Kept.drewN | apply Kept.drew | refine Kept.setCell ?_ (.inr GW197.out) _) | exact HK.out)⟩; have n4_ : Aa (Below w0.heap.size w0 ((w15.setCell ⟨gb197, 0, none⟩ (.int .i64 ((Ah x0_1 x11_1).f0))).setCell ⟨gb197, 1, none⟩ (.int .i64 ((Ah x0_1 x11_1).f1)))) := ⟨zU HB.out⟩; (try clear HO_0); (try clear HO_3); (try clear BK197); (try clear HK); (try clear HB); generalize ((w15.setCell ⟨gb197, 0, none⟩ (.int .i64 ((Ah x0_1 x11_1).f0))).setCell ⟨gb197, 1, none⟩ (.int .i64 ((Ah x0_1 x11_1).f1))) = w18 at n0_ n1_ n2_ n3_ n4_ ⊢; have HO_0 := n0_; have HO_3 := n1_; have BK197 := n2_; have HK := n3_; have HB := n4_; clear n0_ n1_ n2_ n3_ n4_; have n0_ := zk (Kd.R_drew HO_0.out); have n1_ := zk (Kd.R_drew HO_3.out); have n2_ := zk (Ay BK197.out); have n3_ := zk (Kept.drew HK.out); have n4_ := zk (Bv HB.out); clear HO_0; clear HO_3; clear BK197; clear HK; clear HB; have HO_0 := n0_; have HO_3 := n1_; have BK197 := n2_; have HK := n3_; have HB := n4_; clear n0_ n1_ n2_ n3_ n4_; have p198 : 0 ≤ ((ji9) : Int) := zT; have q198 : (ji9) < (x3_1.length : Int) := zT; obtain ⟨ad198, e198, hx198_0, hx198_1⟩ := Dg (Kd.R_reads' HO_3.out).2.2 (ji9) p198 q198; cases e198; replace p198 := eq_true p198; replace q198 := eq_true q198; refine Ew (n := 14) (S := fun w' => w'.cell? ⟨gb197, 0, none⟩ = some (.int .i64 ((Ah x0_1 x11_1).f0)) ∧ w'.cell? ⟨gb197, 1, none⟩ = some (.int .i64 ((Ah x0_1 x11_1).f1)) ∧ w'.cell? (ad198.add (((ji9)).toNat * 2)) = some (.int .i64 ((Ah x3_1 (ji9)).f0)) ∧ w'.cell? ⟨(ad198.add (((ji9)).toNat * 2)).block, (ad198.add (((ji9)).toNat * 2)).off + 1, none⟩ = some (.int .i64 ((Ah x3_1 (ji9)).f1))) (ds := []) #[false, false, false, false, false, false, false, false, false, false, false, false, false, false] zz rfl rfl ⟨(Ag BK197.out 0).trans rfl, (Ag BK197.out 1).trans rfl, hx198_0, hx198_1⟩ (fun hHeld => ?_); refine Cy Bn.tab7 Bn.bits7 (fun HT_ HW_ => ?_); generalize w18.drew = w19 at HO_0 HO_3 BK197 HK HB hx198_0 hx198_1 hHeld ⊢; refine zp 0 (some 17) (v := ?_) (a' := ?_) (bz 14 1) rfl rfl HT_.out zz zQ ?_ ?_ ?_; rotate_left
          ·intro w'; go_simp; with_reducible rfl
          rotate_left
          ·simp only [zy]; rfl
          refine zp 1 (some 18) (v := ?_) (a' := ?_) (bz 14 3) rfl rfl HT_.out zz zQ ?_ ?_ ?_; rotate_left
          ·intro w'; go_simp; with_reducible rfl
          rotate_left
          ·simp only [zy]; rfl
          refine zp 2 (some 19) (v := ?_) (a' := ?_) (bz 14 7) rfl rfl HT_.out zz zQ ?_ ?_ ?_; rotate_left
          ·intro w'; go_simp; with_reducible rfl
          rotate_left
          ·simp only [zy]; rfl
          refine zp 3 (some 20) (v := ?_) (a' := ?_) (bz 14 15) rfl rfl HT_.out zz zQ ?_ ?_ ?_; rotate_left
          ·intro w'; go_simp; with_reducible rfl
          rotate_left
          ·simp only [zy]; rfl
          refine zp 5 (some 22) (v := ?_) (a' := ?_) (bz 14 47) rfl rfl HT_.out zz zQ ?_ ?_ ?_; rotate_left
          ·intro w'; go_simp; with_reducible rfl
          rotate_left
          ·simp only [zy]; rfl
          refine zp 6 (some 23) (v := ?_) (a' := ?_) (bz 14 111) rfl rfl HT_.out zz zQ ?_ ?_ ?_; rotate_left
          ·intro w'; go_simp; with_reducible rfl
          rotate_left
          ·simp only [zy]; rfl
          refine zp 7 (some 24) (v := ?_) (a' := ?_) (bz 14 239) rfl rfl HT_.out zz zQ ?_ ?_ ?_; rotate_left
          ·intro w'; go_simp; with_reducible rfl
          rotate_left
          ·simp only [zy]; rfl
          refine zp 8 (some 25) (v := ?_) (a' := ?_) (bz 14 495) rfl rfl HT_.out zz zQ ?_ ?_ ?_; rotate_left
          ·intro w'; go_simp; with_reducible rfl
          rotate_left
          ·simp only [zy]; rfl
          refine zp 9 (some 26) (v := ?_) (a' := ?_) (bz 14 1007) rfl rfl HT_.out zz zQ ?_ ?_ ?_; rotate_left
          ·intro w'; go_simp; with_reducible rfl
          rotate_left
          ·simp only [zy]; rfl
          refine take_ (i := 4) (N := some 21) (v := ?_) (a' := ?_) (bz 14 1023) rfl rfl (Bk HT_.out HW_.out zz) zQ (Or.inl ⟨by rfl, ?_⟩) hHeld ?_ ?_; rotate_left
          ·rintro w' ⟨s0, s1, s2, s3⟩; go_simp; with_reducible rfl
          rotate_left
          ·simp only [zy]; rfl
          refine take_ (i := 10) (N := some 27) (v := ?_) (a' := ?_) (bz 14 2047) rfl rfl (Bk HT_.out HW_.out zz) zQ (Or.inl ⟨by rfl, ?_⟩) hHeld ?_ ?_; rotate_left
          ·rintro w' ⟨s0, s1, s2, s3⟩; go_simp; with_reducible rfl
          rotate_left
          ·simp only [zy]; rfl
          refine zp 11 (some 28) (v := ?_) (a' := ?_) (bz 14 4095) rfl rfl HT_.out zz zQ ?_ ?_ ?_; rotate_left
          ·intro w'; go_simp; with_reducible rfl
          rotate_left
          ·simp only [zy]; rfl
          refine zp 12 (some 29) (v := ?_) (a' := ?_) (bz 14 8191) rfl rfl HT_.out zz zQ ?_ ?_ ?_; rotate_left
          ·intro w'; go_simp; with_reducible rfl
          rotate_left
          ·simp only [zy]; rfl
          refine zp 13 (some 30) (v := ?_) (a' := ?_) (bz 14 16383) rfl rfl HT_.out zz zQ ?_ ?_ ?_; rotate_left
          ·intro w'; go_simp; with_reducible rfl
          rotate_left
          ·simp only [zy]; rfl
          refine Gg (Ei HT_.out zz) ?_; try go_wp2
          have n0_ := zk (Kd.R_drew HO_0.out); have n1_ := zk (Kd.R_drew HO_3.out); have n2_ := zk (Ay BK197.out); have n3_ := zk (Kept.drew HK.out); have n4_ := zk (Bv HB.out); clear HO_0; clear HO_3; clear BK197; clear HK; clear HB; have HO_0 := n0_; have HO_3 := n1_; have BK197 := n2_; have HK := n3_; have HB := n4_; clear n0_ n1_ n2_ n3_ n4_; have p199 : 0 ≤ ((ji9) : Int) := zT; have q199 : (ji9) < (x3_1.length : Int) := zT; obtain ⟨ad199, e199, hx199_0, hx199_1⟩ := Dg (Kd.R_reads' HO_3.out).2.2 (ji9) p199 q199; obtain rfl : ad198 = ad199 := (by injection e199); replace p199 := eq_true p199; replace q199 := eq_true q199; have p14 : 0 ≤ ((ji9) : Int) := zT; have q14 : ((ji9) : Int) < ((x3_1.length : Int) : Int) := zT; obtain ⟨go14, co14, eo14, gb14, gl14, cl14, HG14⟩ := Kd.R_form HO_3.out (by omega)
          (first | cases eo14 | (injection eo14 with ea_ en_ ec_; (first | subst ea_ | (injection ea_ with ea_; subst ea_)); subst ec_; clear en_))
          have GB14 := zk gb14; have GG14 := zk HG14; clear gb14 gl14 HG14; have HMgo14 := zk (show (P0_ go14 ∨ w.heap.size ≤ go14) from (HO_3.out.1 _ rfl).1)
          (first | simp only [Hg] at hx198_0 | skip)
          (first | simp only [Hg] at hx198_1 | skip)
          (first | simp only [Hg] at hx199_0 | skip)
          (first | simp only [Hg] at hx199_1 | skip)
          obtain ⟨ce14, hcl14, hM14, hcc14, hfr14⟩ := Kd.R_elem HO_3.out z95 ((ji9) : Int) p14 q14; obtain rfl := k95_openM hM14; have hx14_0 : World.cell? _ ⟨go14, ((ji9) : Int).toNat * 2, none⟩ = some (.int .i64 ((Ah x3_1 (ji9)).f0)) := hcc14 0 _ rfl; have hx14_1 : World.cell? _ ⟨go14, ((ji9) : Int).toNat * 2 + 1, none⟩ = some (.int .i64 ((Ah x3_1 (ji9)).f1)) := hcc14 1 _ rfl; have hf14_0 : World.frozen? _ ⟨go14, ((ji9) : Int).toNat * 2, none⟩ = false := hfr14 0; have hf14_1 : World.frozen? _ ⟨go14, ((ji9) : Int).toNat * 2 + 1, none⟩ = false := hfr14 1; clear hcl14 hcc14 hfr14 hM14; replace p14 := eq_true p14; replace q14 := eq_true q14; obtain ⟨ce21, hcl21, hM21, hcc21, hfr21⟩ := Kd.R_elem HO_3.out z95 ((ji9) : Int) zT (by have h_ : ((ji9) : Int) < ((x3_1.length : Int) : Int) := zT; first | exact h_ | (have e_ := (Kd.R_reads' HO_3.out).1; omega) | simpa using h_); obtain rfl := k95_openM hM21; have HP21 := (Kd.R_seg HO_3.out ((ji9) : Int) zT (by have h_ : ((ji9) : Int) < ((x3_1.length : Int) : Int) := zT; first | exact h_ | (have e_ := (Kd.R_reads' HO_3.out).1; omega) | simpa using h_) (seg := [.int .i64 ji13]) (j := 1) hcl21 hcc21 (show 2 ≤ 2 from by decide) (x' := (⟨(Ah x3_1 (ji9)).f0, ji13⟩ : S95)) (k95_mkM _ _ _ (⟨(Ah x3_1 (ji9)).f0, ji13⟩ : S95) ) (fun _ hk => hk)).1; rw [← Ny200.out] at HP21; have HQ21 := zk HP21; clear hcl21 hcc21 hfr21 hM21 HP21; refine Ew (n := 15) (S := fun w' => w'.cell? ⟨gb197, 0, none⟩ = some (.int .i64 ((Ah x0_1 x11_1).f0)) ∧ w'.cell? ⟨gb197, 1, none⟩ = some (.int .i64 ((Ah x0_1 x11_1).f1)) ∧ w'.cell? ⟨go14, ((ji9)).toNat * 2, none⟩ = some (.int .i64 ((Ah x3_1 (ji9)).f0)) ∧ w'.cell? ⟨go14, ((ji9)).toNat * 2 + 1, none⟩ = some (.int .i64 ((Ah x3_1 (ji9)).f1))) (ds := [14]) #[false, false, false, false, false, false, false, false, false, false, false, false, false, false, false] zz rfl rfl ⟨(Ag BK197.out 0).trans rfl, (Ag BK197.out 1).trans rfl, hx199_0, hx199_1⟩ (fun hHeld => ?_); refine Cy Bn.tab8 Bn.bits8 (fun HT_ HW_ => ?_); generalize w19.drew = w20 at HO_0 HO_3 BK197 HK HB GG14 HQ21 hf14_0 hf14_1 hx14_0 hx14_1 hx198_0 hx198_1 hx199_0 hx199_1 hHeld ⊢; refine zp 0 (some 31) (v := ?_) (a' := ?_) (bz 15 1) rfl rfl HT_.out zz zQ ?_ ?_ ?_; rotate_left
          ·intro w'; go_simp; with_reducible rfl
          rotate_left
          ·simp only [zy]; rfl
          refine zp 1 (some 32) (v := ?_) (a' := ?_) (bz 15 3) rfl rfl HT_.out zz zQ ?_ ?_ ?_; rotate_left
          ·intro w'; go_simp; with_reducible rfl
          rotate_left
          ·simp only [zy]; rfl
          refine zp 2 (some 33) (v := ?_) (a' := ?_) (bz 15 7) rfl rfl HT_.out zz zQ ?_ ?_ ?_; rotate_left
          ·intro w'; go_simp; with_reducible rfl
          rotate_left
          ·simp only [zy]; rfl
          refine zp 3 (some 34) (v := ?_) (a' := ?_) (bz 15 15) rfl rfl HT_.out zz zQ ?_ ?_ ?_; rotate_left
          ·intro w'; go_simp; with_reducible rfl
          rotate_left
          ·simp only [zy]; rfl
          refine zp 4 (some 35) (v := ?_) (a' := ?_) (bz 15 31) rfl rfl HT_.out zz zQ ?_ ?_ ?_; rotate_left
          ·intro w'; go_simp; with_reducible rfl
          rotate_left
          ·simp only [zy]; rfl
          refine zp 5 (some 36) (v := ?_) (a' := ?_) (bz 15 63) rfl rfl HT_.out zz zQ ?_ ?_ ?_; rotate_left
          ·intro w'; go_simp; with_reducible rfl
          rotate_left
          ·simp only [zy]; rfl
          refine zp 6 (some 37) (v := ?_) (a' := ?_) (bz 15 127) rfl rfl HT_.out zz zQ ?_ ?_ ?_; rotate_left
          ·intro w'; go_simp; with_reducible rfl
          rotate_left
          ·simp only [zy]; rfl
          refine zp 7 (some 38) (v := ?_) (a' := ?_) (bz 15 255) rfl rfl HT_.out zz zQ ?_ ?_ ?_; rotate_left
          ·intro w'; go_simp; with_reducible rfl
          rotate_left
          ·simp only [zy]; rfl
          refine zp 9 (some 40) (v := ?_) (a' := ?_) (bz 15 767) rfl rfl HT_.out zz zQ ?_ ?_ ?_; rotate_left
          ·intro w'; go_simp; with_reducible rfl
          rotate_left
          ·simp only [zy]; rfl
          refine take_ (i := 8) (N := some 39) (v := ?_) (a' := ?_) (bz 15 1023) rfl rfl (Bk HT_.out HW_.out zz) zQ (Or.inl ⟨by rfl, ?_⟩) hHeld ?_ ?_; rotate_left
          ·rintro w' ⟨s0, s1, s2, s3⟩; go_simp; with_reducible rfl
          rotate_left
          ·simp only [zy]; rfl
          refine take_ (i := 10) (N := some 41) (v := ?_) (a' := ?_) (bz 15 2047) rfl rfl (Bk HT_.out HW_.out zz) zQ (Or.inl ⟨by rfl, ?_⟩) hHeld ?_ ?_; rotate_left
          ·rintro w' ⟨s0, s1, s2, s3⟩; go_simp; with_reducible rfl
          rotate_left
          ·simp only [zy]; rfl
          refine zp 11 (some 42) (v := ?_) (a' := ?_) (bz 15 4095) rfl rfl HT_.out zz zQ ?_ ?_ ?_; rotate_left
          ·intro w'; go_simp; with_reducible rfl
          rotate_left
          ·simp only [zy]; rfl
          refine zp 12 (some 43) (v := ?_) (a' := ?_) (bz 15 8191) rfl rfl HT_.out zz zQ ?_ ?_ ?_; rotate_left
          ·intro w'; go_simp; with_reducible rfl
          rotate_left
          ·simp only [zy]; rfl
          refine zp 13 (some 44) (v := ?_) (a' := ?_) (bz 15 16383) rfl rfl HT_.out zz zQ ?_ ?_ ?_; rotate_left
          ·intro w'; go_simp; with_reducible rfl
          rotate_left
          ·simp only [zy]; rfl
          refine Uv (i := 14) (N := none) (bz 15 32767) rfl rfl (Eh HT_.out zz) (by decide) (fun K hK => ?_); refine Uk (w1 := ?_) (by rfl) rfl ?_ ?_; rotate_left
          ·go_simp; rfl
          refine hK.out _ _ ?_; clear hK K; refine Gg (Ei HT_.out zz) ?_; try go_wp2
          (try simp only [← hl0_1])
          go_roundg k1
          case measure => have := HK1.out; omega
          case rel => exact ⟨(x0_1), (y200), (wrap64 (x11_1 + 1)), zR, H', ⟨by have := HK1.out; omega⟩, ⟨by (try simp only [hl0_1]); (with_reducible repeat (first | apply zA | apply zB | apply zC)); exact Kd.R_mono (Kd.R_far (p := ⟨go14, ((ji9) : Int).toNat * 2 + 1, none⟩) (Kd.R_mono HO_0.out (fun k_ hk => (⟨hk, fun e_ => hk.2.1 (by rw [e_]; rfl)⟩ : _ ∧ k_ ≠ go14))) (fun _ hk => hk.2) (.int .i64 ji13)) (fun _ hk => ⟨hk.1.1, hk.1.2.1⟩)⟩, ⟨by (try simp only [hl0_1]); (with_reducible repeat (first | apply zA | apply zB | apply zC)); exact Kd.R_mono HQ21.out (fun _ hk => ⟨hk.1, hk.2.1⟩)⟩, ⟨by repeat (first | (with_reducible first | exact HK.out | apply Kept.alloc | apply Kept.drewN | apply Kept.drew | refine Kept.setCell ?_ HMgo14.out _ | refine Kept.setCell ?_ (.inr GW197.out) _) | exact HK.out)⟩, ⟨by repeat (first | (with_reducible first | exact HB.out | apply zD | apply zE | apply zF | refine Gv ?_ GB14.out | refine Gv ?_ GE197.out) | exact HB.out)⟩⟩
         ·rw [if_neg c12] at H; have c12b0 : decide (((Ah x0_1 x11_1).f0) ≤ (wrap64 (((Ah x3_1 (ji9)).f1) + 1))) = false := decide_eq_false c12; clear c12; by_cases c22 : x3_1.length < 8796093022208
          ·rw [if_pos c22] at H; have LMc22 := zk c22; clear c22; obtain ⟨y201, hy201⟩ : ∃ y_ : List (S95), y_ = (x3_1 ++ [(⟨(Ah x0_1 x11_1).f0, (Ah x0_1 x11_1).f1⟩ : S95)]) := ⟨_, rfl⟩
           replace H : (Bn.l0 k1 x0_1 y201 (l0.length : Int) (wrap64 (x11_1 + 1))) = some (r1, r2) := by first | (rw [hy201]; with_reducible exact H) | (have H2_ := (Option.bind_some _ _).symm.trans H; rw [hy201]; with_reducible exact H2_) | (have H2_ := (Option.bind_some _ _).symm.trans H; with_reducible exact H2_) | with_reducible exact H | (rw [hy201]; exact H) | exact H
           have Ny201 := zk hy201; clear hy201; have H' := zk H; clear H; have p196 : 0 ≤ (x11_1 : Int) := zT; have q196 : x11_1 < (x0_1.length : Int) := zT; obtain ⟨ad196, e196, hx196_0, hx196_1⟩ := Dg (Kd.R_reads' HO_0.out).2.2 x11_1 p196 q196; cases e196; replace p196 := eq_true p196; replace q196 := eq_true q196; try go_wp2_with (first | ((with_reducible refine Bd (N := 5) rfl ?_); refine Bb ?hg (N := 5) ?hd (cs := #[.int .i64 0, .int .i64 0]) (t := 95) ?hr ?_; (case hd => rfl); (case hg => rfl); (case hr => first | (go_simp; done) | (go_simp; rfl)); intro gb197 hg w23 hbox hb; replace HO_0 := zk (Kd.R_below (Kd.R_elderB (zr HO_0.out) gb197 (Nat.le_of_eq hg.symm)) hb); replace HO_3 := zk (Kd.R_below (Kd.R_elderB (zr HO_3.out) gb197 (Nat.le_of_eq hg.symm)) hb); have BK197 := zk (hbox); have GW197 := zk ((by rw [hg]; exact (by first | exact HK.out.1 | exact (show Kept w _ (fun k_ => P0_ k_) from by repeat (first | (with_reducible first | exact HK.out | apply Kept.alloc | apply Kept.drewN | apply Kept.drew) | exact HK.out)).1) : w.heap.size ≤ gb197)); replace HK := zk (Kept.below (S := (fun k_ => P0_ k_)) (by repeat (first | (with_reducible first | exact HK.out | apply Kept.alloc | apply Kept.drewN | apply Kept.drew) | exact HK.out)) hb); have GE197 := zk ((zg hg HB.out : w0.heap.size ≤ gb197)); replace HB := zs HB hb;  clear hb hbox hg; have hcz24_0 : w23.cell? ⟨gb197, 0, none⟩ = some (.int .i64 0) := zh BK197.out 0; have hcz24_1 : w23.cell? ⟨gb197, 1, none⟩ = some (.int .i64 0) := zh BK197.out 1; have hfz24_0 := Ac BK197.out 0; have hfz24_1 := Ac BK197.out 1; obtain ⟨Ao25, co25, eo25⟩ := Kd.R_slice HO_3.out; subst eo25))
           have n0_ : Aa (Kd.R k95 95 ((w23.setCell ⟨gb197, 0, none⟩ (.int .i64 ((Ah x0_1 x11_1).f0))).setCell ⟨gb197, 1, none⟩ (.int .i64 ((Ah x0_1 x11_1).f1))) w0.heap.size (fun k_ => (P0_ k_ ∨ w.heap.size ≤ k_) ∧ some k_ ≠ (.slice Ao25 x3_1.length co25 : Value).ownBlock ∧ k_ ≠ gb197) (.slice (some ad196) x0_1.length co3) x0_1) := ⟨by (with_reducible repeat (first | apply zA | apply zB | apply zC)); exact Kd.R_mono (Kd.R_far (p := ⟨gb197, 1, none⟩) (Kd.R_far (p := ⟨gb197, 0, none⟩) (Kd.R_mono HO_0.out (fun k_ hk => (⟨hk, hk.2⟩ : _ ∧ k_ ≠ gb197))) (fun _ hk => hk.2) (.int .i64 ((Ah x0_1 x11_1).f0))) (fun _ hk => hk.2) (.int .i64 ((Ah x0_1 x11_1).f1))) (fun _ hk => ⟨hk.1.1.1, ⟨hk.1.1.2, hk.1.2⟩⟩)⟩; have n1_ : Aa (Kd.R k95 95 ((w23.setCell ⟨gb197, 0, none⟩ (.int .i64 ((Ah x0_1 x11_1).f0))).setCell ⟨gb197, 1, none⟩ (.int .i64 ((Ah x0_1 x11_1).f1))) w0.heap.size (fun k_ => (P0_ k_ ∨ w.heap.size ≤ k_) ∧ some k_ ≠ (.slice (some ad196) x0_1.length co3 : Value).ownBlock ∧ k_ ≠ gb197) (.slice Ao25 x3_1.length co25) x3_1) := ⟨by (with_reducible repeat (first | apply zA | apply zB | apply zC)); exact Kd.R_mono (Kd.R_far (p := ⟨gb197, 1, none⟩) (Kd.R_far (p := ⟨gb197, 0, none⟩) (Kd.R_mono HO_3.out (fun k_ hk => (⟨hk, hk.2⟩ : _ ∧ k_ ≠ gb197))) (fun _ hk => hk.2) (.int .i64 ((Ah x0_1 x11_1).f0))) (fun _ hk => hk.2) (.int .i64 ((Ah x0_1 x11_1).f1))) (fun _ hk => ⟨hk.1.1.1, ⟨hk.1.1.2, hk.1.2⟩⟩)⟩; have n2_ : Aa (((w23.setCell ⟨gb197, 0, none⟩ (.int .i64 ((Ah x0_1 x11_1).f0))).setCell ⟨gb197, 1, none⟩ (.int .i64 ((Ah x0_1 x11_1).f1))).heap[gb197]? = some (.cells #[.int .i64 ((Ah x0_1 x11_1).f0), .int .i64 ((Ah x0_1 x11_1).f1)] 95 (0, 0))) := ⟨by (with_reducible repeat (first | refine Bj ?_ _ | refine Ay ?_ | refine Be ?_ _)); refine Ca (cs := #[.int .i64 ((Ah x0_1 x11_1).f0), .int .i64 0]) ?_ 1 _ rfl; (with_reducible repeat (first | refine Bj ?_ _ | refine Ay ?_ | refine Be ?_ _)); refine Ca (cs := #[.int .i64 0, .int .i64 0]) ?_ 0 _ rfl; exact zb BK197.out⟩; have n3_ : Aa (Kept w ((w23.setCell ⟨gb197, 0, none⟩ (.int .i64 ((Ah x0_1 x11_1).f0))).setCell ⟨gb197, 1, none⟩ (.int .i64 ((Ah x0_1 x11_1).f1))) (fun k_ => P0_ k_)) := ⟨by repeat (first | (with_reducible first | exact HK.out | apply Kept.alloc | apply Kept.drewN | apply Kept.drew | refine Kept.setCell ?_ (.inr GW197.out) _) | exact HK.out)⟩; have n4_ : Aa (Below w0.heap.size w0 ((w23.setCell ⟨gb197, 0, none⟩ (.int .i64 ((Ah x0_1 x11_1).f0))).setCell ⟨gb197, 1, none⟩ (.int .i64 ((Ah x0_1 x11_1).f1)))) := ⟨zU HB.out⟩; (try clear HO_0); (try clear HO_3); (try clear BK197); (try clear HK); (try clear HB); generalize ((w23.setCell ⟨gb197, 0, none⟩ (.int .i64 ((Ah x0_1 x11_1).f0))).setCell ⟨gb197, 1, none⟩ (.int .i64 ((Ah x0_1 x11_1).f1))) = w26 at n0_ n1_ n2_ n3_ n4_ ⊢; have HO_0 := n0_; have HO_3 := n1_; have BK197 := n2_; have HK := n3_; have HB := n4_; clear n0_ n1_ n2_ n3_ n4_; have n0_ := zk (Kd.R_drew HO_0.out); have n1_ := zk (Kd.R_drew HO_3.out); have n2_ := zk (Ay BK197.out); have n3_ := zk (Kept.drew HK.out); have n4_ := zk (Bv HB.out); clear HO_0; clear HO_3; clear BK197; clear HK; clear HB; have HO_0 := n0_; have HO_3 := n1_; have BK197 := n2_; have HK := n3_; have HB := n4_; clear n0_ n1_ n2_ n3_ n4_; have p198 : 0 ≤ ((ji9) : Int) := zT; have q198 : (ji9) < (x3_1.length : Int) := zT; obtain ⟨ad198, e198, hx198_0, hx198_1⟩ := Dg (Kd.R_reads' HO_3.out).2.2 (ji9) p198 q198; cases e198; replace p198 := eq_true p198; replace q198 := eq_true q198; refine Ew (n := 14) (S := fun w' => w'.cell? ⟨gb197, 0, none⟩ = some (.int .i64 ((Ah x0_1 x11_1).f0)) ∧ w'.cell? ⟨gb197, 1, none⟩ = some (.int .i64 ((Ah x0_1 x11_1).f1)) ∧ w'.cell? (ad198.add (((ji9)).toNat * 2)) = some (.int .i64 ((Ah x3_1 (ji9)).f0)) ∧ w'.cell? ⟨(ad198.add (((ji9)).toNat * 2)).block, (ad198.add (((ji9)).toNat * 2)).off + 1, none⟩ = some (.int .i64 ((Ah x3_1 (ji9)).f1))) (ds := []) #[false, false, false, false, false, false, false, false, false, false, false, false, false, false] zz rfl rfl ⟨(Ag BK197.out 0).trans rfl, (Ag BK197.out 1).trans rfl, hx198_0, hx198_1⟩ (fun hHeld => ?_); refine Cy Bn.tab7 Bn.bits7 (fun HT_ HW_ => ?_); generalize w26.drew = w27 at HO_0 HO_3 BK197 HK HB hx198_0 hx198_1 hHeld ⊢; refine zp 0 (some 17) (v := ?_) (a' := ?_) (bz 14 1) rfl rfl HT_.out zz zQ ?_ ?_ ?_; rotate_left
           ·intro w'; go_simp; with_reducible rfl
           rotate_left
           ·simp only [zy]; rfl
           refine zp 1 (some 18) (v := ?_) (a' := ?_) (bz 14 3) rfl rfl HT_.out zz zQ ?_ ?_ ?_; rotate_left
           ·intro w'; go_simp; with_reducible rfl
           rotate_left
           ·simp only [zy]; rfl
           refine zp 2 (some 19) (v := ?_) (a' := ?_) (bz 14 7) rfl rfl HT_.out zz zQ ?_ ?_ ?_; rotate_left
           ·intro w'; go_simp; with_reducible rfl
           rotate_left
           ·simp only [zy]; rfl
           refine zp 3 (some 20) (v := ?_) (a' := ?_) (bz 14 15) rfl rfl HT_.out zz zQ ?_ ?_ ?_; rotate_left
           ·intro w'; go_simp; with_reducible rfl
           rotate_left
           ·simp only [zy]; rfl
           refine zp 5 (some 22) (v := ?_) (a' := ?_) (bz 14 47) rfl rfl HT_.out zz zQ ?_ ?_ ?_; rotate_left
           ·intro w'; go_simp; with_reducible rfl
           rotate_left
           ·simp only [zy]; rfl
           refine zp 6 (some 23) (v := ?_) (a' := ?_) (bz 14 111) rfl rfl HT_.out zz zQ ?_ ?_ ?_; rotate_left
           ·intro w'; go_simp; with_reducible rfl
           rotate_left
           ·simp only [zy]; rfl
           refine zp 7 (some 24) (v := ?_) (a' := ?_) (bz 14 239) rfl rfl HT_.out zz zQ ?_ ?_ ?_; rotate_left
           ·intro w'; go_simp; with_reducible rfl
           rotate_left
           ·simp only [zy]; rfl
           refine zp 8 (some 25) (v := ?_) (a' := ?_) (bz 14 495) rfl rfl HT_.out zz zQ ?_ ?_ ?_; rotate_left
           ·intro w'; go_simp; with_reducible rfl
           rotate_left
           ·simp only [zy]; rfl
           refine zp 9 (some 26) (v := ?_) (a' := ?_) (bz 14 1007) rfl rfl HT_.out zz zQ ?_ ?_ ?_; rotate_left
           ·intro w'; go_simp; with_reducible rfl
           rotate_left
           ·simp only [zy]; rfl
           refine take_ (i := 4) (N := some 21) (v := ?_) (a' := ?_) (bz 14 1023) rfl rfl (Bk HT_.out HW_.out zz) zQ (Or.inl ⟨by rfl, ?_⟩) hHeld ?_ ?_; rotate_left
           ·rintro w' ⟨s0, s1, s2, s3⟩; go_simp; with_reducible rfl
           rotate_left
           ·simp only [zy]; rfl
           refine take_ (i := 10) (N := some 27) (v := ?_) (a' := ?_) (bz 14 2047) rfl rfl (Bk HT_.out HW_.out zz) zQ (Or.inl ⟨by rfl, ?_⟩) hHeld ?_ ?_; rotate_left
           ·rintro w' ⟨s0, s1, s2, s3⟩; go_simp; with_reducible rfl
           rotate_left
           ·simp only [zy]; rfl
           refine zp 11 (some 28) (v := ?_) (a' := ?_) (bz 14 4095) rfl rfl HT_.out zz zQ ?_ ?_ ?_; rotate_left
           ·intro w'; go_simp; with_reducible rfl
           rotate_left
           ·simp only [zy]; rfl
           refine zp 12 (some 29) (v := ?_) (a' := ?_) (bz 14 8191) rfl rfl HT_.out zz zQ ?_ ?_ ?_; rotate_left
           ·intro w'; go_simp; with_reducible rfl
           rotate_left
           ·simp only [zy]; rfl
           refine zp 13 (some 30) (v := ?_) (a' := ?_) (bz 14 16383) rfl rfl HT_.out zz zQ ?_ ?_ ?_; rotate_left
           ·intro w'; go_simp; with_reducible rfl
           rotate_left
           ·simp only [zy]; rfl
           refine Gg (Ei HT_.out zz) ?_; have hcz28_0 : w27.cell? ⟨gb197, 0, none⟩ = some (.int .i64 ((Ah x0_1 x11_1).f0)) := zh BK197.out 0; have hcz28_1 : w27.cell? ⟨gb197, 1, none⟩ = some (.int .i64 ((Ah x0_1 x11_1).f1)) := zh BK197.out 1; have hfz28_0 := Ac BK197.out 0; have hfz28_1 := Ac BK197.out 1; try go_wp2_with (first | ((with_reducible refine Di (b := .append) (xs := #[.tmp 45, .tmp 47]) rfl ?_); at_builtin; refine Kd.R_append k95 (w0 := w0) w0.heap.size rfl (.tmp 45) (.tmp 47) 79 95 (.agg #[(.int .i64 0), (.int .i64 0)]) 16 rfl Tryz.underlying79 Ga rfl (by decide) (by omega) (.slice (some ad198) x3_1.length co25) x3_1 (⟨(Ah x0_1 x11_1).f0, (Ah x0_1 x11_1).f1⟩ : S95) [.int .i64 ((Ah x0_1 x11_1).f0), .int .i64 ((Ah x0_1 x11_1).f1)] (fun k_ => (P0_ k_ ∨ w.heap.size ≤ k_) ∧ some k_ ≠ (.slice (some ad196) x0_1.length co3 : Value).ownBlock ∧ k_ ≠ gb197) (fun _ => False) rfl rfl ?aP (fun _ hk => hk.elim) ?aF ?aO ?aB ?aS ?aL ?_; (case aP => exact k95_mkM _ _ _ (⟨(Ah x0_1 x11_1).f0, (Ah x0_1 x11_1).f1⟩ : S95)); (case aB => exact (zU HB.out)); (case aF => exact (fun k_ hk => ⟨(.inr (Nat.le_trans (by first | exact HK.out.1 | exact (show Kept w _ (fun k_ => P0_ k_) from by repeat (first | (with_reducible first | exact HK.out | apply Kept.alloc | apply Kept.drewN | apply Kept.drew | refine Kept.setCell ?_ (.inr GW197.out) _) | exact HK.out)).1) hk)), Kd.fresh' (Kd.R_lt (zr HO_0.out)) k_ hk, Kd.freshB (g := gb197) (o := .cells #[.int .i64 ((Ah x0_1 x11_1).f0), .int .i64 ((Ah x0_1 x11_1).f1)] 95 (0, 0)) (zb BK197.out) k_ hk⟩)); (case aO => exact (zr HO_3.out)); (case aS => exact (Ar (zU HB.out))); (case aL => have := LMc22.out; omega); intro v202 w29 ho hb hg hat; rw [← Ny201.out] at ho; have n0_ := zk (Kd.R_after (ok := (fun k_ => (P0_ k_ ∨ w.heap.size ≤ k_) ∧ k_ ≠ gb197)) (by (with_reducible repeat (first | apply zA | apply zB | apply zC)); exact Kd.R_mono HO_0.out (fun _ hk => ⟨⟨hk.1, hk.2.2⟩, hk.2.1⟩)) hg hat); have n1_ := zk (Cp (g := gb197) (o := .cells #[.int .i64 ((Ah x0_1 x11_1).f0), .int .i64 ((Ah x0_1 x11_1).f1)] 95 (0, 0)) (zb BK197.out) hg (Kd.R_away HO_3.out (fun _ hk => hk.2.2))); have n2_ := zk (hb); have n3_ := zk (Kept.of_grown (S := (fun k_ => P0_ k_)) hg (by repeat (first | (with_reducible first | exact HK.out | apply Kept.alloc | apply Kept.drewN | apply Kept.drew | refine Kept.setCell ?_ (.inr GW197.out) _) | exact HK.out)) (fun k_ e_ => (HO_3.out.1 k_ e_).1)); have n4_ := zk (ho); clear HO_0; clear BK197; clear HB; clear HK; clear HO_3; have HO_0 := n0_; have BK197 := n1_; have HB := n2_; have HK := n3_; have HO203 := n4_; clear n0_ n1_ n2_ n3_ n4_; clear ho hb hg hat))
           (try simp only [← hl0_1])
           go_roundg k1
           case measure => have := HK1.out; omega
           case rel => exact ⟨(x0_1), (y201), (wrap64 (x11_1 + 1)), zR, H', ⟨by have := HK1.out; omega⟩, ⟨by (try simp only [hl0_1]); (with_reducible repeat (first | apply zA | apply zB | apply zC)); exact Kd.R_mono HO_0.out (fun _ hk => ⟨hk.1.1, hk.2⟩)⟩, ⟨by (try simp only [hl0_1]); (with_reducible repeat (first | apply zA | apply zB | apply zC)); exact Kd.R_mono HO203.out (fun _ hk => ⟨hk.1, hk.2.1⟩)⟩, ⟨by repeat (first | (with_reducible first | exact HK.out | apply Kept.alloc | apply Kept.drewN | apply Kept.drew | refine Kept.setCell ?_ (.inr GW197.out) _) | exact HK.out)⟩, ⟨zU HB.out⟩⟩
          ·rw [if_neg c22] at H; cases H
        ·rw [if_neg c11] at H; cases H
       ·rw [if_neg c10] at H; cases H
      ·rw [if_neg c8] at H; have c8b0 : decide (0 < (x3_1.length : Int)) = false := decide_eq_false c8; have c8b1 : decide (0 < x3_1.length) = false := decide_eq_false (by omega); clear c8; by_cases c30 : x3_1.length < 8796093022208
       ·rw [if_pos c30] at H; have LMc30 := zk c30; clear c30; obtain ⟨y204, hy204⟩ : ∃ y_ : List (S95), y_ = (x3_1 ++ [(⟨(Ah x0_1 x11_1).f0, (Ah x0_1 x11_1).f1⟩ : S95)]) := ⟨_, rfl⟩
        replace H : (Bn.l0 k1 x0_1 y204 (l0.length : Int) (wrap64 (x11_1 + 1))) = some (r1, r2) := by first | (rw [hy204]; with_reducible exact H) | (have H2_ := (Option.bind_some _ _).symm.trans H; rw [hy204]; with_reducible exact H2_) | (have H2_ := (Option.bind_some _ _).symm.trans H; with_reducible exact H2_) | with_reducible exact H | (rw [hy204]; exact H) | exact H
        have Ny204 := zk hy204; clear hy204; have H' := zk H; clear H; have p196 : 0 ≤ (x11_1 : Int) := zT; have q196 : x11_1 < (x0_1.length : Int) := zT; obtain ⟨ad196, e196, hx196_0, hx196_1⟩ := Dg (Kd.R_reads' HO_0.out).2.2 x11_1 p196 q196; cases e196; replace p196 := eq_true p196; replace q196 := eq_true q196; try go_wp2_with (first | ((with_reducible refine Bd (N := 5) rfl ?_); refine Bb ?hg (N := 5) ?hd (cs := #[.int .i64 0, .int .i64 0]) (t := 95) ?hr ?_; (case hd => rfl); (case hg => rfl); (case hr => first | (go_simp; done) | (go_simp; rfl)); intro gb197 hg w31 hbox hb; replace HO_0 := zk (Kd.R_below (Kd.R_elderB (zr HO_0.out) gb197 (Nat.le_of_eq hg.symm)) hb); replace HO_3 := zk (Kd.R_below (Kd.R_elderB (zr HO_3.out) gb197 (Nat.le_of_eq hg.symm)) hb); have BK197 := zk (hbox); have GW197 := zk ((by rw [hg]; exact (by first | exact HK.out.1 | exact (show Kept w _ (fun k_ => P0_ k_) from by repeat (first | (with_reducible first | exact HK.out | apply Kept.alloc | apply Kept.drewN | apply Kept.drew) | exact HK.out)).1) : w.heap.size ≤ gb197)); replace HK := zk (Kept.below (S := (fun k_ => P0_ k_)) (by repeat (first | (with_reducible first | exact HK.out | apply Kept.alloc | apply Kept.drewN | apply Kept.drew) | exact HK.out)) hb); have GE197 := zk ((zg hg HB.out : w0.heap.size ≤ gb197)); replace HB := zs HB hb;  clear hb hbox hg; have hcz32_0 : w31.cell? ⟨gb197, 0, none⟩ = some (.int .i64 0) := zh BK197.out 0; have hcz32_1 : w31.cell? ⟨gb197, 1, none⟩ = some (.int .i64 0) := zh BK197.out 1; have hfz32_0 := Ac BK197.out 0; have hfz32_1 := Ac BK197.out 1; obtain ⟨Ao33, co33, eo33⟩ := Kd.R_slice HO_3.out; subst eo33))
        have n0_ : Aa (Kd.R k95 95 ((w31.setCell ⟨gb197, 0, none⟩ (.int .i64 ((Ah x0_1 x11_1).f0))).setCell ⟨gb197, 1, none⟩ (.int .i64 ((Ah x0_1 x11_1).f1))) w0.heap.size (fun k_ => (P0_ k_ ∨ w.heap.size ≤ k_) ∧ some k_ ≠ (.slice Ao33 x3_1.length co33 : Value).ownBlock ∧ k_ ≠ gb197) (.slice (some ad196) x0_1.length co3) x0_1) := ⟨by (with_reducible repeat (first | apply zA | apply zB | apply zC)); exact Kd.R_mono (Kd.R_far (p := ⟨gb197, 1, none⟩) (Kd.R_far (p := ⟨gb197, 0, none⟩) (Kd.R_mono HO_0.out (fun k_ hk => (⟨hk, hk.2⟩ : _ ∧ k_ ≠ gb197))) (fun _ hk => hk.2) (.int .i64 ((Ah x0_1 x11_1).f0))) (fun _ hk => hk.2) (.int .i64 ((Ah x0_1 x11_1).f1))) (fun _ hk => ⟨hk.1.1.1, ⟨hk.1.1.2, hk.1.2⟩⟩)⟩; have n1_ : Aa (Kd.R k95 95 ((w31.setCell ⟨gb197, 0, none⟩ (.int .i64 ((Ah x0_1 x11_1).f0))).setCell ⟨gb197, 1, none⟩ (.int .i64 ((Ah x0_1 x11_1).f1))) w0.heap.size (fun k_ => (P0_ k_ ∨ w.heap.size ≤ k_) ∧ some k_ ≠ (.slice (some ad196) x0_1.length co3 : Value).ownBlock ∧ k_ ≠ gb197) (.slice Ao33 x3_1.length co33) x3_1) := ⟨by (with_reducible repeat (first | apply zA | apply zB | apply zC)); exact Kd.R_mono (Kd.R_far (p := ⟨gb197, 1, none⟩) (Kd.R_far (p := ⟨gb197, 0, none⟩) (Kd.R_mono HO_3.out (fun k_ hk => (⟨hk, hk.2⟩ : _ ∧ k_ ≠ gb197))) (fun _ hk => hk.2) (.int .i64 ((Ah x0_1 x11_1).f0))) (fun _ hk => hk.2) (.int .i64 ((Ah x0_1 x11_1).f1))) (fun _ hk => ⟨hk.1.1.1, ⟨hk.1.1.2, hk.1.2⟩⟩)⟩; have n2_ : Aa (((w31.setCell ⟨gb197, 0, none⟩ (.int .i64 ((Ah x0_1 x11_1).f0))).setCell ⟨gb197, 1, none⟩ (.int .i64 ((Ah x0_1 x11_1).f1))).heap[gb197]? = some (.cells #[.int .i64 ((Ah x0_1 x11_1).f0), .int .i64 ((Ah x0_1 x11_1).f1)] 95 (0, 0))) := ⟨by (with_reducible repeat (first | refine Bj ?_ _ | refine Ay ?_ | refine Be ?_ _)); refine Ca (cs := #[.int .i64 ((Ah x0_1 x11_1).f0), .int .i64 0]) ?_ 1 _ rfl; (with_reducible repeat (first | refine Bj ?_ _ | refine Ay ?_ | refine Be ?_ _)); refine Ca (cs := #[.int .i64 0, .int .i64 0]) ?_ 0 _ rfl; exact zb BK197.out⟩; have n3_ : Aa (Kept w ((w31.setCell ⟨gb197, 0, none⟩ (.int .i64 ((Ah x0_1 x11_1).f0))).setCell ⟨gb197, 1, none⟩ (.int .i64 ((Ah x0_1 x11_1).f1))) (fun k_ => P0_ k_)) := ⟨by repeat (first | (with_reducible first | exact HK.out | apply Kept.alloc | apply Kept.drewN | apply Kept.drew | refine Kept.setCell ?_ (.inr GW197.out) _) | exact HK.out)⟩; have n4_ : Aa (Below w0.heap.size w0 ((w31.setCell ⟨gb197, 0, none⟩ (.int .i64 ((Ah x0_1 x11_1).f0))).setCell ⟨gb197, 1, none⟩ (.int .i64 ((Ah x0_1 x11_1).f1)))) := ⟨zU HB.out⟩; (try clear HO_0); (try clear HO_3); (try clear BK197); (try clear HK); (try clear HB); generalize ((w31.setCell ⟨gb197, 0, none⟩ (.int .i64 ((Ah x0_1 x11_1).f0))).setCell ⟨gb197, 1, none⟩ (.int .i64 ((Ah x0_1 x11_1).f1))) = w34 at n0_ n1_ n2_ n3_ n4_ ⊢; have HO_0 := n0_; have HO_3 := n1_; have BK197 := n2_; have HK := n3_; have HB := n4_; clear n0_ n1_ n2_ n3_ n4_; have n0_ := zk (Kd.R_drew HO_0.out); have n1_ := zk (Kd.R_drew HO_3.out); have n2_ := zk (Ay BK197.out); have n3_ := zk (Kept.drew HK.out); have n4_ := zk (Bv HB.out); clear HO_0; clear HO_3; clear BK197; clear HK; clear HB; have HO_0 := n0_; have HO_3 := n1_; have BK197 := n2_; have HK := n3_; have HB := n4_; clear n0_ n1_ n2_ n3_ n4_; refine Ew (n := 14) (S := fun w' => True) (ds := []) #[false, false, false, false, false, false, false, false, false, false, false, false, false, false] zz rfl rfl trivial (fun hHeld => ?_); refine Cy Bn.tab7 Bn.bits7 (fun HT_ HW_ => ?_); generalize w34.drew = w35 at HO_0 HO_3 BK197 HK HB hHeld ⊢; refine zp 0 (some 17) (v := ?_) (a' := ?_) (bz 14 1) rfl rfl HT_.out zz zQ ?_ ?_ ?_; rotate_left
        ·intro w'; go_simp; with_reducible rfl
        rotate_left
        ·simp only [zy]; rfl
        refine zp 1 (some 18) (v := ?_) (a' := ?_) (bz 14 3) rfl rfl HT_.out zz zQ ?_ ?_ ?_; rotate_left
        ·intro w'; go_simp; with_reducible rfl
        rotate_left
        ·simp only [zy]; rfl
        refine zp 2 (some 19) (v := ?_) (a' := ?_) (bz 14 7) rfl rfl HT_.out zz zQ ?_ ?_ ?_; rotate_left
        ·intro w'; go_simp; with_reducible rfl
        rotate_left
        ·simp only [zy]; rfl
        refine Dv (i := 3) (N := some 20) (v := undef) (a' := ?_) (bz 14 15) rfl rfl (Da HT_.out zz) zQ (Or.inr ⟨by rfl, rfl⟩) ?_ ?_; rotate_left
        ·simp only [zy]; rfl
        refine Dv (i := 4) (N := some 21) (v := undef) (a' := ?_) (bz 14 31) rfl rfl (Da HT_.out zz) zQ (Or.inr ⟨by rfl, rfl⟩) ?_ ?_; rotate_left
        ·simp only [zy]; rfl
        refine Dv (i := 5) (N := some 22) (v := undef) (a' := ?_) (bz 14 63) rfl rfl (Da HT_.out zz) zQ (Or.inr ⟨by rfl, rfl⟩) ?_ ?_; rotate_left
        ·simp only [zy]; rfl
        refine Dv (i := 6) (N := some 23) (v := undef) (a' := ?_) (bz 14 127) rfl rfl (Da HT_.out zz) zQ (Or.inr ⟨by rfl, rfl⟩) ?_ ?_; rotate_left
        ·simp only [zy]; rfl
        refine Dv (i := 7) (N := some 24) (v := undef) (a' := ?_) (bz 14 255) rfl rfl (Da HT_.out zz) zQ (Or.inr ⟨by rfl, rfl⟩) ?_ ?_; rotate_left
        ·simp only [zy]; rfl
        refine Dv (i := 8) (N := some 25) (v := undef) (a' := ?_) (bz 14 511) rfl rfl (Da HT_.out zz) zQ (Or.inr ⟨by rfl, rfl⟩) ?_ ?_; rotate_left
        ·simp only [zy]; rfl
        refine Dv (i := 9) (N := some 26) (v := undef) (a' := ?_) (bz 14 1023) rfl rfl (Da HT_.out zz) zQ (Or.inr ⟨by rfl, rfl⟩) ?_ ?_; rotate_left
        ·simp only [zy]; rfl
        refine Dv (i := 10) (N := some 27) (v := undef) (a' := ?_) (bz 14 2047) rfl rfl (Da HT_.out zz) zQ (Or.inr ⟨by rfl, rfl⟩) ?_ ?_; rotate_left
        ·simp only [zy]; rfl
        refine Dv (i := 11) (N := some 28) (v := undef) (a' := ?_) (bz 14 4095) rfl rfl (Da HT_.out zz) zQ (Or.inr ⟨by rfl, rfl⟩) ?_ ?_; rotate_left
        ·simp only [zy]; rfl
        refine Dv (i := 12) (N := some 29) (v := undef) (a' := ?_) (bz 14 8191) rfl rfl (Da HT_.out zz) zQ (Or.inr ⟨by rfl, rfl⟩) ?_ ?_; rotate_left
        ·simp only [zy]; rfl
        refine zp 13 (some 30) (v := ?_) (a' := ?_) (bz 14 16383) rfl rfl HT_.out zz zQ ?_ ?_ ?_; rotate_left
        ·intro w'; go_simp; with_reducible rfl
        rotate_left
        ·simp only [zy]; rfl
        refine Gg (Ei HT_.out zz) ?_; have hcz36_0 : w35.cell? ⟨gb197, 0, none⟩ = some (.int .i64 ((Ah x0_1 x11_1).f0)) := zh BK197.out 0; have hcz36_1 : w35.cell? ⟨gb197, 1, none⟩ = some (.int .i64 ((Ah x0_1 x11_1).f1)) := zh BK197.out 1; have hfz36_0 := Ac BK197.out 0; have hfz36_1 := Ac BK197.out 1; try go_wp2_with (first | ((with_reducible refine Di (b := .append) (xs := #[.tmp 45, .tmp 47]) rfl ?_); at_builtin; refine Kd.R_append k95 (w0 := w0) w0.heap.size rfl (.tmp 45) (.tmp 47) 79 95 (.agg #[(.int .i64 0), (.int .i64 0)]) 16 rfl Tryz.underlying79 Ga rfl (by decide) (by omega) (.slice Ao33 x3_1.length co33) x3_1 (⟨(Ah x0_1 x11_1).f0, (Ah x0_1 x11_1).f1⟩ : S95) [.int .i64 ((Ah x0_1 x11_1).f0), .int .i64 ((Ah x0_1 x11_1).f1)] (fun k_ => (P0_ k_ ∨ w.heap.size ≤ k_) ∧ some k_ ≠ (.slice (some ad196) x0_1.length co3 : Value).ownBlock ∧ k_ ≠ gb197) (fun _ => False) rfl rfl ?aP (fun _ hk => hk.elim) ?aF ?aO ?aB ?aS ?aL ?_; (case aP => exact k95_mkM _ _ _ (⟨(Ah x0_1 x11_1).f0, (Ah x0_1 x11_1).f1⟩ : S95)); (case aB => exact (zU HB.out)); (case aF => exact (fun k_ hk => ⟨(.inr (Nat.le_trans (by first | exact HK.out.1 | exact (show Kept w _ (fun k_ => P0_ k_) from by repeat (first | (with_reducible first | exact HK.out | apply Kept.alloc | apply Kept.drewN | apply Kept.drew | refine Kept.setCell ?_ (.inr GW197.out) _) | exact HK.out)).1) hk)), Kd.fresh' (Kd.R_lt (zr HO_0.out)) k_ hk, Kd.freshB (g := gb197) (o := .cells #[.int .i64 ((Ah x0_1 x11_1).f0), .int .i64 ((Ah x0_1 x11_1).f1)] 95 (0, 0)) (zb BK197.out) k_ hk⟩)); (case aO => exact (zr HO_3.out)); (case aS => exact (Ar (zU HB.out))); (case aL => have := LMc30.out; omega); intro v205 w37 ho hb hg hat; rw [← Ny204.out] at ho; have n0_ := zk (Kd.R_after (ok := (fun k_ => (P0_ k_ ∨ w.heap.size ≤ k_) ∧ k_ ≠ gb197)) (by (with_reducible repeat (first | apply zA | apply zB | apply zC)); exact Kd.R_mono HO_0.out (fun _ hk => ⟨⟨hk.1, hk.2.2⟩, hk.2.1⟩)) hg hat); have n1_ := zk (Cp (g := gb197) (o := .cells #[.int .i64 ((Ah x0_1 x11_1).f0), .int .i64 ((Ah x0_1 x11_1).f1)] 95 (0, 0)) (zb BK197.out) hg (Kd.R_away HO_3.out (fun _ hk => hk.2.2))); have n2_ := zk (hb); have n3_ := zk (Kept.of_grown (S := (fun k_ => P0_ k_)) hg (by repeat (first | (with_reducible first | exact HK.out | apply Kept.alloc | apply Kept.drewN | apply Kept.drew | refine Kept.setCell ?_ (.inr GW197.out) _) | exact HK.out)) (fun k_ e_ => (HO_3.out.1 k_ e_).1)); have n4_ := zk (ho); clear HO_0; clear BK197; clear HB; clear HK; clear HO_3; have HO_0 := n0_; have BK197 := n1_; have HB := n2_; have HK := n3_; have HO206 := n4_; clear n0_ n1_ n2_ n3_ n4_; clear ho hb hg hat))
        (try simp only [← hl0_1])
        go_roundg k1
        case measure => have := HK1.out; omega
        case rel => exact ⟨(x0_1), (y204), (wrap64 (x11_1 + 1)), zR, H', ⟨by have := HK1.out; omega⟩, ⟨by (try simp only [hl0_1]); (with_reducible repeat (first | apply zA | apply zB | apply zC)); exact Kd.R_mono HO_0.out (fun _ hk => ⟨hk.1.1, hk.2⟩)⟩, ⟨by (try simp only [hl0_1]); (with_reducible repeat (first | apply zA | apply zB | apply zC)); exact Kd.R_mono HO206.out (fun _ hk => ⟨hk.1, hk.2.1⟩)⟩, ⟨by repeat (first | (with_reducible first | exact HK.out | apply Kept.alloc | apply Kept.drewN | apply Kept.drew | refine Kept.setCell ?_ (.inr GW197.out) _) | exact HK.out)⟩, ⟨zU HB.out⟩⟩
       ·rw [if_neg c30] at H; cases H
     ·rw [if_neg c7] at H; cases H
    ·rw [if_neg c6] at H; cases H
   ·rw [if_neg c5] at H; have c5b0 : decide (x11_1 < (l0.length : Int)) = false := decide_eq_false c5; (try have c5b9 : decide (x11_1 < (x0_1.length : Int)) = false := by rw [← hl0_1]; exact c5b0)
    clear c5; simp only [Option.some.injEq, Prod.mk.injEq] at H; obtain ⟨rfl, rfl⟩ := H; go_wp2
    go_ret
    exact ⟨_, ze, by (with_reducible repeat (first | apply zA | apply zB | apply zC)); (try simp only [hl0_1]); exact HO_3.out, (by first | exact (by (with_reducible repeat (first | apply zA | apply zB | apply zC)); exact Kd.R_mono HO_0.out (fun _ hk => hk.1)) | (simp only [hl0_1]; exact (by (with_reducible repeat (first | apply zA | apply zB | apply zC)); exact Kd.R_mono HO_0.out (fun _ hk => hk.1)))), zU HB.out, by repeat (first | (with_reducible first | exact HK.out | apply Kept.alloc | apply Kept.drewN | apply Kept.drew) | exact HK.out)⟩
def Er.f (k : Nat) (l0 : List (S63)) (l1 : List (S63)) : Option ((List (S63))) := (Dm.f k l0).bind fun t207 => ((Dm.f k l1).bind fun t210 => (if t207.length + t210.length < 8796093022208 then ((Bn.f k (t207 ++ t210)).bind fun bt216 => ((Db.f k bt216.1).bind fun t220 => (some t220))) else (none)))
theorem Er.calls (k : Nat) (A0 : Option Addr) (c0 : Nat) (l0 : List (S63)) (A1 : Option Addr) (c1 : Nat) (l1 : List (S63)) (r : List (S63)) (w : World) (hr0 : Kd.C k63 w A0 l0.length l0) (hc0 : l0.length ≤ c0) (hr1 : Kd.C k63 w A1 l1.length l1) (hc1 : l1.length ≤ c1) (h : Er.f k l0 l1 = some r) :
 Calls Tryz.prog 28 #[.slice A0 l0.length c0, .slice A1 l1.length c1] w fun e w' => ∃ v0_ : Value, e = .returned (v0_) ∧ Kd.R k63 63 w' w.heap.size (fun _ => True) v0_ r ∧ Below w.heap.size w w' := by
 have HR0 := zk hr0; have HC0 := zk hc0; clear hr0 hc0; have HR1 := zk hr1; have HC1 := zk hc1; clear hr1 hc1; have HB := zk (Below.refl w.heap.size w); have H : ((Dm.f k l0).bind fun t207 => ((Dm.f k l1).bind fun t210 => (if t207.length + t210.length < 8796093022208 then ((Bn.f k (t207 ++ t210)).bind fun bt216 => ((Db.f k bt216.1).bind fun t220 => (some t220))) else (none)))) = some r := h; clear h; replace H := Option.bind_eq_some_iff.mp H; obtain ⟨t207, A30, H⟩ := H; replace H : ((Dm.f k l1).bind fun t210 => (if t207.length + t210.length < 8796093022208 then ((Bn.f k (t207 ++ t210)).bind fun bt216 => ((Db.f k bt216.1).bind fun t220 => (some t220))) else (none))) = some r := H; have A3 := zk A30; clear A30; replace H := Option.bind_eq_some_iff.mp H; obtain ⟨t210, A40, H⟩ := H; replace H : (if t207.length + t210.length < 8796093022208 then ((Bn.f k (t207 ++ t210)).bind fun bt216 => ((Db.f k bt216.1).bind fun t220 => (some t220))) else (none)) = some r := H; have A4 := zk A40; clear A40; by_cases c5 : t207.length + t210.length < 8796093022208
 ·rw [if_pos c5] at H; have LMc5 := zk c5; clear c5; obtain ⟨y213, hy213⟩ : ∃ y_ : List (S95), y_ = (t207 ++ t210) := ⟨_, rfl⟩
  replace H : ((Bn.f k y213).bind fun bt216 => ((Db.f k bt216.1).bind fun t220 => (some t220))) = some r := by first | (rw [hy213]; with_reducible exact H) | (have H2_ := (Option.bind_some _ _).symm.trans H; rw [hy213]; with_reducible exact H2_) | (have H2_ := (Option.bind_some _ _).symm.trans H; with_reducible exact H2_) | with_reducible exact H | (rw [hy213]; exact H) | exact H
  have Ny213 := zk hy213; clear hy213; replace H := Option.bind_eq_some_iff.mp H; obtain ⟨⟨t216, t219⟩, A60, H⟩ := H; replace H : ((Db.f k t216).bind fun t220 => (some t220)) = some r := H; have A6 := zk A60; clear A60; replace H := Option.bind_eq_some_iff.mp H; obtain ⟨t220, A70, H⟩ := H; replace H : (some t220) = some r := H; have A7 := zk A70; clear A70; obtain rfl := Option.some.inj H; go_enter Tryz.func28, Tryz.ntmps28
  go_wp2_with (first | ((with_reducible refine Al (f := 49) rfl ?_); refine Bz (some 6) rfl rfl Tryz.func49 zz rfl #[.slice A0 l0.length c0] rfl zM ?_; (with_reducible refine (Dm.calls k _ _ l0 t207 _ ?side1 ?side2 A3.out).mono ?_); (case side1 => exact zc HR0.out); (case side2 => exact HC0.out); rintro e w8 ⟨v208, rfl, ho0, hb⟩; refine ⟨_, rfl, ?_⟩; have HO209 := zk (Kd.R_lower ho0 (Ar (zU HB.out))); replace HB := zs HB hb;  (try clear hb); (try clear hb2); (try clear hk); (try clear hi); (try clear ho0)) | ((with_reducible refine Al (f := 49) rfl ?_); refine Bz (some 8) rfl rfl Tryz.func49 zz rfl #[.slice A1 l1.length c1] rfl zM ?_; (with_reducible refine (Dm.calls k _ _ l1 t210 _ ?side1 ?side2 A4.out).mono ?_); (case side1 => exact zc (Kd.C_below HR1.out HB.out)); (case side2 => exact HC1.out); rintro e w9 ⟨v211, rfl, ho0, hb⟩; refine ⟨_, rfl, ?_⟩; have HO212 := zk (Kd.R_lower (Kd.R_new' ho0 (Kd.R_lt (zr HO209.out))) (Ar (zU HB.out))); replace HO209 := zk (Kd.R_elder' (zr HO209.out) (Kd.R_base ho0) hb); replace HB := zs HB hb;  (try clear hb); (try clear hb2); (try clear hk); (try clear hi); (try clear ho0); obtain ⟨Ao11, co11, eo11⟩ := Kd.R_slice HO212.out; subst eo11) | ((with_reducible refine Di (b := .append) (xs := #[.tmp 6, .tmp 8]) rfl ?_); at_builtin; refine Kd.R_append_rows k95 (w0 := w) w.heap.size rfl (.tmp 6) (.tmp 8) 79 95 (.agg #[(.int .i64 0), (.int .i64 0)]) 16 rfl Tryz.underlying79 Ga rfl (by decide) (by omega) v208 t207 t210 _ _ _ (fun k_ => some k_ ≠ (.slice Ao11 t210.length co11 : Value).ownBlock) (fun _ => False) rfl rfl ?aO ?aR (fun _ _ h => h) (fun _ h => h.elim) ?aF ?aB ?aS ?aL ?_; (case aR => exact zc (Kd.R_reads' HO212.out).2.2); (case aB => exact (zU HB.out)); (case aF => exact (fun k_ hk => Kd.fresh' (Kd.R_lt (zr HO212.out)) k_ hk)); (case aO => exact (by (with_reducible repeat (first | apply zA | apply zB | apply zC)); exact Kd.R_mono HO209.out (fun _ hk => hk.2))); (case aS => exact (Ar (zU HB.out))); (case aL => have := LMc5.out; omega); intro v214 w10 ho hb hg hat; rw [← Ny213.out] at ho; have n0_ := zk (Kd.R_after (ok := (fun _ => True)) (zr HO212.out) hg hat); have n1_ := zk (hb); have n2_ := zk (ho); clear HO212; clear HB; clear HO209; have HO212 := n0_; have HB := n1_; have HO215 := n2_; clear n0_ n1_ n2_; clear ho hb hg hat; obtain ⟨Ao12, co12, eo12⟩ := Kd.R_slice HO215.out; subst eo12) | ((with_reducible refine Al (f := 50) rfl ?_); refine Bz (some 10) rfl rfl Tryz.func50 zz rfl #[.slice Ao12 y213.length co12] rfl zM ?_; (with_reducible refine (Bn.calls k (fun k_ => some k_ = (.slice Ao12 y213.length co12 : Value).ownBlock) (.slice Ao12 y213.length co12) y213 t216 t219 w _ ?side1 ?side2 A6.out).mono ?_); (case side1 => repeat (first | (with_reducible first | exact HB.out | apply zD | apply zE | apply zF) | exact HB.out)); (case side2 => exact Kd.R_tight rfl HO215.out); rintro e w13 ⟨v217, rfl, ho0, hy0, hb, hkp⟩; refine ⟨_, rfl, ?_⟩; replace HO215 := zk (Kd.R_reok rfl hy0 (fun k_ e_ => HO215.out.1 k_ e_)); have HO218 := zk (Kd.R_mono (ok' := fun k_ => some k_ ≠ (.slice Ao11 t210.length co11 : Value).ownBlock ∧ some k_ ≠ (.slice Ao12 y213.length co12 : Value).ownBlock) ho0 (fun k_ hk_ => ⟨Or.elim hk_.1 (fun hs_ => fun e_ => (((HO212.out).1 k_ e_.symm).2) hs_) (fun hn_ => (Kd.fresh' (Kd.R_lt (zr HO212.out)) k_ hn_)), hk_.2⟩)); replace HO212 := zk (Kd.R_mono (ok' := fun k_ => some k_ ≠ (.slice Ao12 y213.length co12 : Value).ownBlock ∧ some k_ ≠ (v217 : Value).ownBlock) (Kd.R_keptB (HO212.out) hkp (fun k_ hk_ hs_ => (hk_.2) hs_)) (fun k_ hk_ => ⟨hk_.1.2, fun e_ => Or.elim (ho0.1 k_ e_.symm).1 (fun hs_ => hk_.2.1 hs_) (fun hn_ => Nat.not_le.2 hk_.2.2 hn_)⟩)); replace HB := zk (hb);  (try clear hb); (try clear hkp); (try clear ho0); (try clear hy0); obtain ⟨Ao14, co14, eo14⟩ := Kd.R_slice HO218.out; subst eo14) | ((with_reducible refine Al (f := 47) rfl ?_); refine Bz (some 11) rfl rfl Tryz.func47 zz rfl #[.slice Ao14 t216.length co14] rfl zM ?_; (with_reducible refine (Db.calls k _ _ t216 t220 _ ?side1 ?side2 A7.out).mono ?_); (case side1 => exact zc (Kd.R_reads' HO218.out).2.2); (case side2 => exact (Kd.R_reads' HO218.out).2.1); rintro e w15 ⟨v221, rfl, ho0, hb⟩; refine ⟨_, rfl, ?_⟩; replace HO212 := zk (Kd.R_below (zr HO212.out) hb); replace HO215 := zk (Kd.R_below (zr HO215.out) hb); replace HO218 := zk (Kd.R_below (zr HO218.out) hb); have HO222 := zk (Kd.R_lower ho0 (Ar (zU HB.out))); replace HB := zs HB hb;  (try clear hb); (try clear hb2); (try clear hk); (try clear hi); (try clear ho0)))
  go_ret
  exact ⟨_, ze, by (with_reducible repeat (first | apply zA | apply zB | apply zC)); exact HO222.out, zU HB.out⟩
 ·rw [if_neg c5] at H; cases H
end Go.Proofs.I
