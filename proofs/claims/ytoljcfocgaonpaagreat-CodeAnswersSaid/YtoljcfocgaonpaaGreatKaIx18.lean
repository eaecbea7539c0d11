/- Words and walks of this claim, of the text Ix18. -/
import Derived.Test.YtoljcfocgaonpaaGreatKaQW0
import Derived.Test.YtoljcfocgaonpaaGreatKaIx0
import Derived.Test.YtoljcfocgaonpaaGreatKaIx12
import Derived.Test.YtoljcfocgaonpaaGreatKaIx16
import Derived.Test.YtoljcfocgaonpaaGreatKaIx17
namespace Go.Proofs.I
open Go.RowKit Go.Proofs.Zw.PrintWords Go.Proofs.Zw.PrintLast Go.Proofs.Zw.PrintMore
set_option maxHeartbeats 8000000
set_option maxRecDepth 100000
attribute [local go_sem] Dw Ec El Es Dd Dj Dr Eb
set_option linter.unusedVariables false
set_option linter.unusedSimpArgs false
mutual
def Ak.j0 : Nat → List Int → Bool → List (List (S58)) → Int → Option (Int × Bool)
 | 0, _, _, _, _ => none
 | k + 1, x1, x20, x435000, x435001 => if x20 = true then (some (0, false)) else (Ak.l0 k x1 0 0 x435000 x435001)
def Ak.l0 : Nat → List Int → Int → Int → List (List (S58)) → Int → Option (Int × Bool)
 | 0, _, _, _, _, _ => none
 | k + 1, x1, x6, x7, x435000, x435001 => if x7 < (x1.length : Int) then (if 0 ≤ x7 then (if x7 < (x435000.length : Int) then ((Dx.f k (Co x435000 x7) (wrap64 (rd x1 x7))).bind fun bt438 => (if bt438.2 = true then ((Cg.f k (Co x435000 x7)).bind fun t441 => (Ak.l0 k x1 (wrap64 ((wrap64 (x6 * t441)) + bt438.1)) (wrap64 (x7 + 1)) x435000 x435001)) else (some (0, false)))) else (none)) else (none)) else (some (x6, true))
end
def Ak.f (k : Nat) (l0_0 : List (List (S58))) (a0_1 : Int) (l1 : List Int) : Option (Int × Bool) := (Cj.f k l0_0 a0_1).bind fun t435 => (if t435 = 0 then (Ak.j0 k l1 true l0_0 a0_1) else (Ak.j0 k l1 ((l1.length : Int) != (l0_0.length : Int)) l0_0 a0_1))
def Ak.T7 : Bool × List (List Nat × List Nat) := (true, [([], []), ([0], [0]), ([], []), ([1, 2], [1, 2]), ([3], [3]), ([], []), ([], []), ([5, 6], [5, 6]), ([7], [7]), ([8], [8]), ([4, 9], [4, 9]), ([10], [10]), ([11], [11]), ([11], [11]), ([12, 10, 0, 1, 2, 3, 4, 5, 6, 7, 8, 9, 10, 11, 12], [12]), ([13, 14, 0, 1, 2, 3, 4, 5, 6, 7, 8, 9, 10, 11, 12, 13, 14], [13])])
def Ak.B7 : List Nat := [0, 1, 0, 7, 15, 0, 0, 96, 224, 480, 1023, 2047, 4095, 4095, 8191, 32767]
theorem Ak.tab7 : rtab .any (Jp Tryz.f37 7) = Ak.T7 := by kernel_rfl
theorem Ak.bits7 : Ff Ak.T7.2 Ak.B7 = true := by kernel_rfl
theorem Ak.calls (k : Nat) (A0_0 : Option Addr) (c0_0 : Nat) (l0_0 : List (List (S58))) (a0_1 : Int) (A1 : Option Addr) (c1 : Nat) (l1 : List Int) (r1 : Int) (r2 : Bool) (w : World) (hr0_0 : Kd.C (Kd.slice 58 k58) w A0_0 l0_0.length l0_0) (hc0_0 : l0_0.length ≤ c0_0) (hr1 : Kd.C (Kd.int .u8) w A1 l1.length l1) (hc1 : l1.length ≤ c1) (h : Ak.f k l0_0 a0_1 l1 = some (r1, r2)) :
 Calls Tryz.prog 37 #[.agg #[.slice A0_0 l0_0.length c0_0, .int .i64 a0_1], .slice A1 l1.length c1] w fun e w' => e = .returned (.tuple #[.int .i64 r1, .bool r2]) ∧ Below w.heap.size w w' := by
 have hu44 := Tryz.underlying44; have HR0_0 := zk hr0_0; have HC0_0 := zk hc0_0; clear hr0_0 hc0_0; have HR1 := zk hr1; have HC1 := zk hc1; clear hr1 hc1; have HB := zk (Below.refl w.heap.size w); have H : ((Cj.f k l0_0 a0_1).bind fun t435 => (if t435 = 0 then (Ak.j0 k l1 true l0_0 a0_1) else (Ak.j0 k l1 ((l1.length : Int) != (l0_0.length : Int)) l0_0 a0_1))) = some (r1, r2) := h; clear h; have HC3 := zk H; clear H; go_enter Tryz.func37, Tryz.ntmps37
 go_upto_region 1 with (first | ((with_reducible refine Bd (N := 2) rfl ?_); (try (refine Du (by rfl) ?_; dsimp only)); refine Bb ?hg (N := 2) ?hd (cs := #[.slice A0_0 l0_0.length c0_0, .int .i64 a0_1]) (t := 44) ?hr ?_; (case hd => rfl); (case hg => rfl); (case hr => first | (go_simp; done) | (go_simp; rfl)); intro gb434 hg w4 hbox hb; have BK434 := zk (hbox); have GE434 := zk ((zg hg HB.out : w.heap.size ≤ gb434)); replace HB := zs HB hb;  clear hb hbox hg))
 (try simp only [Act.put, List.setIfInBounds_toArray, List.set_cons_zero, List.set_cons_succ])
 go_cut [20] (fun v20 wc => ∃ (kq : Nat) (x20_2 : Bool), v20 = .bool x20_2 ∧ Aa (Ak.j0 kq l1 x20_2 l0_0 a0_1 = some (r1, r2)) ∧ Aa (kq ≤ k) ∧ Aa (wc.heap[gb434]? = some (.cells #[(.slice A0_0 l0_0.length c0_0), .int .i64 a0_1] 44 (0, 0))) ∧ Aa (Below w.heap.size w wc))
 case first =>
  have H := HC3.out; clear HC3; replace H := Option.bind_eq_some_iff.mp H; obtain ⟨t435, A50, H⟩ := H; replace H : (if t435 = 0 then (Ak.j0 k l1 true l0_0 a0_1) else (Ak.j0 k l1 ((l1.length : Int) != (l0_0.length : Int)) l0_0 a0_1)) = some (r1, r2) := H; have A5 := zk A50; clear A50; by_cases c6 : t435 = 0
  ·rw [if_pos c6] at H; have c6b0 : (t435 == 0) = true := beq_iff_eq.mpr c6; have c6b1 : (t435 != 0) = false := bne_eq_false_iff_eq.mpr c6; clear c6
   (first | rw [c6b0] | (simp only [Hu, Ka]; rw [c6b0]) | skip)
   have H' := zk H; clear H; have hcz7_0 : w4.cell? ⟨gb434, 0, none⟩ = some (.slice A0_0 l0_0.length c0_0) := zh BK434.out 0; have hcz7_1 : w4.cell? ⟨gb434, 1, none⟩ = some (.int .i64 a0_1) := zh BK434.out 1; have hfz7_0 := Ac BK434.out 0; have hfz7_1 := Ac BK434.out 1; go_wp2_with (first | ((with_reducible refine Al (f := 53) rfl ?_); refine Bz (some 11) rfl rfl Tryz.func53 zz rfl #[.agg #[.slice A0_0 l0_0.length c0_0, .int .i64 a0_1]] rfl zM ?_; (with_reducible refine (Cj.calls k _ _ l0_0 a0_1 t435 _ ?side1 ?side2 A5.out).mono ?_); (case side1 => exact zc (Kd.C_below HR0_0.out HB.out)); (case side2 => exact HC0_0.out); rintro e w8 ⟨rfl, hb⟩; refine ⟨_, rfl, ?_⟩; replace BK434 := zk (zbb BK434.out hb); replace HB := zs HB hb;  (try clear hb); (try clear hb2); (try clear hk); (try clear hi)))
   go_meet
   case rel => exact ⟨_, (true), zR, H', ⟨by first | omega | exact Nat.le_refl _⟩, ⟨zb BK434.out⟩, ⟨zU HB.out⟩⟩
  ·rw [if_neg c6] at H; have c6b0 : (t435 == 0) = false := beq_eq_false_iff_ne.mpr c6; have c6b1 : (t435 != 0) = true := bne_iff_ne.mpr c6
   (first | rw [c6b0] | (simp only [Hu, Ka]; rw [c6b0]) | skip)
   have H' := zk H; clear H; have hcz9_0 : w4.cell? ⟨gb434, 0, none⟩ = some (.slice A0_0 l0_0.length c0_0) := zh BK434.out 0; have hcz9_1 : w4.cell? ⟨gb434, 1, none⟩ = some (.int .i64 a0_1) := zh BK434.out 1; have hfz9_0 := Ac BK434.out 0; have hfz9_1 := Ac BK434.out 1; go_wp2_with (first | ((with_reducible refine Al (f := 53) rfl ?_); refine Bz (some 11) rfl rfl Tryz.func53 zz rfl #[.agg #[.slice A0_0 l0_0.length c0_0, .int .i64 a0_1]] rfl zM ?_; (with_reducible refine (Cj.calls k _ _ l0_0 a0_1 t435 _ ?side1 ?side2 A5.out).mono ?_); (case side1 => exact zc (Kd.C_below HR0_0.out HB.out)); (case side2 => exact HC0_0.out); rintro e w10 ⟨rfl, hb⟩; refine ⟨_, rfl, ?_⟩; replace BK434 := zk (zbb BK434.out hb); replace HB := zs HB hb;  (try clear hb); (try clear hb2); (try clear hk); (try clear hi); have hcz11_0 : w10.cell? ⟨gb434, 0, none⟩ = some (.slice A0_0 l0_0.length c0_0) := zh BK434.out 0; have hcz11_1 : w10.cell? ⟨gb434, 1, none⟩ = some (.int .i64 a0_1) := zh BK434.out 1; have hfz11_0 := Ac BK434.out 0; have hfz11_1 := Ac BK434.out 1))
   go_meet
   case rel => exact ⟨_, (((l1.length : Int) != (l0_0.length : Int))), zR, H', ⟨by first | omega | exact Nat.le_refl _⟩, ⟨zb BK434.out⟩, ⟨zU HB.out⟩⟩
 case rest =>
  clear HC3; (try clear c1); (try clear p2); (try clear c3); (try clear c5); (try clear c6); (try clear c6b0); (try clear c6b1); (try clear hcz11_0); (try clear hcz11_1); (try clear hcz7_0); (try clear hcz7_1); (try clear hcz9_0); (try clear hcz9_1); (try clear hfz11_0); (try clear hfz11_1); (try clear hfz7_0); (try clear hfz7_1); (try clear hfz9_0); (try clear hfz9_1); obtain ⟨kq, x20_2, rfl, HA, HJ2, BK434, HB⟩ := hcut; cases kq with
  | zero => exact absurd HA.out (by simp [Ak.j0])
  | succ kj2 =>
   have H := HA.out; clear HA; simp only [Ak.j0] at H; by_cases c12 : x20_2 = true
   ·subst c12; have H1 : (some (0, false)) = some (r1, r2) := by rw [if_pos rfl] at H; exact H
    clear H; have H := H1; clear H1; simp only [Option.some.injEq, Prod.mk.injEq] at H; obtain ⟨rfl, rfl⟩ := H; go_wp2
    go_ret2
    exact ⟨ze, zU HB.out⟩
   ·replace c12 := Bool.eq_false_iff.mpr c12; subst c12; have H1 : (Ak.l0 kj2 l1 0 0 l0_0 a0_1) = some (r1, r2) := by rw [if_neg (show ¬ (false = true) by decide)] at H; exact H
    clear H; have H := H1; clear H1; have H' := zk H; clear H; go_wp2
    go_loopg [6, 7] kj2 (fun kq v6 v7 w' => ∃ (x6_2 : Int) (x7_2 : Int), v6 = .int .i64 x6_2 ∧ v7 = .int .i64 x7_2 ∧ Aa (Ak.l0 kq l1 x6_2 x7_2 l0_0 a0_1 = some (r1, r2)) ∧ Aa (kq ≤ kj2) ∧ Aa (w'.heap[gb434]? = some (.cells #[(.slice A0_0 l0_0.length c0_0), .int .i64 a0_1] 44 (0, 0))) ∧ Aa (Below w.heap.size w w'))
    case atStart => exact ⟨(0), (0), zR, zR, H', ⟨Nat.le_refl _⟩, ⟨zb BK434.out⟩, ⟨zU HB.out⟩⟩
    case round =>
     clear H'; (try clear c1); (try clear p2); (try clear c3); (try clear c5); (try clear c6); (try clear c6b0); (try clear c6b1); (try clear c12); (try clear hcz11_0); (try clear hcz11_1); (try clear hcz7_0); (try clear hcz7_1); (try clear hcz9_0); (try clear hcz9_1); (try clear hfz11_0); (try clear hfz11_1); (try clear hfz7_0); (try clear hfz7_1); (try clear hfz9_0); (try clear hfz9_1); (try clear p2); obtain ⟨x6_2, x7_2, rfl, rfl, HA, HK2, BK434, HB⟩ := hrel
     cases gk with
     | zero => exact absurd HA.out (by simp [Ak.l0])
     | succ k2 =>
      have H := HA.out; clear HA; simp only [Ak.l0] at H; by_cases c13 : x7_2 < (l1.length : Int)
      ·rw [if_pos c13] at H; have c13b0 : decide (x7_2 < (l1.length : Int)) = true := decide_eq_true c13; clear c13; by_cases c14 : 0 ≤ x7_2
       ·rw [if_pos c14] at H; have c14b0 : decide (0 ≤ x7_2) = true := decide_eq_true c14; clear c14; by_cases c15 : x7_2 < (l0_0.length : Int)
        ·rw [if_pos c15] at H; have c15b0 : decide (x7_2 < (l0_0.length : Int)) = true := decide_eq_true c15; clear c15; replace H := Option.bind_eq_some_iff.mp H; obtain ⟨⟨t438, t439⟩, A160, H⟩ := H; replace H : (if t439 = true then ((Cg.f k2 (Co l0_0 x7_2)).bind fun t441 => (Ak.l0 k2 l1 (wrap64 ((wrap64 (x6_2 * t441)) + t438)) (wrap64 (x7_2 + 1)) l0_0 a0_1)) else (some (0, false))) = some (r1, r2) := H; have A16 := zk A160; clear A160; by_cases c17 : t439 = true
         ·subst c17; have H1 : ((Cg.f k2 (Co l0_0 x7_2)).bind fun t441 => (Ak.l0 k2 l1 (wrap64 ((wrap64 (x6_2 * t441)) + t438)) (wrap64 (x7_2 + 1)) l0_0 a0_1)) = some (r1, r2) := by rw [if_pos rfl] at H; exact H
          clear H; have H := H1; clear H1; replace H := Option.bind_eq_some_iff.mp H; obtain ⟨t441, A180, H⟩ := H; replace H : (Ak.l0 k2 l1 (wrap64 ((wrap64 (x6_2 * t441)) + t438)) (wrap64 (x7_2 + 1)) l0_0 a0_1) = some (r1, r2) := H; have A18 := zk A180; clear A180; have H' := zk H; clear H; try go_wp2
          have n0_ := zk (Ay BK434.out); have n1_ := zk (Bv HB.out); clear BK434; clear HB; have BK434 := n0_; have HB := n1_; clear n0_ n1_; have p436 : 0 ≤ (x7_2 : Int) := zT; have q436 : x7_2 < (l0_0.length : Int) := zT; obtain ⟨ad436, A436_0, c436_0, e436, hx436_0, hl436_0, hi436_0⟩ := Ha HR0_0.out x7_2 p436 q436; have hw436_0 := hx436_0; cases e436; replace hx436_0 := zcl HB.out hx436_0; have HR436_0 := zk hi436_0; have HC436_0 := zk hl436_0; clear hi436_0 hl436_0; replace p436 := eq_true p436; replace q436 := eq_true q436; have p437 : 0 ≤ (x7_2 : Int) := zT; have q437 : x7_2 < (l1.length : Int) := zT; obtain ⟨ad437, e437, hx437_0⟩ := Kd.at_int HR1.out x7_2 p437 q437; have hw437_0 := hx437_0; cases e437; replace hx437_0 := zcl HB.out hx437_0; replace p437 := eq_true p437; replace q437 := eq_true q437; refine Ew (n := 16) (S := fun w' => w'.cell? ⟨gb434, 0, none⟩ = some (.slice (some ad436) l0_0.length c0_0) ∧ w'.cell? ⟨gb434, 1, none⟩ = some (.int .i64 a0_1) ∧ w'.cell? (ad436.add (x7_2).toNat) = some (.slice A436_0 (Co l0_0 x7_2).length c436_0) ∧ w'.cell? (ad437.add (x7_2).toNat) = some (.int .u8 (rd l1 x7_2))) (ds := []) #[false, false, false, false, false, false, false, false, false, false, false, false, false, false, false, false] zz rfl rfl ⟨(Ag BK434.out 0).trans rfl, (Ag BK434.out 1).trans rfl, (zcl HB.out hw436_0), (zcl HB.out hw437_0)⟩ (fun hHeld => ?_); refine Cy Ak.tab7 Ak.bits7 (fun HT_ HW_ => ?_); generalize wr.drew = w19 at BK434 HB HR436_0 hx436_0 hx437_0 hHeld ⊢; refine zp 0 (some 28) (v := ?_) (a' := ?_) (bz 16 1) rfl rfl HT_.out zz zQ ?_ ?_ ?_; rotate_left
          ·intro w'; go_simp; with_reducible rfl
          rotate_left
          ·simp only [zy]; rfl
          refine zp 2 (some 30) (v := ?_) (a' := ?_) (bz 16 5) rfl rfl HT_.out zz zQ ?_ ?_ ?_; rotate_left
          ·intro w'; go_simp; with_reducible rfl
          rotate_left
          ·simp only [zy]; rfl
          refine zp 5 (some 33) (v := ?_) (a' := ?_) (bz 16 37) rfl rfl HT_.out zz zQ ?_ ?_ ?_; rotate_left
          ·intro w'; go_simp; with_reducible rfl
          rotate_left
          ·simp only [zy]; rfl
          refine zp 6 (some 34) (v := ?_) (a' := ?_) (bz 16 101) rfl rfl HT_.out zz zQ ?_ ?_ ?_; rotate_left
          ·intro w'; go_simp; with_reducible rfl
          rotate_left
          ·simp only [zy]; rfl
          refine zp 7 (some 35) (v := ?_) (a' := ?_) (bz 16 229) rfl rfl HT_.out zz zQ ?_ ?_ ?_; rotate_left
          ·intro w'; go_simp; with_reducible rfl
          rotate_left
          ·simp only [zy]; rfl
          refine take_ (i := 1) (N := some 29) (v := ?_) (a' := ?_) (bz 16 231) rfl rfl (Bk HT_.out HW_.out zz) zQ (Or.inl ⟨by rfl, ?_⟩) hHeld ?_ ?_; rotate_left
          ·rintro w' ⟨s0, s1, s2, s3⟩; go_simp; with_reducible rfl
          rotate_left
          ·simp only [zy]; rfl
          refine zp 3 (some 31) (v := ?_) (a' := ?_) (bz 16 239) rfl rfl HT_.out zz zQ ?_ ?_ ?_; rotate_left
          ·intro w'; go_simp; with_reducible rfl
          rotate_left
          ·simp only [zy]; rfl
          refine take_ (i := 4) (N := some 32) (v := ?_) (a' := ?_) (bz 16 255) rfl rfl (Bk HT_.out HW_.out zz) zQ (Or.inl ⟨by rfl, ?_⟩) hHeld ?_ ?_; rotate_left
          ·rintro w' ⟨s0, s1, s2, s3⟩; go_simp; with_reducible rfl
          rotate_left
          ·simp only [zy]; rfl
          refine take_ (i := 8) (N := some 36) (v := ?_) (a' := ?_) (bz 16 511) rfl rfl (Bk HT_.out HW_.out zz) zQ (Or.inl ⟨by rfl, ?_⟩) hHeld ?_ ?_; rotate_left
          ·rintro w' ⟨s0, s1, s2, s3⟩; go_simp; with_reducible rfl
          rotate_left
          ·simp only [zy]; rfl
          refine zp 9 (some 37) (v := ?_) (a' := ?_) (bz 16 1023) rfl rfl HT_.out zz zQ ?_ ?_ ?_; rotate_left
          ·intro w'; go_simp; with_reducible rfl
          rotate_left
          ·simp only [zy]; rfl
          refine one_ (i := 10) (N := some 38) (bz 16 2047) rfl rfl (Eh HT_.out zz) (by decide) (fun K hK => ?_); refine Gy Tryz.func57 zz rfl #[.slice A436_0 (Co l0_0 x7_2).length c436_0, .int .i64 (wrap64 (rd l1 x7_2))] (by rfl) rfl rfl zM ?_; with_reducible refine (Dx.calls k2 _ _ (Co l0_0 x7_2) (wrap64 (rd l1 x7_2)) t438 true _ ?side1 ?side2 A16.out).mono ?_; (case side1 => exact zc (Kd.C_below HR436_0.out HB.out))
          (case side2 => exact HC436_0.out)
          rintro e w20 ⟨rfl, hb⟩; refine ⟨_, rfl, ?_⟩; have n0_ := zk (zbb BK434.out hb); have n1_ := zs HB hb; clear BK434; clear HB; have BK434 := n0_; have HB := n1_; clear n0_ n1_; (try clear hb); (try clear hb2); (try clear hk); (try clear hi); refine hK.out _ _ ⟨(Ag BK434.out 0).trans rfl, (Ag BK434.out 1).trans rfl, (zcl HB.out hw436_0), (zcl HB.out hw437_0)⟩ (fun hHeld => ?_); clear hK K; refine Fi (a' := ?_) ?_ ?_; rotate_left
          ·show Act.put _ (some 38) _ = _; simp only [zy]; rfl
          refine zp 11 (some 27) (v := ?_) (a' := ?_) (bz 16 4095) rfl rfl HT_.out zz zQ ?_ ?_ ?_; rotate_left
          ·intro w'; go_simp; with_reducible rfl
          rotate_left
          ·simp only [zy]; rfl
          refine zp 12 (some 39) (v := ?_) (a' := ?_) (bz 16 8191) rfl rfl HT_.out zz zQ ?_ ?_ ?_; rotate_left
          ·intro w'; go_simp; with_reducible rfl
          rotate_left
          ·simp only [zy]; rfl
          refine zp 13 (some 40) (v := ?_) (a' := ?_) (bz 16 16383) rfl rfl HT_.out zz zQ ?_ ?_ ?_; rotate_left
          ·intro w'; go_simp; with_reducible rfl
          rotate_left
          ·simp only [zy]; rfl
          refine zp 14 (some 8) (v := ?_) (a' := ?_) (bz 16 32767) rfl rfl HT_.out zz zQ ?_ ?_ ?_; rotate_left
          ·intro w'; go_simp; with_reducible rfl
          rotate_left
          ·simp only [zy]; rfl
          refine zp 15 (some 9) (v := ?_) (a' := ?_) (bz 16 65535) rfl rfl HT_.out zz zQ ?_ ?_ ?_; rotate_left
          ·intro w'; go_simp; with_reducible rfl
          rotate_left
          ·simp only [zy]; rfl
          refine Gg (Ei HT_.out zz) ?_; have hcz21_0 : w20.cell? ⟨gb434, 0, none⟩ = some (.slice (some ad436) l0_0.length c0_0) := zh BK434.out 0; have hcz21_1 : w20.cell? ⟨gb434, 1, none⟩ = some (.int .i64 a0_1) := zh BK434.out 1; have hfz21_0 := Ac BK434.out 0; have hfz21_1 := Ac BK434.out 1; have p440 : 0 ≤ (x7_2 : Int) := zT; have q440 : x7_2 < (l0_0.length : Int) := zT; obtain ⟨ad440, A440_0, c440_0, e440, hx440_0, hl440_0, hi440_0⟩ := Ha HR0_0.out x7_2 p440 q440; obtain rfl : ad436 = ad440 := (by injection e440); have hz_ := hw436_0.symm.trans hx440_0; injection hz_ with hz1_
          injection hz1_ with hz2_ hz3_ hz4_
          subst hz2_; subst hz4_; clear hz3_; replace hx440_0 := zcl HB.out hx440_0; have HR440_0 := zk hi440_0; have HC440_0 := zk hl440_0; clear hi440_0 hl440_0; replace p440 := eq_true p440; replace q440 := eq_true q440; try go_wp2_with (first | ((with_reducible refine Al (f := 42) rfl ?_); refine Bz (some 49) rfl rfl Tryz.func42 zz rfl #[.slice A436_0 (Co l0_0 x7_2).length c436_0] rfl zM ?_; (with_reducible refine (Cg.calls k2 _ _ (Co l0_0 x7_2) t441 _ ?side1 ?side2 A18.out).mono ?_); (case side1 => exact zc (Kd.C_below HR440_0.out HB.out)); (case side2 => exact HC440_0.out); rintro e w22 ⟨rfl, hb⟩; refine ⟨_, rfl, ?_⟩; replace BK434 := zk (zbb BK434.out hb); replace HB := zs HB hb;  (try clear hb); (try clear hb2); (try clear hk); (try clear hi)))
          go_roundg k2
          case measure => have := HJ2.out; have := HK2.out; omega
          case rel => exact ⟨(wrap64 ((wrap64 (x6_2 * t441)) + t438)), (wrap64 (x7_2 + 1)), zR, zR, H', ⟨by have := HJ2.out; have := HK2.out; omega⟩, ⟨zb BK434.out⟩, ⟨zU HB.out⟩⟩
         ·replace c17 := Bool.eq_false_iff.mpr c17; subst c17; have H1 : (some (0, false)) = some (r1, r2) := by rw [if_neg (show ¬ (false = true) by decide)] at H; exact H
          clear H; have H := H1; clear H1; simp only [Option.some.injEq, Prod.mk.injEq] at H; obtain ⟨rfl, rfl⟩ := H; try go_wp2
          have n0_ := zk (Ay BK434.out); have n1_ := zk (Bv HB.out); clear BK434; clear HB; have BK434 := n0_; have HB := n1_; clear n0_ n1_; have p436 : 0 ≤ (x7_2 : Int) := zT; have q436 : x7_2 < (l0_0.length : Int) := zT; obtain ⟨ad436, A436_0, c436_0, e436, hx436_0, hl436_0, hi436_0⟩ := Ha HR0_0.out x7_2 p436 q436; have hw436_0 := hx436_0; cases e436; replace hx436_0 := zcl HB.out hx436_0; have HR436_0 := zk hi436_0; have HC436_0 := zk hl436_0; clear hi436_0 hl436_0; replace p436 := eq_true p436; replace q436 := eq_true q436; have p437 : 0 ≤ (x7_2 : Int) := zT; have q437 : x7_2 < (l1.length : Int) := zT; obtain ⟨ad437, e437, hx437_0⟩ := Kd.at_int HR1.out x7_2 p437 q437; have hw437_0 := hx437_0; cases e437; replace hx437_0 := zcl HB.out hx437_0; replace p437 := eq_true p437; replace q437 := eq_true q437; refine Ew (n := 16) (S := fun w' => w'.cell? ⟨gb434, 0, none⟩ = some (.slice (some ad436) l0_0.length c0_0) ∧ w'.cell? ⟨gb434, 1, none⟩ = some (.int .i64 a0_1) ∧ w'.cell? (ad436.add (x7_2).toNat) = some (.slice A436_0 (Co l0_0 x7_2).length c436_0) ∧ w'.cell? (ad437.add (x7_2).toNat) = some (.int .u8 (rd l1 x7_2))) (ds := []) #[false, false, false, false, false, false, false, false, false, false, false, false, false, false, false, false] zz rfl rfl ⟨(Ag BK434.out 0).trans rfl, (Ag BK434.out 1).trans rfl, (zcl HB.out hw436_0), (zcl HB.out hw437_0)⟩ (fun hHeld => ?_); refine Cy Ak.tab7 Ak.bits7 (fun HT_ HW_ => ?_); generalize wr.drew = w23 at BK434 HB HR436_0 hx436_0 hx437_0 hHeld ⊢; refine zp 0 (some 28) (v := ?_) (a' := ?_) (bz 16 1) rfl rfl HT_.out zz zQ ?_ ?_ ?_; rotate_left
          ·intro w'; go_simp; with_reducible rfl
          rotate_left
          ·simp only [zy]; rfl
          refine zp 2 (some 30) (v := ?_) (a' := ?_) (bz 16 5) rfl rfl HT_.out zz zQ ?_ ?_ ?_; rotate_left
          ·intro w'; go_simp; with_reducible rfl
          rotate_left
          ·simp only [zy]; rfl
          refine zp 5 (some 33) (v := ?_) (a' := ?_) (bz 16 37) rfl rfl HT_.out zz zQ ?_ ?_ ?_; rotate_left
          ·intro w'; go_simp; with_reducible rfl
          rotate_left
          ·simp only [zy]; rfl
          refine zp 6 (some 34) (v := ?_) (a' := ?_) (bz 16 101) rfl rfl HT_.out zz zQ ?_ ?_ ?_; rotate_left
          ·intro w'; go_simp; with_reducible rfl
          rotate_left
          ·simp only [zy]; rfl
          refine zp 7 (some 35) (v := ?_) (a' := ?_) (bz 16 229) rfl rfl HT_.out zz zQ ?_ ?_ ?_; rotate_left
          ·intro w'; go_simp; with_reducible rfl
          rotate_left
          ·simp only [zy]; rfl
          refine take_ (i := 1) (N := some 29) (v := ?_) (a' := ?_) (bz 16 231) rfl rfl (Bk HT_.out HW_.out zz) zQ (Or.inl ⟨by rfl, ?_⟩) hHeld ?_ ?_; rotate_left
          ·rintro w' ⟨s0, s1, s2, s3⟩; go_simp; with_reducible rfl
          rotate_left
          ·simp only [zy]; rfl
          refine zp 3 (some 31) (v := ?_) (a' := ?_) (bz 16 239) rfl rfl HT_.out zz zQ ?_ ?_ ?_; rotate_left
          ·intro w'; go_simp; with_reducible rfl
          rotate_left
          ·simp only [zy]; rfl
          refine take_ (i := 4) (N := some 32) (v := ?_) (a' := ?_) (bz 16 255) rfl rfl (Bk HT_.out HW_.out zz) zQ (Or.inl ⟨by rfl, ?_⟩) hHeld ?_ ?_; rotate_left
          ·rintro w' ⟨s0, s1, s2, s3⟩; go_simp; with_reducible rfl
          rotate_left
          ·simp only [zy]; rfl
          refine take_ (i := 8) (N := some 36) (v := ?_) (a' := ?_) (bz 16 511) rfl rfl (Bk HT_.out HW_.out zz) zQ (Or.inl ⟨by rfl, ?_⟩) hHeld ?_ ?_; rotate_left
          ·rintro w' ⟨s0, s1, s2, s3⟩; go_simp; with_reducible rfl
          rotate_left
          ·simp only [zy]; rfl
          refine zp 9 (some 37) (v := ?_) (a' := ?_) (bz 16 1023) rfl rfl HT_.out zz zQ ?_ ?_ ?_; rotate_left
          ·intro w'; go_simp; with_reducible rfl
          rotate_left
          ·simp only [zy]; rfl
          refine one_ (i := 10) (N := some 38) (bz 16 2047) rfl rfl (Eh HT_.out zz) (by decide) (fun K hK => ?_); refine Gy Tryz.func57 zz rfl #[.slice A436_0 (Co l0_0 x7_2).length c436_0, .int .i64 (wrap64 (rd l1 x7_2))] (by rfl) rfl rfl zM ?_; with_reducible refine (Dx.calls k2 _ _ (Co l0_0 x7_2) (wrap64 (rd l1 x7_2)) t438 false _ ?side1 ?side2 A16.out).mono ?_; (case side1 => exact zc (Kd.C_below HR436_0.out HB.out))
          (case side2 => exact HC436_0.out)
          rintro e w24 ⟨rfl, hb⟩; refine ⟨_, rfl, ?_⟩; have n0_ := zk (zbb BK434.out hb); have n1_ := zs HB hb; clear BK434; clear HB; have BK434 := n0_; have HB := n1_; clear n0_ n1_; (try clear hb); (try clear hb2); (try clear hk); (try clear hi); refine hK.out _ _ ⟨(Ag BK434.out 0).trans rfl, (Ag BK434.out 1).trans rfl, (zcl HB.out hw436_0), (zcl HB.out hw437_0)⟩ (fun hHeld => ?_); clear hK K; refine Fi (a' := ?_) ?_ ?_; rotate_left
          ·show Act.put _ (some 38) _ = _; simp only [zy]; rfl
          refine zp 11 (some 27) (v := ?_) (a' := ?_) (bz 16 4095) rfl rfl HT_.out zz zQ ?_ ?_ ?_; rotate_left
          ·intro w'; go_simp; with_reducible rfl
          rotate_left
          ·simp only [zy]; rfl
          refine zp 12 (some 39) (v := ?_) (a' := ?_) (bz 16 8191) rfl rfl HT_.out zz zQ ?_ ?_ ?_; rotate_left
          ·intro w'; go_simp; with_reducible rfl
          rotate_left
          ·simp only [zy]; rfl
          refine zp 13 (some 40) (v := ?_) (a' := ?_) (bz 16 16383) rfl rfl HT_.out zz zQ ?_ ?_ ?_; rotate_left
          ·intro w'; go_simp; with_reducible rfl
          rotate_left
          ·simp only [zy]; rfl
          refine zp 14 (some 8) (v := ?_) (a' := ?_) (bz 16 32767) rfl rfl HT_.out zz zQ ?_ ?_ ?_; rotate_left
          ·intro w'; go_simp; with_reducible rfl
          rotate_left
          ·simp only [zy]; rfl
          refine zp 15 (some 9) (v := ?_) (a' := ?_) (bz 16 65535) rfl rfl HT_.out zz zQ ?_ ?_ ?_; rotate_left
          ·intro w'; go_simp; with_reducible rfl
          rotate_left
          ·simp only [zy]; rfl
          refine Gg (Ei HT_.out zz) ?_; try go_wp2
          go_ret2
          exact ⟨ze, zU HB.out⟩
        ·rw [if_neg c15] at H; cases H
       ·rw [if_neg c14] at H; cases H
      ·rw [if_neg c13] at H; have c13b0 : decide (x7_2 < (l1.length : Int)) = false := decide_eq_false c13; clear c13; simp only [Option.some.injEq, Prod.mk.injEq] at H; obtain ⟨rfl, rfl⟩ := H; go_wp2
       go_ret2
       exact ⟨ze, zU HB.out⟩
def Aw.l0 : Nat → List Int → Int → Bool → Int → List (S44) → Option (Int × Bool)
 | 0, _, _, _, _, _ => none
 | k + 1, x1, x6, x7, x8, x443000 => if x8 < (x443000.length : Int) then (if 0 ≤ x8 then ((Ak.f k ((Ad x443000 x8).f0) ((Ad x443000 x8).f1) x1).bind fun bt444 => (if bt444.2 = true then (if x7 = true then (if (wrap64 (((Ad x443000 x8).f1) + bt444.1)) < x6 then (Aw.l0 k x1 (wrap64 (((Ad x443000 x8).f1) + bt444.1)) true (wrap64 (x8 + 1)) x443000) else (Aw.l0 k x1 x6 x7 (wrap64 (x8 + 1)) x443000)) else (Aw.l0 k x1 (wrap64 (((Ad x443000 x8).f1) + bt444.1)) true (wrap64 (x8 + 1)) x443000)) else (Aw.l0 k x1 x6 x7 (wrap64 (x8 + 1)) x443000))) else (none)) else (some (x6, x7))
def Aw.f (k : Nat) (l0_0 : List (S44)) (l1 : List Int) : Option (Int × Bool) := Aw.l0 k l1 0 false 0 l0_0
theorem Aw.calls (k : Nat) (A0_0 : Option Addr) (c0_0 : Nat) (l0_0 : List (S44)) (A1 : Option Addr) (c1 : Nat) (l1 : List Int) (r1 : Int) (r2 : Bool) (w : World) (hr0_0 : Kd.C k44 w A0_0 l0_0.length l0_0) (hc0_0 : l0_0.length ≤ c0_0) (hr1 : Kd.C (Kd.int .u8) w A1 l1.length l1) (hc1 : l1.length ≤ c1) (h : Aw.f k l0_0 l1 = some (r1, r2)) :
 Calls Tryz.prog 20 #[.agg #[.slice A0_0 l0_0.length c0_0], .slice A1 l1.length c1] w fun e w' => e = .returned (.tuple #[.int .i64 r1, .bool r2]) ∧ Below w.heap.size w w' := by
 have hu24 := Tryz.underlying24; have hu44 := Tryz.underlying44; have HR0_0 := zk hr0_0; have HC0_0 := zk hc0_0; clear hr0_0 hc0_0; have HR1 := zk hr1; have HC1 := zk hc1; clear hr1 hc1; have HB := zk (Below.refl w.heap.size w); have H : (Aw.l0 k l1 0 false 0 l0_0) = some (r1, r2) := h; clear h; have H' := zk H; clear H; go_enter Tryz.func20, Tryz.ntmps20
 go_wp2_with (first | ((with_reducible refine Bd (N := 2) rfl ?_); refine Bb ?hg (N := 2) ?hd (cs := #[.slice A0_0 l0_0.length c0_0]) (t := 24) ?hr ?_; (case hd => rfl); (case hg => rfl); (case hr => first | (go_simp; done) | (go_simp; rfl)); intro gb442 hg w3 hbox hb; have BK442 := zk (hbox); have GE442 := zk ((zg hg HB.out : w.heap.size ≤ gb442)); replace HB := zs HB hb;  clear hb hbox hg))
 go_loopg [6, 7, 8] k (fun kq v6 v7 v8 w' => ∃ (x6_1 : Int) (x7_1 : Bool) (x8_1 : Int), v6 = .int .i64 x6_1 ∧ v7 = .bool x7_1 ∧ v8 = .int .i64 x8_1 ∧ Aa (Aw.l0 kq l1 x6_1 x7_1 x8_1 l0_0 = some (r1, r2)) ∧ Aa (kq ≤ k) ∧ Aa (w'.heap[gb442]? = some (.cells #[(.slice A0_0 l0_0.length c0_0)] 24 (0, 0))) ∧ Aa (Below w.heap.size w w'))
 case atStart => exact ⟨(0), (false), (0), zR, zR, zR, H', ⟨Nat.le_refl _⟩, ⟨zb BK442.out⟩, ⟨zU HB.out⟩⟩
 case round =>
  clear H'; (try clear c1); (try clear c2); (try clear p2); obtain ⟨x6_1, x7_1, x8_1, rfl, rfl, rfl, HA, HK1, BK442, HB⟩ := hrel
  cases gk with
  | zero => exact absurd HA.out (by simp [Aw.l0])
  | succ k1 =>
   have H := HA.out; clear HA; simp only [Aw.l0] at H; by_cases c4 : x8_1 < (l0_0.length : Int)
   ·rw [if_pos c4] at H; have c4b0 : decide (x8_1 < (l0_0.length : Int)) = true := decide_eq_true c4; clear c4; by_cases c5 : 0 ≤ x8_1
    ·rw [if_pos c5] at H; have c5b0 : decide (0 ≤ x8_1) = true := decide_eq_true c5; clear c5; replace H := Option.bind_eq_some_iff.mp H; obtain ⟨⟨t444, t445⟩, A60, H⟩ := H; replace H : (if t445 = true then (if x7_1 = true then (if (wrap64 (((Ad l0_0 x8_1).f1) + t444)) < x6_1 then (Aw.l0 k1 l1 (wrap64 (((Ad l0_0 x8_1).f1) + t444)) true (wrap64 (x8_1 + 1)) l0_0) else (Aw.l0 k1 l1 x6_1 x7_1 (wrap64 (x8_1 + 1)) l0_0)) else (Aw.l0 k1 l1 (wrap64 (((Ad l0_0 x8_1).f1) + t444)) true (wrap64 (x8_1 + 1)) l0_0)) else (Aw.l0 k1 l1 x6_1 x7_1 (wrap64 (x8_1 + 1)) l0_0)) = some (r1, r2) := H; have A6 := zk A60; clear A60; by_cases c7 : t445 = true
     ·subst c7; have H1 : (if x7_1 = true then (if (wrap64 (((Ad l0_0 x8_1).f1) + t444)) < x6_1 then (Aw.l0 k1 l1 (wrap64 (((Ad l0_0 x8_1).f1) + t444)) true (wrap64 (x8_1 + 1)) l0_0) else (Aw.l0 k1 l1 x6_1 x7_1 (wrap64 (x8_1 + 1)) l0_0)) else (Aw.l0 k1 l1 (wrap64 (((Ad l0_0 x8_1).f1) + t444)) true (wrap64 (x8_1 + 1)) l0_0)) = some (r1, r2) := by rw [if_pos rfl] at H; exact H
      clear H; have H := H1; clear H1; by_cases c8 : x7_1 = true
      ·subst c8; have H1 : (if (wrap64 (((Ad l0_0 x8_1).f1) + t444)) < x6_1 then (Aw.l0 k1 l1 (wrap64 (((Ad l0_0 x8_1).f1) + t444)) true (wrap64 (x8_1 + 1)) l0_0) else (Aw.l0 k1 l1 x6_1 true (wrap64 (x8_1 + 1)) l0_0)) = some (r1, r2) := by rw [if_pos rfl] at H; exact H
       clear H; have H := H1; clear H1; by_cases c9 : (wrap64 (((Ad l0_0 x8_1).f1) + t444)) < x6_1
       ·rw [if_pos c9] at H; have c9b0 : decide ((wrap64 (((Ad l0_0 x8_1).f1) + t444)) < x6_1) = true := decide_eq_true c9; clear c9; have H' := zk H; clear H; have hcz10_0 : wr.cell? ⟨gb442, 0, none⟩ = some (.slice A0_0 l0_0.length c0_0) := zh BK442.out 0; have hfz10_0 := Ac BK442.out 0; have p443 : 0 ≤ (x8_1 : Int) := zT; have q443 : x8_1 < (l0_0.length : Int) := zT; obtain ⟨ad443, A443_0, c443_0, e443, hx443_0, hx443_1, hl443_0, hi443_0⟩ := Cz HR0_0.out x8_1 p443 q443; cases e443; replace hx443_0 := zcl HB.out hx443_0; replace hx443_1 := zcl HB.out hx443_1; have HR443_0 := zk hi443_0; have HC443_0 := zk hl443_0; clear hi443_0 hl443_0; replace p443 := eq_true p443; replace q443 := eq_true q443; go_wp2_with (first | ((with_reducible refine Al (f := 37) rfl ?_); refine Bz (some 25) rfl rfl Tryz.func37 zz rfl #[.agg #[.slice A443_0 ((Ad l0_0 x8_1).f0).length c443_0, .int .i64 ((Ad l0_0 x8_1).f1)], .slice A1 l1.length c1] rfl zM ?_; (with_reducible refine (Ak.calls k1 _ _ ((Ad l0_0 x8_1).f0) ((Ad l0_0 x8_1).f1) _ _ l1 t444 true _ ?side1 ?side2 ?side3 ?side4 A6.out).mono ?_); (case side1 => exact zc (Kd.C_below HR443_0.out HB.out)); (case side2 => exact HC443_0.out); (case side3 => exact zc (Kd.C_below HR1.out HB.out)); (case side4 => exact HC1.out); rintro e w11 ⟨rfl, hb⟩; refine ⟨_, rfl, ?_⟩; replace BK442 := zk (zbb BK442.out hb); replace HB := zs HB hb;  (try clear hb); (try clear hb2); (try clear hk); (try clear hi); have hcz12_0 : w11.cell? ⟨gb442, 0, none⟩ = some (.slice (some ad443) l0_0.length c0_0) := zh BK442.out 0; have hfz12_0 := Ac BK442.out 0; have p446 : 0 ≤ (x8_1 : Int) := zT; have q446 : x8_1 < (l0_0.length : Int) := zT; obtain ⟨ad446, A446_0, c446_0, e446, hx446_0, hx446_1, hl446_0, hi446_0⟩ := Cz HR0_0.out x8_1 p446 q446; obtain rfl : ad443 = ad446 := (by injection e446); replace hx446_0 := zcl HB.out hx446_0; replace hx446_1 := zcl HB.out hx446_1; have HR446_0 := zk hi446_0; have HC446_0 := zk hl446_0; clear hi446_0 hl446_0; replace p446 := eq_true p446; replace q446 := eq_true q446; have p447 : 0 ≤ (x8_1 : Int) := zT; have q447 : x8_1 < (l0_0.length : Int) := zT; obtain ⟨ad447, A447_0, c447_0, e447, hx447_0, hx447_1, hl447_0, hi447_0⟩ := Cz HR0_0.out x8_1 p447 q447; obtain rfl : ad443 = ad447 := (by injection e447); replace hx447_0 := zcl HB.out hx447_0; replace hx447_1 := zcl HB.out hx447_1; have HR447_0 := zk hi447_0; have HC447_0 := zk hl447_0; clear hi447_0 hl447_0; replace p447 := eq_true p447; replace q447 := eq_true q447; have ea_ := Option.some.inj (hx446_0.symm.trans hx447_0); injection ea_ with ea_ en_ ec_; subst ea_; subst ec_; clear en_))
        go_roundg k1
        case measure => have := HK1.out; omega
        case rel => exact ⟨(wrap64 (((Ad l0_0 x8_1).f1) + t444)), (true), (wrap64 (x8_1 + 1)), zR, zR, zR, H', ⟨by have := HK1.out; omega⟩, ⟨zb BK442.out⟩, ⟨zU HB.out⟩⟩
       ·rw [if_neg c9] at H; have c9b0 : decide ((wrap64 (((Ad l0_0 x8_1).f1) + t444)) < x6_1) = false := decide_eq_false c9; clear c9; have H' := zk H; clear H; have hcz13_0 : wr.cell? ⟨gb442, 0, none⟩ = some (.slice A0_0 l0_0.length c0_0) := zh BK442.out 0; have hfz13_0 := Ac BK442.out 0; have p443 : 0 ≤ (x8_1 : Int) := zT; have q443 : x8_1 < (l0_0.length : Int) := zT; obtain ⟨ad443, A443_0, c443_0, e443, hx443_0, hx443_1, hl443_0, hi443_0⟩ := Cz HR0_0.out x8_1 p443 q443; cases e443; replace hx443_0 := zcl HB.out hx443_0; replace hx443_1 := zcl HB.out hx443_1; have HR443_0 := zk hi443_0; have HC443_0 := zk hl443_0; clear hi443_0 hl443_0; replace p443 := eq_true p443; replace q443 := eq_true q443; go_wp2_with (first | ((with_reducible refine Al (f := 37) rfl ?_); refine Bz (some 25) rfl rfl Tryz.func37 zz rfl #[.agg #[.slice A443_0 ((Ad l0_0 x8_1).f0).length c443_0, .int .i64 ((Ad l0_0 x8_1).f1)], .slice A1 l1.length c1] rfl zM ?_; (with_reducible refine (Ak.calls k1 _ _ ((Ad l0_0 x8_1).f0) ((Ad l0_0 x8_1).f1) _ _ l1 t444 true _ ?side1 ?side2 ?side3 ?side4 A6.out).mono ?_); (case side1 => exact zc (Kd.C_below HR443_0.out HB.out)); (case side2 => exact HC443_0.out); (case side3 => exact zc (Kd.C_below HR1.out HB.out)); (case side4 => exact HC1.out); rintro e w14 ⟨rfl, hb⟩; refine ⟨_, rfl, ?_⟩; replace BK442 := zk (zbb BK442.out hb); replace HB := zs HB hb;  (try clear hb); (try clear hb2); (try clear hk); (try clear hi); have hcz15_0 : w14.cell? ⟨gb442, 0, none⟩ = some (.slice (some ad443) l0_0.length c0_0) := zh BK442.out 0; have hfz15_0 := Ac BK442.out 0; have p446 : 0 ≤ (x8_1 : Int) := zT; have q446 : x8_1 < (l0_0.length : Int) := zT; obtain ⟨ad446, A446_0, c446_0, e446, hx446_0, hx446_1, hl446_0, hi446_0⟩ := Cz HR0_0.out x8_1 p446 q446; obtain rfl : ad443 = ad446 := (by injection e446); replace hx446_0 := zcl HB.out hx446_0; replace hx446_1 := zcl HB.out hx446_1; have HR446_0 := zk hi446_0; have HC446_0 := zk hl446_0; clear hi446_0 hl446_0; replace p446 := eq_true p446; replace q446 := eq_true q446))
        go_roundg k1
        case measure => have := HK1.out; omega
        case rel => exact ⟨(x6_1), (true), (wrap64 (x8_1 + 1)), zR, zR, zR, H', ⟨by have := HK1.out; omega⟩, ⟨zb BK442.out⟩, ⟨zU HB.out⟩⟩
      ·replace c8 := Bool.eq_false_iff.mpr c8; subst c8; have H1 : (Aw.l0 k1 l1 (wrap64 (((Ad l0_0 x8_1).f1) + t444)) true (wrap64 (x8_1 + 1)) l0_0) = some (r1, r2) := by rw [if_neg (show ¬ (false = true) by decide)] at H; exact H
       clear H; have H := H1; clear H1; have H' := zk H; clear H; have hcz16_0 : wr.cell? ⟨gb442, 0, none⟩ = some (.slice A0_0 l0_0.length c0_0) := zh BK442.out 0; have hfz16_0 := Ac BK442.out 0; have p443 : 0 ≤ (x8_1 : Int) := zT; have q443 : x8_1 < (l0_0.length : Int) := zT; obtain ⟨ad443, A443_0, c443_0, e443, hx443_0, hx443_1, hl443_0, hi443_0⟩ := Cz HR0_0.out x8_1 p443 q443; cases e443; replace hx443_0 := zcl HB.out hx443_0; replace hx443_1 := zcl HB.out hx443_1; have HR443_0 := zk hi443_0; have HC443_0 := zk hl443_0; clear hi443_0 hl443_0; replace p443 := eq_true p443; replace q443 := eq_true q443; go_wp2_with (first | ((with_reducible refine Al (f := 37) rfl ?_); refine Bz (some 25) rfl rfl Tryz.func37 zz rfl #[.agg #[.slice A443_0 ((Ad l0_0 x8_1).f0).length c443_0, .int .i64 ((Ad l0_0 x8_1).f1)], .slice A1 l1.length c1] rfl zM ?_; (with_reducible refine (Ak.calls k1 _ _ ((Ad l0_0 x8_1).f0) ((Ad l0_0 x8_1).f1) _ _ l1 t444 true _ ?side1 ?side2 ?side3 ?side4 A6.out).mono ?_); (case side1 => exact zc (Kd.C_below HR443_0.out HB.out)); (case side2 => exact HC443_0.out); (case side3 => exact zc (Kd.C_below HR1.out HB.out)); (case side4 => exact HC1.out); rintro e w17 ⟨rfl, hb⟩; refine ⟨_, rfl, ?_⟩; replace BK442 := zk (zbb BK442.out hb); replace HB := zs HB hb;  (try clear hb); (try clear hb2); (try clear hk); (try clear hi); have hcz18_0 : w17.cell? ⟨gb442, 0, none⟩ = some (.slice (some ad443) l0_0.length c0_0) := zh BK442.out 0; have hfz18_0 := Ac BK442.out 0; have p448 : 0 ≤ (x8_1 : Int) := zT; have q448 : x8_1 < (l0_0.length : Int) := zT; obtain ⟨ad448, A448_0, c448_0, e448, hx448_0, hx448_1, hl448_0, hi448_0⟩ := Cz HR0_0.out x8_1 p448 q448; obtain rfl : ad443 = ad448 := (by injection e448); replace hx448_0 := zcl HB.out hx448_0; replace hx448_1 := zcl HB.out hx448_1; have HR448_0 := zk hi448_0; have HC448_0 := zk hl448_0; clear hi448_0 hl448_0; replace p448 := eq_true p448; replace q448 := eq_true q448))
       go_roundg k1
       case measure => have := HK1.out; omega
       case rel => exact ⟨(wrap64 (((Ad l0_0 x8_1).f1) + t444)), (true), (wrap64 (x8_1 + 1)), zR, zR, zR, H', ⟨by have := HK1.out; omega⟩, ⟨zb BK442.out⟩, ⟨zU HB.out⟩⟩
     ·replace c7 := Bool.eq_false_iff.mpr c7; subst c7; have H1 : (Aw.l0 k1 l1 x6_1 x7_1 (wrap64 (x8_1 + 1)) l0_0) = some (r1, r2) := by rw [if_neg (show ¬ (false = true) by decide)] at H; exact H
      clear H; have H := H1; clear H1; have H' := zk H; clear H; have hcz19_0 : wr.cell? ⟨gb442, 0, none⟩ = some (.slice A0_0 l0_0.length c0_0) := zh BK442.out 0; have hfz19_0 := Ac BK442.out 0; have p443 : 0 ≤ (x8_1 : Int) := zT; have q443 : x8_1 < (l0_0.length : Int) := zT; obtain ⟨ad443, A443_0, c443_0, e443, hx443_0, hx443_1, hl443_0, hi443_0⟩ := Cz HR0_0.out x8_1 p443 q443; cases e443; replace hx443_0 := zcl HB.out hx443_0; replace hx443_1 := zcl HB.out hx443_1; have HR443_0 := zk hi443_0; have HC443_0 := zk hl443_0; clear hi443_0 hl443_0; replace p443 := eq_true p443; replace q443 := eq_true q443; go_wp2_with (first | ((with_reducible refine Al (f := 37) rfl ?_); refine Bz (some 25) rfl rfl Tryz.func37 zz rfl #[.agg #[.slice A443_0 ((Ad l0_0 x8_1).f0).length c443_0, .int .i64 ((Ad l0_0 x8_1).f1)], .slice A1 l1.length c1] rfl zM ?_; (with_reducible refine (Ak.calls k1 _ _ ((Ad l0_0 x8_1).f0) ((Ad l0_0 x8_1).f1) _ _ l1 t444 false _ ?side1 ?side2 ?side3 ?side4 A6.out).mono ?_); (case side1 => exact zc (Kd.C_below HR443_0.out HB.out)); (case side2 => exact HC443_0.out); (case side3 => exact zc (Kd.C_below HR1.out HB.out)); (case side4 => exact HC1.out); rintro e w20 ⟨rfl, hb⟩; refine ⟨_, rfl, ?_⟩; replace BK442 := zk (zbb BK442.out hb); replace HB := zs HB hb;  (try clear hb); (try clear hb2); (try clear hk); (try clear hi)))
      go_roundg k1
      case measure => have := HK1.out; omega
      case rel => exact ⟨(x6_1), (x7_1), (wrap64 (x8_1 + 1)), zR, zR, zR, H', ⟨by have := HK1.out; omega⟩, ⟨zb BK442.out⟩, ⟨zU HB.out⟩⟩
    ·rw [if_neg c5] at H; cases H
   ·rw [if_neg c4] at H; have c4b0 : decide (x8_1 < (l0_0.length : Int)) = false := decide_eq_false c4; clear c4; simp only [Option.some.injEq, Prod.mk.injEq] at H; obtain ⟨rfl, rfl⟩ := H; have hcz21_0 : wr.cell? ⟨gb442, 0, none⟩ = some (.slice A0_0 l0_0.length c0_0) := zh BK442.out 0; have hfz21_0 := Ac BK442.out 0; go_wp2
    go_ret2
    exact ⟨ze, zU HB.out⟩
end Go.Proofs.I
