/- Words and walks of this claim, of the text Ix9. -/
import Derived.Test.YtoljcfocgaonpaaGreatKaQW0
import Derived.Test.YtoljcfocgaonpaaGreatKaIx0
import Derived.Test.YtoljcfocgaonpaaGreatKaIx7
import Derived.Test.YtoljcfocgaonpaaGreatKaIx8
namespace Go.Proofs.I
open Go.RowKit Go.Proofs.Zw.PrintWords Go.Proofs.Zw.PrintLast Go.Proofs.Zw.PrintMore
set_option maxHeartbeats 8000000
set_option maxRecDepth 100000
attribute [local go_sem] Dw Ec El Es Dd Dj Dr Eb
set_option linter.unusedVariables false
set_option linter.unusedSimpArgs false
mutual
def Bt.j0 : Nat → List Int → Bool → List (List (S58)) → Int → Option (Int × Bool)
 | 0, _, _, _, _ => none
 | k + 1, x1, x21, x299000, x299001 => if x21 = true then (some (0, false)) else ((Cc.f k x299000 x299001).bind fun t300 => (if 1 ≤ (t300.length : Int) then ((some (t300.drop (1 : Int).toNat : List Int)).bind fun y303 => (Bt.l0 k x1 0 y303 (y303.length : Int) 0 x299000 x299001)) else (none)))
def Bt.l0 : Nat → List Int → Int → List Int → Int → Int → List (List (S58)) → Int → Option (Int × Bool)
 | 0, _, _, _, _, _, _, _ => none
 | k + 1, x1, x6, x24, x25, x26, x299000, x299001 => if x26 < x25 then (if 0 ≤ x26 then (if x26 < (x24.length : Int) then (if x26 < (x299000.length : Int) then (if x26 < (x1.length : Int) then ((Hl.f k (Co x299000 x26) (wrap64 (rd x1 x26))).bind fun bt309 => (if bt309.2 = true then (Bt.l0 k x1 (wrap64 (x6 + (wrap64 (bt309.1 * (rd x24 x26))))) x24 x25 (wrap64 (x26 + 1)) x299000 x299001) else (some (0, false)))) else (none)) else (none)) else (none)) else (none)) else (some (x6, true))
end
def Bt.f (k : Nat) (l0_0 : List (List (S58))) (a0_1 : Int) (l1 : List Int) : Option (Int × Bool) := (En.f k l0_0 a0_1).bind fun t299 => (if t299 = true then (Bt.j0 k l1 ((l1.length : Int) != (l0_0.length : Int)) l0_0 a0_1) else (Bt.j0 k l1 true l0_0 a0_1))
def Bt.T7 : Bool × List (List Nat × List Nat) := (true, [([], []), ([0], [0]), ([], []), ([1, 2], [1, 2]), ([3], [3]), ([], []), ([], []), ([5, 6], [5, 6]), ([7], [7]), ([8], [8]), ([4, 9], [4, 9]), ([10], [10]), ([11], [11]), ([11], [11]), ([12, 10, 0, 1, 2, 3, 4, 5, 6, 7, 8, 9, 10, 11, 12], [12]), ([13, 14, 0, 1, 2, 3, 4, 5, 6, 7, 8, 9, 10, 11, 12, 13, 14], [13])])
def Bt.B7 : List Nat := [0, 1, 0, 7, 15, 0, 0, 96, 224, 480, 1023, 2047, 4095, 4095, 8191, 32767]
theorem Bt.tab7 : rtab .any (Jp Tryz.f19 7) = Bt.T7 := by kernel_rfl
theorem Bt.bits7 : Ff Bt.T7.2 Bt.B7 = true := by kernel_rfl
theorem Bt.calls (k : Nat) (A0_0 : Option Addr) (c0_0 : Nat) (l0_0 : List (List (S58))) (a0_1 : Int) (A1 : Option Addr) (c1 : Nat) (l1 : List Int) (r1 : Int) (r2 : Bool) (w : World) (hr0_0 : Kd.C (Kd.slice 58 k58) w A0_0 l0_0.length l0_0) (hc0_0 : l0_0.length ≤ c0_0) (hr1 : Kd.C (Kd.int .u8) w A1 l1.length l1) (hc1 : l1.length ≤ c1) (h : Bt.f k l0_0 a0_1 l1 = some (r1, r2)) :
 Calls Tryz.prog 19 #[.agg #[.slice A0_0 l0_0.length c0_0, .int .i64 a0_1], .slice A1 l1.length c1] w fun e w' => e = .returned (.tuple #[.int .i64 r1, .bool r2]) ∧ Below w.heap.size w w' := by
 have hu44 := Tryz.underlying44; have HR0_0 := zk hr0_0; have HC0_0 := zk hc0_0; clear hr0_0 hc0_0; have HR1 := zk hr1; have HC1 := zk hc1; clear hr1 hc1; have HB := zk (Below.refl w.heap.size w); have H : ((En.f k l0_0 a0_1).bind fun t299 => (if t299 = true then (Bt.j0 k l1 ((l1.length : Int) != (l0_0.length : Int)) l0_0 a0_1) else (Bt.j0 k l1 true l0_0 a0_1))) = some (r1, r2) := h; clear h; have HC3 := zk H; clear H; go_enter Tryz.func19, Tryz.ntmps19
 go_upto_region 1 with (first | ((with_reducible refine Bd (N := 2) rfl ?_); (try (refine Du (by rfl) ?_; dsimp only)); refine Bb ?hg (N := 2) ?hd (cs := #[.slice A0_0 l0_0.length c0_0, .int .i64 a0_1]) (t := 44) ?hr ?_; (case hd => rfl); (case hg => rfl); (case hr => first | (go_simp; done) | (go_simp; rfl)); intro gb298 hg w4 hbox hb; have BK298 := zk (hbox); have GE298 := zk ((zg hg HB.out : w.heap.size ≤ gb298)); replace HB := zs HB hb;  clear hb hbox hg))
 (try simp only [Act.put, List.setIfInBounds_toArray, List.set_cons_zero, List.set_cons_succ])
 go_cut [21] (fun v21 wc => ∃ (kq : Nat) (x21_2 : Bool), v21 = .bool x21_2 ∧ Aa (Bt.j0 kq l1 x21_2 l0_0 a0_1 = some (r1, r2)) ∧ Aa (kq ≤ k) ∧ Aa (wc.heap[gb298]? = some (.cells #[(.slice A0_0 l0_0.length c0_0), .int .i64 a0_1] 44 (0, 0))) ∧ Aa (Below w.heap.size w wc))
 case first =>
  have H := HC3.out; clear HC3; replace H := Option.bind_eq_some_iff.mp H; obtain ⟨t299, A50, H⟩ := H; replace H : (if t299 = true then (Bt.j0 k l1 ((l1.length : Int) != (l0_0.length : Int)) l0_0 a0_1) else (Bt.j0 k l1 true l0_0 a0_1)) = some (r1, r2) := H; have A5 := zk A50; clear A50; by_cases c6 : t299 = true
  ·subst c6; have H1 : (Bt.j0 k l1 ((l1.length : Int) != (l0_0.length : Int)) l0_0 a0_1) = some (r1, r2) := by rw [if_pos rfl] at H; exact H
   clear H; have H := H1; clear H1; have H' := zk H; clear H; have hcz7_0 : w4.cell? ⟨gb298, 0, none⟩ = some (.slice A0_0 l0_0.length c0_0) := zh BK298.out 0; have hcz7_1 : w4.cell? ⟨gb298, 1, none⟩ = some (.int .i64 a0_1) := zh BK298.out 1; have hfz7_0 := Ac BK298.out 0; have hfz7_1 := Ac BK298.out 1; go_wp2_with (first | ((with_reducible refine Al (f := 34) rfl ?_); refine Bz (some 12) rfl rfl Tryz.func34 zz rfl #[.agg #[.slice A0_0 l0_0.length c0_0, .int .i64 a0_1]] rfl zM ?_; (with_reducible refine (En.calls k (fun k_ => k_ < w.heap.size) _ _ l0_0 a0_1 true _ ?side1 A5.out).mono ?_); (case side1 => exact Kd.V_mk HC0_0.out (Kd.F_below (Kd.C_F (Kd.heap_slice 58 k58_heap) HR0_0.out) (zU HB.out))); rintro e w8 ⟨rfl, hb⟩; refine ⟨_, rfl, ?_⟩; replace BK298 := zk (zbb BK298.out hb); replace HB := zs HB hb;  (try clear hb); (try clear hb2); (try clear hk); (try clear hi); have hcz9_0 : w8.cell? ⟨gb298, 0, none⟩ = some (.slice A0_0 l0_0.length c0_0) := zh BK298.out 0; have hcz9_1 : w8.cell? ⟨gb298, 1, none⟩ = some (.int .i64 a0_1) := zh BK298.out 1; have hfz9_0 := Ac BK298.out 0; have hfz9_1 := Ac BK298.out 1))
   go_meet
   case rel => exact ⟨_, (((l1.length : Int) != (l0_0.length : Int))), zR, H', ⟨by first | omega | exact Nat.le_refl _⟩, ⟨zb BK298.out⟩, ⟨zU HB.out⟩⟩
  ·replace c6 := Bool.eq_false_iff.mpr c6; subst c6; have H1 : (Bt.j0 k l1 true l0_0 a0_1) = some (r1, r2) := by rw [if_neg (show ¬ (false = true) by decide)] at H; exact H
   clear H; have H := H1; clear H1; have H' := zk H; clear H; have hcz10_0 : w4.cell? ⟨gb298, 0, none⟩ = some (.slice A0_0 l0_0.length c0_0) := zh BK298.out 0; have hcz10_1 : w4.cell? ⟨gb298, 1, none⟩ = some (.int .i64 a0_1) := zh BK298.out 1; have hfz10_0 := Ac BK298.out 0; have hfz10_1 := Ac BK298.out 1; go_wp2_with (first | ((with_reducible refine Al (f := 34) rfl ?_); refine Bz (some 12) rfl rfl Tryz.func34 zz rfl #[.agg #[.slice A0_0 l0_0.length c0_0, .int .i64 a0_1]] rfl zM ?_; (with_reducible refine (En.calls k (fun k_ => k_ < w.heap.size) _ _ l0_0 a0_1 false _ ?side1 A5.out).mono ?_); (case side1 => exact Kd.V_mk HC0_0.out (Kd.F_below (Kd.C_F (Kd.heap_slice 58 k58_heap) HR0_0.out) (zU HB.out))); rintro e w11 ⟨rfl, hb⟩; refine ⟨_, rfl, ?_⟩; replace BK298 := zk (zbb BK298.out hb); replace HB := zs HB hb;  (try clear hb); (try clear hb2); (try clear hk); (try clear hi)))
   go_meet
   case rel => exact ⟨_, (true), zR, H', ⟨by first | omega | exact Nat.le_refl _⟩, ⟨zb BK298.out⟩, ⟨zU HB.out⟩⟩
 case rest =>
  clear HC3; (try clear c1); (try clear p2); (try clear c3); (try clear c6); (try clear hcz10_0); (try clear hcz10_1); (try clear hcz7_0); (try clear hcz7_1); (try clear hcz9_0); (try clear hcz9_1); (try clear hfz10_0); (try clear hfz10_1); (try clear hfz7_0); (try clear hfz7_1); (try clear hfz9_0); (try clear hfz9_1); obtain ⟨kq, x21_2, rfl, HA, HJ2, BK298, HB⟩ := hcut; cases kq with
  | zero => exact absurd HA.out (by simp [Bt.j0])
  | succ kj2 =>
   have H := HA.out; clear HA; simp only [Bt.j0] at H; by_cases c12 : x21_2 = true
   ·subst c12; have H1 : (some (0, false)) = some (r1, r2) := by rw [if_pos rfl] at H; exact H
    clear H; have H := H1; clear H1; simp only [Option.some.injEq, Prod.mk.injEq] at H; obtain ⟨rfl, rfl⟩ := H; go_wp2
    go_ret2
    exact ⟨ze, zU HB.out⟩
   ·replace c12 := Bool.eq_false_iff.mpr c12; subst c12; have H1 : ((Cc.f kj2 l0_0 a0_1).bind fun t300 => (if 1 ≤ (t300.length : Int) then ((some (t300.drop (1 : Int).toNat : List Int)).bind fun y303 => (Bt.l0 kj2 l1 0 y303 (y303.length : Int) 0 l0_0 a0_1)) else (none))) = some (r1, r2) := by rw [if_neg (show ¬ (false = true) by decide)] at H; exact H
    clear H; have H := H1; clear H1; replace H := Option.bind_eq_some_iff.mp H; obtain ⟨t300, A130, H⟩ := H; replace H : (if 1 ≤ (t300.length : Int) then ((some (t300.drop (1 : Int).toNat : List Int)).bind fun y303 => (Bt.l0 kj2 l1 0 y303 (y303.length : Int) 0 l0_0 a0_1)) else (none)) = some (r1, r2) := H; have A13 := zk A130; clear A130; by_cases c14 : 1 ≤ (t300.length : Int)
    ·rw [if_pos c14] at H; have c14b0 := eq_true c14; have c14b1 : decide (1 ≤ (t300.length : Int)) = true := decide_eq_true c14; clear c14; obtain ⟨y303, hy303⟩ : ∃ y_ : List Int, y_ = (t300.drop (1 : Int).toNat) := ⟨_, rfl⟩
     replace H : (Bt.l0 kj2 l1 0 y303 (y303.length : Int) 0 l0_0 a0_1) = some (r1, r2) := by first | (rw [hy303]; with_reducible exact H) | (have H2_ := (Option.bind_some _ _).symm.trans H; rw [hy303]; with_reducible exact H2_) | (have H2_ := (Option.bind_some _ _).symm.trans H; with_reducible exact H2_) | with_reducible exact H | (rw [hy303]; exact H) | exact H
     have Ny303 := zk hy303; clear hy303; have H' := zk H; clear H; have hcz15_0 : wc.cell? ⟨gb298, 0, none⟩ = some (.slice A0_0 l0_0.length c0_0) := zh BK298.out 0; have hcz15_1 : wc.cell? ⟨gb298, 1, none⟩ = some (.int .i64 a0_1) := zh BK298.out 1; have hfz15_0 := Ac BK298.out 0; have hfz15_1 := Ac BK298.out 1; go_wp2_with (first | ((with_reducible refine Al (f := 35) rfl ?_); refine Bz (some 23) rfl rfl Tryz.func35 zz rfl #[.agg #[.slice A0_0 l0_0.length c0_0, .int .i64 a0_1]] rfl zM ?_; (with_reducible refine (Cc.calls kj2 _ _ l0_0 a0_1 t300 _ ?side1 ?side2 A13.out).mono ?_); (case side1 => exact zc (Kd.C_below HR0_0.out HB.out)); (case side2 => exact HC0_0.out); rintro e w16 ⟨v301, rfl, ho0, hb⟩; refine ⟨_, rfl, ?_⟩; have HO302 := zk (Kd.R_lower ho0 (Ar (zU HB.out))); replace BK298 := zk (zbb BK298.out hb); replace HB := zs HB hb;  (try clear hb); (try clear hb2); (try clear hk); (try clear hi); (try clear ho0); obtain ⟨Ao17, co17, eo17⟩ := Kd.R_slice HO302.out; subst eo17; have q18 : (1 : Int) ≤ ((t300.length : Int) : Int) := zT; obtain ⟨i018, hi018, _, hsz18, _⟩ := info_parts info3; have hcut18 := Hc (P := Tryz.prog) 69 3 .i64 Tryz.underlying69 hi018 1 hsz18 Ao17 t300.length co17 1 (by omega) q18; have hr18 := Kd.Q_drop (k := (1 : Int).toNat) (Kd.Q_of_R HO302.out) (by omega); obtain ⟨A18, hA18⟩ : ∃ A1, A1 = (if co17 = (1 : Int).toNat then Ao17 else (Ao17 : Option Addr).map (·.add ((1 : Int).toNat * 1))) := ⟨_, rfl⟩; obtain ⟨c18, hc18⟩ : ∃ c1, c1 = co17 - (1 : Int).toNat := ⟨_, rfl⟩; have hy18 : y303.length = t300.length - (1 : Int).toNat := (by rw [Ny303.out, List.length_drop]); rw [← Ny303.out] at hr18; rw [← hy18, ← hA18, ← hc18] at hcut18; replace hr18 : Kd.Q (Kd.int .i64) 3 w16 w.heap.size (fun _ => True) (.slice A18 y303.length c18) y303 := (by rw [hA18, hc18, hy18]; exact hr18); have HE18 : Aa ((Value.slice A18 y303.length c18).ownBlock = (.slice Ao17 t300.length co17 : Value).ownBlock) := ⟨by rw [hA18]; split <;> (cases (Ao17 : Option Addr) <;> rfl)⟩; clear hy18 hi018 hsz18 HO302 hA18 hc18; have HO305 := zk hr18; clear hr18; replace q18 := eq_true q18))
     go_loopg [6, 26] kj2 (fun kq v6 v26 w' => ∃ (x6_2 : Int) (x26_2 : Int), v6 = .int .i64 x6_2 ∧ v26 = .int .i64 x26_2 ∧ Aa (Bt.l0 kq l1 x6_2 y303 (y303.length : Int) x26_2 l0_0 a0_1 = some (r1, r2)) ∧ Aa (kq ≤ kj2) ∧ Aa (Kd.Q (Kd.int .i64) 3 w' w.heap.size (fun _ => True) (.slice A18 y303.length c18) y303) ∧ Aa (w'.heap[gb298]? = some (.cells #[(.slice A0_0 l0_0.length c0_0), .int .i64 a0_1] 44 (0, 0))) ∧ Aa (Below w.heap.size w w'))
     case atStart => exact ⟨(0), (0), zR, zR, H', ⟨Nat.le_refl _⟩, ⟨by (with_reducible repeat (first | apply Kd.Q_alloc | apply Kd.Q_drewN | apply Kd.Q_drew)); exact HO305.out⟩, ⟨zb BK298.out⟩, ⟨zU HB.out⟩⟩
     case round =>
      clear H'; (try clear c1); (try clear q1); (try clear p2); (try clear c3); (try clear c6); (try clear c12); (try clear c14); (try clear c14b0); (try clear c14b1); (try clear c18); (try clear q18); (try clear hcz10_0); (try clear hcz10_1); (try clear hcz15_0); (try clear hcz15_1); (try clear hcz7_0); (try clear hcz7_1); (try clear hcz9_0); (try clear hcz9_1); (try clear hfz10_0); (try clear hfz10_1); (try clear hfz15_0); (try clear hfz15_1); (try clear hfz7_0); (try clear hfz7_1); (try clear hfz9_0); (try clear hfz9_1); (try clear p2); (try clear q18); obtain ⟨x6_2, x26_2, rfl, rfl, HA, HK2, HO_24, BK298, HB⟩ := hrel
      cases gk with
      | zero => exact absurd HA.out (by simp [Bt.l0])
      | succ k2 =>
       have H := HA.out; clear HA; simp only [Bt.l0] at H; by_cases c19 : x26_2 < (y303.length : Int)
       ·rw [if_pos c19] at H; have c19b0 : decide (x26_2 < (y303.length : Int)) = true := decide_eq_true c19; clear c19; by_cases c20 : 0 ≤ x26_2
        ·rw [if_pos c20] at H; have c20b0 : decide (0 ≤ x26_2) = true := decide_eq_true c20; clear c20; by_cases c21 : x26_2 < (y303.length : Int)
         ·rw [if_pos c21] at H; have c21b0 : decide (x26_2 < (y303.length : Int)) = true := decide_eq_true c21; clear c21; by_cases c22 : x26_2 < (l0_0.length : Int)
          ·rw [if_pos c22] at H; have c22b0 : decide (x26_2 < (l0_0.length : Int)) = true := decide_eq_true c22; clear c22; by_cases c23 : x26_2 < (l1.length : Int)
           ·rw [if_pos c23] at H; have c23b0 : decide (x26_2 < (l1.length : Int)) = true := decide_eq_true c23; clear c23; replace H := Option.bind_eq_some_iff.mp H; obtain ⟨⟨t309, t310⟩, A240, H⟩ := H; replace H : (if t310 = true then (Bt.l0 k2 l1 (wrap64 (x6_2 + (wrap64 (t309 * (rd y303 x26_2))))) y303 (y303.length : Int) (wrap64 (x26_2 + 1)) l0_0 a0_1) else (some (0, false))) = some (r1, r2) := H; have A24 := zk A240; clear A240; by_cases c25 : t310 = true
            ·subst c25; have H1 : (Bt.l0 k2 l1 (wrap64 (x6_2 + (wrap64 (t309 * (rd y303 x26_2))))) y303 (y303.length : Int) (wrap64 (x26_2 + 1)) l0_0 a0_1) = some (r1, r2) := by rw [if_pos rfl] at H; exact H
             clear H; have H := H1; clear H1; have H' := zk H; clear H; have p306 : 0 ≤ (x26_2 : Int) := zT; have q306 : x26_2 < (y303.length : Int) := zT; obtain ⟨ad306, e306, hx306_0⟩ := Kd.at_int (Kd.Q_reads' HO_24.out).2.2 x26_2 p306 q306; cases e306; replace p306 := eq_true p306; replace q306 := eq_true q306; try go_wp2
             have n0_ := zk (Kd.Q_drew HO_24.out); have n1_ := zk (Ay BK298.out); have n2_ := zk (Bv HB.out); clear HO_24; clear BK298; clear HB; have HO_24 := n0_; have BK298 := n1_; have HB := n2_; clear n0_ n1_ n2_; have p307 : 0 ≤ (x26_2 : Int) := zT; have q307 : x26_2 < (l0_0.length : Int) := zT; obtain ⟨ad307, A307_0, c307_0, e307, hx307_0, hl307_0, hi307_0⟩ := Ha HR0_0.out x26_2 p307 q307; have hw307_0 := hx307_0; cases e307; replace hx307_0 := zcl HB.out hx307_0; have HR307_0 := zk hi307_0; have HC307_0 := zk hl307_0; clear hi307_0 hl307_0; replace p307 := eq_true p307; replace q307 := eq_true q307; have p308 : 0 ≤ (x26_2 : Int) := zT; have q308 : x26_2 < (l1.length : Int) := zT; obtain ⟨ad308, e308, hx308_0⟩ := Kd.at_int HR1.out x26_2 p308 q308; have hw308_0 := hx308_0; cases e308; replace hx308_0 := zcl HB.out hx308_0; replace p308 := eq_true p308; replace q308 := eq_true q308; refine Ew (n := 16) (S := fun w' => w'.cell? ⟨gb298, 0, none⟩ = some (.slice (some ad307) l0_0.length c0_0) ∧ w'.cell? ⟨gb298, 1, none⟩ = some (.int .i64 a0_1) ∧ w'.cell? (ad307.add (x26_2).toNat) = some (.slice A307_0 (Co l0_0 x26_2).length c307_0) ∧ w'.cell? (ad308.add (x26_2).toNat) = some (.int .u8 (rd l1 x26_2))) (ds := []) #[false, false, false, false, false, false, false, false, false, false, false, false, false, false, false, false] zz rfl rfl ⟨(Ag BK298.out 0).trans rfl, (Ag BK298.out 1).trans rfl, (zcl HB.out hw307_0), (zcl HB.out hw308_0)⟩ (fun hHeld => ?_); refine Cy Bt.tab7 Bt.bits7 (fun HT_ HW_ => ?_); generalize wr.drew = w26 at HO_24 BK298 HB HR307_0 hx307_0 hx308_0 hHeld ⊢; refine zp 0 (some 32) (v := ?_) (a' := ?_) (bz 16 1) rfl rfl HT_.out zz zQ ?_ ?_ ?_; rotate_left
             ·intro w'; go_simp; with_reducible rfl
             rotate_left
             ·simp only [zy]; rfl
             refine zp 2 (some 34) (v := ?_) (a' := ?_) (bz 16 5) rfl rfl HT_.out zz zQ ?_ ?_ ?_; rotate_left
             ·intro w'; go_simp; with_reducible rfl
             rotate_left
             ·simp only [zy]; rfl
             refine zp 5 (some 37) (v := ?_) (a' := ?_) (bz 16 37) rfl rfl HT_.out zz zQ ?_ ?_ ?_; rotate_left
             ·intro w'; go_simp; with_reducible rfl
             rotate_left
             ·simp only [zy]; rfl
             refine zp 6 (some 38) (v := ?_) (a' := ?_) (bz 16 101) rfl rfl HT_.out zz zQ ?_ ?_ ?_; rotate_left
             ·intro w'; go_simp; with_reducible rfl
             rotate_left
             ·simp only [zy]; rfl
             refine zp 7 (some 39) (v := ?_) (a' := ?_) (bz 16 229) rfl rfl HT_.out zz zQ ?_ ?_ ?_; rotate_left
             ·intro w'; go_simp; with_reducible rfl
             rotate_left
             ·simp only [zy]; rfl
             refine take_ (i := 1) (N := some 33) (v := ?_) (a' := ?_) (bz 16 231) rfl rfl (Bk HT_.out HW_.out zz) zQ (Or.inl ⟨by rfl, ?_⟩) hHeld ?_ ?_; rotate_left
             ·rintro w' ⟨s0, s1, s2, s3⟩; go_simp; with_reducible rfl
             rotate_left
             ·simp only [zy]; rfl
             refine zp 3 (some 35) (v := ?_) (a' := ?_) (bz 16 239) rfl rfl HT_.out zz zQ ?_ ?_ ?_; rotate_left
             ·intro w'; go_simp; with_reducible rfl
             rotate_left
             ·simp only [zy]; rfl
             refine take_ (i := 4) (N := some 36) (v := ?_) (a' := ?_) (bz 16 255) rfl rfl (Bk HT_.out HW_.out zz) zQ (Or.inl ⟨by rfl, ?_⟩) hHeld ?_ ?_; rotate_left
             ·rintro w' ⟨s0, s1, s2, s3⟩; go_simp; with_reducible rfl
             rotate_left
             ·simp only [zy]; rfl
             refine take_ (i := 8) (N := some 40) (v := ?_) (a' := ?_) (bz 16 511) rfl rfl (Bk HT_.out HW_.out zz) zQ (Or.inl ⟨by rfl, ?_⟩) hHeld ?_ ?_; rotate_left
             ·rintro w' ⟨s0, s1, s2, s3⟩; go_simp; with_reducible rfl
             rotate_left
             ·simp only [zy]; rfl
             refine zp 9 (some 41) (v := ?_) (a' := ?_) (bz 16 1023) rfl rfl HT_.out zz zQ ?_ ?_ ?_; rotate_left
             ·intro w'; go_simp; with_reducible rfl
             rotate_left
             ·simp only [zy]; rfl
             refine one_ (i := 10) (N := some 42) (bz 16 2047) rfl rfl (Eh HT_.out zz) (by decide) (fun K hK => ?_); refine Gy Tryz.func36 zz rfl #[.slice A307_0 (Co l0_0 x26_2).length c307_0, .int .i64 (wrap64 (rd l1 x26_2))] (by rfl) rfl rfl zM ?_; with_reducible refine (Hl.calls k2 _ _ (Co l0_0 x26_2) (wrap64 (rd l1 x26_2)) t309 true _ ?side1 ?side2 A24.out).mono ?_; (case side1 => exact zc (Kd.C_below HR307_0.out HB.out))
             (case side2 => exact HC307_0.out)
             rintro e w27 ⟨rfl, hb⟩; refine ⟨_, rfl, ?_⟩; have n0_ := zk (Kd.Q_below (by (with_reducible repeat (first | apply Kd.Q_alloc | apply Kd.Q_drewN | apply Kd.Q_drew)); exact HO_24.out) hb); have n1_ := zk (zbb BK298.out hb); have n2_ := zs HB hb; clear HO_24; clear BK298; clear HB; have HO_24 := n0_; have BK298 := n1_; have HB := n2_; clear n0_ n1_ n2_; (try clear hb); (try clear hb2); (try clear hk); (try clear hi); refine hK.out _ _ ⟨(Ag BK298.out 0).trans rfl, (Ag BK298.out 1).trans rfl, (zcl HB.out hw307_0), (zcl HB.out hw308_0)⟩ (fun hHeld => ?_); clear hK K; refine Fi (a' := ?_) ?_ ?_; rotate_left
             ·show Act.put _ (some 42) _ = _; simp only [zy]; rfl
             refine zp 11 (some 31) (v := ?_) (a' := ?_) (bz 16 4095) rfl rfl HT_.out zz zQ ?_ ?_ ?_; rotate_left
             ·intro w'; go_simp; with_reducible rfl
             rotate_left
             ·simp only [zy]; rfl
             refine zp 12 (some 43) (v := ?_) (a' := ?_) (bz 16 8191) rfl rfl HT_.out zz zQ ?_ ?_ ?_; rotate_left
             ·intro w'; go_simp; with_reducible rfl
             rotate_left
             ·simp only [zy]; rfl
             refine zp 13 (some 44) (v := ?_) (a' := ?_) (bz 16 16383) rfl rfl HT_.out zz zQ ?_ ?_ ?_; rotate_left
             ·intro w'; go_simp; with_reducible rfl
             rotate_left
             ·simp only [zy]; rfl
             refine zp 14 (some 9) (v := ?_) (a' := ?_) (bz 16 32767) rfl rfl HT_.out zz zQ ?_ ?_ ?_; rotate_left
             ·intro w'; go_simp; with_reducible rfl
             rotate_left
             ·simp only [zy]; rfl
             refine zp 15 (some 10) (v := ?_) (a' := ?_) (bz 16 65535) rfl rfl HT_.out zz zQ ?_ ?_ ?_; rotate_left
             ·intro w'; go_simp; with_reducible rfl
             rotate_left
             ·simp only [zy]; rfl
             refine Gg (Ei HT_.out zz) ?_; try go_wp2
             go_roundg k2
             case measure => have := HJ2.out; have := HK2.out; omega
             case rel => exact ⟨(wrap64 (x6_2 + (wrap64 (t309 * (rd y303 x26_2))))), (wrap64 (x26_2 + 1)), zR, zR, H', ⟨by have := HJ2.out; have := HK2.out; omega⟩, ⟨by (with_reducible repeat (first | apply Kd.Q_alloc | apply Kd.Q_drewN | apply Kd.Q_drew)); exact HO_24.out⟩, ⟨zb BK298.out⟩, ⟨zU HB.out⟩⟩
            ·replace c25 := Bool.eq_false_iff.mpr c25; subst c25; have H1 : (some (0, false)) = some (r1, r2) := by rw [if_neg (show ¬ (false = true) by decide)] at H; exact H
             clear H; have H := H1; clear H1; simp only [Option.some.injEq, Prod.mk.injEq] at H; obtain ⟨rfl, rfl⟩ := H; have p306 : 0 ≤ (x26_2 : Int) := zT; have q306 : x26_2 < (y303.length : Int) := zT; obtain ⟨ad306, e306, hx306_0⟩ := Kd.at_int (Kd.Q_reads' HO_24.out).2.2 x26_2 p306 q306; cases e306; replace p306 := eq_true p306; replace q306 := eq_true q306; try go_wp2
             have n0_ := zk (Kd.Q_drew HO_24.out); have n1_ := zk (Ay BK298.out); have n2_ := zk (Bv HB.out); clear HO_24; clear BK298; clear HB; have HO_24 := n0_; have BK298 := n1_; have HB := n2_; clear n0_ n1_ n2_; have p307 : 0 ≤ (x26_2 : Int) := zT; have q307 : x26_2 < (l0_0.length : Int) := zT; obtain ⟨ad307, A307_0, c307_0, e307, hx307_0, hl307_0, hi307_0⟩ := Ha HR0_0.out x26_2 p307 q307; have hw307_0 := hx307_0; cases e307; replace hx307_0 := zcl HB.out hx307_0; have HR307_0 := zk hi307_0; have HC307_0 := zk hl307_0; clear hi307_0 hl307_0; replace p307 := eq_true p307; replace q307 := eq_true q307; have p308 : 0 ≤ (x26_2 : Int) := zT; have q308 : x26_2 < (l1.length : Int) := zT; obtain ⟨ad308, e308, hx308_0⟩ := Kd.at_int HR1.out x26_2 p308 q308; have hw308_0 := hx308_0; cases e308; replace hx308_0 := zcl HB.out hx308_0; replace p308 := eq_true p308; replace q308 := eq_true q308; refine Ew (n := 16) (S := fun w' => w'.cell? ⟨gb298, 0, none⟩ = some (.slice (some ad307) l0_0.length c0_0) ∧ w'.cell? ⟨gb298, 1, none⟩ = some (.int .i64 a0_1) ∧ w'.cell? (ad307.add (x26_2).toNat) = some (.slice A307_0 (Co l0_0 x26_2).length c307_0) ∧ w'.cell? (ad308.add (x26_2).toNat) = some (.int .u8 (rd l1 x26_2))) (ds := []) #[false, false, false, false, false, false, false, false, false, false, false, false, false, false, false, false] zz rfl rfl ⟨(Ag BK298.out 0).trans rfl, (Ag BK298.out 1).trans rfl, (zcl HB.out hw307_0), (zcl HB.out hw308_0)⟩ (fun hHeld => ?_); refine Cy Bt.tab7 Bt.bits7 (fun HT_ HW_ => ?_); generalize wr.drew = w28 at HO_24 BK298 HB HR307_0 hx307_0 hx308_0 hHeld ⊢; refine zp 0 (some 32) (v := ?_) (a' := ?_) (bz 16 1) rfl rfl HT_.out zz zQ ?_ ?_ ?_; rotate_left
             ·intro w'; go_simp; with_reducible rfl
             rotate_left
             ·simp only [zy]; rfl
             refine zp 2 (some 34) (v := ?_) (a' := ?_) (bz 16 5) rfl rfl HT_.out zz zQ ?_ ?_ ?_; rotate_left
             ·intro w'; go_simp; with_reducible rfl
             rotate_left
             ·simp only [zy]; rfl
             refine zp 5 (some 37) (v := ?_) (a' := ?_) (bz 16 37) rfl rfl HT_.out zz zQ ?_ ?_ ?_; rotate_left
             ·intro w'; go_simp; with_reducible rfl
             rotate_left
             ·simp only [zy]; rfl
             refine zp 6 (some 38) (v := ?_) (a' := ?_) (bz 16 101) rfl rfl HT_.out zz zQ ?_ ?_ ?_; rotate_left
             ·intro w'; go_simp; with_reducible rfl
             rotate_left
             ·simp only [zy]; rfl
             refine zp 7 (some 39) (v := ?_) (a' := ?_) (bz 16 229) rfl rfl HT_.out zz zQ ?_ ?_ ?_; rotate_left
             ·intro w'; go_simp; with_reducible rfl
             rotate_left
             ·simp only [zy]; rfl
             refine take_ (i := 1) (N := some 33) (v := ?_) (a' := ?_) (bz 16 231) rfl rfl (Bk HT_.out HW_.out zz) zQ (Or.inl ⟨by rfl, ?_⟩) hHeld ?_ ?_; rotate_left
             ·rintro w' ⟨s0, s1, s2, s3⟩; go_simp; with_reducible rfl
             rotate_left
             ·simp only [zy]; rfl
             refine zp 3 (some 35) (v := ?_) (a' := ?_) (bz 16 239) rfl rfl HT_.out zz zQ ?_ ?_ ?_; rotate_left
             ·intro w'; go_simp; with_reducible rfl
             rotate_left
             ·simp only [zy]; rfl
             refine take_ (i := 4) (N := some 36) (v := ?_) (a' := ?_) (bz 16 255) rfl rfl (Bk HT_.out HW_.out zz) zQ (Or.inl ⟨by rfl, ?_⟩) hHeld ?_ ?_; rotate_left
             ·rintro w' ⟨s0, s1, s2, s3⟩; go_simp; with_reducible rfl
             rotate_left
             ·simp only [zy]; rfl
             refine take_ (i := 8) (N := some 40) (v := ?_) (a' := ?_) (bz 16 511) rfl rfl (Bk HT_.out HW_.out zz) zQ (Or.inl ⟨by rfl, ?_⟩) hHeld ?_ ?_; rotate_left
             ·rintro w' ⟨s0, s1, s2, s3⟩; go_simp; with_reducible rfl
             rotate_left
             ·simp only [zy]; rfl
             refine zp 9 (some 41) (v := ?_) (a' := ?_) (bz 16 1023) rfl rfl HT_.out zz zQ ?_ ?_ ?_; rotate_left
             ·intro w'; go_simp; with_reducible rfl
             rotate_left
             ·simp only [zy]; rfl
             refine one_ (i := 10) (N := some 42) (bz 16 2047) rfl rfl (Eh HT_.out zz) (by decide) (fun K hK => ?_); refine Gy Tryz.func36 zz rfl #[.slice A307_0 (Co l0_0 x26_2).length c307_0, .int .i64 (wrap64 (rd l1 x26_2))] (by rfl) rfl rfl zM ?_; with_reducible refine (Hl.calls k2 _ _ (Co l0_0 x26_2) (wrap64 (rd l1 x26_2)) t309 false _ ?side1 ?side2 A24.out).mono ?_; (case side1 => exact zc (Kd.C_below HR307_0.out HB.out))
             (case side2 => exact HC307_0.out)
             rintro e w29 ⟨rfl, hb⟩; refine ⟨_, rfl, ?_⟩; have n0_ := zk (Kd.Q_below (by (with_reducible repeat (first | apply Kd.Q_alloc | apply Kd.Q_drewN | apply Kd.Q_drew)); exact HO_24.out) hb); have n1_ := zk (zbb BK298.out hb); have n2_ := zs HB hb; clear HO_24; clear BK298; clear HB; have HO_24 := n0_; have BK298 := n1_; have HB := n2_; clear n0_ n1_ n2_; (try clear hb); (try clear hb2); (try clear hk); (try clear hi); refine hK.out _ _ ⟨(Ag BK298.out 0).trans rfl, (Ag BK298.out 1).trans rfl, (zcl HB.out hw307_0), (zcl HB.out hw308_0)⟩ (fun hHeld => ?_); clear hK K; refine Fi (a' := ?_) ?_ ?_; rotate_left
             ·show Act.put _ (some 42) _ = _; simp only [zy]; rfl
             refine zp 11 (some 31) (v := ?_) (a' := ?_) (bz 16 4095) rfl rfl HT_.out zz zQ ?_ ?_ ?_; rotate_left
             ·intro w'; go_simp; with_reducible rfl
             rotate_left
             ·simp only [zy]; rfl
             refine zp 12 (some 43) (v := ?_) (a' := ?_) (bz 16 8191) rfl rfl HT_.out zz zQ ?_ ?_ ?_; rotate_left
             ·intro w'; go_simp; with_reducible rfl
             rotate_left
             ·simp only [zy]; rfl
             refine zp 13 (some 44) (v := ?_) (a' := ?_) (bz 16 16383) rfl rfl HT_.out zz zQ ?_ ?_ ?_; rotate_left
             ·intro w'; go_simp; with_reducible rfl
             rotate_left
             ·simp only [zy]; rfl
             refine zp 14 (some 9) (v := ?_) (a' := ?_) (bz 16 32767) rfl rfl HT_.out zz zQ ?_ ?_ ?_; rotate_left
             ·intro w'; go_simp; with_reducible rfl
             rotate_left
             ·simp only [zy]; rfl
             refine zp 15 (some 10) (v := ?_) (a' := ?_) (bz 16 65535) rfl rfl HT_.out zz zQ ?_ ?_ ?_; rotate_left
             ·intro w'; go_simp; with_reducible rfl
             rotate_left
             ·simp only [zy]; rfl
             refine Gg (Ei HT_.out zz) ?_; try go_wp2
             go_ret2
             exact ⟨ze, zU HB.out⟩
           ·rw [if_neg c23] at H; cases H
          ·rw [if_neg c22] at H; cases H
         ·rw [if_neg c21] at H; cases H
        ·rw [if_neg c20] at H; cases H
       ·rw [if_neg c19] at H; have c19b0 : decide (x26_2 < (y303.length : Int)) = false := decide_eq_false c19; clear c19; simp only [Option.some.injEq, Prod.mk.injEq] at H; obtain ⟨rfl, rfl⟩ := H; go_wp2
        go_ret2
        exact ⟨ze, zU HB.out⟩
    ·rw [if_neg c14] at H; cases H
end Go.Proofs.I
