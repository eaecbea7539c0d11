/- Words and walks of this claim, of the text Bx33. -/
import Derived.Test.YtkcklnmbeinfkaaKgQW0
import Derived.Test.YtkcklnmbeinfkaaKgBx0
import Derived.Test.YtkcklnmbeinfkaaKgBx21
import Derived.Test.YtkcklnmbeinfkaaKgBx25
namespace Go.Proofs.Ytkcklnmbeinfkaa.B
open Go.RowKit Go.Proofs.YtkcklnmbeinfkaaW.PrintWords Go.Proofs.YtkcklnmbeinfkaaW.PrintLast Go.Proofs.YtkcklnmbeinfkaaW.PrintMore
attribute [local go_sem] max2_int min2_int max_two min_two max_three min_three max_four min_four
set_option linter.unusedVariables false
set_option linter.unusedSimpArgs false
mutual
def leadtrailref11_Prefix.l0 : Nat → Int → List (S50) → Option (Bool × Int)
 | 0, _, _ => none
 | k + 1, x4, x831000 => if x4 < (x831000.length : Int) then (leadtrailref11_Prefix.l1 k x4 0 x831000) else (some (true, 0))
def leadtrailref11_Prefix.l1 : Nat → Int → Int → List (S50) → Option (Bool × Int)
 | 0, _, _, _ => none
 | k + 1, x4, x5, x831000 => if x5 < (x831000.length : Int) then (if 0 ≤ x4 then (if x4 < (x831000.length : Int) then (if 0 ≤ x5 then (if (((rd_T50 x831000 x4).f0).length : Int) < (((rd_T50 x831000 x5).f0).length : Int) then ((leadtrailref09_Common.f k ((rd_T50 x831000 x4).f0) ((rd_T50 x831000 x4).f1) ((rd_T50 x831000 x5).f0) ((rd_T50 x831000 x5).f1) (((rd_T50 x831000 x4).f0).length : Int)).bind fun bt836 => (if bt836.2 = true then (some (false, 0)) else (leadtrailref11_Prefix.l1 k x4 (wrap64 (x5 + 1)) x831000))) else (leadtrailref11_Prefix.l1 k x4 (wrap64 (x5 + 1)) x831000)) else (none)) else (none)) else (none)) else (leadtrailref11_Prefix.l0 k (wrap64 (x4 + 1)) x831000)
end
def leadtrailref11_Prefix.f (k : Nat) (l0_0 : List (S50)) : Option (Bool × Int) := (leadtrailref08_Valid.f k l0_0).bind fun t831 => (if t831 = true then (leadtrailref11_Prefix.l0 k 0 l0_0) else (some (false, 84)))
def leadtrailref11_Prefix.T11 : Bool × List (List Nat × List Nat) := (true, [([], []), ([0], [0]), ([], []), ([1, 2], [1, 2]), ([3], [3]), ([], []), ([5], [5]), ([], []), ([6, 7], [6, 7]), ([8], [8]), ([], []), ([4, 9, 10], [4, 9, 10]), ([11], [11]), ([12], [12]), ([12], [12]), ([13, 11, 0, 1, 2, 3, 4, 5, 6, 7, 8, 9, 10, 11, 12, 13], [13]), ([14, 15, 0, 1, 2, 3, 4, 5, 6, 7, 8, 9, 10, 11, 12, 13, 14, 15], [14])])
def leadtrailref11_Prefix.B11 : List Nat := [0, 1, 0, 7, 15, 0, 32, 0, 224, 480, 0, 2047, 4095, 8191, 8191, 16383, 65535]
theorem leadtrailref11_Prefix.tab11 : rtab .any (opsOf Try.f63 11) = leadtrailref11_Prefix.T11 := by kernel_rfl
theorem leadtrailref11_Prefix.bits11 : waitsOk leadtrailref11_Prefix.T11.2 leadtrailref11_Prefix.B11 = true := by kernel_rfl
set_option maxHeartbeats 8000000 in
set_option maxRecDepth 100000 in
theorem leadtrailref11_Prefix.calls (k : Nat) (A0_0 : Option Addr) (c0_0 : Nat) (l0_0 : List (S50)) (r1 : Bool) (r2 : Int) (w : World) (hr0_0 : Kd.C k50 w A0_0 l0_0.length l0_0) (hc0_0 : l0_0.length ≤ c0_0) (h : leadtrailref11_Prefix.f k l0_0 = some (r1, r2)) :
 Calls Try.prog 63 #[.agg #[.slice A0_0 l0_0.length c0_0]] w fun e w' => e = .returned (.tuple #[.bool r1, .int .i64 r2]) ∧ Below w.heap.size w w' := by
 have hu24 := Try.underlying24; have hu50 := Try.underlying50; have HR0_0 := zk hr0_0; have HC0_0 := zk hc0_0; clear hr0_0 hc0_0; have HB := zk (Below.refl w.heap.size w); have H : ((leadtrailref08_Valid.f k l0_0).bind fun t831 => (if t831 = true then (leadtrailref11_Prefix.l0 k 0 l0_0) else (some (false, 84)))) = some (r1, r2) := h; clear h; replace H := Option.bind_eq_some_iff.mp H; obtain ⟨t831, A20, H⟩ := H; replace H : (if t831 = true then (leadtrailref11_Prefix.l0 k 0 l0_0) else (some (false, 84))) = some (r1, r2) := H; have A2 := zk A20; clear A20; by_cases c3 : t831 = true
 ·subst c3; have H1 : (leadtrailref11_Prefix.l0 k 0 l0_0) = some (r1, r2) := by rw [if_pos rfl] at H; exact H
  clear H; have H := H1; clear H1; have H' := zk H; clear H; go_enter Try.func63, Try.ntmps63
  go_wp2_with (first | ((with_reducible refine gate_dst (N := 1) rfl ?_); refine box_event ?hg (N := 1) ?hd (cs := #[.slice A0_0 l0_0.length c0_0]) (t := 24) ?hr ?_; (case hd => rfl); (case hg => rfl); (case hr => first | (go_simp; done) | (go_simp; rfl)); intro gb830 hg w4 hbox hb; have BK830 := zk (hbox); have GE830 := zk ((zg hg HB.out : w.heap.size ≤ gb830)); replace HB := zk (below_step (zU HB.out) hb);  clear hb hbox hg; have hcz5_0 : w4.cell? ⟨gb830, 0, none⟩ = some (.slice A0_0 l0_0.length c0_0) := zh BK830.out 0; have hfz5_0 := blk_frozen BK830.out 0) | ((with_reducible refine gate_callee (f := 79) rfl ?_); refine goesL_ (some 10) rfl rfl Try.func79 zz rfl #[.agg #[.slice A0_0 l0_0.length c0_0]] rfl zM ?_; (with_reducible refine (leadtrailref08_Valid.calls k _ _ l0_0 true _ ?side1 ?side2 A2.out).mono ?_); (case side1 => exact zc (Kd.C_below HR0_0.out HB.out)); (case side2 => exact HC0_0.out); rintro e w6 ⟨rfl, hb⟩; refine ⟨_, rfl, ?_⟩; replace BK830 := zk (zbb BK830.out hb); replace HB := zk (below_step (zU HB.out) hb);  (try clear hb); (try clear hb2); (try clear hk); (try clear hi)))
  go_loopg [4] k (fun kq v4 w' => ∃ (x4_1 : Int), v4 = .int .i64 x4_1 ∧ Aside0 (leadtrailref11_Prefix.l0 kq x4_1 l0_0 = some (r1, r2)) ∧ Aside0 (kq ≤ k) ∧ Aside0 (w'.heap[gb830]? = some (.cells #[(.slice A0_0 l0_0.length c0_0)] 24 (0, 0))) ∧ Aside0 (Below w.heap.size w w'))
  case atStart => exact ⟨(0), zR, H', ⟨Nat.le_refl _⟩, ⟨zb BK830.out⟩, ⟨zU HB.out⟩⟩
  case round =>
   clear H'; (try clear p2); (try clear c3); (try clear c6); (try clear hcz5_0); (try clear hfz5_0); obtain ⟨x4_1, rfl, HA, HK1, BK830, HB⟩ := hrel
   cases gk with
   | zero => exact absurd HA.out (by simp [leadtrailref11_Prefix.l0])
   | succ k1 =>
    have H := HA.out; clear HA; simp only [leadtrailref11_Prefix.l0] at H; by_cases c7 : x4_1 < (l0_0.length : Int)
    ·rw [if_pos c7] at H; have c7b0 : decide (x4_1 < (l0_0.length : Int)) = true := decide_eq_true c7; clear c7; have H' := zk H; clear H; have hcz8_0 : wr.cell? ⟨gb830, 0, none⟩ = some (.slice A0_0 l0_0.length c0_0) := zh BK830.out 0; have hfz8_0 := blk_frozen BK830.out 0; go_wp2
     go_loopg [5] k1 (fun kq v5 w' => ∃ (x5_2 : Int), v5 = .int .i64 x5_2 ∧ Aside0 (leadtrailref11_Prefix.l1 kq x4_1 x5_2 l0_0 = some (r1, r2)) ∧ Aside0 (kq ≤ k1) ∧ Aside0 (w'.heap[gb830]? = some (.cells #[(.slice A0_0 l0_0.length c0_0)] 24 (0, 0))) ∧ Aside0 (Below w.heap.size w w'))
     case atStart => exact ⟨(0), zR, H', ⟨Nat.le_refl _⟩, ⟨zb BK830.out⟩, ⟨zU HB.out⟩⟩
     case round =>
      clear H'; (try clear p2); (try clear c3); (try clear c6); (try clear c7); (try clear c7b0); (try clear hcz5_0); (try clear hcz8_0); (try clear hfz5_0); (try clear hfz8_0); (try clear p2); obtain ⟨x5_2, rfl, HA, HK2, BK830, HB⟩ := hrel
      cases gk with
      | zero => exact absurd HA.out (by simp [leadtrailref11_Prefix.l1])
      | succ k2 =>
       have H := HA.out; clear HA; simp only [leadtrailref11_Prefix.l1] at H; by_cases c9 : x5_2 < (l0_0.length : Int)
       ·rw [if_pos c9] at H; have c9b0 : decide (x5_2 < (l0_0.length : Int)) = true := decide_eq_true c9; clear c9; by_cases c10 : 0 ≤ x4_1
        ·rw [if_pos c10] at H; have c10b0 : decide (0 ≤ x4_1) = true := decide_eq_true c10; clear c10; by_cases c11 : x4_1 < (l0_0.length : Int)
         ·rw [if_pos c11] at H; have c11b0 : decide (x4_1 < (l0_0.length : Int)) = true := decide_eq_true c11; clear c11; by_cases c12 : 0 ≤ x5_2
          ·rw [if_pos c12] at H; have c12b0 : decide (0 ≤ x5_2) = true := decide_eq_true c12; clear c12; by_cases c13 : (((rd_T50 l0_0 x4_1).f0).length : Int) < (((rd_T50 l0_0 x5_2).f0).length : Int)
           ·rw [if_pos c13] at H; have c13b0 : decide ((((rd_T50 l0_0 x4_1).f0).length : Int) < (((rd_T50 l0_0 x5_2).f0).length : Int)) = true := decide_eq_true c13; have c13b1 : decide (((rd_T50 l0_0 x4_1).f0).length < ((rd_T50 l0_0 x5_2).f0).length) = true := decide_eq_true (Int.ofNat_lt.mp c13); clear c13; replace H := Option.bind_eq_some_iff.mp H; obtain ⟨⟨t836, t839⟩, A140, H⟩ := H; replace H : (if t839 = true then (some (false, 0)) else (leadtrailref11_Prefix.l1 k2 x4_1 (wrap64 (x5_2 + 1)) l0_0)) = some (r1, r2) := H; have A14 := zk A140; clear A140; by_cases c15 : t839 = true
            ·subst c15; have H1 : (some (false, 0)) = some (r1, r2) := by rw [if_pos rfl] at H; exact H
             clear H; have H := H1; clear H1; simp only [Option.some.injEq, Prod.mk.injEq] at H; obtain ⟨rfl, rfl⟩ := H; have hcz16_0 : wr.cell? ⟨gb830, 0, none⟩ = some (.slice A0_0 l0_0.length c0_0) := zh BK830.out 0; have hfz16_0 := blk_frozen BK830.out 0; have p832 : 0 ≤ (x4_1 : Int) := zT; have q832 : x4_1 < (l0_0.length : Int) := zT; obtain ⟨ad832, A832_0, c832_0, e832, hx832_0, hx832_1, hl832_0, hi832_0⟩ := at_T50 HR0_0.out x4_1 p832 q832; cases e832; replace hx832_0 := zcl HB.out hx832_0; replace hx832_1 := zcl HB.out hx832_1; have HR832_0 := zk hi832_0; have HC832_0 := zk hl832_0; clear hi832_0 hl832_0; replace p832 := eq_true p832; replace q832 := eq_true q832; have p833 : 0 ≤ (x5_2 : Int) := zT; have q833 : x5_2 < (l0_0.length : Int) := zT; obtain ⟨ad833, A833_0, c833_0, e833, hx833_0, hx833_1, hl833_0, hi833_0⟩ := at_T50 HR0_0.out x5_2 p833 q833; obtain rfl : ad832 = ad833 := (by injection e833); replace hx833_0 := zcl HB.out hx833_0; replace hx833_1 := zcl HB.out hx833_1; have HR833_0 := zk hi833_0; have HC833_0 := zk hl833_0; clear hi833_0 hl833_0; replace p833 := eq_true p833; replace q833 := eq_true q833; try go_wp2
             have n0_ := zk (blk_drew BK830.out); have n1_ := zk (below_drew1 HB.out); clear BK830; clear HB; have BK830 := n0_; have HB := n1_; clear n0_ n1_; have p834 : 0 ≤ (x4_1 : Int) := zT; have q834 : x4_1 < (l0_0.length : Int) := zT; obtain ⟨ad834, A834_0, c834_0, e834, hx834_0, hx834_1, hl834_0, hi834_0⟩ := at_T50 HR0_0.out x4_1 p834 q834; have hw834_1 := hx834_1; have hw834_0 := hx834_0; obtain rfl : ad832 = ad834 := (by injection e834); replace hx834_0 := zcl HB.out hx834_0; replace hx834_1 := zcl HB.out hx834_1; have HR834_0 := zk hi834_0; have HC834_0 := zk hl834_0; clear hi834_0 hl834_0; replace p834 := eq_true p834; replace q834 := eq_true q834; have p835 : 0 ≤ (x5_2 : Int) := zT; have q835 : x5_2 < (l0_0.length : Int) := zT; obtain ⟨ad835, A835_0, c835_0, e835, hx835_0, hx835_1, hl835_0, hi835_0⟩ := at_T50 HR0_0.out x5_2 p835 q835; have hw835_1 := hx835_1; have hw835_0 := hx835_0; obtain rfl : ad832 = ad835 := (by injection e835); replace hx835_0 := zcl HB.out hx835_0; replace hx835_1 := zcl HB.out hx835_1; have HR835_0 := zk hi835_0; have HC835_0 := zk hl835_0; clear hi835_0 hl835_0; replace p835 := eq_true p835; replace q835 := eq_true q835; refine start_ (n := 17) (S := fun w' => w'.cell? ⟨gb830, 0, none⟩ = some (.slice (some ad832) l0_0.length c0_0) ∧ w'.cell? (ad832.add ((x4_1).toNat * 2)) = some (.slice A834_0 ((rd_T50 l0_0 x4_1).f0).length c834_0) ∧ w'.cell? ⟨(ad832.add ((x4_1).toNat * 2)).block, (ad832.add ((x4_1).toNat * 2)).off + 1, none⟩ = some (.int .i64 ((rd_T50 l0_0 x4_1).f1)) ∧ w'.cell? (ad832.add ((x5_2).toNat * 2)) = some (.slice A835_0 ((rd_T50 l0_0 x5_2).f0).length c835_0) ∧ w'.cell? ⟨(ad832.add ((x5_2).toNat * 2)).block, (ad832.add ((x5_2).toNat * 2)).off + 1, none⟩ = some (.int .i64 ((rd_T50 l0_0 x5_2).f1))) (ds := []) #[false, false, false, false, false, false, false, false, false, false, false, false, false, false, false, false, false] zz rfl rfl ⟨(blk_cell BK830.out 0).trans rfl, (zcl HB.out hw834_0), (zcl HB.out hw834_1), (zcl HB.out hw835_0), (zcl HB.out hw835_1)⟩ (fun hHeld => ?_); refine with_tabW leadtrailref11_Prefix.tab11 leadtrailref11_Prefix.bits11 (fun HT_ HW_ => ?_); generalize wr.drew = w17 at BK830 HB HR834_0 HR835_0 hx834_0 hx834_1 hx835_0 hx835_1 hHeld ⊢; refine zp 0 (some 43) (v := ?_) (a' := ?_) (bz 17 1) rfl rfl HT_.out zz zQ ?_ ?_ ?_; rotate_left
             ·intro w'; go_simp; with_reducible rfl
             rotate_left
             ·simp only [Act.put, zv, i64_w, i32_w]; rfl
             refine zp 2 (some 45) (v := ?_) (a' := ?_) (bz 17 5) rfl rfl HT_.out zz zQ ?_ ?_ ?_; rotate_left
             ·intro w'; go_simp; with_reducible rfl
             rotate_left
             ·simp only [Act.put, zv, i64_w, i32_w]; rfl
             refine zp 5 (some 48) (v := ?_) (a' := ?_) (bz 17 37) rfl rfl HT_.out zz zQ ?_ ?_ ?_; rotate_left
             ·intro w'; go_simp; with_reducible rfl
             rotate_left
             ·simp only [Act.put, zv, i64_w, i32_w]; rfl
             refine zp 7 (some 50) (v := ?_) (a' := ?_) (bz 17 165) rfl rfl HT_.out zz zQ ?_ ?_ ?_; rotate_left
             ·intro w'; go_simp; with_reducible rfl
             rotate_left
             ·simp only [Act.put, zv, i64_w, i32_w]; rfl
             refine zp 10 (some 53) (v := ?_) (a' := ?_) (bz 17 1189) rfl rfl HT_.out zz zQ ?_ ?_ ?_; rotate_left
             ·intro w'; go_simp; with_reducible rfl
             rotate_left
             ·simp only [Act.put, zv, i64_w, i32_w]; rfl
             refine take_ (i := 1) (N := some 44) (v := ?_) (a' := ?_) (bz 17 1191) rfl rfl (take_ofW HT_.out HW_.out zz) zQ (Or.inl ⟨by rfl, ?_⟩) hHeld ?_ ?_; rotate_left
             ·rintro w' ⟨s0, s1, s2, s3, s4⟩; go_simp; with_reducible rfl
             rotate_left
             ·simp only [Act.put, zv, i64_w, i32_w]; rfl
             refine zp 3 (some 46) (v := ?_) (a' := ?_) (bz 17 1199) rfl rfl HT_.out zz zQ ?_ ?_ ?_; rotate_left
             ·intro w'; go_simp; with_reducible rfl
             rotate_left
             ·simp only [Act.put, zv, i64_w, i32_w]; rfl
             refine take_ (i := 4) (N := some 47) (v := ?_) (a' := ?_) (bz 17 1215) rfl rfl (take_ofW HT_.out HW_.out zz) zQ (Or.inl ⟨by rfl, ?_⟩) hHeld ?_ ?_; rotate_left
             ·rintro w' ⟨s0, s1, s2, s3, s4⟩; go_simp; with_reducible rfl
             rotate_left
             ·simp only [Act.put, zv, i64_w, i32_w]; rfl
             refine take_ (i := 6) (N := some 49) (v := ?_) (a' := ?_) (bz 17 1279) rfl rfl (take_ofW HT_.out HW_.out zz) zQ (Or.inl ⟨by rfl, ?_⟩) hHeld ?_ ?_; rotate_left
             ·rintro w' ⟨s0, s1, s2, s3, s4⟩; go_simp; with_reducible rfl
             rotate_left
             ·simp only [Act.put, zv, i64_w, i32_w]; rfl
             refine zp 8 (some 51) (v := ?_) (a' := ?_) (bz 17 1535) rfl rfl HT_.out zz zQ ?_ ?_ ?_; rotate_left
             ·intro w'; go_simp; with_reducible rfl
             rotate_left
             ·simp only [Act.put, zv, i64_w, i32_w]; rfl
             refine take_ (i := 9) (N := some 52) (v := ?_) (a' := ?_) (bz 17 2047) rfl rfl (take_ofW HT_.out HW_.out zz) zQ (Or.inl ⟨by rfl, ?_⟩) hHeld ?_ ?_; rotate_left
             ·rintro w' ⟨s0, s1, s2, s3, s4⟩; go_simp; with_reducible rfl
             rotate_left
             ·simp only [Act.put, zv, i64_w, i32_w]; rfl
             refine one_ (i := 11) (N := some 54) (bz 17 4095) rfl rfl (one_of HT_.out zz) (by decide) (fun K hK => ?_); refine goes_ Try.func58 zz rfl #[.agg #[.slice A834_0 ((rd_T50 l0_0 x4_1).f0).length c834_0, .int .i64 ((rd_T50 l0_0 x4_1).f1)], .agg #[.slice A835_0 ((rd_T50 l0_0 x5_2).f0).length c835_0, .int .i64 ((rd_T50 l0_0 x5_2).f1)], .int .i64 (((rd_T50 l0_0 x4_1).f0).length : Int)] (by rfl) rfl rfl zM ?_; with_reducible refine (leadtrailref09_Common.calls k2 _ _ ((rd_T50 l0_0 x4_1).f0) ((rd_T50 l0_0 x4_1).f1) _ _ ((rd_T50 l0_0 x5_2).f0) ((rd_T50 l0_0 x5_2).f1) (((rd_T50 l0_0 x4_1).f0).length : Int) t836 true _ ?side1 ?side2 ?side3 ?side4 A14.out).mono ?_; (case side1 => exact zc (Kd.C_below HR834_0.out HB.out))
             (case side2 => exact HC834_0.out)
             (case side3 => exact zc (Kd.C_below HR835_0.out HB.out))
             (case side4 => exact HC835_0.out)
             rintro e w18 ⟨v837, rfl, ho0, hb⟩; refine ⟨_, rfl, ?_⟩; have n0_ := zk (Kd.R_lower ho0 (below_size (zU HB.out))); have n1_ := zk (zbb BK830.out hb); have n2_ := zk (below_step (zU HB.out) hb); clear BK830; clear HB; have HO838 := n0_; have BK830 := n1_; have HB := n2_; clear n0_ n1_ n2_; (try clear hb); (try clear hb2); (try clear hk); (try clear hi); (try clear ho0); refine hK.out _ _ ⟨(blk_cell BK830.out 0).trans rfl, (zcl HB.out hw834_0), (zcl HB.out hw834_1), (zcl HB.out hw835_0), (zcl HB.out hw835_1)⟩ (fun hHeld => ?_); clear hK K; refine norm_ (a' := ?_) ?_ ?_; rotate_left
             ·show Act.put _ (some 54) _ = _; simp only [Act.put, zv, i64_w, i32_w]; rfl
             refine zp 12 (some 42) (v := ?_) (a' := ?_) (bz 17 8191) rfl rfl HT_.out zz zQ ?_ ?_ ?_; rotate_left
             ·intro w'; go_simp; with_reducible rfl
             rotate_left
             ·simp only [Act.put, zv, i64_w, i32_w]; rfl
             refine zp 13 (some 55) (v := ?_) (a' := ?_) (bz 17 16383) rfl rfl HT_.out zz zQ ?_ ?_ ?_; rotate_left
             ·intro w'; go_simp; with_reducible rfl
             rotate_left
             ·simp only [Act.put, zv, i64_w, i32_w]; rfl
             refine zp 14 (some 56) (v := ?_) (a' := ?_) (bz 17 32767) rfl rfl HT_.out zz zQ ?_ ?_ ?_; rotate_left
             ·intro w'; go_simp; with_reducible rfl
             rotate_left
             ·simp only [Act.put, zv, i64_w, i32_w]; rfl
             refine zp 15 (some 7) (v := ?_) (a' := ?_) (bz 17 65535) rfl rfl HT_.out zz zQ ?_ ?_ ?_; rotate_left
             ·intro w'; go_simp; with_reducible rfl
             rotate_left
             ·simp only [Act.put, zv, i64_w, i32_w]; rfl
             refine zp 16 (some 8) (v := ?_) (a' := ?_) (bz 17 131071) rfl rfl HT_.out zz zQ ?_ ?_ ?_; rotate_left
             ·intro w'; go_simp; with_reducible rfl
             rotate_left
             ·simp only [Act.put, zv, i64_w, i32_w]; rfl
             refine done_ (done_of HT_.out zz) ?_; try go_wp2
             go_ret2
             exact ⟨ze, zU HB.out⟩
            ·replace c15 := Bool.eq_false_iff.mpr c15; subst c15; have H1 : (leadtrailref11_Prefix.l1 k2 x4_1 (wrap64 (x5_2 + 1)) l0_0) = some (r1, r2) := by rw [if_neg (show ¬ (false = true) by decide)] at H; exact H
             clear H; have H := H1; clear H1; have H' := zk H; clear H; have hcz19_0 : wr.cell? ⟨gb830, 0, none⟩ = some (.slice A0_0 l0_0.length c0_0) := zh BK830.out 0; have hfz19_0 := blk_frozen BK830.out 0; have p832 : 0 ≤ (x4_1 : Int) := zT; have q832 : x4_1 < (l0_0.length : Int) := zT; obtain ⟨ad832, A832_0, c832_0, e832, hx832_0, hx832_1, hl832_0, hi832_0⟩ := at_T50 HR0_0.out x4_1 p832 q832; cases e832; replace hx832_0 := zcl HB.out hx832_0; replace hx832_1 := zcl HB.out hx832_1; have HR832_0 := zk hi832_0; have HC832_0 := zk hl832_0; clear hi832_0 hl832_0; replace p832 := eq_true p832; replace q832 := eq_true q832; have p833 : 0 ≤ (x5_2 : Int) := zT; have q833 : x5_2 < (l0_0.length : Int) := zT; obtain ⟨ad833, A833_0, c833_0, e833, hx833_0, hx833_1, hl833_0, hi833_0⟩ := at_T50 HR0_0.out x5_2 p833 q833; obtain rfl : ad832 = ad833 := (by injection e833); replace hx833_0 := zcl HB.out hx833_0; replace hx833_1 := zcl HB.out hx833_1; have HR833_0 := zk hi833_0; have HC833_0 := zk hl833_0; clear hi833_0 hl833_0; replace p833 := eq_true p833; replace q833 := eq_true q833; try go_wp2
             have n0_ := zk (blk_drew BK830.out); have n1_ := zk (below_drew1 HB.out); clear BK830; clear HB; have BK830 := n0_; have HB := n1_; clear n0_ n1_; have p834 : 0 ≤ (x4_1 : Int) := zT; have q834 : x4_1 < (l0_0.length : Int) := zT; obtain ⟨ad834, A834_0, c834_0, e834, hx834_0, hx834_1, hl834_0, hi834_0⟩ := at_T50 HR0_0.out x4_1 p834 q834; have hw834_1 := hx834_1; have hw834_0 := hx834_0; obtain rfl : ad832 = ad834 := (by injection e834); replace hx834_0 := zcl HB.out hx834_0; replace hx834_1 := zcl HB.out hx834_1; have HR834_0 := zk hi834_0; have HC834_0 := zk hl834_0; clear hi834_0 hl834_0; replace p834 := eq_true p834; replace q834 := eq_true q834; have p835 : 0 ≤ (x5_2 : Int) := zT; have q835 : x5_2 < (l0_0.length : Int) := zT; obtain ⟨ad835, A835_0, c835_0, e835, hx835_0, hx835_1, hl835_0, hi835_0⟩ := at_T50 HR0_0.out x5_2 p835 q835; have hw835_1 := hx835_1; have hw835_0 := hx835_0; obtain rfl : ad832 = ad835 := (by injection e835); replace hx835_0 := zcl HB.out hx835_0; replace hx835_1 := zcl HB.out hx835_1; have HR835_0 := zk hi835_0; have HC835_0 := zk hl835_0; clear hi835_0 hl835_0; replace p835 := eq_true p835; replace q835 := eq_true q835; refine start_ (n := 17) (S := fun w' => w'.cell? ⟨gb830, 0, none⟩ = some (.slice (some ad832) l0_0.length c0_0) ∧ w'.cell? (ad832.add ((x4_1).toNat * 2)) = some (.slice A834_0 ((rd_T50 l0_0 x4_1).f0).length c834_0) ∧ w'.cell? ⟨(ad832.add ((x4_1).toNat * 2)).block, (ad832.add ((x4_1).toNat * 2)).off + 1, none⟩ = some (.int .i64 ((rd_T50 l0_0 x4_1).f1)) ∧ w'.cell? (ad832.add ((x5_2).toNat * 2)) = some (.slice A835_0 ((rd_T50 l0_0 x5_2).f0).length c835_0) ∧ w'.cell? ⟨(ad832.add ((x5_2).toNat * 2)).block, (ad832.add ((x5_2).toNat * 2)).off + 1, none⟩ = some (.int .i64 ((rd_T50 l0_0 x5_2).f1))) (ds := []) #[false, false, false, false, false, false, false, false, false, false, false, false, false, false, false, false, false] zz rfl rfl ⟨(blk_cell BK830.out 0).trans rfl, (zcl HB.out hw834_0), (zcl HB.out hw834_1), (zcl HB.out hw835_0), (zcl HB.out hw835_1)⟩ (fun hHeld => ?_); refine with_tabW leadtrailref11_Prefix.tab11 leadtrailref11_Prefix.bits11 (fun HT_ HW_ => ?_); generalize wr.drew = w20 at BK830 HB HR834_0 HR835_0 hx834_0 hx834_1 hx835_0 hx835_1 hHeld ⊢; refine zp 0 (some 43) (v := ?_) (a' := ?_) (bz 17 1) rfl rfl HT_.out zz zQ ?_ ?_ ?_; rotate_left
             ·intro w'; go_simp; with_reducible rfl
             rotate_left
             ·simp only [Act.put, zv, i64_w, i32_w]; rfl
             refine zp 2 (some 45) (v := ?_) (a' := ?_) (bz 17 5) rfl rfl HT_.out zz zQ ?_ ?_ ?_; rotate_left
             ·intro w'; go_simp; with_reducible rfl
             rotate_left
             ·simp only [Act.put, zv, i64_w, i32_w]; rfl
             refine zp 5 (some 48) (v := ?_) (a' := ?_) (bz 17 37) rfl rfl HT_.out zz zQ ?_ ?_ ?_; rotate_left
             ·intro w'; go_simp; with_reducible rfl
             rotate_left
             ·simp only [Act.put, zv, i64_w, i32_w]; rfl
             refine zp 7 (some 50) (v := ?_) (a' := ?_) (bz 17 165) rfl rfl HT_.out zz zQ ?_ ?_ ?_; rotate_left
             ·intro w'; go_simp; with_reducible rfl
             rotate_left
             ·simp only [Act.put, zv, i64_w, i32_w]; rfl
             refine zp 10 (some 53) (v := ?_) (a' := ?_) (bz 17 1189) rfl rfl HT_.out zz zQ ?_ ?_ ?_; rotate_left
             ·intro w'; go_simp; with_reducible rfl
             rotate_left
             ·simp only [Act.put, zv, i64_w, i32_w]; rfl
             refine take_ (i := 1) (N := some 44) (v := ?_) (a' := ?_) (bz 17 1191) rfl rfl (take_ofW HT_.out HW_.out zz) zQ (Or.inl ⟨by rfl, ?_⟩) hHeld ?_ ?_; rotate_left
             ·rintro w' ⟨s0, s1, s2, s3, s4⟩; go_simp; with_reducible rfl
             rotate_left
             ·simp only [Act.put, zv, i64_w, i32_w]; rfl
             refine zp 3 (some 46) (v := ?_) (a' := ?_) (bz 17 1199) rfl rfl HT_.out zz zQ ?_ ?_ ?_; rotate_left
             ·intro w'; go_simp; with_reducible rfl
             rotate_left
             ·simp only [Act.put, zv, i64_w, i32_w]; rfl
             refine take_ (i := 4) (N := some 47) (v := ?_) (a' := ?_) (bz 17 1215) rfl rfl (take_ofW HT_.out HW_.out zz) zQ (Or.inl ⟨by rfl, ?_⟩) hHeld ?_ ?_; rotate_left
             ·rintro w' ⟨s0, s1, s2, s3, s4⟩; go_simp; with_reducible rfl
             rotate_left
             ·simp only [Act.put, zv, i64_w, i32_w]; rfl
             refine take_ (i := 6) (N := some 49) (v := ?_) (a' := ?_) (bz 17 1279) rfl rfl (take_ofW HT_.out HW_.out zz) zQ (Or.inl ⟨by rfl, ?_⟩) hHeld ?_ ?_; rotate_left
             ·rintro w' ⟨s0, s1, s2, s3, s4⟩; go_simp; with_reducible rfl
             rotate_left
             ·simp only [Act.put, zv, i64_w, i32_w]; rfl
             refine zp 8 (some 51) (v := ?_) (a' := ?_) (bz 17 1535) rfl rfl HT_.out zz zQ ?_ ?_ ?_; rotate_left
             ·intro w'; go_simp; with_reducible rfl
             rotate_left
             ·simp only [Act.put, zv, i64_w, i32_w]; rfl
             refine take_ (i := 9) (N := some 52) (v := ?_) (a' := ?_) (bz 17 2047) rfl rfl (take_ofW HT_.out HW_.out zz) zQ (Or.inl ⟨by rfl, ?_⟩) hHeld ?_ ?_; rotate_left
             ·rintro w' ⟨s0, s1, s2, s3, s4⟩; go_simp; with_reducible rfl
             rotate_left
             ·simp only [Act.put, zv, i64_w, i32_w]; rfl
             refine one_ (i := 11) (N := some 54) (bz 17 4095) rfl rfl (one_of HT_.out zz) (by decide) (fun K hK => ?_); refine goes_ Try.func58 zz rfl #[.agg #[.slice A834_0 ((rd_T50 l0_0 x4_1).f0).length c834_0, .int .i64 ((rd_T50 l0_0 x4_1).f1)], .agg #[.slice A835_0 ((rd_T50 l0_0 x5_2).f0).length c835_0, .int .i64 ((rd_T50 l0_0 x5_2).f1)], .int .i64 (((rd_T50 l0_0 x4_1).f0).length : Int)] (by rfl) rfl rfl zM ?_; with_reducible refine (leadtrailref09_Common.calls k2 _ _ ((rd_T50 l0_0 x4_1).f0) ((rd_T50 l0_0 x4_1).f1) _ _ ((rd_T50 l0_0 x5_2).f0) ((rd_T50 l0_0 x5_2).f1) (((rd_T50 l0_0 x4_1).f0).length : Int) t836 false _ ?side1 ?side2 ?side3 ?side4 A14.out).mono ?_; (case side1 => exact zc (Kd.C_below HR834_0.out HB.out))
             (case side2 => exact HC834_0.out)
             (case side3 => exact zc (Kd.C_below HR835_0.out HB.out))
             (case side4 => exact HC835_0.out)
             rintro e w21 ⟨v837, rfl, ho0, hb⟩; refine ⟨_, rfl, ?_⟩; have n0_ := zk (Kd.R_lower ho0 (below_size (zU HB.out))); have n1_ := zk (zbb BK830.out hb); have n2_ := zk (below_step (zU HB.out) hb); clear BK830; clear HB; have HO838 := n0_; have BK830 := n1_; have HB := n2_; clear n0_ n1_ n2_; (try clear hb); (try clear hb2); (try clear hk); (try clear hi); (try clear ho0); refine hK.out _ _ ⟨(blk_cell BK830.out 0).trans rfl, (zcl HB.out hw834_0), (zcl HB.out hw834_1), (zcl HB.out hw835_0), (zcl HB.out hw835_1)⟩ (fun hHeld => ?_); clear hK K; refine norm_ (a' := ?_) ?_ ?_; rotate_left
             ·show Act.put _ (some 54) _ = _; simp only [Act.put, zv, i64_w, i32_w]; rfl
             refine zp 12 (some 42) (v := ?_) (a' := ?_) (bz 17 8191) rfl rfl HT_.out zz zQ ?_ ?_ ?_; rotate_left
             ·intro w'; go_simp; with_reducible rfl
             rotate_left
             ·simp only [Act.put, zv, i64_w, i32_w]; rfl
             refine zp 13 (some 55) (v := ?_) (a' := ?_) (bz 17 16383) rfl rfl HT_.out zz zQ ?_ ?_ ?_; rotate_left
             ·intro w'; go_simp; with_reducible rfl
             rotate_left
             ·simp only [Act.put, zv, i64_w, i32_w]; rfl
             refine zp 14 (some 56) (v := ?_) (a' := ?_) (bz 17 32767) rfl rfl HT_.out zz zQ ?_ ?_ ?_; rotate_left
             ·intro w'; go_simp; with_reducible rfl
             rotate_left
             ·simp only [Act.put, zv, i64_w, i32_w]; rfl
             refine zp 15 (some 7) (v := ?_) (a' := ?_) (bz 17 65535) rfl rfl HT_.out zz zQ ?_ ?_ ?_; rotate_left
             ·intro w'; go_simp; with_reducible rfl
             rotate_left
             ·simp only [Act.put, zv, i64_w, i32_w]; rfl
             refine zp 16 (some 8) (v := ?_) (a' := ?_) (bz 17 131071) rfl rfl HT_.out zz zQ ?_ ?_ ?_; rotate_left
             ·intro w'; go_simp; with_reducible rfl
             rotate_left
             ·simp only [Act.put, zv, i64_w, i32_w]; rfl
             refine done_ (done_of HT_.out zz) ?_; try go_wp2
             go_roundg k2
             case measure => have := HK1.out; have := HK2.out; omega
             case rel => exact ⟨(wrap64 (x5_2 + 1)), zR, H', ⟨by have := HK1.out; have := HK2.out; omega⟩, ⟨zb BK830.out⟩, ⟨zU HB.out⟩⟩
           ·rw [if_neg c13] at H; have c13b0 : decide ((((rd_T50 l0_0 x4_1).f0).length : Int) < (((rd_T50 l0_0 x5_2).f0).length : Int)) = false := decide_eq_false c13; have c13b1 : decide (((rd_T50 l0_0 x4_1).f0).length < ((rd_T50 l0_0 x5_2).f0).length) = false := decide_eq_false (fun h => c13 (Int.ofNat_lt.mpr h)); clear c13; have H' := zk H; clear H; have hcz22_0 : wr.cell? ⟨gb830, 0, none⟩ = some (.slice A0_0 l0_0.length c0_0) := zh BK830.out 0; have hfz22_0 := blk_frozen BK830.out 0; have p832 : 0 ≤ (x4_1 : Int) := zT; have q832 : x4_1 < (l0_0.length : Int) := zT; obtain ⟨ad832, A832_0, c832_0, e832, hx832_0, hx832_1, hl832_0, hi832_0⟩ := at_T50 HR0_0.out x4_1 p832 q832; cases e832; replace hx832_0 := zcl HB.out hx832_0; replace hx832_1 := zcl HB.out hx832_1; have HR832_0 := zk hi832_0; have HC832_0 := zk hl832_0; clear hi832_0 hl832_0; replace p832 := eq_true p832; replace q832 := eq_true q832; have p833 : 0 ≤ (x5_2 : Int) := zT; have q833 : x5_2 < (l0_0.length : Int) := zT; obtain ⟨ad833, A833_0, c833_0, e833, hx833_0, hx833_1, hl833_0, hi833_0⟩ := at_T50 HR0_0.out x5_2 p833 q833; obtain rfl : ad832 = ad833 := (by injection e833); replace hx833_0 := zcl HB.out hx833_0; replace hx833_1 := zcl HB.out hx833_1; have HR833_0 := zk hi833_0; have HC833_0 := zk hl833_0; clear hi833_0 hl833_0; replace p833 := eq_true p833; replace q833 := eq_true q833; go_wp2
            go_roundg k2
            case measure => have := HK1.out; have := HK2.out; omega
            case rel => exact ⟨(wrap64 (x5_2 + 1)), zR, H', ⟨by have := HK1.out; have := HK2.out; omega⟩, ⟨zb BK830.out⟩, ⟨zU HB.out⟩⟩
          ·rw [if_neg c12] at H; exact absurd H (by simp)
         ·rw [if_neg c11] at H; exact absurd H (by simp)
        ·rw [if_neg c10] at H; exact absurd H (by simp)
       ·rw [if_neg c9] at H; have c9b0 : decide (x5_2 < (l0_0.length : Int)) = false := decide_eq_false c9; clear c9; have H' := zk H; clear H; have hcz23_0 : wr.cell? ⟨gb830, 0, none⟩ = some (.slice A0_0 l0_0.length c0_0) := zh BK830.out 0; have hfz23_0 := blk_frozen BK830.out 0; go_wp2
        go_roundg k2
        case measure => have := HK1.out; have := HK2.out; omega
        case rel => exact ⟨(wrap64 (x4_1 + 1)), zR, H', ⟨by have := HK1.out; have := HK2.out; omega⟩, ⟨zb BK830.out⟩, ⟨zU HB.out⟩⟩
    ·rw [if_neg c7] at H; have c7b0 : decide (x4_1 < (l0_0.length : Int)) = false := decide_eq_false c7; clear c7; simp only [Option.some.injEq, Prod.mk.injEq] at H; obtain ⟨rfl, rfl⟩ := H; have hcz24_0 : wr.cell? ⟨gb830, 0, none⟩ = some (.slice A0_0 l0_0.length c0_0) := zh BK830.out 0; have hfz24_0 := blk_frozen BK830.out 0; go_wp2
     go_ret2
     exact ⟨ze, zU HB.out⟩
 ·replace c3 := Bool.eq_false_iff.mpr c3; subst c3; have H1 : (some (false, 84)) = some (r1, r2) := by rw [if_neg (show ¬ (false = true) by decide)] at H; exact H
  clear H; have H := H1; clear H1; simp only [Option.some.injEq, Prod.mk.injEq] at H; obtain ⟨rfl, rfl⟩ := H; go_enter Try.func63, Try.ntmps63
  go_wp2_with (first | ((with_reducible refine gate_dst (N := 1) rfl ?_); refine box_event ?hg (N := 1) ?hd (cs := #[.slice A0_0 l0_0.length c0_0]) (t := 24) ?hr ?_; (case hd => rfl); (case hg => rfl); (case hr => first | (go_simp; done) | (go_simp; rfl)); intro gb830 hg w25 hbox hb; have BK830 := zk (hbox); have GE830 := zk ((zg hg HB.out : w.heap.size ≤ gb830)); replace HB := zk (below_step (zU HB.out) hb);  clear hb hbox hg; have hcz26_0 : w25.cell? ⟨gb830, 0, none⟩ = some (.slice A0_0 l0_0.length c0_0) := zh BK830.out 0; have hfz26_0 := blk_frozen BK830.out 0) | ((with_reducible refine gate_callee (f := 79) rfl ?_); refine goesL_ (some 10) rfl rfl Try.func79 zz rfl #[.agg #[.slice A0_0 l0_0.length c0_0]] rfl zM ?_; (with_reducible refine (leadtrailref08_Valid.calls k _ _ l0_0 false _ ?side1 ?side2 A2.out).mono ?_); (case side1 => exact zc (Kd.C_below HR0_0.out HB.out)); (case side2 => exact HC0_0.out); rintro e w27 ⟨rfl, hb⟩; refine ⟨_, rfl, ?_⟩; replace BK830 := zk (zbb BK830.out hb); replace HB := zk (below_step (zU HB.out) hb);  (try clear hb); (try clear hb2); (try clear hk); (try clear hi)))
  go_ret2
  exact ⟨ze, zU HB.out⟩
def stringslite_HasPrefix.f (a0 : ByteArray) (a1 : ByteArray) : Option (Bool) := if (a0.size : Int) ≥ (a1.size : Int) then (if 0 ≤ (a1.size : Int) then (if (a1.size : Int) ≤ (a0.size : Int) then (some ((a0.extract 0 ((a1.size : Int) : Int).toNat).toList == a1.toList)) else (none)) else (none)) else (some false)
set_option maxHeartbeats 8000000 in
set_option maxRecDepth 100000 in
theorem stringslite_HasPrefix.calls (a0 : ByteArray) (a1 : ByteArray) (r : Bool) (w : World) (h : stringslite_HasPrefix.f a0 a1 = some r) :
 Calls Try.prog 110 #[.string a0, .string a1] w fun e w' => e = .returned (.bool r) ∧ Drawn0 w w' := by
 have H : (if (a0.size : Int) ≥ (a1.size : Int) then (if 0 ≤ (a1.size : Int) then (if (a1.size : Int) ≤ (a0.size : Int) then (some ((a0.extract 0 ((a1.size : Int) : Int).toNat).toList == a1.toList)) else (none)) else (none)) else (some false)) = some r := h; clear h; by_cases c3 : (a0.size : Int) ≥ (a1.size : Int)
 ·rw [if_pos c3] at H; have c3b0 : decide ((a1.size : Int) ≤ (a0.size : Int)) = true := decide_eq_true c3; have c3b1 : decide (a1.size ≤ a0.size) = true := decide_eq_true (Int.ofNat_le.mp c3); clear c3; by_cases c4 : 0 ≤ (a1.size : Int)
  ·rw [if_pos c4] at H; have c4b0 := eq_true c4; have c4b1 : decide (0 ≤ (a1.size : Int)) = true := decide_eq_true c4; clear c4; by_cases c5 : (a1.size : Int) ≤ (a0.size : Int)
   ·rw [if_pos c5] at H; have c5b0 := eq_true c5; have c5b1 : decide ((a1.size : Int) ≤ (a0.size : Int)) = true := decide_eq_true c5; clear c5; obtain rfl := Option.some.inj H; go_enter Try.func110, Try.ntmps110
    go_wp2
    go_ret
    exact ⟨by first | rfl | (simp; done) | (simp [*]; done), by repeat (first | exact Drawn0.refl _ | apply Drawn0.step)⟩
   ·rw [if_neg c5] at H; exact absurd H (by simp)
  ·rw [if_neg c4] at H; exact absurd H (by simp)
 ·rw [if_neg c3] at H; have c3b0 : decide ((a1.size : Int) ≤ (a0.size : Int)) = false := decide_eq_false c3; have c3b1 : decide (a1.size ≤ a0.size) = false := decide_eq_false (fun h => c3 (Int.ofNat_le.mpr h)); clear c3; obtain rfl := Option.some.inj H; go_enter Try.func110, Try.ntmps110
  go_wp2
  go_ret
  exact ⟨by first | rfl | (simp; done) | (simp [*]; done), by repeat (first | exact Drawn0.refl _ | apply Drawn0.step)⟩
def strings_HasPrefix.f (a0 : ByteArray) (a1 : ByteArray) : Option (Bool) := (stringslite_HasPrefix.f a0 a1).bind fun t840 => (some t840)
set_option maxHeartbeats 8000000 in
set_option maxRecDepth 100000 in
theorem strings_HasPrefix.calls (a0 : ByteArray) (a1 : ByteArray) (r : Bool) (w : World) (h : strings_HasPrefix.f a0 a1 = some r) :
 Calls Try.prog 64 #[.string a0, .string a1] w fun e w' => e = .returned (.bool r) ∧ Drawn0 w w' := by
 have H : ((stringslite_HasPrefix.f a0 a1).bind fun t840 => (some t840)) = some r := h; clear h; replace H := Option.bind_eq_some_iff.mp H; obtain ⟨t840, A30, H⟩ := H; replace H : (some t840) = some r := H; have A3 := zk A30; clear A30; obtain rfl := Option.some.inj H; go_enter Try.func64, Try.ntmps64
 go_wp2_with (first | ((with_reducible refine gate_callee (f := 110) rfl ?_); refine goesL_ (some 7) rfl rfl Try.func110 zz rfl #[.string a0, .string a1] rfl zM ?_; (with_reducible refine (stringslite_HasPrefix.calls a0 a1 t840 _ A3.out).mono ?_); rintro e w' ⟨rfl, ⟨nd, rfl⟩⟩; refine ⟨_, rfl, ?_⟩))
 go_ret
 exact ⟨by first | rfl | (simp; done) | (simp [*]; done), by repeat (first | exact Drawn0.refl _ | apply Drawn0.step)⟩
end Go.Proofs.Ytkcklnmbeinfkaa.B
