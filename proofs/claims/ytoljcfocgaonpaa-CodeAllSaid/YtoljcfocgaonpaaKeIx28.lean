/- Words and walks of this claim, of the text Ix28. -/
import Derived.Test.YtoljcfocgaonpaaKeQW0
import Derived.Test.YtoljcfocgaonpaaKeIx0
import Derived.Test.YtoljcfocgaonpaaKeIx18
namespace Go.Proofs.Ytoljcfocgaonpaa.I
open Go.RowKit Go.Proofs.YtoljcfocgaonpaaW.PrintWords Go.Proofs.YtoljcfocgaonpaaW.PrintLast Go.Proofs.YtoljcfocgaonpaaW.PrintMore
attribute [local go_sem] max2_int min2_int max_two min_two max_three min_three max_four min_four
set_option linter.unusedVariables false
set_option linter.unusedSimpArgs false
def leadtrailref08_meet.l0 : Nat → List (S47) → Int → Int → Option (Bool)
 | 0, _, _, _ => none
 | k + 1, x0, x1, x5 => if x5 < x1 then (if 0 ≤ x1 then (if x1 < (x0.length : Int) then (if 0 ≤ x5 then (if x5 < (x0.length : Int) then ((leadtrailref08_Count.f k ((rd_T47 x0 x5).f0) ((rd_T47 x0 x5).f1)).bind fun t710 => (if ((rd_T47 x0 x1).f1) ≤ (wrap64 ((wrap64 (((rd_T47 x0 x5).f1) + t710)) - 1)) then ((leadtrailref08_Count.f k ((rd_T47 x0 x1).f0) ((rd_T47 x0 x1).f1)).bind fun t714 => (if ((rd_T47 x0 x5).f1) ≤ (wrap64 ((wrap64 (((rd_T47 x0 x1).f1) + t714)) - 1)) then (some true) else (leadtrailref08_meet.l0 k x0 x1 (wrap64 (x5 + 1))))) else (leadtrailref08_meet.l0 k x0 x1 (wrap64 (x5 + 1))))) else (none)) else (none)) else (none)) else (none)) else (some false)
def leadtrailref08_meet.f (k : Nat) (l0 : List (S47)) (a1 : Int) : Option (Bool) := leadtrailref08_meet.l0 k l0 a1 0
def leadtrailref08_meet.T4 : Bool × List (List Nat × List Nat) := (true, [([], []), ([], []), ([0, 1], [0, 1]), ([2], [2]), ([3], [3]), ([], []), ([], []), ([5, 6], [5, 6]), ([7], [7]), ([8], [8]), ([], []), ([], []), ([10, 11], [10, 11]), ([12], [12]), ([13], [13]), ([9, 14], [9, 14]), ([15], [15]), ([4, 16], [4, 16]), ([17, 14], [17]), ([18], [18]), ([18], [18]), ([19, 20, 18], [18, 19, 20]), ([21, 18], [18, 21]), ([22, 18], [18, 22]), ([18], [18]), ([18], [18]), ([24, 25, 18], [18, 24, 25]), ([26, 18], [18, 26]), ([27, 18], [18, 27]), ([18], [18]), ([18], [18]), ([29, 30, 18], [18, 29, 30]), ([31, 18], [18, 31]), ([32, 18, 18], [18, 32]), ([28, 33, 18], [18, 28, 33]), ([34, 18], [18, 34]), ([23, 35, 18], [18, 23, 35]), ([18, 36], [18, 36])])
def leadtrailref08_meet.B4 : List Nat := [0, 0, 3, 7, 15, 0, 0, 96, 224, 480, 0, 0, 3072, 7168, 15360, 32736, 65504, 131071, 262143, 524287, 524287, 2097151, 4194303, 8388607, 524287, 524287, 50855935, 117964799, 252182527, 524287, 524287, 1611137023, 3758620671, 8053587967, 17163616255, 34343485439, 68719476735, 137438953471]
theorem leadtrailref08_meet.tab4 : rtab .any (opsOf Try.f130 4) = leadtrailref08_meet.T4 := by kernel_rfl
theorem leadtrailref08_meet.bits4 : waitsOk leadtrailref08_meet.T4.2 leadtrailref08_meet.B4 = true := by kernel_rfl
set_option maxHeartbeats 8000000 in
set_option maxRecDepth 100000 in
theorem leadtrailref08_meet.calls (k : Nat) (A0 : Option Addr) (c0 : Nat) (l0 : List (S47)) (a1 : Int) (r : Bool) (w : World) (hr0 : Kd.C k47 w A0 l0.length l0) (hc0 : l0.length ≤ c0) (h : leadtrailref08_meet.f k l0 a1 = some r) :
 Calls Try.prog 130 #[.slice A0 l0.length c0, .int .i64 a1] w fun e w' => e = .returned (.bool r) ∧ Below w.heap.size w w' := by
 have hu47 := Try.underlying47; have HR0 := zk hr0; have HC0 := zk hc0; clear hr0 hc0; have HB := zk (Below.refl w.heap.size w); have H : (leadtrailref08_meet.l0 k l0 a1 0) = some r := h; clear h; have H' := zk H; clear H; go_enter Try.func130, Try.ntmps130
 go_wp2
 go_loopg [5] k (fun kq v5 w' => ∃ (x5_1 : Int), v5 = .int .i64 x5_1 ∧ Aside0 (leadtrailref08_meet.l0 kq l0 a1 x5_1 = some r) ∧ Aside0 (kq ≤ k) ∧ Aside0 (Below w.heap.size w w'))
 case atStart => exact ⟨(0), zR, H', ⟨Nat.le_refl _⟩, ⟨zU HB.out⟩⟩
 case round =>
  clear H'; (try clear c1); (try clear p2); obtain ⟨x5_1, rfl, HA, HK1, HB⟩ := hrel
  cases gk with
  | zero => exact absurd HA.out (by simp [leadtrailref08_meet.l0])
  | succ k1 =>
   have H := HA.out; clear HA; simp only [leadtrailref08_meet.l0] at H; by_cases c3 : x5_1 < a1
   ·rw [if_pos c3] at H; have c3b0 : decide (x5_1 < a1) = true := decide_eq_true c3; clear c3; by_cases c4 : 0 ≤ a1
    ·rw [if_pos c4] at H; have c4b0 : decide (0 ≤ a1) = true := decide_eq_true c4; clear c4; by_cases c5 : a1 < (l0.length : Int)
     ·rw [if_pos c5] at H; have c5b0 : decide (a1 < (l0.length : Int)) = true := decide_eq_true c5; clear c5; by_cases c6 : 0 ≤ x5_1
      ·rw [if_pos c6] at H; have c6b0 : decide (0 ≤ x5_1) = true := decide_eq_true c6; clear c6; by_cases c7 : x5_1 < (l0.length : Int)
       ·rw [if_pos c7] at H; have c7b0 : decide (x5_1 < (l0.length : Int)) = true := decide_eq_true c7; clear c7; replace H := Option.bind_eq_some_iff.mp H; obtain ⟨t710, A80, H⟩ := H; replace H : (if ((rd_T47 l0 a1).f1) ≤ (wrap64 ((wrap64 (((rd_T47 l0 x5_1).f1) + t710)) - 1)) then ((leadtrailref08_Count.f k1 ((rd_T47 l0 a1).f0) ((rd_T47 l0 a1).f1)).bind fun t714 => (if ((rd_T47 l0 x5_1).f1) ≤ (wrap64 ((wrap64 (((rd_T47 l0 a1).f1) + t714)) - 1)) then (some true) else (leadtrailref08_meet.l0 k1 l0 a1 (wrap64 (x5_1 + 1))))) else (leadtrailref08_meet.l0 k1 l0 a1 (wrap64 (x5_1 + 1)))) = some r := H; have A8 := zk A80; clear A80; by_cases c9 : ((rd_T47 l0 a1).f1) ≤ (wrap64 ((wrap64 (((rd_T47 l0 x5_1).f1) + t710)) - 1))
        ·rw [if_pos c9] at H; have c9b0 : decide (((rd_T47 l0 a1).f1) ≤ (wrap64 ((wrap64 (((rd_T47 l0 x5_1).f1) + t710)) - 1))) = true := decide_eq_true c9; clear c9; replace H := Option.bind_eq_some_iff.mp H; obtain ⟨t714, A100, H⟩ := H; replace H : (if ((rd_T47 l0 x5_1).f1) ≤ (wrap64 ((wrap64 (((rd_T47 l0 a1).f1) + t714)) - 1)) then (some true) else (leadtrailref08_meet.l0 k1 l0 a1 (wrap64 (x5_1 + 1)))) = some r := H; have A10 := zk A100; clear A100; by_cases c11 : ((rd_T47 l0 x5_1).f1) ≤ (wrap64 ((wrap64 (((rd_T47 l0 a1).f1) + t714)) - 1))
         ·rw [if_pos c11] at H; have c11b0 : decide (((rd_T47 l0 x5_1).f1) ≤ (wrap64 ((wrap64 (((rd_T47 l0 a1).f1) + t714)) - 1))) = true := decide_eq_true c11; clear c11; obtain rfl := Option.some.inj H; try go_wp2
          have n0_ := zk (below_drew1 HB.out); clear HB; have HB := n0_; clear n0_; have p707 : 0 ≤ (a1 : Int) := zT; have q707 : a1 < (l0.length : Int) := zT; obtain ⟨ad707, A707_0, c707_0, e707, hx707_0, hx707_1, hl707_0, hi707_0⟩ := at_T47 HR0.out a1 p707 q707; have hw707_1 := hx707_1; have hw707_0 := hx707_0; cases e707; replace hx707_0 := zcl HB.out hx707_0; replace hx707_1 := zcl HB.out hx707_1; have HR707_0 := zk hi707_0; have HC707_0 := zk hl707_0; clear hi707_0 hl707_0; replace p707 := eq_true p707; replace q707 := eq_true q707; have p708 : 0 ≤ (x5_1 : Int) := zT; have q708 : x5_1 < (l0.length : Int) := zT; obtain ⟨ad708, A708_0, c708_0, e708, hx708_0, hx708_1, hl708_0, hi708_0⟩ := at_T47 HR0.out x5_1 p708 q708; have hw708_1 := hx708_1; have hw708_0 := hx708_0; obtain rfl : ad707 = ad708 := (by injection e708); replace hx708_0 := zcl HB.out hx708_0; replace hx708_1 := zcl HB.out hx708_1; have HR708_0 := zk hi708_0; have HC708_0 := zk hl708_0; clear hi708_0 hl708_0; replace p708 := eq_true p708; replace q708 := eq_true q708; have p709 : 0 ≤ (x5_1 : Int) := zT; have q709 : x5_1 < (l0.length : Int) := zT; obtain ⟨ad709, A709_0, c709_0, e709, hx709_0, hx709_1, hl709_0, hi709_0⟩ := at_T47 HR0.out x5_1 p709 q709; have hw709_1 := hx709_1; have hw709_0 := hx709_0; obtain rfl : ad707 = ad709 := (by injection e709); replace hx709_0 := zcl HB.out hx709_0; replace hx709_1 := zcl HB.out hx709_1; have HR709_0 := zk hi709_0; have HC709_0 := zk hl709_0; clear hi709_0 hl709_0; replace p709 := eq_true p709; replace q709 := eq_true q709; have ea_ := Option.some.inj (hx708_0.symm.trans hx709_0); injection ea_ with ea_ en_ ec_
          subst ea_; subst ec_; clear en_; have p711 : 0 ≤ (x5_1 : Int) := zT; have q711 : x5_1 < (l0.length : Int) := zT; obtain ⟨ad711, A711_0, c711_0, e711, hx711_0, hx711_1, hl711_0, hi711_0⟩ := at_T47 HR0.out x5_1 p711 q711; have hw711_1 := hx711_1; have hw711_0 := hx711_0; obtain rfl : ad707 = ad711 := (by injection e711); replace hx711_0 := zcl HB.out hx711_0; replace hx711_1 := zcl HB.out hx711_1; have HR711_0 := zk hi711_0; have HC711_0 := zk hl711_0; clear hi711_0 hl711_0; replace p711 := eq_true p711; replace q711 := eq_true q711; have ez_ := Option.some.inj (hw708_0.symm.trans hw711_0); injection ez_ with ez_ en_ ec_
          subst ez_; subst ec_; clear en_; have p712 : 0 ≤ (a1 : Int) := zT; have q712 : a1 < (l0.length : Int) := zT; obtain ⟨ad712, A712_0, c712_0, e712, hx712_0, hx712_1, hl712_0, hi712_0⟩ := at_T47 HR0.out a1 p712 q712; have hw712_1 := hx712_1; have hw712_0 := hx712_0; obtain rfl : ad707 = ad712 := (by injection e712); replace hx712_0 := zcl HB.out hx712_0; replace hx712_1 := zcl HB.out hx712_1; have HR712_0 := zk hi712_0; have HC712_0 := zk hl712_0; clear hi712_0 hl712_0; replace p712 := eq_true p712; replace q712 := eq_true q712; have ez_ := Option.some.inj (hw707_0.symm.trans hw712_0); injection ez_ with ez_ en_ ec_
          subst ez_; subst ec_; clear en_; have p713 : 0 ≤ (a1 : Int) := zT; have q713 : a1 < (l0.length : Int) := zT; obtain ⟨ad713, A713_0, c713_0, e713, hx713_0, hx713_1, hl713_0, hi713_0⟩ := at_T47 HR0.out a1 p713 q713; have hw713_1 := hx713_1; have hw713_0 := hx713_0; obtain rfl : ad707 = ad713 := (by injection e713); replace hx713_0 := zcl HB.out hx713_0; replace hx713_1 := zcl HB.out hx713_1; have HR713_0 := zk hi713_0; have HC713_0 := zk hl713_0; clear hi713_0 hl713_0; replace p713 := eq_true p713; replace q713 := eq_true q713; have ea_ := Option.some.inj (hx712_0.symm.trans hx713_0); injection ea_ with ea_ en_ ec_
          subst ea_; subst ec_; clear en_; refine start_ (n := 38) (S := fun w' => w'.cell? (ad707.add ((a1).toNat * 2)) = some (.slice A707_0 ((rd_T47 l0 a1).f0).length c707_0) ∧ w'.cell? ⟨(ad707.add ((a1).toNat * 2)).block, (ad707.add ((a1).toNat * 2)).off + 1, none⟩ = some (.int .i64 ((rd_T47 l0 a1).f1)) ∧ w'.cell? (ad707.add ((x5_1).toNat * 2)) = some (.slice A708_0 ((rd_T47 l0 x5_1).f0).length c708_0) ∧ w'.cell? ⟨(ad707.add ((x5_1).toNat * 2)).block, (ad707.add ((x5_1).toNat * 2)).off + 1, none⟩ = some (.int .i64 ((rd_T47 l0 x5_1).f1)) ∧ w'.cell? (ad707.add ((x5_1).toNat * 2)) = some (.slice A708_0 ((rd_T47 l0 x5_1).f0).length c708_0) ∧ w'.cell? ⟨(ad707.add ((x5_1).toNat * 2)).block, (ad707.add ((x5_1).toNat * 2)).off + 1, none⟩ = some (.int .i64 ((rd_T47 l0 x5_1).f1)) ∧ w'.cell? (ad707.add ((x5_1).toNat * 2)) = some (.slice A708_0 ((rd_T47 l0 x5_1).f0).length c708_0) ∧ w'.cell? ⟨(ad707.add ((x5_1).toNat * 2)).block, (ad707.add ((x5_1).toNat * 2)).off + 1, none⟩ = some (.int .i64 ((rd_T47 l0 x5_1).f1)) ∧ w'.cell? (ad707.add ((a1).toNat * 2)) = some (.slice A707_0 ((rd_T47 l0 a1).f0).length c707_0) ∧ w'.cell? ⟨(ad707.add ((a1).toNat * 2)).block, (ad707.add ((a1).toNat * 2)).off + 1, none⟩ = some (.int .i64 ((rd_T47 l0 a1).f1)) ∧ w'.cell? (ad707.add ((a1).toNat * 2)) = some (.slice A707_0 ((rd_T47 l0 a1).f0).length c707_0) ∧ w'.cell? ⟨(ad707.add ((a1).toNat * 2)).block, (ad707.add ((a1).toNat * 2)).off + 1, none⟩ = some (.int .i64 ((rd_T47 l0 a1).f1))) (ds := []) #[false, false, false, false, false, false, false, false, false, false, false, false, false, false, false, false, false, false, false, false, false, false, false, false, false, false, false, false, false, false, false, false, false, false, false, false, false, false] zz rfl rfl ⟨(zcl HB.out hw707_0), (zcl HB.out hw707_1), (zcl HB.out hw708_0), (zcl HB.out hw708_1), (zcl HB.out hw709_0), (zcl HB.out hw709_1), (zcl HB.out hw711_0), (zcl HB.out hw711_1), (zcl HB.out hw712_0), (zcl HB.out hw712_1), (zcl HB.out hw713_0), (zcl HB.out hw713_1)⟩ (fun hHeld => ?_); refine with_tabW leadtrailref08_meet.tab4 leadtrailref08_meet.bits4 (fun HT_ HW_ => ?_); generalize wr.drew = w12 at HB HR707_0 HR708_0 HR709_0 HR711_0 HR712_0 HR713_0 hx707_0 hx707_1 hx708_0 hx708_1 hx709_0 hx709_1 hx711_0 hx711_1 hx712_0 hx712_1 hx713_0 hx713_1 hHeld ⊢; refine zp 0 (some 11) (v := ?_) (a' := ?_) (bz 38 1) rfl rfl HT_.out zz zQ ?_ ?_ ?_; rotate_left
          ·intro w'; go_simp; with_reducible rfl
          rotate_left
          ·simp only [Act.put, zv, i64_w, i32_w]; rfl
          refine zp 1 (some 12) (v := ?_) (a' := ?_) (bz 38 3) rfl rfl HT_.out zz zQ ?_ ?_ ?_; rotate_left
          ·intro w'; go_simp; with_reducible rfl
          rotate_left
          ·simp only [Act.put, zv, i64_w, i32_w]; rfl
          refine zp 2 (some 13) (v := ?_) (a' := ?_) (bz 38 7) rfl rfl HT_.out zz zQ ?_ ?_ ?_; rotate_left
          ·intro w'; go_simp; with_reducible rfl
          rotate_left
          ·simp only [Act.put, zv, i64_w, i32_w]; rfl
          refine zp 3 (some 14) (v := ?_) (a' := ?_) (bz 38 15) rfl rfl HT_.out zz zQ ?_ ?_ ?_; rotate_left
          ·intro w'; go_simp; with_reducible rfl
          rotate_left
          ·simp only [Act.put, zv, i64_w, i32_w]; rfl
          refine zp 5 (some 16) (v := ?_) (a' := ?_) (bz 38 47) rfl rfl HT_.out zz zQ ?_ ?_ ?_; rotate_left
          ·intro w'; go_simp; with_reducible rfl
          rotate_left
          ·simp only [Act.put, zv, i64_w, i32_w]; rfl
          refine zp 6 (some 17) (v := ?_) (a' := ?_) (bz 38 111) rfl rfl HT_.out zz zQ ?_ ?_ ?_; rotate_left
          ·intro w'; go_simp; with_reducible rfl
          rotate_left
          ·simp only [Act.put, zv, i64_w, i32_w]; rfl
          refine zp 7 (some 18) (v := ?_) (a' := ?_) (bz 38 239) rfl rfl HT_.out zz zQ ?_ ?_ ?_; rotate_left
          ·intro w'; go_simp; with_reducible rfl
          rotate_left
          ·simp only [Act.put, zv, i64_w, i32_w]; rfl
          refine zp 8 (some 19) (v := ?_) (a' := ?_) (bz 38 495) rfl rfl HT_.out zz zQ ?_ ?_ ?_; rotate_left
          ·intro w'; go_simp; with_reducible rfl
          rotate_left
          ·simp only [Act.put, zv, i64_w, i32_w]; rfl
          refine zp 10 (some 21) (v := ?_) (a' := ?_) (bz 38 1519) rfl rfl HT_.out zz zQ ?_ ?_ ?_; rotate_left
          ·intro w'; go_simp; with_reducible rfl
          rotate_left
          ·simp only [Act.put, zv, i64_w, i32_w]; rfl
          refine zp 11 (some 22) (v := ?_) (a' := ?_) (bz 38 3567) rfl rfl HT_.out zz zQ ?_ ?_ ?_; rotate_left
          ·intro w'; go_simp; with_reducible rfl
          rotate_left
          ·simp only [Act.put, zv, i64_w, i32_w]; rfl
          refine zp 12 (some 23) (v := ?_) (a' := ?_) (bz 38 7663) rfl rfl HT_.out zz zQ ?_ ?_ ?_; rotate_left
          ·intro w'; go_simp; with_reducible rfl
          rotate_left
          ·simp only [Act.put, zv, i64_w, i32_w]; rfl
          refine take_ (i := 4) (N := some 15) (v := ?_) (a' := ?_) (bz 38 7679) rfl rfl (take_ofW HT_.out HW_.out zz) zQ (Or.inl ⟨by rfl, ?_⟩) hHeld ?_ ?_; rotate_left
          ·rintro w' ⟨s0, s1, s2, s3, s4, s5, s6, s7, s8, s9, s10, s11⟩; go_simp; with_reducible rfl
          rotate_left
          ·simp only [Act.put, zv, i64_w, i32_w]; rfl
          refine take_ (i := 9) (N := some 20) (v := ?_) (a' := ?_) (bz 38 8191) rfl rfl (take_ofW HT_.out HW_.out zz) zQ (Or.inl ⟨by rfl, ?_⟩) hHeld ?_ ?_; rotate_left
          ·rintro w' ⟨s0, s1, s2, s3, s4, s5, s6, s7, s8, s9, s10, s11⟩; go_simp; with_reducible rfl
          rotate_left
          ·simp only [Act.put, zv, i64_w, i32_w]; rfl
          refine take_ (i := 13) (N := some 24) (v := ?_) (a' := ?_) (bz 38 16383) rfl rfl (take_ofW HT_.out HW_.out zz) zQ (Or.inl ⟨by rfl, ?_⟩) hHeld ?_ ?_; rotate_left
          ·rintro w' ⟨s0, s1, s2, s3, s4, s5, s6, s7, s8, s9, s10, s11⟩; go_simp; with_reducible rfl
          rotate_left
          ·simp only [Act.put, zv, i64_w, i32_w]; rfl
          refine one_ (i := 14) (N := some 25) (bz 38 32767) rfl rfl (one_of HT_.out zz) (by decide) (fun K hK => ?_); refine goes_ Try.func83 zz rfl #[.agg #[.slice A708_0 ((rd_T47 l0 x5_1).f0).length c708_0, .int .i64 ((rd_T47 l0 x5_1).f1)]] (by rfl) rfl rfl zM ?_; with_reducible refine (leadtrailref08_Count.calls k1 _ _ ((rd_T47 l0 x5_1).f0) ((rd_T47 l0 x5_1).f1) t710 _ ?side1 ?side2 A8.out).mono ?_; (case side1 => exact zc (Kd.C_below HR709_0.out HB.out))
          (case side2 => exact HC709_0.out)
          rintro e w13 ⟨rfl, hb⟩; refine ⟨_, rfl, ?_⟩; have n0_ := zk (below_step (zU HB.out) hb); clear HB; have HB := n0_; clear n0_; (try clear hb); (try clear hb2); (try clear hk); (try clear hi); refine hK.out _ _ ⟨(zcl HB.out hw707_0), (zcl HB.out hw707_1), (zcl HB.out hw708_0), (zcl HB.out hw708_1), (zcl HB.out hw709_0), (zcl HB.out hw709_1), (zcl HB.out hw711_0), (zcl HB.out hw711_1), (zcl HB.out hw712_0), (zcl HB.out hw712_1), (zcl HB.out hw713_0), (zcl HB.out hw713_1)⟩ (fun hHeld => ?_); clear hK K; refine norm_ (a' := ?_) ?_ ?_; rotate_left
          ·show Act.put _ (some 25) _ = _; simp only [Act.put, zv, i64_w, i32_w]; rfl
          refine zp 15 (some 26) (v := ?_) (a' := ?_) (bz 38 65535) rfl rfl HT_.out zz zQ ?_ ?_ ?_; rotate_left
          ·intro w'; go_simp; with_reducible rfl
          rotate_left
          ·simp only [Act.put, zv, i64_w, i32_w]; rfl
          refine zp 16 (some 27) (v := ?_) (a' := ?_) (bz 38 131071) rfl rfl HT_.out zz zQ ?_ ?_ ?_; rotate_left
          ·intro w'; go_simp; with_reducible rfl
          rotate_left
          ·simp only [Act.put, zv, i64_w, i32_w]; rfl
          refine zp 17 (some 28) (v := ?_) (a' := ?_) (bz 38 262143) rfl rfl HT_.out zz zQ ?_ ?_ ?_; rotate_left
          ·intro w'; go_simp; with_reducible rfl
          rotate_left
          ·simp only [Act.put, zv, i64_w, i32_w]; rfl
          refine zp 18 (some 29) (v := ?_) (a' := ?_) (bz 38 524287) rfl rfl HT_.out zz zQ ?_ ?_ ?_; rotate_left
          ·intro w'; go_simp; with_reducible rfl
          rotate_left
          ·simp only [Act.put, zv, i64_w, i32_w]; rfl
          refine zp 19 (some 30) (v := ?_) (a' := ?_) (bz 38 1048575) rfl rfl HT_.out zz zQ ?_ ?_ ?_; rotate_left
          ·intro w'; go_simp; with_reducible rfl
          rotate_left
          ·simp only [Act.put, zv, i64_w, i32_w]; rfl
          refine zp 20 (some 31) (v := ?_) (a' := ?_) (bz 38 2097151) rfl rfl HT_.out zz zQ ?_ ?_ ?_; rotate_left
          ·intro w'; go_simp; with_reducible rfl
          rotate_left
          ·simp only [Act.put, zv, i64_w, i32_w]; rfl
          refine zp 21 (some 32) (v := ?_) (a' := ?_) (bz 38 4194303) rfl rfl HT_.out zz zQ ?_ ?_ ?_; rotate_left
          ·intro w'; go_simp; with_reducible rfl
          rotate_left
          ·simp only [Act.put, zv, i64_w, i32_w]; rfl
          refine zp 22 (some 33) (v := ?_) (a' := ?_) (bz 38 8388607) rfl rfl HT_.out zz zQ ?_ ?_ ?_; rotate_left
          ·intro w'; go_simp; with_reducible rfl
          rotate_left
          ·simp only [Act.put, zv, i64_w, i32_w]; rfl
          refine zp 24 (some 35) (v := ?_) (a' := ?_) (bz 38 25165823) rfl rfl HT_.out zz zQ ?_ ?_ ?_; rotate_left
          ·intro w'; go_simp; with_reducible rfl
          rotate_left
          ·simp only [Act.put, zv, i64_w, i32_w]; rfl
          refine zp 25 (some 36) (v := ?_) (a' := ?_) (bz 38 58720255) rfl rfl HT_.out zz zQ ?_ ?_ ?_; rotate_left
          ·intro w'; go_simp; with_reducible rfl
          rotate_left
          ·simp only [Act.put, zv, i64_w, i32_w]; rfl
          refine zp 26 (some 37) (v := ?_) (a' := ?_) (bz 38 125829119) rfl rfl HT_.out zz zQ ?_ ?_ ?_; rotate_left
          ·intro w'; go_simp; with_reducible rfl
          rotate_left
          ·simp only [Act.put, zv, i64_w, i32_w]; rfl
          refine zp 27 (some 38) (v := ?_) (a' := ?_) (bz 38 260046847) rfl rfl HT_.out zz zQ ?_ ?_ ?_; rotate_left
          ·intro w'; go_simp; with_reducible rfl
          rotate_left
          ·simp only [Act.put, zv, i64_w, i32_w]; rfl
          refine zp 29 (some 40) (v := ?_) (a' := ?_) (bz 38 796917759) rfl rfl HT_.out zz zQ ?_ ?_ ?_; rotate_left
          ·intro w'; go_simp; with_reducible rfl
          rotate_left
          ·simp only [Act.put, zv, i64_w, i32_w]; rfl
          refine zp 30 (some 41) (v := ?_) (a' := ?_) (bz 38 1870659583) rfl rfl HT_.out zz zQ ?_ ?_ ?_; rotate_left
          ·intro w'; go_simp; with_reducible rfl
          rotate_left
          ·simp only [Act.put, zv, i64_w, i32_w]; rfl
          refine zp 31 (some 42) (v := ?_) (a' := ?_) (bz 38 4018143231) rfl rfl HT_.out zz zQ ?_ ?_ ?_; rotate_left
          ·intro w'; go_simp; with_reducible rfl
          rotate_left
          ·simp only [Act.put, zv, i64_w, i32_w]; rfl
          refine take_ (i := 23) (N := some 34) (v := ?_) (a' := ?_) (bz 38 4026531839) rfl rfl (take_ofW HT_.out HW_.out zz) zQ (Or.inl ⟨by rfl, ?_⟩) hHeld ?_ ?_; rotate_left
          ·rintro w' ⟨s0, s1, s2, s3, s4, s5, s6, s7, s8, s9, s10, s11⟩; go_simp; with_reducible rfl
          rotate_left
          ·simp only [Act.put, zv, i64_w, i32_w]; rfl
          refine take_ (i := 28) (N := some 39) (v := ?_) (a' := ?_) (bz 38 4294967295) rfl rfl (take_ofW HT_.out HW_.out zz) zQ (Or.inl ⟨by rfl, ?_⟩) hHeld ?_ ?_; rotate_left
          ·rintro w' ⟨s0, s1, s2, s3, s4, s5, s6, s7, s8, s9, s10, s11⟩; go_simp; with_reducible rfl
          rotate_left
          ·simp only [Act.put, zv, i64_w, i32_w]; rfl
          refine take_ (i := 32) (N := some 43) (v := ?_) (a' := ?_) (bz 38 8589934591) rfl rfl (take_ofW HT_.out HW_.out zz) zQ (Or.inl ⟨by rfl, ?_⟩) hHeld ?_ ?_; rotate_left
          ·rintro w' ⟨s0, s1, s2, s3, s4, s5, s6, s7, s8, s9, s10, s11⟩; go_simp; with_reducible rfl
          rotate_left
          ·simp only [Act.put, zv, i64_w, i32_w]; rfl
          refine one_ (i := 33) (N := some 44) (bz 38 17179869183) rfl rfl (one_of HT_.out zz) (by decide) (fun K hK => ?_); refine goes_ Try.func83 zz rfl #[.agg #[.slice A707_0 ((rd_T47 l0 a1).f0).length c707_0, .int .i64 ((rd_T47 l0 a1).f1)]] (by rfl) rfl rfl zM ?_; with_reducible refine (leadtrailref08_Count.calls k1 _ _ ((rd_T47 l0 a1).f0) ((rd_T47 l0 a1).f1) t714 _ ?side1 ?side2 A10.out).mono ?_; (case side1 => exact zc (Kd.C_below HR713_0.out HB.out))
          (case side2 => exact HC713_0.out)
          rintro e w14 ⟨rfl, hb⟩; refine ⟨_, rfl, ?_⟩; have n0_ := zk (below_step (zU HB.out) hb); clear HB; have HB := n0_; clear n0_; (try clear hb); (try clear hb2); (try clear hk); (try clear hi); refine hK.out _ _ ⟨(zcl HB.out hw707_0), (zcl HB.out hw707_1), (zcl HB.out hw708_0), (zcl HB.out hw708_1), (zcl HB.out hw709_0), (zcl HB.out hw709_1), (zcl HB.out hw711_0), (zcl HB.out hw711_1), (zcl HB.out hw712_0), (zcl HB.out hw712_1), (zcl HB.out hw713_0), (zcl HB.out hw713_1)⟩ (fun hHeld => ?_); clear hK K; refine norm_ (a' := ?_) ?_ ?_; rotate_left
          ·show Act.put _ (some 44) _ = _; simp only [Act.put, zv, i64_w, i32_w]; rfl
          refine zp 34 (some 45) (v := ?_) (a' := ?_) (bz 38 34359738367) rfl rfl HT_.out zz zQ ?_ ?_ ?_; rotate_left
          ·intro w'; go_simp; with_reducible rfl
          rotate_left
          ·simp only [Act.put, zv, i64_w, i32_w]; rfl
          refine zp 35 (some 46) (v := ?_) (a' := ?_) (bz 38 68719476735) rfl rfl HT_.out zz zQ ?_ ?_ ?_; rotate_left
          ·intro w'; go_simp; with_reducible rfl
          rotate_left
          ·simp only [Act.put, zv, i64_w, i32_w]; rfl
          refine zp 36 (some 47) (v := ?_) (a' := ?_) (bz 38 137438953471) rfl rfl HT_.out zz zQ ?_ ?_ ?_; rotate_left
          ·intro w'; go_simp; with_reducible rfl
          rotate_left
          ·simp only [Act.put, zv, i64_w, i32_w]; rfl
          refine zp 37 (some 48) (v := ?_) (a' := ?_) (bz 38 274877906943) rfl rfl HT_.out zz zQ ?_ ?_ ?_; rotate_left
          ·intro w'; go_simp; with_reducible rfl
          rotate_left
          ·simp only [Act.put, zv, i64_w, i32_w]; rfl
          refine done_ (done_of HT_.out zz) ?_; try go_wp2
          go_ret
          exact ⟨ze, zU HB.out⟩
         ·rw [if_neg c11] at H; have c11b0 : decide (((rd_T47 l0 x5_1).f1) ≤ (wrap64 ((wrap64 (((rd_T47 l0 a1).f1) + t714)) - 1))) = false := decide_eq_false c11; clear c11; have H' := zk H; clear H; try go_wp2
          have n0_ := zk (below_drew1 HB.out); clear HB; have HB := n0_; clear n0_; have p707 : 0 ≤ (a1 : Int) := zT; have q707 : a1 < (l0.length : Int) := zT; obtain ⟨ad707, A707_0, c707_0, e707, hx707_0, hx707_1, hl707_0, hi707_0⟩ := at_T47 HR0.out a1 p707 q707; have hw707_1 := hx707_1; have hw707_0 := hx707_0; cases e707; replace hx707_0 := zcl HB.out hx707_0; replace hx707_1 := zcl HB.out hx707_1; have HR707_0 := zk hi707_0; have HC707_0 := zk hl707_0; clear hi707_0 hl707_0; replace p707 := eq_true p707; replace q707 := eq_true q707; have p708 : 0 ≤ (x5_1 : Int) := zT; have q708 : x5_1 < (l0.length : Int) := zT; obtain ⟨ad708, A708_0, c708_0, e708, hx708_0, hx708_1, hl708_0, hi708_0⟩ := at_T47 HR0.out x5_1 p708 q708; have hw708_1 := hx708_1; have hw708_0 := hx708_0; obtain rfl : ad707 = ad708 := (by injection e708); replace hx708_0 := zcl HB.out hx708_0; replace hx708_1 := zcl HB.out hx708_1; have HR708_0 := zk hi708_0; have HC708_0 := zk hl708_0; clear hi708_0 hl708_0; replace p708 := eq_true p708; replace q708 := eq_true q708; have p709 : 0 ≤ (x5_1 : Int) := zT; have q709 : x5_1 < (l0.length : Int) := zT; obtain ⟨ad709, A709_0, c709_0, e709, hx709_0, hx709_1, hl709_0, hi709_0⟩ := at_T47 HR0.out x5_1 p709 q709; have hw709_1 := hx709_1; have hw709_0 := hx709_0; obtain rfl : ad707 = ad709 := (by injection e709); replace hx709_0 := zcl HB.out hx709_0; replace hx709_1 := zcl HB.out hx709_1; have HR709_0 := zk hi709_0; have HC709_0 := zk hl709_0; clear hi709_0 hl709_0; replace p709 := eq_true p709; replace q709 := eq_true q709; have ea_ := Option.some.inj (hx708_0.symm.trans hx709_0); injection ea_ with ea_ en_ ec_
          subst ea_; subst ec_; clear en_; have p711 : 0 ≤ (x5_1 : Int) := zT; have q711 : x5_1 < (l0.length : Int) := zT; obtain ⟨ad711, A711_0, c711_0, e711, hx711_0, hx711_1, hl711_0, hi711_0⟩ := at_T47 HR0.out x5_1 p711 q711; have hw711_1 := hx711_1; have hw711_0 := hx711_0; obtain rfl : ad707 = ad711 := (by injection e711); replace hx711_0 := zcl HB.out hx711_0; replace hx711_1 := zcl HB.out hx711_1; have HR711_0 := zk hi711_0; have HC711_0 := zk hl711_0; clear hi711_0 hl711_0; replace p711 := eq_true p711; replace q711 := eq_true q711; have ez_ := Option.some.inj (hw708_0.symm.trans hw711_0); injection ez_ with ez_ en_ ec_
          subst ez_; subst ec_; clear en_; have p712 : 0 ≤ (a1 : Int) := zT; have q712 : a1 < (l0.length : Int) := zT; obtain ⟨ad712, A712_0, c712_0, e712, hx712_0, hx712_1, hl712_0, hi712_0⟩ := at_T47 HR0.out a1 p712 q712; have hw712_1 := hx712_1; have hw712_0 := hx712_0; obtain rfl : ad707 = ad712 := (by injection e712); replace hx712_0 := zcl HB.out hx712_0; replace hx712_1 := zcl HB.out hx712_1; have HR712_0 := zk hi712_0; have HC712_0 := zk hl712_0; clear hi712_0 hl712_0; replace p712 := eq_true p712; replace q712 := eq_true q712; have ez_ := Option.some.inj (hw707_0.symm.trans hw712_0); injection ez_ with ez_ en_ ec_
          subst ez_; subst ec_; clear en_; have p713 : 0 ≤ (a1 : Int) := zT; have q713 : a1 < (l0.length : Int) := zT; obtain ⟨ad713, A713_0, c713_0, e713, hx713_0, hx713_1, hl713_0, hi713_0⟩ := at_T47 HR0.out a1 p713 q713; have hw713_1 := hx713_1; have hw713_0 := hx713_0; obtain rfl : ad707 = ad713 := (by injection e713); replace hx713_0 := zcl HB.out hx713_0; replace hx713_1 := zcl HB.out hx713_1; have HR713_0 := zk hi713_0; have HC713_0 := zk hl713_0; clear hi713_0 hl713_0; replace p713 := eq_true p713; replace q713 := eq_true q713; have ea_ := Option.some.inj (hx712_0.symm.trans hx713_0); injection ea_ with ea_ en_ ec_
          subst ea_; subst ec_; clear en_; refine start_ (n := 38) (S := fun w' => w'.cell? (ad707.add ((a1).toNat * 2)) = some (.slice A707_0 ((rd_T47 l0 a1).f0).length c707_0) ∧ w'.cell? ⟨(ad707.add ((a1).toNat * 2)).block, (ad707.add ((a1).toNat * 2)).off + 1, none⟩ = some (.int .i64 ((rd_T47 l0 a1).f1)) ∧ w'.cell? (ad707.add ((x5_1).toNat * 2)) = some (.slice A708_0 ((rd_T47 l0 x5_1).f0).length c708_0) ∧ w'.cell? ⟨(ad707.add ((x5_1).toNat * 2)).block, (ad707.add ((x5_1).toNat * 2)).off + 1, none⟩ = some (.int .i64 ((rd_T47 l0 x5_1).f1)) ∧ w'.cell? (ad707.add ((x5_1).toNat * 2)) = some (.slice A708_0 ((rd_T47 l0 x5_1).f0).length c708_0) ∧ w'.cell? ⟨(ad707.add ((x5_1).toNat * 2)).block, (ad707.add ((x5_1).toNat * 2)).off + 1, none⟩ = some (.int .i64 ((rd_T47 l0 x5_1).f1)) ∧ w'.cell? (ad707.add ((x5_1).toNat * 2)) = some (.slice A708_0 ((rd_T47 l0 x5_1).f0).length c708_0) ∧ w'.cell? ⟨(ad707.add ((x5_1).toNat * 2)).block, (ad707.add ((x5_1).toNat * 2)).off + 1, none⟩ = some (.int .i64 ((rd_T47 l0 x5_1).f1)) ∧ w'.cell? (ad707.add ((a1).toNat * 2)) = some (.slice A707_0 ((rd_T47 l0 a1).f0).length c707_0) ∧ w'.cell? ⟨(ad707.add ((a1).toNat * 2)).block, (ad707.add ((a1).toNat * 2)).off + 1, none⟩ = some (.int .i64 ((rd_T47 l0 a1).f1)) ∧ w'.cell? (ad707.add ((a1).toNat * 2)) = some (.slice A707_0 ((rd_T47 l0 a1).f0).length c707_0) ∧ w'.cell? ⟨(ad707.add ((a1).toNat * 2)).block, (ad707.add ((a1).toNat * 2)).off + 1, none⟩ = some (.int .i64 ((rd_T47 l0 a1).f1))) (ds := []) #[false, false, false, false, false, false, false, false, false, false, false, false, false, false, false, false, false, false, false, false, false, false, false, false, false, false, false, false, false, false, false, false, false, false, false, false, false, false] zz rfl rfl ⟨(zcl HB.out hw707_0), (zcl HB.out hw707_1), (zcl HB.out hw708_0), (zcl HB.out hw708_1), (zcl HB.out hw709_0), (zcl HB.out hw709_1), (zcl HB.out hw711_0), (zcl HB.out hw711_1), (zcl HB.out hw712_0), (zcl HB.out hw712_1), (zcl HB.out hw713_0), (zcl HB.out hw713_1)⟩ (fun hHeld => ?_); refine with_tabW leadtrailref08_meet.tab4 leadtrailref08_meet.bits4 (fun HT_ HW_ => ?_); generalize wr.drew = w15 at HB HR707_0 HR708_0 HR709_0 HR711_0 HR712_0 HR713_0 hx707_0 hx707_1 hx708_0 hx708_1 hx709_0 hx709_1 hx711_0 hx711_1 hx712_0 hx712_1 hx713_0 hx713_1 hHeld ⊢; refine zp 0 (some 11) (v := ?_) (a' := ?_) (bz 38 1) rfl rfl HT_.out zz zQ ?_ ?_ ?_; rotate_left
          ·intro w'; go_simp; with_reducible rfl
          rotate_left
          ·simp only [Act.put, zv, i64_w, i32_w]; rfl
          refine zp 1 (some 12) (v := ?_) (a' := ?_) (bz 38 3) rfl rfl HT_.out zz zQ ?_ ?_ ?_; rotate_left
          ·intro w'; go_simp; with_reducible rfl
          rotate_left
          ·simp only [Act.put, zv, i64_w, i32_w]; rfl
          refine zp 2 (some 13) (v := ?_) (a' := ?_) (bz 38 7) rfl rfl HT_.out zz zQ ?_ ?_ ?_; rotate_left
          ·intro w'; go_simp; with_reducible rfl
          rotate_left
          ·simp only [Act.put, zv, i64_w, i32_w]; rfl
          refine zp 3 (some 14) (v := ?_) (a' := ?_) (bz 38 15) rfl rfl HT_.out zz zQ ?_ ?_ ?_; rotate_left
          ·intro w'; go_simp; with_reducible rfl
          rotate_left
          ·simp only [Act.put, zv, i64_w, i32_w]; rfl
          refine zp 5 (some 16) (v := ?_) (a' := ?_) (bz 38 47) rfl rfl HT_.out zz zQ ?_ ?_ ?_; rotate_left
          ·intro w'; go_simp; with_reducible rfl
          rotate_left
          ·simp only [Act.put, zv, i64_w, i32_w]; rfl
          refine zp 6 (some 17) (v := ?_) (a' := ?_) (bz 38 111) rfl rfl HT_.out zz zQ ?_ ?_ ?_; rotate_left
          ·intro w'; go_simp; with_reducible rfl
          rotate_left
          ·simp only [Act.put, zv, i64_w, i32_w]; rfl
          refine zp 7 (some 18) (v := ?_) (a' := ?_) (bz 38 239) rfl rfl HT_.out zz zQ ?_ ?_ ?_; rotate_left
          ·intro w'; go_simp; with_reducible rfl
          rotate_left
          ·simp only [Act.put, zv, i64_w, i32_w]; rfl
          refine zp 8 (some 19) (v := ?_) (a' := ?_) (bz 38 495) rfl rfl HT_.out zz zQ ?_ ?_ ?_; rotate_left
          ·intro w'; go_simp; with_reducible rfl
          rotate_left
          ·simp only [Act.put, zv, i64_w, i32_w]; rfl
          refine zp 10 (some 21) (v := ?_) (a' := ?_) (bz 38 1519) rfl rfl HT_.out zz zQ ?_ ?_ ?_; rotate_left
          ·intro w'; go_simp; with_reducible rfl
          rotate_left
          ·simp only [Act.put, zv, i64_w, i32_w]; rfl
          refine zp 11 (some 22) (v := ?_) (a' := ?_) (bz 38 3567) rfl rfl HT_.out zz zQ ?_ ?_ ?_; rotate_left
          ·intro w'; go_simp; with_reducible rfl
          rotate_left
          ·simp only [Act.put, zv, i64_w, i32_w]; rfl
          refine zp 12 (some 23) (v := ?_) (a' := ?_) (bz 38 7663) rfl rfl HT_.out zz zQ ?_ ?_ ?_; rotate_left
          ·intro w'; go_simp; with_reducible rfl
          rotate_left
          ·simp only [Act.put, zv, i64_w, i32_w]; rfl
          refine take_ (i := 4) (N := some 15) (v := ?_) (a' := ?_) (bz 38 7679) rfl rfl (take_ofW HT_.out HW_.out zz) zQ (Or.inl ⟨by rfl, ?_⟩) hHeld ?_ ?_; rotate_left
          ·rintro w' ⟨s0, s1, s2, s3, s4, s5, s6, s7, s8, s9, s10, s11⟩; go_simp; with_reducible rfl
          rotate_left
          ·simp only [Act.put, zv, i64_w, i32_w]; rfl
          refine take_ (i := 9) (N := some 20) (v := ?_) (a' := ?_) (bz 38 8191) rfl rfl (take_ofW HT_.out HW_.out zz) zQ (Or.inl ⟨by rfl, ?_⟩) hHeld ?_ ?_; rotate_left
          ·rintro w' ⟨s0, s1, s2, s3, s4, s5, s6, s7, s8, s9, s10, s11⟩; go_simp; with_reducible rfl
          rotate_left
          ·simp only [Act.put, zv, i64_w, i32_w]; rfl
          refine take_ (i := 13) (N := some 24) (v := ?_) (a' := ?_) (bz 38 16383) rfl rfl (take_ofW HT_.out HW_.out zz) zQ (Or.inl ⟨by rfl, ?_⟩) hHeld ?_ ?_; rotate_left
          ·rintro w' ⟨s0, s1, s2, s3, s4, s5, s6, s7, s8, s9, s10, s11⟩; go_simp; with_reducible rfl
          rotate_left
          ·simp only [Act.put, zv, i64_w, i32_w]; rfl
          refine one_ (i := 14) (N := some 25) (bz 38 32767) rfl rfl (one_of HT_.out zz) (by decide) (fun K hK => ?_); refine goes_ Try.func83 zz rfl #[.agg #[.slice A708_0 ((rd_T47 l0 x5_1).f0).length c708_0, .int .i64 ((rd_T47 l0 x5_1).f1)]] (by rfl) rfl rfl zM ?_; with_reducible refine (leadtrailref08_Count.calls k1 _ _ ((rd_T47 l0 x5_1).f0) ((rd_T47 l0 x5_1).f1) t710 _ ?side1 ?side2 A8.out).mono ?_; (case side1 => exact zc (Kd.C_below HR709_0.out HB.out))
          (case side2 => exact HC709_0.out)
          rintro e w16 ⟨rfl, hb⟩; refine ⟨_, rfl, ?_⟩; have n0_ := zk (below_step (zU HB.out) hb); clear HB; have HB := n0_; clear n0_; (try clear hb); (try clear hb2); (try clear hk); (try clear hi); refine hK.out _ _ ⟨(zcl HB.out hw707_0), (zcl HB.out hw707_1), (zcl HB.out hw708_0), (zcl HB.out hw708_1), (zcl HB.out hw709_0), (zcl HB.out hw709_1), (zcl HB.out hw711_0), (zcl HB.out hw711_1), (zcl HB.out hw712_0), (zcl HB.out hw712_1), (zcl HB.out hw713_0), (zcl HB.out hw713_1)⟩ (fun hHeld => ?_); clear hK K; refine norm_ (a' := ?_) ?_ ?_; rotate_left
          ·show Act.put _ (some 25) _ = _; simp only [Act.put, zv, i64_w, i32_w]; rfl
          refine zp 15 (some 26) (v := ?_) (a' := ?_) (bz 38 65535) rfl rfl HT_.out zz zQ ?_ ?_ ?_; rotate_left
          ·intro w'; go_simp; with_reducible rfl
          rotate_left
          ·simp only [Act.put, zv, i64_w, i32_w]; rfl
          refine zp 16 (some 27) (v := ?_) (a' := ?_) (bz 38 131071) rfl rfl HT_.out zz zQ ?_ ?_ ?_; rotate_left
          ·intro w'; go_simp; with_reducible rfl
          rotate_left
          ·simp only [Act.put, zv, i64_w, i32_w]; rfl
          refine zp 17 (some 28) (v := ?_) (a' := ?_) (bz 38 262143) rfl rfl HT_.out zz zQ ?_ ?_ ?_; rotate_left
          ·intro w'; go_simp; with_reducible rfl
          rotate_left
          ·simp only [Act.put, zv, i64_w, i32_w]; rfl
          refine zp 18 (some 29) (v := ?_) (a' := ?_) (bz 38 524287) rfl rfl HT_.out zz zQ ?_ ?_ ?_; rotate_left
          ·intro w'; go_simp; with_reducible rfl
          rotate_left
          ·simp only [Act.put, zv, i64_w, i32_w]; rfl
          refine zp 19 (some 30) (v := ?_) (a' := ?_) (bz 38 1048575) rfl rfl HT_.out zz zQ ?_ ?_ ?_; rotate_left
          ·intro w'; go_simp; with_reducible rfl
          rotate_left
          ·simp only [Act.put, zv, i64_w, i32_w]; rfl
          refine zp 20 (some 31) (v := ?_) (a' := ?_) (bz 38 2097151) rfl rfl HT_.out zz zQ ?_ ?_ ?_; rotate_left
          ·intro w'; go_simp; with_reducible rfl
          rotate_left
          ·simp only [Act.put, zv, i64_w, i32_w]; rfl
          refine zp 21 (some 32) (v := ?_) (a' := ?_) (bz 38 4194303) rfl rfl HT_.out zz zQ ?_ ?_ ?_; rotate_left
          ·intro w'; go_simp; with_reducible rfl
          rotate_left
          ·simp only [Act.put, zv, i64_w, i32_w]; rfl
          refine zp 22 (some 33) (v := ?_) (a' := ?_) (bz 38 8388607) rfl rfl HT_.out zz zQ ?_ ?_ ?_; rotate_left
          ·intro w'; go_simp; with_reducible rfl
          rotate_left
          ·simp only [Act.put, zv, i64_w, i32_w]; rfl
          refine zp 24 (some 35) (v := ?_) (a' := ?_) (bz 38 25165823) rfl rfl HT_.out zz zQ ?_ ?_ ?_; rotate_left
          ·intro w'; go_simp; with_reducible rfl
          rotate_left
          ·simp only [Act.put, zv, i64_w, i32_w]; rfl
          refine zp 25 (some 36) (v := ?_) (a' := ?_) (bz 38 58720255) rfl rfl HT_.out zz zQ ?_ ?_ ?_; rotate_left
          ·intro w'; go_simp; with_reducible rfl
          rotate_left
          ·simp only [Act.put, zv, i64_w, i32_w]; rfl
          refine zp 26 (some 37) (v := ?_) (a' := ?_) (bz 38 125829119) rfl rfl HT_.out zz zQ ?_ ?_ ?_; rotate_left
          ·intro w'; go_simp; with_reducible rfl
          rotate_left
          ·simp only [Act.put, zv, i64_w, i32_w]; rfl
          refine zp 27 (some 38) (v := ?_) (a' := ?_) (bz 38 260046847) rfl rfl HT_.out zz zQ ?_ ?_ ?_; rotate_left
          ·intro w'; go_simp; with_reducible rfl
          rotate_left
          ·simp only [Act.put, zv, i64_w, i32_w]; rfl
          refine zp 29 (some 40) (v := ?_) (a' := ?_) (bz 38 796917759) rfl rfl HT_.out zz zQ ?_ ?_ ?_; rotate_left
          ·intro w'; go_simp; with_reducible rfl
          rotate_left
          ·simp only [Act.put, zv, i64_w, i32_w]; rfl
          refine zp 30 (some 41) (v := ?_) (a' := ?_) (bz 38 1870659583) rfl rfl HT_.out zz zQ ?_ ?_ ?_; rotate_left
          ·intro w'; go_simp; with_reducible rfl
          rotate_left
          ·simp only [Act.put, zv, i64_w, i32_w]; rfl
          refine zp 31 (some 42) (v := ?_) (a' := ?_) (bz 38 4018143231) rfl rfl HT_.out zz zQ ?_ ?_ ?_; rotate_left
          ·intro w'; go_simp; with_reducible rfl
          rotate_left
          ·simp only [Act.put, zv, i64_w, i32_w]; rfl
          refine take_ (i := 23) (N := some 34) (v := ?_) (a' := ?_) (bz 38 4026531839) rfl rfl (take_ofW HT_.out HW_.out zz) zQ (Or.inl ⟨by rfl, ?_⟩) hHeld ?_ ?_; rotate_left
          ·rintro w' ⟨s0, s1, s2, s3, s4, s5, s6, s7, s8, s9, s10, s11⟩; go_simp; with_reducible rfl
          rotate_left
          ·simp only [Act.put, zv, i64_w, i32_w]; rfl
          refine take_ (i := 28) (N := some 39) (v := ?_) (a' := ?_) (bz 38 4294967295) rfl rfl (take_ofW HT_.out HW_.out zz) zQ (Or.inl ⟨by rfl, ?_⟩) hHeld ?_ ?_; rotate_left
          ·rintro w' ⟨s0, s1, s2, s3, s4, s5, s6, s7, s8, s9, s10, s11⟩; go_simp; with_reducible rfl
          rotate_left
          ·simp only [Act.put, zv, i64_w, i32_w]; rfl
          refine take_ (i := 32) (N := some 43) (v := ?_) (a' := ?_) (bz 38 8589934591) rfl rfl (take_ofW HT_.out HW_.out zz) zQ (Or.inl ⟨by rfl, ?_⟩) hHeld ?_ ?_; rotate_left
          ·rintro w' ⟨s0, s1, s2, s3, s4, s5, s6, s7, s8, s9, s10, s11⟩; go_simp; with_reducible rfl
          rotate_left
          ·simp only [Act.put, zv, i64_w, i32_w]; rfl
          refine one_ (i := 33) (N := some 44) (bz 38 17179869183) rfl rfl (one_of HT_.out zz) (by decide) (fun K hK => ?_); refine goes_ Try.func83 zz rfl #[.agg #[.slice A707_0 ((rd_T47 l0 a1).f0).length c707_0, .int .i64 ((rd_T47 l0 a1).f1)]] (by rfl) rfl rfl zM ?_; with_reducible refine (leadtrailref08_Count.calls k1 _ _ ((rd_T47 l0 a1).f0) ((rd_T47 l0 a1).f1) t714 _ ?side1 ?side2 A10.out).mono ?_; (case side1 => exact zc (Kd.C_below HR713_0.out HB.out))
          (case side2 => exact HC713_0.out)
          rintro e w17 ⟨rfl, hb⟩; refine ⟨_, rfl, ?_⟩; have n0_ := zk (below_step (zU HB.out) hb); clear HB; have HB := n0_; clear n0_; (try clear hb); (try clear hb2); (try clear hk); (try clear hi); refine hK.out _ _ ⟨(zcl HB.out hw707_0), (zcl HB.out hw707_1), (zcl HB.out hw708_0), (zcl HB.out hw708_1), (zcl HB.out hw709_0), (zcl HB.out hw709_1), (zcl HB.out hw711_0), (zcl HB.out hw711_1), (zcl HB.out hw712_0), (zcl HB.out hw712_1), (zcl HB.out hw713_0), (zcl HB.out hw713_1)⟩ (fun hHeld => ?_); clear hK K; refine norm_ (a' := ?_) ?_ ?_; rotate_left
          ·show Act.put _ (some 44) _ = _; simp only [Act.put, zv, i64_w, i32_w]; rfl
          refine zp 34 (some 45) (v := ?_) (a' := ?_) (bz 38 34359738367) rfl rfl HT_.out zz zQ ?_ ?_ ?_; rotate_left
          ·intro w'; go_simp; with_reducible rfl
          rotate_left
          ·simp only [Act.put, zv, i64_w, i32_w]; rfl
          refine zp 35 (some 46) (v := ?_) (a' := ?_) (bz 38 68719476735) rfl rfl HT_.out zz zQ ?_ ?_ ?_; rotate_left
          ·intro w'; go_simp; with_reducible rfl
          rotate_left
          ·simp only [Act.put, zv, i64_w, i32_w]; rfl
          refine zp 36 (some 47) (v := ?_) (a' := ?_) (bz 38 137438953471) rfl rfl HT_.out zz zQ ?_ ?_ ?_; rotate_left
          ·intro w'; go_simp; with_reducible rfl
          rotate_left
          ·simp only [Act.put, zv, i64_w, i32_w]; rfl
          refine zp 37 (some 48) (v := ?_) (a' := ?_) (bz 38 274877906943) rfl rfl HT_.out zz zQ ?_ ?_ ?_; rotate_left
          ·intro w'; go_simp; with_reducible rfl
          rotate_left
          ·simp only [Act.put, zv, i64_w, i32_w]; rfl
          refine done_ (done_of HT_.out zz) ?_; try go_wp2
          go_roundg k1
          case measure => have := HK1.out; omega
          case rel => exact ⟨(wrap64 (x5_1 + 1)), zR, H', ⟨by have := HK1.out; omega⟩, ⟨zU HB.out⟩⟩
        ·rw [if_neg c9] at H; have c9b0 : decide (((rd_T47 l0 a1).f1) ≤ (wrap64 ((wrap64 (((rd_T47 l0 x5_1).f1) + t710)) - 1))) = false := decide_eq_false c9; clear c9; have H' := zk H; clear H; try go_wp2
         have n0_ := zk (below_drew1 HB.out); clear HB; have HB := n0_; clear n0_; have p707 : 0 ≤ (a1 : Int) := zT; have q707 : a1 < (l0.length : Int) := zT; obtain ⟨ad707, A707_0, c707_0, e707, hx707_0, hx707_1, hl707_0, hi707_0⟩ := at_T47 HR0.out a1 p707 q707; have hw707_1 := hx707_1; have hw707_0 := hx707_0; cases e707; replace hx707_0 := zcl HB.out hx707_0; replace hx707_1 := zcl HB.out hx707_1; have HR707_0 := zk hi707_0; have HC707_0 := zk hl707_0; clear hi707_0 hl707_0; replace p707 := eq_true p707; replace q707 := eq_true q707; have p708 : 0 ≤ (x5_1 : Int) := zT; have q708 : x5_1 < (l0.length : Int) := zT; obtain ⟨ad708, A708_0, c708_0, e708, hx708_0, hx708_1, hl708_0, hi708_0⟩ := at_T47 HR0.out x5_1 p708 q708; have hw708_1 := hx708_1; have hw708_0 := hx708_0; obtain rfl : ad707 = ad708 := (by injection e708); replace hx708_0 := zcl HB.out hx708_0; replace hx708_1 := zcl HB.out hx708_1; have HR708_0 := zk hi708_0; have HC708_0 := zk hl708_0; clear hi708_0 hl708_0; replace p708 := eq_true p708; replace q708 := eq_true q708; have p709 : 0 ≤ (x5_1 : Int) := zT; have q709 : x5_1 < (l0.length : Int) := zT; obtain ⟨ad709, A709_0, c709_0, e709, hx709_0, hx709_1, hl709_0, hi709_0⟩ := at_T47 HR0.out x5_1 p709 q709; have hw709_1 := hx709_1; have hw709_0 := hx709_0; obtain rfl : ad707 = ad709 := (by injection e709); replace hx709_0 := zcl HB.out hx709_0; replace hx709_1 := zcl HB.out hx709_1; have HR709_0 := zk hi709_0; have HC709_0 := zk hl709_0; clear hi709_0 hl709_0; replace p709 := eq_true p709; replace q709 := eq_true q709; have ea_ := Option.some.inj (hx708_0.symm.trans hx709_0); injection ea_ with ea_ en_ ec_
         subst ea_; subst ec_; clear en_; refine start_ (n := 38) (S := fun w' => w'.cell? (ad707.add ((a1).toNat * 2)) = some (.slice A707_0 ((rd_T47 l0 a1).f0).length c707_0) ∧ w'.cell? ⟨(ad707.add ((a1).toNat * 2)).block, (ad707.add ((a1).toNat * 2)).off + 1, none⟩ = some (.int .i64 ((rd_T47 l0 a1).f1)) ∧ w'.cell? (ad707.add ((x5_1).toNat * 2)) = some (.slice A708_0 ((rd_T47 l0 x5_1).f0).length c708_0) ∧ w'.cell? ⟨(ad707.add ((x5_1).toNat * 2)).block, (ad707.add ((x5_1).toNat * 2)).off + 1, none⟩ = some (.int .i64 ((rd_T47 l0 x5_1).f1)) ∧ w'.cell? (ad707.add ((x5_1).toNat * 2)) = some (.slice A708_0 ((rd_T47 l0 x5_1).f0).length c708_0) ∧ w'.cell? ⟨(ad707.add ((x5_1).toNat * 2)).block, (ad707.add ((x5_1).toNat * 2)).off + 1, none⟩ = some (.int .i64 ((rd_T47 l0 x5_1).f1))) (ds := []) #[false, false, false, false, false, false, false, false, false, false, false, false, false, false, false, false, false, false, false, false, false, false, false, false, false, false, false, false, false, false, false, false, false, false, false, false, false, false] zz rfl rfl ⟨(zcl HB.out hw707_0), (zcl HB.out hw707_1), (zcl HB.out hw708_0), (zcl HB.out hw708_1), (zcl HB.out hw709_0), (zcl HB.out hw709_1)⟩ (fun hHeld => ?_); refine with_tabW leadtrailref08_meet.tab4 leadtrailref08_meet.bits4 (fun HT_ HW_ => ?_); generalize wr.drew = w18 at HB HR707_0 HR708_0 HR709_0 hx707_0 hx707_1 hx708_0 hx708_1 hx709_0 hx709_1 hHeld ⊢; refine zp 0 (some 11) (v := ?_) (a' := ?_) (bz 38 1) rfl rfl HT_.out zz zQ ?_ ?_ ?_; rotate_left
         ·intro w'; go_simp; with_reducible rfl
         rotate_left
         ·simp only [Act.put, zv, i64_w, i32_w]; rfl
         refine zp 1 (some 12) (v := ?_) (a' := ?_) (bz 38 3) rfl rfl HT_.out zz zQ ?_ ?_ ?_; rotate_left
         ·intro w'; go_simp; with_reducible rfl
         rotate_left
         ·simp only [Act.put, zv, i64_w, i32_w]; rfl
         refine zp 2 (some 13) (v := ?_) (a' := ?_) (bz 38 7) rfl rfl HT_.out zz zQ ?_ ?_ ?_; rotate_left
         ·intro w'; go_simp; with_reducible rfl
         rotate_left
         ·simp only [Act.put, zv, i64_w, i32_w]; rfl
         refine zp 3 (some 14) (v := ?_) (a' := ?_) (bz 38 15) rfl rfl HT_.out zz zQ ?_ ?_ ?_; rotate_left
         ·intro w'; go_simp; with_reducible rfl
         rotate_left
         ·simp only [Act.put, zv, i64_w, i32_w]; rfl
         refine zp 5 (some 16) (v := ?_) (a' := ?_) (bz 38 47) rfl rfl HT_.out zz zQ ?_ ?_ ?_; rotate_left
         ·intro w'; go_simp; with_reducible rfl
         rotate_left
         ·simp only [Act.put, zv, i64_w, i32_w]; rfl
         refine zp 6 (some 17) (v := ?_) (a' := ?_) (bz 38 111) rfl rfl HT_.out zz zQ ?_ ?_ ?_; rotate_left
         ·intro w'; go_simp; with_reducible rfl
         rotate_left
         ·simp only [Act.put, zv, i64_w, i32_w]; rfl
         refine zp 7 (some 18) (v := ?_) (a' := ?_) (bz 38 239) rfl rfl HT_.out zz zQ ?_ ?_ ?_; rotate_left
         ·intro w'; go_simp; with_reducible rfl
         rotate_left
         ·simp only [Act.put, zv, i64_w, i32_w]; rfl
         refine zp 8 (some 19) (v := ?_) (a' := ?_) (bz 38 495) rfl rfl HT_.out zz zQ ?_ ?_ ?_; rotate_left
         ·intro w'; go_simp; with_reducible rfl
         rotate_left
         ·simp only [Act.put, zv, i64_w, i32_w]; rfl
         refine zp 10 (some 21) (v := ?_) (a' := ?_) (bz 38 1519) rfl rfl HT_.out zz zQ ?_ ?_ ?_; rotate_left
         ·intro w'; go_simp; with_reducible rfl
         rotate_left
         ·simp only [Act.put, zv, i64_w, i32_w]; rfl
         refine zp 11 (some 22) (v := ?_) (a' := ?_) (bz 38 3567) rfl rfl HT_.out zz zQ ?_ ?_ ?_; rotate_left
         ·intro w'; go_simp; with_reducible rfl
         rotate_left
         ·simp only [Act.put, zv, i64_w, i32_w]; rfl
         refine zp 12 (some 23) (v := ?_) (a' := ?_) (bz 38 7663) rfl rfl HT_.out zz zQ ?_ ?_ ?_; rotate_left
         ·intro w'; go_simp; with_reducible rfl
         rotate_left
         ·simp only [Act.put, zv, i64_w, i32_w]; rfl
         refine take_ (i := 4) (N := some 15) (v := ?_) (a' := ?_) (bz 38 7679) rfl rfl (take_ofW HT_.out HW_.out zz) zQ (Or.inl ⟨by rfl, ?_⟩) hHeld ?_ ?_; rotate_left
         ·rintro w' ⟨s0, s1, s2, s3, s4, s5⟩; go_simp; with_reducible rfl
         rotate_left
         ·simp only [Act.put, zv, i64_w, i32_w]; rfl
         refine take_ (i := 9) (N := some 20) (v := ?_) (a' := ?_) (bz 38 8191) rfl rfl (take_ofW HT_.out HW_.out zz) zQ (Or.inl ⟨by rfl, ?_⟩) hHeld ?_ ?_; rotate_left
         ·rintro w' ⟨s0, s1, s2, s3, s4, s5⟩; go_simp; with_reducible rfl
         rotate_left
         ·simp only [Act.put, zv, i64_w, i32_w]; rfl
         refine take_ (i := 13) (N := some 24) (v := ?_) (a' := ?_) (bz 38 16383) rfl rfl (take_ofW HT_.out HW_.out zz) zQ (Or.inl ⟨by rfl, ?_⟩) hHeld ?_ ?_; rotate_left
         ·rintro w' ⟨s0, s1, s2, s3, s4, s5⟩; go_simp; with_reducible rfl
         rotate_left
         ·simp only [Act.put, zv, i64_w, i32_w]; rfl
         refine one_ (i := 14) (N := some 25) (bz 38 32767) rfl rfl (one_of HT_.out zz) (by decide) (fun K hK => ?_); refine goes_ Try.func83 zz rfl #[.agg #[.slice A708_0 ((rd_T47 l0 x5_1).f0).length c708_0, .int .i64 ((rd_T47 l0 x5_1).f1)]] (by rfl) rfl rfl zM ?_; with_reducible refine (leadtrailref08_Count.calls k1 _ _ ((rd_T47 l0 x5_1).f0) ((rd_T47 l0 x5_1).f1) t710 _ ?side1 ?side2 A8.out).mono ?_; (case side1 => exact zc (Kd.C_below HR709_0.out HB.out))
         (case side2 => exact HC709_0.out)
         rintro e w19 ⟨rfl, hb⟩; refine ⟨_, rfl, ?_⟩; have n0_ := zk (below_step (zU HB.out) hb); clear HB; have HB := n0_; clear n0_; (try clear hb); (try clear hb2); (try clear hk); (try clear hi); refine hK.out _ _ ⟨(zcl HB.out hw707_0), (zcl HB.out hw707_1), (zcl HB.out hw708_0), (zcl HB.out hw708_1), (zcl HB.out hw709_0), (zcl HB.out hw709_1)⟩ (fun hHeld => ?_); clear hK K; refine norm_ (a' := ?_) ?_ ?_; rotate_left
         ·show Act.put _ (some 25) _ = _; simp only [Act.put, zv, i64_w, i32_w]; rfl
         refine zp 15 (some 26) (v := ?_) (a' := ?_) (bz 38 65535) rfl rfl HT_.out zz zQ ?_ ?_ ?_; rotate_left
         ·intro w'; go_simp; with_reducible rfl
         rotate_left
         ·simp only [Act.put, zv, i64_w, i32_w]; rfl
         refine zp 16 (some 27) (v := ?_) (a' := ?_) (bz 38 131071) rfl rfl HT_.out zz zQ ?_ ?_ ?_; rotate_left
         ·intro w'; go_simp; with_reducible rfl
         rotate_left
         ·simp only [Act.put, zv, i64_w, i32_w]; rfl
         refine zp 17 (some 28) (v := ?_) (a' := ?_) (bz 38 262143) rfl rfl HT_.out zz zQ ?_ ?_ ?_; rotate_left
         ·intro w'; go_simp; with_reducible rfl
         rotate_left
         ·simp only [Act.put, zv, i64_w, i32_w]; rfl
         refine zp 18 (some 29) (v := ?_) (a' := ?_) (bz 38 524287) rfl rfl HT_.out zz zQ ?_ ?_ ?_; rotate_left
         ·intro w'; go_simp; with_reducible rfl
         rotate_left
         ·simp only [Act.put, zv, i64_w, i32_w]; rfl
         refine pure_ (i := 19) (N := some 30) (v := undef) (a' := ?_) (bz 38 1048575) rfl rfl (any_of HT_.out zz) zQ (Or.inr ⟨by rfl, rfl⟩) ?_ ?_; rotate_left
         ·simp only [Act.put, zv, i64_w, i32_w]; rfl
         refine pure_ (i := 20) (N := some 31) (v := undef) (a' := ?_) (bz 38 2097151) rfl rfl (any_of HT_.out zz) zQ (Or.inr ⟨by rfl, rfl⟩) ?_ ?_; rotate_left
         ·simp only [Act.put, zv, i64_w, i32_w]; rfl
         refine pure_ (i := 21) (N := some 32) (v := undef) (a' := ?_) (bz 38 4194303) rfl rfl (any_of HT_.out zz) zQ (Or.inr ⟨by rfl, rfl⟩) ?_ ?_; rotate_left
         ·simp only [Act.put, zv, i64_w, i32_w]; rfl
         refine pure_ (i := 22) (N := some 33) (v := undef) (a' := ?_) (bz 38 8388607) rfl rfl (any_of HT_.out zz) zQ (Or.inr ⟨by rfl, rfl⟩) ?_ ?_; rotate_left
         ·simp only [Act.put, zv, i64_w, i32_w]; rfl
         refine pure_ (i := 23) (N := some 34) (v := undef) (a' := ?_) (bz 38 16777215) rfl rfl (any_of HT_.out zz) zQ (Or.inr ⟨by rfl, rfl⟩) ?_ ?_; rotate_left
         ·simp only [Act.put, zv, i64_w, i32_w]; rfl
         refine pure_ (i := 24) (N := some 35) (v := undef) (a' := ?_) (bz 38 33554431) rfl rfl (any_of HT_.out zz) zQ (Or.inr ⟨by rfl, rfl⟩) ?_ ?_; rotate_left
         ·simp only [Act.put, zv, i64_w, i32_w]; rfl
         refine pure_ (i := 25) (N := some 36) (v := undef) (a' := ?_) (bz 38 67108863) rfl rfl (any_of HT_.out zz) zQ (Or.inr ⟨by rfl, rfl⟩) ?_ ?_; rotate_left
         ·simp only [Act.put, zv, i64_w, i32_w]; rfl
         refine pure_ (i := 26) (N := some 37) (v := undef) (a' := ?_) (bz 38 134217727) rfl rfl (any_of HT_.out zz) zQ (Or.inr ⟨by rfl, rfl⟩) ?_ ?_; rotate_left
         ·simp only [Act.put, zv, i64_w, i32_w]; rfl
         refine pure_ (i := 27) (N := some 38) (v := undef) (a' := ?_) (bz 38 268435455) rfl rfl (any_of HT_.out zz) zQ (Or.inr ⟨by rfl, rfl⟩) ?_ ?_; rotate_left
         ·simp only [Act.put, zv, i64_w, i32_w]; rfl
         refine pure_ (i := 28) (N := some 39) (v := undef) (a' := ?_) (bz 38 536870911) rfl rfl (any_of HT_.out zz) zQ (Or.inr ⟨by rfl, rfl⟩) ?_ ?_; rotate_left
         ·simp only [Act.put, zv, i64_w, i32_w]; rfl
         refine pure_ (i := 29) (N := some 40) (v := undef) (a' := ?_) (bz 38 1073741823) rfl rfl (any_of HT_.out zz) zQ (Or.inr ⟨by rfl, rfl⟩) ?_ ?_; rotate_left
         ·simp only [Act.put, zv, i64_w, i32_w]; rfl
         refine pure_ (i := 30) (N := some 41) (v := undef) (a' := ?_) (bz 38 2147483647) rfl rfl (any_of HT_.out zz) zQ (Or.inr ⟨by rfl, rfl⟩) ?_ ?_; rotate_left
         ·simp only [Act.put, zv, i64_w, i32_w]; rfl
         refine pure_ (i := 31) (N := some 42) (v := undef) (a' := ?_) (bz 38 4294967295) rfl rfl (any_of HT_.out zz) zQ (Or.inr ⟨by rfl, rfl⟩) ?_ ?_; rotate_left
         ·simp only [Act.put, zv, i64_w, i32_w]; rfl
         refine pure_ (i := 32) (N := some 43) (v := undef) (a' := ?_) (bz 38 8589934591) rfl rfl (any_of HT_.out zz) zQ (Or.inr ⟨by rfl, rfl⟩) ?_ ?_; rotate_left
         ·simp only [Act.put, zv, i64_w, i32_w]; rfl
         refine pure_ (i := 33) (N := some 44) (v := undef) (a' := ?_) (bz 38 17179869183) rfl rfl (any_of HT_.out zz) zQ (Or.inr ⟨by rfl, rfl⟩) ?_ ?_; rotate_left
         ·simp only [Act.put, zv, i64_w, i32_w]; rfl
         refine pure_ (i := 34) (N := some 45) (v := undef) (a' := ?_) (bz 38 34359738367) rfl rfl (any_of HT_.out zz) zQ (Or.inr ⟨by rfl, rfl⟩) ?_ ?_; rotate_left
         ·simp only [Act.put, zv, i64_w, i32_w]; rfl
         refine pure_ (i := 35) (N := some 46) (v := undef) (a' := ?_) (bz 38 68719476735) rfl rfl (any_of HT_.out zz) zQ (Or.inr ⟨by rfl, rfl⟩) ?_ ?_; rotate_left
         ·simp only [Act.put, zv, i64_w, i32_w]; rfl
         refine pure_ (i := 36) (N := some 47) (v := undef) (a' := ?_) (bz 38 137438953471) rfl rfl (any_of HT_.out zz) zQ (Or.inr ⟨by rfl, rfl⟩) ?_ ?_; rotate_left
         ·simp only [Act.put, zv, i64_w, i32_w]; rfl
         refine zp 37 (some 48) (v := ?_) (a' := ?_) (bz 38 274877906943) rfl rfl HT_.out zz zQ ?_ ?_ ?_; rotate_left
         ·intro w'; go_simp; with_reducible rfl
         rotate_left
         ·simp only [Act.put, zv, i64_w, i32_w]; rfl
         refine done_ (done_of HT_.out zz) ?_; try go_wp2
         go_roundg k1
         case measure => have := HK1.out; omega
         case rel => exact ⟨(wrap64 (x5_1 + 1)), zR, H', ⟨by have := HK1.out; omega⟩, ⟨zU HB.out⟩⟩
       ·rw [if_neg c7] at H; exact absurd H (by simp)
      ·rw [if_neg c6] at H; exact absurd H (by simp)
     ·rw [if_neg c5] at H; exact absurd H (by simp)
    ·rw [if_neg c4] at H; exact absurd H (by simp)
   ·rw [if_neg c3] at H; have c3b0 : decide (x5_1 < a1) = false := decide_eq_false c3; clear c3; obtain rfl := Option.some.inj H; go_wp2
    go_ret
    exact ⟨ze, zU HB.out⟩
end Go.Proofs.Ytoljcfocgaonpaa.I
