/- Words and walks of this claim, of the text Bx25. -/
import Derived.Test.YtkcklnmbeinfkaaKrQW0
import Derived.Test.YtkcklnmbeinfkaaKrBx0
import Derived.Test.YtkcklnmbeinfkaaKrBx12
namespace Go.Proofs.Ytkcklnmbeinfkaa.B
open Go.RowKit Go.Proofs.YtkcklnmbeinfkaaW.PrintWords Go.Proofs.YtkcklnmbeinfkaaW.PrintLast Go.Proofs.YtkcklnmbeinfkaaW.PrintMore
attribute [local go_sem] max2_int min2_int max_two min_two max_three min_three max_four min_four
set_option linter.unusedVariables false
set_option linter.unusedSimpArgs false
def leadtrailref08_meet.l0 : Nat → List (S50) → Int → Int → Option (Bool)
 | 0, _, _, _ => none
 | k + 1, x0, x1, x5 => if x5 < x1 then (if 0 ≤ x1 then (if x1 < (x0.length : Int) then (if 0 ≤ x5 then (if x5 < (x0.length : Int) then ((leadtrailref08_Count.f k ((rd_T50 x0 x5).f0) ((rd_T50 x0 x5).f1)).bind fun t599 => (if ((rd_T50 x0 x1).f1) ≤ (wrap64 ((wrap64 (((rd_T50 x0 x5).f1) + t599)) - 1)) then ((leadtrailref08_Count.f k ((rd_T50 x0 x1).f0) ((rd_T50 x0 x1).f1)).bind fun t603 => (if ((rd_T50 x0 x5).f1) ≤ (wrap64 ((wrap64 (((rd_T50 x0 x1).f1) + t603)) - 1)) then (some true) else (leadtrailref08_meet.l0 k x0 x1 (wrap64 (x5 + 1))))) else (leadtrailref08_meet.l0 k x0 x1 (wrap64 (x5 + 1))))) else (none)) else (none)) else (none)) else (none)) else (some false)
def leadtrailref08_meet.f (k : Nat) (l0 : List (S50)) (a1 : Int) : Option (Bool) := leadtrailref08_meet.l0 k l0 a1 0
def leadtrailref08_meet.T4 : Bool × List (List Nat × List Nat) := (true, [([], []), ([], []), ([0, 1], [0, 1]), ([2], [2]), ([3], [3]), ([], []), ([], []), ([5, 6], [5, 6]), ([7], [7]), ([8], [8]), ([], []), ([], []), ([10, 11], [10, 11]), ([12], [12]), ([13], [13]), ([9, 14], [9, 14]), ([15], [15]), ([4, 16], [4, 16]), ([17, 14], [17]), ([18], [18]), ([18], [18]), ([19, 20, 18], [18, 19, 20]), ([21, 18], [18, 21]), ([22, 18], [18, 22]), ([18], [18]), ([18], [18]), ([24, 25, 18], [18, 24, 25]), ([26, 18], [18, 26]), ([27, 18], [18, 27]), ([18], [18]), ([18], [18]), ([29, 30, 18], [18, 29, 30]), ([31, 18], [18, 31]), ([32, 18, 18], [18, 32]), ([28, 33, 18], [18, 28, 33]), ([34, 18], [18, 34]), ([23, 35, 18], [18, 23, 35]), ([18, 36], [18, 36])])
def leadtrailref08_meet.B4 : List Nat := [0, 0, 3, 7, 15, 0, 0, 96, 224, 480, 0, 0, 3072, 7168, 15360, 32736, 65504, 131071, 262143, 524287, 524287, 2097151, 4194303, 8388607, 524287, 524287, 50855935, 117964799, 252182527, 524287, 524287, 1611137023, 3758620671, 8053587967, 17163616255, 34343485439, 68719476735, 137438953471]
theorem leadtrailref08_meet.tab4 : rtab .any (opsOf Try.f122 4) = leadtrailref08_meet.T4 := by kernel_rfl
theorem leadtrailref08_meet.bits4 : waitsOk leadtrailref08_meet.T4.2 leadtrailref08_meet.B4 = true := by kernel_rfl
set_option maxHeartbeats 8000000 in
set_option maxRecDepth 100000 in
theorem leadtrailref08_meet.calls (k : Nat) (A0 : Option Addr) (c0 : Nat) (l0 : List (S50)) (a1 : Int) (r : Bool) (w : World) (hr0 : Kd.C k50 w A0 l0.length l0) (hc0 : l0.length ≤ c0) (h : leadtrailref08_meet.f k l0 a1 = some r) :
 Calls Try.prog 122 #[.slice A0 l0.length c0, .int .i64 a1] w fun e w' => e = .returned (.bool r) ∧ Below w.heap.size w w' := by
 have hu50 := Try.underlying50; have HR0 := zk hr0; have HC0 := zk hc0; clear hr0 hc0; have HB := zk (Below.refl w.heap.size w); have H : (leadtrailref08_meet.l0 k l0 a1 0) = some r := h; clear h; have H' := zk H; clear H; go_enter Try.func122, Try.ntmps122
 go_wp2
 go_loopg [5] k (fun kq v5 w' => ∃ (x5_1 : Int), v5 = .int .i64 x5_1 ∧ Aside0 (leadtrailref08_meet.l0 kq l0 a1 x5_1 = some r) ∧ Aside0 (kq ≤ k) ∧ Aside0 (Below w.heap.size w w'))
 case atStart => exact ⟨(0), zR, H', ⟨Nat.le_refl _⟩, ⟨zU HB.out⟩⟩
 case round =>
  clear H'; (try clear c1); (try clear p2); obtain ⟨x5_1, rfl, HA, HK1, HB⟩ := hrel
  cases gk with
  | zero => exact absurd HA.out (by simp [leadtrailref08_meet.l0])
  | succ k1 =>
   have H := HA.out; clear HA; simp only [leadtrailref08_meet.l0] at H; by_cases c3 : x5_1 < a1
   ·rw [if_pos c3] at H; have c3b0 : decide (x5_1 < a1) = true := decide_eq_true c3; clear c3; by_cases c4 : 0 ≤ a1
    ·rw [if_pos c4] at H; have c4b0 : decide (0 ≤ a1) = true := decide_eq_true c4; clear c4; by_cases c5 : a1 < (l0.length : Int)
     ·rw [if_pos c5] at H; have c5b0 : decide (a1 < (l0.length : Int)) = true := decide_eq_true c5; clear c5; by_cases c6 : 0 ≤ x5_1
      ·rw [if_pos c6] at H; have c6b0 : decide (0 ≤ x5_1) = true := decide_eq_true c6; clear c6; by_cases c7 : x5_1 < (l0.length : Int)
       ·rw [if_pos c7] at H; have c7b0 : decide (x5_1 < (l0.length : Int)) = true := decide_eq_true c7; clear c7; replace H := Option.bind_eq_some_iff.mp H; obtain ⟨t599, A80, H⟩ := H; replace H : (if ((rd_T50 l0 a1).f1) ≤ (wrap64 ((wrap64 (((rd_T50 l0 x5_1).f1) + t599)) - 1)) then ((leadtrailref08_Count.f k1 ((rd_T50 l0 a1).f0) ((rd_T50 l0 a1).f1)).bind fun t603 => (if ((rd_T50 l0 x5_1).f1) ≤ (wrap64 ((wrap64 (((rd_T50 l0 a1).f1) + t603)) - 1)) then (some true) else (leadtrailref08_meet.l0 k1 l0 a1 (wrap64 (x5_1 + 1))))) else (leadtrailref08_meet.l0 k1 l0 a1 (wrap64 (x5_1 + 1)))) = some r := H; have A8 := zk A80; clear A80; by_cases c9 : ((rd_T50 l0 a1).f1) ≤ (wrap64 ((wrap64 (((rd_T50 l0 x5_1).f1) + t599)) - 1))
        ·rw [if_pos c9] at H; have c9b0 : decide (((rd_T50 l0 a1).f1) ≤ (wrap64 ((wrap64 (((rd_T50 l0 x5_1).f1) + t599)) - 1))) = true := decide_eq_true c9; clear c9; replace H := Option.bind_eq_some_iff.mp H; obtain ⟨t603, A100, H⟩ := H; replace H : (if ((rd_T50 l0 x5_1).f1) ≤ (wrap64 ((wrap64 (((rd_T50 l0 a1).f1) + t603)) - 1)) then (some true) else (leadtrailref08_meet.l0 k1 l0 a1 (wrap64 (x5_1 + 1)))) = some r := H; have A10 := zk A100; clear A100; by_cases c11 : ((rd_T50 l0 x5_1).f1) ≤ (wrap64 ((wrap64 (((rd_T50 l0 a1).f1) + t603)) - 1))
         ·rw [if_pos c11] at H; have c11b0 : decide (((rd_T50 l0 x5_1).f1) ≤ (wrap64 ((wrap64 (((rd_T50 l0 a1).f1) + t603)) - 1))) = true := decide_eq_true c11; clear c11; obtain rfl := Option.some.inj H; try go_wp2
          have n0_ := zk (below_drew1 HB.out); clear HB; have HB := n0_; clear n0_; have p596 : 0 ≤ (a1 : Int) := zT; have q596 : a1 < (l0.length : Int) := zT; obtain ⟨ad596, A596_0, c596_0, e596, hx596_0, hx596_1, hl596_0, hi596_0⟩ := at_T50 HR0.out a1 p596 q596; have hw596_1 := hx596_1; have hw596_0 := hx596_0; cases e596; replace hx596_0 := zcl HB.out hx596_0; replace hx596_1 := zcl HB.out hx596_1; have HR596_0 := zk hi596_0; have HC596_0 := zk hl596_0; clear hi596_0 hl596_0; replace p596 := eq_true p596; replace q596 := eq_true q596; have p597 : 0 ≤ (x5_1 : Int) := zT; have q597 : x5_1 < (l0.length : Int) := zT; obtain ⟨ad597, A597_0, c597_0, e597, hx597_0, hx597_1, hl597_0, hi597_0⟩ := at_T50 HR0.out x5_1 p597 q597; have hw597_1 := hx597_1; have hw597_0 := hx597_0; obtain rfl : ad596 = ad597 := (by injection e597); replace hx597_0 := zcl HB.out hx597_0; replace hx597_1 := zcl HB.out hx597_1; have HR597_0 := zk hi597_0; have HC597_0 := zk hl597_0; clear hi597_0 hl597_0; replace p597 := eq_true p597; replace q597 := eq_true q597; have p598 : 0 ≤ (x5_1 : Int) := zT; have q598 : x5_1 < (l0.length : Int) := zT; obtain ⟨ad598, A598_0, c598_0, e598, hx598_0, hx598_1, hl598_0, hi598_0⟩ := at_T50 HR0.out x5_1 p598 q598; have hw598_1 := hx598_1; have hw598_0 := hx598_0; obtain rfl : ad596 = ad598 := (by injection e598); replace hx598_0 := zcl HB.out hx598_0; replace hx598_1 := zcl HB.out hx598_1; have HR598_0 := zk hi598_0; have HC598_0 := zk hl598_0; clear hi598_0 hl598_0; replace p598 := eq_true p598; replace q598 := eq_true q598; have ea_ := Option.some.inj (hx597_0.symm.trans hx598_0); injection ea_ with ea_ en_ ec_
          subst ea_; subst ec_; clear en_; have p600 : 0 ≤ (x5_1 : Int) := zT; have q600 : x5_1 < (l0.length : Int) := zT; obtain ⟨ad600, A600_0, c600_0, e600, hx600_0, hx600_1, hl600_0, hi600_0⟩ := at_T50 HR0.out x5_1 p600 q600; have hw600_1 := hx600_1; have hw600_0 := hx600_0; obtain rfl : ad596 = ad600 := (by injection e600); replace hx600_0 := zcl HB.out hx600_0; replace hx600_1 := zcl HB.out hx600_1; have HR600_0 := zk hi600_0; have HC600_0 := zk hl600_0; clear hi600_0 hl600_0; replace p600 := eq_true p600; replace q600 := eq_true q600; have ez_ := Option.some.inj (hw597_0.symm.trans hw600_0); injection ez_ with ez_ en_ ec_
          subst ez_; subst ec_; clear en_; have p601 : 0 ≤ (a1 : Int) := zT; have q601 : a1 < (l0.length : Int) := zT; obtain ⟨ad601, A601_0, c601_0, e601, hx601_0, hx601_1, hl601_0, hi601_0⟩ := at_T50 HR0.out a1 p601 q601; have hw601_1 := hx601_1; have hw601_0 := hx601_0; obtain rfl : ad596 = ad601 := (by injection e601); replace hx601_0 := zcl HB.out hx601_0; replace hx601_1 := zcl HB.out hx601_1; have HR601_0 := zk hi601_0; have HC601_0 := zk hl601_0; clear hi601_0 hl601_0; replace p601 := eq_true p601; replace q601 := eq_true q601; have ez_ := Option.some.inj (hw596_0.symm.trans hw601_0); injection ez_ with ez_ en_ ec_
          subst ez_; subst ec_; clear en_; have p602 : 0 ≤ (a1 : Int) := zT; have q602 : a1 < (l0.length : Int) := zT; obtain ⟨ad602, A602_0, c602_0, e602, hx602_0, hx602_1, hl602_0, hi602_0⟩ := at_T50 HR0.out a1 p602 q602; have hw602_1 := hx602_1; have hw602_0 := hx602_0; obtain rfl : ad596 = ad602 := (by injection e602); replace hx602_0 := zcl HB.out hx602_0; replace hx602_1 := zcl HB.out hx602_1; have HR602_0 := zk hi602_0; have HC602_0 := zk hl602_0; clear hi602_0 hl602_0; replace p602 := eq_true p602; replace q602 := eq_true q602; have ea_ := Option.some.inj (hx601_0.symm.trans hx602_0); injection ea_ with ea_ en_ ec_
          subst ea_; subst ec_; clear en_; refine start_ (n := 38) (S := fun w' => w'.cell? (ad596.add ((a1).toNat * 2)) = some (.slice A596_0 ((rd_T50 l0 a1).f0).length c596_0) ∧ w'.cell? ⟨(ad596.add ((a1).toNat * 2)).block, (ad596.add ((a1).toNat * 2)).off + 1, none⟩ = some (.int .i64 ((rd_T50 l0 a1).f1)) ∧ w'.cell? (ad596.add ((x5_1).toNat * 2)) = some (.slice A597_0 ((rd_T50 l0 x5_1).f0).length c597_0) ∧ w'.cell? ⟨(ad596.add ((x5_1).toNat * 2)).block, (ad596.add ((x5_1).toNat * 2)).off + 1, none⟩ = some (.int .i64 ((rd_T50 l0 x5_1).f1)) ∧ w'.cell? (ad596.add ((x5_1).toNat * 2)) = some (.slice A597_0 ((rd_T50 l0 x5_1).f0).length c597_0) ∧ w'.cell? ⟨(ad596.add ((x5_1).toNat * 2)).block, (ad596.add ((x5_1).toNat * 2)).off + 1, none⟩ = some (.int .i64 ((rd_T50 l0 x5_1).f1)) ∧ w'.cell? (ad596.add ((x5_1).toNat * 2)) = some (.slice A597_0 ((rd_T50 l0 x5_1).f0).length c597_0) ∧ w'.cell? ⟨(ad596.add ((x5_1).toNat * 2)).block, (ad596.add ((x5_1).toNat * 2)).off + 1, none⟩ = some (.int .i64 ((rd_T50 l0 x5_1).f1)) ∧ w'.cell? (ad596.add ((a1).toNat * 2)) = some (.slice A596_0 ((rd_T50 l0 a1).f0).length c596_0) ∧ w'.cell? ⟨(ad596.add ((a1).toNat * 2)).block, (ad596.add ((a1).toNat * 2)).off + 1, none⟩ = some (.int .i64 ((rd_T50 l0 a1).f1)) ∧ w'.cell? (ad596.add ((a1).toNat * 2)) = some (.slice A596_0 ((rd_T50 l0 a1).f0).length c596_0) ∧ w'.cell? ⟨(ad596.add ((a1).toNat * 2)).block, (ad596.add ((a1).toNat * 2)).off + 1, none⟩ = some (.int .i64 ((rd_T50 l0 a1).f1))) (ds := []) #[false, false, false, false, false, false, false, false, false, false, false, false, false, false, false, false, false, false, false, false, false, false, false, false, false, false, false, false, false, false, false, false, false, false, false, false, false, false] zz rfl rfl ⟨(zcl HB.out hw596_0), (zcl HB.out hw596_1), (zcl HB.out hw597_0), (zcl HB.out hw597_1), (zcl HB.out hw598_0), (zcl HB.out hw598_1), (zcl HB.out hw600_0), (zcl HB.out hw600_1), (zcl HB.out hw601_0), (zcl HB.out hw601_1), (zcl HB.out hw602_0), (zcl HB.out hw602_1)⟩ (fun hHeld => ?_); refine with_tabW leadtrailref08_meet.tab4 leadtrailref08_meet.bits4 (fun HT_ HW_ => ?_); generalize wr.drew = w12 at HB HR596_0 HR597_0 HR598_0 HR600_0 HR601_0 HR602_0 hx596_0 hx596_1 hx597_0 hx597_1 hx598_0 hx598_1 hx600_0 hx600_1 hx601_0 hx601_1 hx602_0 hx602_1 hHeld ⊢; refine zp 0 (some 11) (v := ?_) (a' := ?_) (bz 38 1) rfl rfl HT_.out zz zQ ?_ ?_ ?_; rotate_left
          ·intro w'; go_simp; with_reducible rfl
          rotate_left
          ·simp only [Act.put, zv, i64_w, i32_w]; rfl
          refine zp 1 (some 12) (v := ?_) (a' := ?_) (bz 38 3) rfl rfl HT_.out zz zQ ?_ ?_ ?_; rotate_left
          ·intro w'; go_simp; with_reducible rfl
          rotate_left
          ·simp only [Act.put, zv, i64_w, i32_w]; rfl
          refine zp 2 (some 13) (v := ?_) (a' := ?_) (bz 38 7) rfl rfl HT_.out zz zQ ?_ ?_ ?_; rotate_left
          ·intro w'; go_simp; with_reducible rfl
          rotate_left
          ·simp only [Act.put, zv, i64_w, i32_w]; rfl
          refine zp 3 (some 14) (v := ?_) (a' := ?_) (bz 38 15) rfl rfl HT_.out zz zQ ?_ ?_ ?_; rotate_left
          ·intro w'; go_simp; with_reducible rfl
          rotate_left
          ·simp only [Act.put, zv, i64_w, i32_w]; rfl
          refine zp 5 (some 16) (v := ?_) (a' := ?_) (bz 38 47) rfl rfl HT_.out zz zQ ?_ ?_ ?_; rotate_left
          ·intro w'; go_simp; with_reducible rfl
          rotate_left
          ·simp only [Act.put, zv, i64_w, i32_w]; rfl
          refine zp 6 (some 17) (v := ?_) (a' := ?_) (bz 38 111) rfl rfl HT_.out zz zQ ?_ ?_ ?_; rotate_left
          ·intro w'; go_simp; with_reducible rfl
          rotate_left
          ·simp only [Act.put, zv, i64_w, i32_w]; rfl
          refine zp 7 (some 18) (v := ?_) (a' := ?_) (bz 38 239) rfl rfl HT_.out zz zQ ?_ ?_ ?_; rotate_left
          ·intro w'; go_simp; with_reducible rfl
          rotate_left
          ·simp only [Act.put, zv, i64_w, i32_w]; rfl
          refine zp 8 (some 19) (v := ?_) (a' := ?_) (bz 38 495) rfl rfl HT_.out zz zQ ?_ ?_ ?_; rotate_left
          ·intro w'; go_simp; with_reducible rfl
          rotate_left
          ·simp only [Act.put, zv, i64_w, i32_w]; rfl
          refine zp 10 (some 21) (v := ?_) (a' := ?_) (bz 38 1519) rfl rfl HT_.out zz zQ ?_ ?_ ?_; rotate_left
          ·intro w'; go_simp; with_reducible rfl
          rotate_left
          ·simp only [Act.put, zv, i64_w, i32_w]; rfl
          refine zp 11 (some 22) (v := ?_) (a' := ?_) (bz 38 3567) rfl rfl HT_.out zz zQ ?_ ?_ ?_; rotate_left
          ·intro w'; go_simp; with_reducible rfl
          rotate_left
          ·simp only [Act.put, zv, i64_w, i32_w]; rfl
          refine zp 12 (some 23) (v := ?_) (a' := ?_) (bz 38 7663) rfl rfl HT_.out zz zQ ?_ ?_ ?_; rotate_left
          ·intro w'; go_simp; with_reducible rfl
          rotate_left
          ·simp only [Act.put, zv, i64_w, i32_w]; rfl
          refine take_ (i := 4) (N := some 15) (v := ?_) (a' := ?_) (bz 38 7679) rfl rfl (take_ofW HT_.out HW_.out zz) zQ (Or.inl ⟨by rfl, ?_⟩) hHeld ?_ ?_; rotate_left
          ·rintro w' ⟨s0, s1, s2, s3, s4, s5, s6, s7, s8, s9, s10, s11⟩; go_simp; with_reducible rfl
          rotate_left
          ·simp only [Act.put, zv, i64_w, i32_w]; rfl
          refine take_ (i := 9) (N := some 20) (v := ?_) (a' := ?_) (bz 38 8191) rfl rfl (take_ofW HT_.out HW_.out zz) zQ (Or.inl ⟨by rfl, ?_⟩) hHeld ?_ ?_; rotate_left
          ·rintro w' ⟨s0, s1, s2, s3, s4, s5, s6, s7, s8, s9, s10, s11⟩; go_simp; with_reducible rfl
          rotate_left
          ·simp only [Act.put, zv, i64_w, i32_w]; rfl
          refine take_ (i := 13) (N := some 24) (v := ?_) (a' := ?_) (bz 38 16383) rfl rfl (take_ofW HT_.out HW_.out zz) zQ (Or.inl ⟨by rfl, ?_⟩) hHeld ?_ ?_; rotate_left
          ·rintro w' ⟨s0, s1, s2, s3, s4, s5, s6, s7, s8, s9, s10, s11⟩; go_simp; with_reducible rfl
          rotate_left
          ·simp only [Act.put, zv, i64_w, i32_w]; rfl
          refine one_ (i := 14) (N := some 25) (bz 38 32767) rfl rfl (one_of HT_.out zz) (by decide) (fun K hK => ?_); refine goes_ Try.func81 zz rfl #[.agg #[.slice A597_0 ((rd_T50 l0 x5_1).f0).length c597_0, .int .i64 ((rd_T50 l0 x5_1).f1)]] (by rfl) rfl rfl zM ?_; with_reducible refine (leadtrailref08_Count.calls k1 _ _ ((rd_T50 l0 x5_1).f0) ((rd_T50 l0 x5_1).f1) t599 _ ?side1 ?side2 A8.out).mono ?_; (case side1 => exact zc (Kd.C_below HR598_0.out HB.out))
          (case side2 => exact HC598_0.out)
          rintro e w13 ⟨rfl, hb⟩; refine ⟨_, rfl, ?_⟩; have n0_ := zk (below_step (zU HB.out) hb); clear HB; have HB := n0_; clear n0_; (try clear hb); (try clear hb2); (try clear hk); (try clear hi); refine hK.out _ _ ⟨(zcl HB.out hw596_0), (zcl HB.out hw596_1), (zcl HB.out hw597_0), (zcl HB.out hw597_1), (zcl HB.out hw598_0), (zcl HB.out hw598_1), (zcl HB.out hw600_0), (zcl HB.out hw600_1), (zcl HB.out hw601_0), (zcl HB.out hw601_1), (zcl HB.out hw602_0), (zcl HB.out hw602_1)⟩ (fun hHeld => ?_); clear hK K; refine norm_ (a' := ?_) ?_ ?_; rotate_left
          ·show Act.put _ (some 25) _ = _; simp only [Act.put, zv, i64_w, i32_w]; rfl
          refine zp 15 (some 26) (v := ?_) (a' := ?_) (bz 38 65535) rfl rfl HT_.out zz zQ ?_ ?_ ?_; rotate_left
          ·intro w'; go_simp; with_reducible rfl
          rotate_left
          ·simp only [Act.put, zv, i64_w, i32_w]; rfl
          refine zp 16 (some 27) (v := ?_) (a' := ?_) (bz 38 131071) rfl rfl HT_.out zz zQ ?_ ?_ ?_; rotate_left
          ·intro w'; go_simp; with_reducible rfl
          rotate_left
          ·simp only [Act.put, zv, i64_w, i32_w]; rfl
          refine zp 17 (some 28) (v := ?_) (a' := ?_) (bz 38 262143) rfl rfl HT_.out zz zQ ?_ ?_ ?_; rotate_left
          ·intro w'; go_simp; with_reducible rfl
          rotate_left
          ·simp only [Act.put, zv, i64_w, i32_w]; rfl
          refine zp 18 (some 29) (v := ?_) (a' := ?_) (bz 38 524287) rfl rfl HT_.out zz zQ ?_ ?_ ?_; rotate_left
          ·intro w'; go_simp; with_reducible rfl
          rotate_left
          ·simp only [Act.put, zv, i64_w, i32_w]; rfl
          refine zp 19 (some 30) (v := ?_) (a' := ?_) (bz 38 1048575) rfl rfl HT_.out zz zQ ?_ ?_ ?_; rotate_left
          ·intro w'; go_simp; with_reducible rfl
          rotate_left
          ·simp only [Act.put, zv, i64_w, i32_w]; rfl
          refine zp 20 (some 31) (v := ?_) (a' := ?_) (bz 38 2097151) rfl rfl HT_.out zz zQ ?_ ?_ ?_; rotate_left
          ·intro w'; go_simp; with_reducible rfl
          rotate_left
          ·simp only [Act.put, zv, i64_w, i32_w]; rfl
          refine zp 21 (some 32) (v := ?_) (a' := ?_) (bz 38 4194303) rfl rfl HT_.out zz zQ ?_ ?_ ?_; rotate_left
          ·intro w'; go_simp; with_reducible rfl
          rotate_left
          ·simp only [Act.put, zv, i64_w, i32_w]; rfl
          refine zp 22 (some 33) (v := ?_) (a' := ?_) (bz 38 8388607) rfl rfl HT_.out zz zQ ?_ ?_ ?_; rotate_left
          ·intro w'; go_simp; with_reducible rfl
          rotate_left
          ·simp only [Act.put, zv, i64_w, i32_w]; rfl
          refine zp 24 (some 35) (v := ?_) (a' := ?_) (bz 38 25165823) rfl rfl HT_.out zz zQ ?_ ?_ ?_; rotate_left
          ·intro w'; go_simp; with_reducible rfl
          rotate_left
          ·simp only [Act.put, zv, i64_w, i32_w]; rfl
          refine zp 25 (some 36) (v := ?_) (a' := ?_) (bz 38 58720255) rfl rfl HT_.out zz zQ ?_ ?_ ?_; rotate_left
          ·intro w'; go_simp; with_reducible rfl
          rotate_left
          ·simp only [Act.put, zv, i64_w, i32_w]; rfl
          refine zp 26 (some 37) (v := ?_) (a' := ?_) (bz 38 125829119) rfl rfl HT_.out zz zQ ?_ ?_ ?_; rotate_left
          ·intro w'; go_simp; with_reducible rfl
          rotate_left
          ·simp only [Act.put, zv, i64_w, i32_w]; rfl
          refine zp 27 (some 38) (v := ?_) (a' := ?_) (bz 38 260046847) rfl rfl HT_.out zz zQ ?_ ?_ ?_; rotate_left
          ·intro w'; go_simp; with_reducible rfl
          rotate_left
          ·simp only [Act.put, zv, i64_w, i32_w]; rfl
          refine zp 29 (some 40) (v := ?_) (a' := ?_) (bz 38 796917759) rfl rfl HT_.out zz zQ ?_ ?_ ?_; rotate_left
          ·intro w'; go_simp; with_reducible rfl
          rotate_left
          ·simp only [Act.put, zv, i64_w, i32_w]; rfl
          refine zp 30 (some 41) (v := ?_) (a' := ?_) (bz 38 1870659583) rfl rfl HT_.out zz zQ ?_ ?_ ?_; rotate_left
          ·intro w'; go_simp; with_reducible rfl
          rotate_left
          ·simp only [Act.put, zv, i64_w, i32_w]; rfl
          refine zp 31 (some 42) (v := ?_) (a' := ?_) (bz 38 4018143231) rfl rfl HT_.out zz zQ ?_ ?_ ?_; rotate_left
          ·intro w'; go_simp; with_reducible rfl
          rotate_left
          ·simp only [Act.put, zv, i64_w, i32_w]; rfl
          refine take_ (i := 23) (N := some 34) (v := ?_) (a' := ?_) (bz 38 4026531839) rfl rfl (take_ofW HT_.out HW_.out zz) zQ (Or.inl ⟨by rfl, ?_⟩) hHeld ?_ ?_; rotate_left
          ·rintro w' ⟨s0, s1, s2, s3, s4, s5, s6, s7, s8, s9, s10, s11⟩; go_simp; with_reducible rfl
          rotate_left
          ·simp only [Act.put, zv, i64_w, i32_w]; rfl
          refine take_ (i := 28) (N := some 39) (v := ?_) (a' := ?_) (bz 38 4294967295) rfl rfl (take_ofW HT_.out HW_.out zz) zQ (Or.inl ⟨by rfl, ?_⟩) hHeld ?_ ?_; rotate_left
          ·rintro w' ⟨s0, s1, s2, s3, s4, s5, s6, s7, s8, s9, s10, s11⟩; go_simp; with_reducible rfl
          rotate_left
          ·simp only [Act.put, zv, i64_w, i32_w]; rfl
          refine take_ (i := 32) (N := some 43) (v := ?_) (a' := ?_) (bz 38 8589934591) rfl rfl (take_ofW HT_.out HW_.out zz) zQ (Or.inl ⟨by rfl, ?_⟩) hHeld ?_ ?_; rotate_left
          ·rintro w' ⟨s0, s1, s2, s3, s4, s5, s6, s7, s8, s9, s10, s11⟩; go_simp; with_reducible rfl
          rotate_left
          ·simp only [Act.put, zv, i64_w, i32_w]; rfl
          refine one_ (i := 33) (N := some 44) (bz 38 17179869183) rfl rfl (one_of HT_.out zz) (by decide) (fun K hK => ?_); refine goes_ Try.func81 zz rfl #[.agg #[.slice A596_0 ((rd_T50 l0 a1).f0).length c596_0, .int .i64 ((rd_T50 l0 a1).f1)]] (by rfl) rfl rfl zM ?_; with_reducible refine (leadtrailref08_Count.calls k1 _ _ ((rd_T50 l0 a1).f0) ((rd_T50 l0 a1).f1) t603 _ ?side1 ?side2 A10.out).mono ?_; (case side1 => exact zc (Kd.C_below HR602_0.out HB.out))
          (case side2 => exact HC602_0.out)
          rintro e w14 ⟨rfl, hb⟩; refine ⟨_, rfl, ?_⟩; have n0_ := zk (below_step (zU HB.out) hb); clear HB; have HB := n0_; clear n0_; (try clear hb); (try clear hb2); (try clear hk); (try clear hi); refine hK.out _ _ ⟨(zcl HB.out hw596_0), (zcl HB.out hw596_1), (zcl HB.out hw597_0), (zcl HB.out hw597_1), (zcl HB.out hw598_0), (zcl HB.out hw598_1), (zcl HB.out hw600_0), (zcl HB.out hw600_1), (zcl HB.out hw601_0), (zcl HB.out hw601_1), (zcl HB.out hw602_0), (zcl HB.out hw602_1)⟩ (fun hHeld => ?_); clear hK K; refine norm_ (a' := ?_) ?_ ?_; rotate_left
          ·show Act.put _ (some 44) _ = _; simp only [Act.put, zv, i64_w, i32_w]; rfl
          refine zp 34 (some 45) (v := ?_) (a' := ?_) (bz 38 34359738367) rfl rfl HT_.out zz zQ ?_ ?_ ?_; rotate_left
          ·intro w'; go_simp; with_reducible rfl
          rotate_left
          ·simp only [Act.put, zv, i64_w, i32_w]; rfl
          refine zp 35 (some 46) (v := ?_) (a' := ?_) (bz 38 68719476735) rfl rfl HT_.out zz zQ ?_ ?_ ?_; rotate_left
          ·intro w'; go_simp; with_reducible rfl
          rotate_left
          ·simp only [Act.put, zv, i64_w, i32_w]; rfl
          refine zp 36 (some 47) (v := ?_) (a' := ?_) (bz 38 137438953471) rfl rfl HT_.out zz zQ ?_ ?_ ?_; rotate_left
          ·intro w'; go_simp; with_reducible rfl
          rotate_left
          ·simp only [Act.put, zv, i64_w, i32_w]; rfl
          refine zp 37 (some 48) (v := ?_) (a' := ?_) (bz 38 274877906943) rfl rfl HT_.out zz zQ ?_ ?_ ?_; rotate_left
          ·intro w'; go_simp; with_reducible rfl
          rotate_left
          ·simp only [Act.put, zv, i64_w, i32_w]; rfl
          refine done_ (done_of HT_.out zz) ?_; try go_wp2
          go_ret
          exact ⟨ze, zU HB.out⟩
         ·rw [if_neg c11] at H; have c11b0 : decide (((rd_T50 l0 x5_1).f1) ≤ (wrap64 ((wrap64 (((rd_T50 l0 a1).f1) + t603)) - 1))) = false := decide_eq_false c11; clear c11; have H' := zk H; clear H; try go_wp2
          have n0_ := zk (below_drew1 HB.out); clear HB; have HB := n0_; clear n0_; have p596 : 0 ≤ (a1 : Int) := zT; have q596 : a1 < (l0.length : Int) := zT; obtain ⟨ad596, A596_0, c596_0, e596, hx596_0, hx596_1, hl596_0, hi596_0⟩ := at_T50 HR0.out a1 p596 q596; have hw596_1 := hx596_1; have hw596_0 := hx596_0; cases e596; replace hx596_0 := zcl HB.out hx596_0; replace hx596_1 := zcl HB.out hx596_1; have HR596_0 := zk hi596_0; have HC596_0 := zk hl596_0; clear hi596_0 hl596_0; replace p596 := eq_true p596; replace q596 := eq_true q596; have p597 : 0 ≤ (x5_1 : Int) := zT; have q597 : x5_1 < (l0.length : Int) := zT; obtain ⟨ad597, A597_0, c597_0, e597, hx597_0, hx597_1, hl597_0, hi597_0⟩ := at_T50 HR0.out x5_1 p597 q597; have hw597_1 := hx597_1; have hw597_0 := hx597_0; obtain rfl : ad596 = ad597 := (by injection e597); replace hx597_0 := zcl HB.out hx597_0; replace hx597_1 := zcl HB.out hx597_1; have HR597_0 := zk hi597_0; have HC597_0 := zk hl597_0; clear hi597_0 hl597_0; replace p597 := eq_true p597; replace q597 := eq_true q597; have p598 : 0 ≤ (x5_1 : Int) := zT; have q598 : x5_1 < (l0.length : Int) := zT; obtain ⟨ad598, A598_0, c598_0, e598, hx598_0, hx598_1, hl598_0, hi598_0⟩ := at_T50 HR0.out x5_1 p598 q598; have hw598_1 := hx598_1; have hw598_0 := hx598_0; obtain rfl : ad596 = ad598 := (by injection e598); replace hx598_0 := zcl HB.out hx598_0; replace hx598_1 := zcl HB.out hx598_1; have HR598_0 := zk hi598_0; have HC598_0 := zk hl598_0; clear hi598_0 hl598_0; replace p598 := eq_true p598; replace q598 := eq_true q598; have ea_ := Option.some.inj (hx597_0.symm.trans hx598_0); injection ea_ with ea_ en_ ec_
          subst ea_; subst ec_; clear en_; have p600 : 0 ≤ (x5_1 : Int) := zT; have q600 : x5_1 < (l0.length : Int) := zT; obtain ⟨ad600, A600_0, c600_0, e600, hx600_0, hx600_1, hl600_0, hi600_0⟩ := at_T50 HR0.out x5_1 p600 q600; have hw600_1 := hx600_1; have hw600_0 := hx600_0; obtain rfl : ad596 = ad600 := (by injection e600); replace hx600_0 := zcl HB.out hx600_0; replace hx600_1 := zcl HB.out hx600_1; have HR600_0 := zk hi600_0; have HC600_0 := zk hl600_0; clear hi600_0 hl600_0; replace p600 := eq_true p600; replace q600 := eq_true q600; have ez_ := Option.some.inj (hw597_0.symm.trans hw600_0); injection ez_ with ez_ en_ ec_
          subst ez_; subst ec_; clear en_; have p601 : 0 ≤ (a1 : Int) := zT; have q601 : a1 < (l0.length : Int) := zT; obtain ⟨ad601, A601_0, c601_0, e601, hx601_0, hx601_1, hl601_0, hi601_0⟩ := at_T50 HR0.out a1 p601 q601; have hw601_1 := hx601_1; have hw601_0 := hx601_0; obtain rfl : ad596 = ad601 := (by injection e601); replace hx601_0 := zcl HB.out hx601_0; replace hx601_1 := zcl HB.out hx601_1; have HR601_0 := zk hi601_0; have HC601_0 := zk hl601_0; clear hi601_0 hl601_0; replace p601 := eq_true p601; replace q601 := eq_true q601; have ez_ := Option.some.inj (hw596_0.symm.trans hw601_0); injection ez_ with ez_ en_ ec_
          subst ez_; subst ec_; clear en_; have p602 : 0 ≤ (a1 : Int) := zT; have q602 : a1 < (l0.length : Int) := zT; obtain ⟨ad602, A602_0, c602_0, e602, hx602_0, hx602_1, hl602_0, hi602_0⟩ := at_T50 HR0.out a1 p602 q602; have hw602_1 := hx602_1; have hw602_0 := hx602_0; obtain rfl : ad596 = ad602 := (by injection e602); replace hx602_0 := zcl HB.out hx602_0; replace hx602_1 := zcl HB.out hx602_1; have HR602_0 := zk hi602_0; have HC602_0 := zk hl602_0; clear hi602_0 hl602_0; replace p602 := eq_true p602; replace q602 := eq_true q602; have ea_ := Option.some.inj (hx601_0.symm.trans hx602_0); injection ea_ with ea_ en_ ec_
          subst ea_; subst ec_; clear en_; refine start_ (n := 38) (S := fun w' => w'.cell? (ad596.add ((a1).toNat * 2)) = some (.slice A596_0 ((rd_T50 l0 a1).f0).length c596_0) ∧ w'.cell? ⟨(ad596.add ((a1).toNat * 2)).block, (ad596.add ((a1).toNat * 2)).off + 1, none⟩ = some (.int .i64 ((rd_T50 l0 a1).f1)) ∧ w'.cell? (ad596.add ((x5_1).toNat * 2)) = some (.slice A597_0 ((rd_T50 l0 x5_1).f0).length c597_0) ∧ w'.cell? ⟨(ad596.add ((x5_1).toNat * 2)).block, (ad596.add ((x5_1).toNat * 2)).off + 1, none⟩ = some (.int .i64 ((rd_T50 l0 x5_1).f1)) ∧ w'.cell? (ad596.add ((x5_1).toNat * 2)) = some (.slice A597_0 ((rd_T50 l0 x5_1).f0).length c597_0) ∧ w'.cell? ⟨(ad596.add ((x5_1).toNat * 2)).block, (ad596.add ((x5_1).toNat * 2)).off + 1, none⟩ = some (.int .i64 ((rd_T50 l0 x5_1).f1)) ∧ w'.cell? (ad596.add ((x5_1).toNat * 2)) = some (.slice A597_0 ((rd_T50 l0 x5_1).f0).length c597_0) ∧ w'.cell? ⟨(ad596.add ((x5_1).toNat * 2)).block, (ad596.add ((x5_1).toNat * 2)).off + 1, none⟩ = some (.int .i64 ((rd_T50 l0 x5_1).f1)) ∧ w'.cell? (ad596.add ((a1).toNat * 2)) = some (.slice A596_0 ((rd_T50 l0 a1).f0).length c596_0) ∧ w'.cell? ⟨(ad596.add ((a1).toNat * 2)).block, (ad596.add ((a1).toNat * 2)).off + 1, none⟩ = some (.int .i64 ((rd_T50 l0 a1).f1)) ∧ w'.cell? (ad596.add ((a1).toNat * 2)) = some (.slice A596_0 ((rd_T50 l0 a1).f0).length c596_0) ∧ w'.cell? ⟨(ad596.add ((a1).toNat * 2)).block, (ad596.add ((a1).toNat * 2)).off + 1, none⟩ = some (.int .i64 ((rd_T50 l0 a1).f1))) (ds := []) #[false, false, false, false, false, false, false, false, false, false, false, false, false, false, false, false, false, false, false, false, false, false, false, false, false, false, false, false, false, false, false, false, false, false, false, false, false, false] zz rfl rfl ⟨(zcl HB.out hw596_0), (zcl HB.out hw596_1), (zcl HB.out hw597_0), (zcl HB.out hw597_1), (zcl HB.out hw598_0), (zcl HB.out hw598_1), (zcl HB.out hw600_0), (zcl HB.out hw600_1), (zcl HB.out hw601_0), (zcl HB.out hw601_1), (zcl HB.out hw602_0), (zcl HB.out hw602_1)⟩ (fun hHeld => ?_); refine with_tabW leadtrailref08_meet.tab4 leadtrailref08_meet.bits4 (fun HT_ HW_ => ?_); generalize wr.drew = w15 at HB HR596_0 HR597_0 HR598_0 HR600_0 HR601_0 HR602_0 hx596_0 hx596_1 hx597_0 hx597_1 hx598_0 hx598_1 hx600_0 hx600_1 hx601_0 hx601_1 hx602_0 hx602_1 hHeld ⊢; refine zp 0 (some 11) (v := ?_) (a' := ?_) (bz 38 1) rfl rfl HT_.out zz zQ ?_ ?_ ?_; rotate_left
          ·intro w'; go_simp; with_reducible rfl
          rotate_left
          ·simp only [Act.put, zv, i64_w, i32_w]; rfl
          refine zp 1 (some 12) (v := ?_) (a' := ?_) (bz 38 3) rfl rfl HT_.out zz zQ ?_ ?_ ?_; rotate_left
          ·intro w'; go_simp; with_reducible rfl
          rotate_left
          ·simp only [Act.put, zv, i64_w, i32_w]; rfl
          refine zp 2 (some 13) (v := ?_) (a' := ?_) (bz 38 7) rfl rfl HT_.out zz zQ ?_ ?_ ?_; rotate_left
          ·intro w'; go_simp; with_reducible rfl
          rotate_left
          ·simp only [Act.put, zv, i64_w, i32_w]; rfl
          refine zp 3 (some 14) (v := ?_) (a' := ?_) (bz 38 15) rfl rfl HT_.out zz zQ ?_ ?_ ?_; rotate_left
          ·intro w'; go_simp; with_reducible rfl
          rotate_left
          ·simp only [Act.put, zv, i64_w, i32_w]; rfl
          refine zp 5 (some 16) (v := ?_) (a' := ?_) (bz 38 47) rfl rfl HT_.out zz zQ ?_ ?_ ?_; rotate_left
          ·intro w'; go_simp; with_reducible rfl
          rotate_left
          ·simp only [Act.put, zv, i64_w, i32_w]; rfl
          refine zp 6 (some 17) (v := ?_) (a' := ?_) (bz 38 111) rfl rfl HT_.out zz zQ ?_ ?_ ?_; rotate_left
          ·intro w'; go_simp; with_reducible rfl
          rotate_left
          ·simp only [Act.put, zv, i64_w, i32_w]; rfl
          refine zp 7 (some 18) (v := ?_) (a' := ?_) (bz 38 239) rfl rfl HT_.out zz zQ ?_ ?_ ?_; rotate_left
          ·intro w'; go_simp; with_reducible rfl
          rotate_left
          ·simp only [Act.put, zv, i64_w, i32_w]; rfl
          refine zp 8 (some 19) (v := ?_) (a' := ?_) (bz 38 495) rfl rfl HT_.out zz zQ ?_ ?_ ?_; rotate_left
          ·intro w'; go_simp; with_reducible rfl
          rotate_left
          ·simp only [Act.put, zv, i64_w, i32_w]; rfl
          refine zp 10 (some 21) (v := ?_) (a' := ?_) (bz 38 1519) rfl rfl HT_.out zz zQ ?_ ?_ ?_; rotate_left
          ·intro w'; go_simp; with_reducible rfl
          rotate_left
          ·simp only [Act.put, zv, i64_w, i32_w]; rfl
          refine zp 11 (some 22) (v := ?_) (a' := ?_) (bz 38 3567) rfl rfl HT_.out zz zQ ?_ ?_ ?_; rotate_left
          ·intro w'; go_simp; with_reducible rfl
          rotate_left
          ·simp only [Act.put, zv, i64_w, i32_w]; rfl
          refine zp 12 (some 23) (v := ?_) (a' := ?_) (bz 38 7663) rfl rfl HT_.out zz zQ ?_ ?_ ?_; rotate_left
          ·intro w'; go_simp; with_reducible rfl
          rotate_left
          ·simp only [Act.put, zv, i64_w, i32_w]; rfl
          refine take_ (i := 4) (N := some 15) (v := ?_) (a' := ?_) (bz 38 7679) rfl rfl (take_ofW HT_.out HW_.out zz) zQ (Or.inl ⟨by rfl, ?_⟩) hHeld ?_ ?_; rotate_left
          ·rintro w' ⟨s0, s1, s2, s3, s4, s5, s6, s7, s8, s9, s10, s11⟩; go_simp; with_reducible rfl
          rotate_left
          ·simp only [Act.put, zv, i64_w, i32_w]; rfl
          refine take_ (i := 9) (N := some 20) (v := ?_) (a' := ?_) (bz 38 8191) rfl rfl (take_ofW HT_.out HW_.out zz) zQ (Or.inl ⟨by rfl, ?_⟩) hHeld ?_ ?_; rotate_left
          ·rintro w' ⟨s0, s1, s2, s3, s4, s5, s6, s7, s8, s9, s10, s11⟩; go_simp; with_reducible rfl
          rotate_left
          ·simp only [Act.put, zv, i64_w, i32_w]; rfl
          refine take_ (i := 13) (N := some 24) (v := ?_) (a' := ?_) (bz 38 16383) rfl rfl (take_ofW HT_.out HW_.out zz) zQ (Or.inl ⟨by rfl, ?_⟩) hHeld ?_ ?_; rotate_left
          ·rintro w' ⟨s0, s1, s2, s3, s4, s5, s6, s7, s8, s9, s10, s11⟩; go_simp; with_reducible rfl
          rotate_left
          ·simp only [Act.put, zv, i64_w, i32_w]; rfl
          refine one_ (i := 14) (N := some 25) (bz 38 32767) rfl rfl (one_of HT_.out zz) (by decide) (fun K hK => ?_); refine goes_ Try.func81 zz rfl #[.agg #[.slice A597_0 ((rd_T50 l0 x5_1).f0).length c597_0, .int .i64 ((rd_T50 l0 x5_1).f1)]] (by rfl) rfl rfl zM ?_; with_reducible refine (leadtrailref08_Count.calls k1 _ _ ((rd_T50 l0 x5_1).f0) ((rd_T50 l0 x5_1).f1) t599 _ ?side1 ?side2 A8.out).mono ?_; (case side1 => exact zc (Kd.C_below HR598_0.out HB.out))
          (case side2 => exact HC598_0.out)
          rintro e w16 ⟨rfl, hb⟩; refine ⟨_, rfl, ?_⟩; have n0_ := zk (below_step (zU HB.out) hb); clear HB; have HB := n0_; clear n0_; (try clear hb); (try clear hb2); (try clear hk); (try clear hi); refine hK.out _ _ ⟨(zcl HB.out hw596_0), (zcl HB.out hw596_1), (zcl HB.out hw597_0), (zcl HB.out hw597_1), (zcl HB.out hw598_0), (zcl HB.out hw598_1), (zcl HB.out hw600_0), (zcl HB.out hw600_1), (zcl HB.out hw601_0), (zcl HB.out hw601_1), (zcl HB.out hw602_0), (zcl HB.out hw602_1)⟩ (fun hHeld => ?_); clear hK K; refine norm_ (a' := ?_) ?_ ?_; rotate_left
          ·show Act.put _ (some 25) _ = _; simp only [Act.put, zv, i64_w, i32_w]; rfl
          refine zp 15 (some 26) (v := ?_) (a' := ?_) (bz 38 65535) rfl rfl HT_.out zz zQ ?_ ?_ ?_; rotate_left
          ·intro w'; go_simp; with_reducible rfl
          rotate_left
          ·simp only [Act.put, zv, i64_w, i32_w]; rfl
          refine zp 16 (some 27) (v := ?_) (a' := ?_) (bz 38 131071) rfl rfl HT_.out zz zQ ?_ ?_ ?_; rotate_left
          ·intro w'; go_simp; with_reducible rfl
          rotate_left
          ·simp only [Act.put, zv, i64_w, i32_w]; rfl
          refine zp 17 (some 28) (v := ?_) (a' := ?_) (bz 38 262143) rfl rfl HT_.out zz zQ ?_ ?_ ?_; rotate_left
          ·intro w'; go_simp; with_reducible rfl
          rotate_left
          ·simp only [Act.put, zv, i64_w, i32_w]; rfl
          refine zp 18 (some 29) (v := ?_) (a' := ?_) (bz 38 524287) rfl rfl HT_.out zz zQ ?_ ?_ ?_; rotate_left
          ·intro w'; go_simp; with_reducible rfl
          rotate_left
          ·simp only [Act.put, zv, i64_w, i32_w]; rfl
          refine zp 19 (some 30) (v := ?_) (a' := ?_) (bz 38 1048575) rfl rfl HT_.out zz zQ ?_ ?_ ?_; rotate_left
          ·intro w'; go_simp; with_reducible rfl
          rotate_left
          ·simp only [Act.put, zv, i64_w, i32_w]; rfl
          refine zp 20 (some 31) (v := ?_) (a' := ?_) (bz 38 2097151) rfl rfl HT_.out zz zQ ?_ ?_ ?_; rotate_left
          ·intro w'; go_simp; with_reducible rfl
          rotate_left
          ·simp only [Act.put, zv, i64_w, i32_w]; rfl
          refine zp 21 (some 32) (v := ?_) (a' := ?_) (bz 38 4194303) rfl rfl HT_.out zz zQ ?_ ?_ ?_; rotate_left
          ·intro w'; go_simp; with_reducible rfl
          rotate_left
          ·simp only [Act.put, zv, i64_w, i32_w]; rfl
          refine zp 22 (some 33) (v := ?_) (a' := ?_) (bz 38 8388607) rfl rfl HT_.out zz zQ ?_ ?_ ?_; rotate_left
          ·intro w'; go_simp; with_reducible rfl
          rotate_left
          ·simp only [Act.put, zv, i64_w, i32_w]; rfl
          refine zp 24 (some 35) (v := ?_) (a' := ?_) (bz 38 25165823) rfl rfl HT_.out zz zQ ?_ ?_ ?_; rotate_left
          ·intro w'; go_simp; with_reducible rfl
          rotate_left
          ·simp only [Act.put, zv, i64_w, i32_w]; rfl
          refine zp 25 (some 36) (v := ?_) (a' := ?_) (bz 38 58720255) rfl rfl HT_.out zz zQ ?_ ?_ ?_; rotate_left
          ·intro w'; go_simp; with_reducible rfl
          rotate_left
          ·simp only [Act.put, zv, i64_w, i32_w]; rfl
          refine zp 26 (some 37) (v := ?_) (a' := ?_) (bz 38 125829119) rfl rfl HT_.out zz zQ ?_ ?_ ?_; rotate_left
          ·intro w'; go_simp; with_reducible rfl
          rotate_left
          ·simp only [Act.put, zv, i64_w, i32_w]; rfl
          refine zp 27 (some 38) (v := ?_) (a' := ?_) (bz 38 260046847) rfl rfl HT_.out zz zQ ?_ ?_ ?_; rotate_left
          ·intro w'; go_simp; with_reducible rfl
          rotate_left
          ·simp only [Act.put, zv, i64_w, i32_w]; rfl
          refine zp 29 (some 40) (v := ?_) (a' := ?_) (bz 38 796917759) rfl rfl HT_.out zz zQ ?_ ?_ ?_; rotate_left
          ·intro w'; go_simp; with_reducible rfl
          rotate_left
          ·simp only [Act.put, zv, i64_w, i32_w]; rfl
          refine zp 30 (some 41) (v := ?_) (a' := ?_) (bz 38 1870659583) rfl rfl HT_.out zz zQ ?_ ?_ ?_; rotate_left
          ·intro w'; go_simp; with_reducible rfl
          rotate_left
          ·simp only [Act.put, zv, i64_w, i32_w]; rfl
          refine zp 31 (some 42) (v := ?_) (a' := ?_) (bz 38 4018143231) rfl rfl HT_.out zz zQ ?_ ?_ ?_; rotate_left
          ·intro w'; go_simp; with_reducible rfl
          rotate_left
          ·simp only [Act.put, zv, i64_w, i32_w]; rfl
          refine take_ (i := 23) (N := some 34) (v := ?_) (a' := ?_) (bz 38 4026531839) rfl rfl (take_ofW HT_.out HW_.out zz) zQ (Or.inl ⟨by rfl, ?_⟩) hHeld ?_ ?_; rotate_left
          ·rintro w' ⟨s0, s1, s2, s3, s4, s5, s6, s7, s8, s9, s10, s11⟩; go_simp; with_reducible rfl
          rotate_left
          ·simp only [Act.put, zv, i64_w, i32_w]; rfl
          refine take_ (i := 28) (N := some 39) (v := ?_) (a' := ?_) (bz 38 4294967295) rfl rfl (take_ofW HT_.out HW_.out zz) zQ (Or.inl ⟨by rfl, ?_⟩) hHeld ?_ ?_; rotate_left
          ·rintro w' ⟨s0, s1, s2, s3, s4, s5, s6, s7, s8, s9, s10, s11⟩; go_simp; with_reducible rfl
          rotate_left
          ·simp only [Act.put, zv, i64_w, i32_w]; rfl
          refine take_ (i := 32) (N := some 43) (v := ?_) (a' := ?_) (bz 38 8589934591) rfl rfl (take_ofW HT_.out HW_.out zz) zQ (Or.inl ⟨by rfl, ?_⟩) hHeld ?_ ?_; rotate_left
          ·rintro w' ⟨s0, s1, s2, s3, s4, s5, s6, s7, s8, s9, s10, s11⟩; go_simp; with_reducible rfl
          rotate_left
          ·simp only [Act.put, zv, i64_w, i32_w]; rfl
          refine one_ (i := 33) (N := some 44) (bz 38 17179869183) rfl rfl (one_of HT_.out zz) (by decide) (fun K hK => ?_); refine goes_ Try.func81 zz rfl #[.agg #[.slice A596_0 ((rd_T50 l0 a1).f0).length c596_0, .int .i64 ((rd_T50 l0 a1).f1)]] (by rfl) rfl rfl zM ?_; with_reducible refine (leadtrailref08_Count.calls k1 _ _ ((rd_T50 l0 a1).f0) ((rd_T50 l0 a1).f1) t603 _ ?side1 ?side2 A10.out).mono ?_; (case side1 => exact zc (Kd.C_below HR602_0.out HB.out))
          (case side2 => exact HC602_0.out)
          rintro e w17 ⟨rfl, hb⟩; refine ⟨_, rfl, ?_⟩; have n0_ := zk (below_step (zU HB.out) hb); clear HB; have HB := n0_; clear n0_; (try clear hb); (try clear hb2); (try clear hk); (try clear hi); refine hK.out _ _ ⟨(zcl HB.out hw596_0), (zcl HB.out hw596_1), (zcl HB.out hw597_0), (zcl HB.out hw597_1), (zcl HB.out hw598_0), (zcl HB.out hw598_1), (zcl HB.out hw600_0), (zcl HB.out hw600_1), (zcl HB.out hw601_0), (zcl HB.out hw601_1), (zcl HB.out hw602_0), (zcl HB.out hw602_1)⟩ (fun hHeld => ?_); clear hK K; refine norm_ (a' := ?_) ?_ ?_; rotate_left
          ·show Act.put _ (some 44) _ = _; simp only [Act.put, zv, i64_w, i32_w]; rfl
          refine zp 34 (some 45) (v := ?_) (a' := ?_) (bz 38 34359738367) rfl rfl HT_.out zz zQ ?_ ?_ ?_; rotate_left
          ·intro w'; go_simp; with_reducible rfl
          rotate_left
          ·simp only [Act.put, zv, i64_w, i32_w]; rfl
          refine zp 35 (some 46) (v := ?_) (a' := ?_) (bz 38 68719476735) rfl rfl HT_.out zz zQ ?_ ?_ ?_; rotate_left
          ·intro w'; go_simp; with_reducible rfl
          rotate_left
          ·simp only [Act.put, zv, i64_w, i32_w]; rfl
          refine zp 36 (some 47) (v := ?_) (a' := ?_) (bz 38 137438953471) rfl rfl HT_.out zz zQ ?_ ?_ ?_; rotate_left
          ·intro w'; go_simp; with_reducible rfl
          rotate_left
          ·simp only [Act.put, zv, i64_w, i32_w]; rfl
          refine zp 37 (some 48) (v := ?_) (a' := ?_) (bz 38 274877906943) rfl rfl HT_.out zz zQ ?_ ?_ ?_; rotate_left
          ·intro w'; go_simp; with_reducible rfl
          rotate_left
          ·simp only [Act.put, zv, i64_w, i32_w]; rfl
          refine done_ (done_of HT_.out zz) ?_; try go_wp2
          go_roundg k1
          case measure => have := HK1.out; omega
          case rel => exact ⟨(wrap64 (x5_1 + 1)), zR, H', ⟨by have := HK1.out; omega⟩, ⟨zU HB.out⟩⟩
        ·rw [if_neg c9] at H; have c9b0 : decide (((rd_T50 l0 a1).f1) ≤ (wrap64 ((wrap64 (((rd_T50 l0 x5_1).f1) + t599)) - 1))) = false := decide_eq_false c9; clear c9; have H' := zk H; clear H; try go_wp2
         have n0_ := zk (below_drew1 HB.out); clear HB; have HB := n0_; clear n0_; have p596 : 0 ≤ (a1 : Int) := zT; have q596 : a1 < (l0.length : Int) := zT; obtain ⟨ad596, A596_0, c596_0, e596, hx596_0, hx596_1, hl596_0, hi596_0⟩ := at_T50 HR0.out a1 p596 q596; have hw596_1 := hx596_1; have hw596_0 := hx596_0; cases e596; replace hx596_0 := zcl HB.out hx596_0; replace hx596_1 := zcl HB.out hx596_1; have HR596_0 := zk hi596_0; have HC596_0 := zk hl596_0; clear hi596_0 hl596_0; replace p596 := eq_true p596; replace q596 := eq_true q596; have p597 : 0 ≤ (x5_1 : Int) := zT; have q597 : x5_1 < (l0.length : Int) := zT; obtain ⟨ad597, A597_0, c597_0, e597, hx597_0, hx597_1, hl597_0, hi597_0⟩ := at_T50 HR0.out x5_1 p597 q597; have hw597_1 := hx597_1; have hw597_0 := hx597_0; obtain rfl : ad596 = ad597 := (by injection e597); replace hx597_0 := zcl HB.out hx597_0; replace hx597_1 := zcl HB.out hx597_1; have HR597_0 := zk hi597_0; have HC597_0 := zk hl597_0; clear hi597_0 hl597_0; replace p597 := eq_true p597; replace q597 := eq_true q597; have p598 : 0 ≤ (x5_1 : Int) := zT; have q598 : x5_1 < (l0.length : Int) := zT; obtain ⟨ad598, A598_0, c598_0, e598, hx598_0, hx598_1, hl598_0, hi598_0⟩ := at_T50 HR0.out x5_1 p598 q598; have hw598_1 := hx598_1; have hw598_0 := hx598_0; obtain rfl : ad596 = ad598 := (by injection e598); replace hx598_0 := zcl HB.out hx598_0; replace hx598_1 := zcl HB.out hx598_1; have HR598_0 := zk hi598_0; have HC598_0 := zk hl598_0; clear hi598_0 hl598_0; replace p598 := eq_true p598; replace q598 := eq_true q598; have ea_ := Option.some.inj (hx597_0.symm.trans hx598_0); injection ea_ with ea_ en_ ec_
         subst ea_; subst ec_; clear en_; refine start_ (n := 38) (S := fun w' => w'.cell? (ad596.add ((a1).toNat * 2)) = some (.slice A596_0 ((rd_T50 l0 a1).f0).length c596_0) ∧ w'.cell? ⟨(ad596.add ((a1).toNat * 2)).block, (ad596.add ((a1).toNat * 2)).off + 1, none⟩ = some (.int .i64 ((rd_T50 l0 a1).f1)) ∧ w'.cell? (ad596.add ((x5_1).toNat * 2)) = some (.slice A597_0 ((rd_T50 l0 x5_1).f0).length c597_0) ∧ w'.cell? ⟨(ad596.add ((x5_1).toNat * 2)).block, (ad596.add ((x5_1).toNat * 2)).off + 1, none⟩ = some (.int .i64 ((rd_T50 l0 x5_1).f1)) ∧ w'.cell? (ad596.add ((x5_1).toNat * 2)) = some (.slice A597_0 ((rd_T50 l0 x5_1).f0).length c597_0) ∧ w'.cell? ⟨(ad596.add ((x5_1).toNat * 2)).block, (ad596.add ((x5_1).toNat * 2)).off + 1, none⟩ = some (.int .i64 ((rd_T50 l0 x5_1).f1))) (ds := []) #[false, false, false, false, false, false, false, false, false, false, false, false, false, false, false, false, false, false, false, false, false, false, false, false, false, false, false, false, false, false, false, false, false, false, false, false, false, false] zz rfl rfl ⟨(zcl HB.out hw596_0), (zcl HB.out hw596_1), (zcl HB.out hw597_0), (zcl HB.out hw597_1), (zcl HB.out hw598_0), (zcl HB.out hw598_1)⟩ (fun hHeld => ?_); refine with_tabW leadtrailref08_meet.tab4 leadtrailref08_meet.bits4 (fun HT_ HW_ => ?_); generalize wr.drew = w18 at HB HR596_0 HR597_0 HR598_0 hx596_0 hx596_1 hx597_0 hx597_1 hx598_0 hx598_1 hHeld ⊢; refine zp 0 (some 11) (v := ?_) (a' := ?_) (bz 38 1) rfl rfl HT_.out zz zQ ?_ ?_ ?_; rotate_left
         ·intro w'; go_simp; with_reducible rfl
         rotate_left
         ·simp only [Act.put, zv, i64_w, i32_w]; rfl
         refine zp 1 (some 12) (v := ?_) (a' := ?_) (bz 38 3) rfl rfl HT_.out zz zQ ?_ ?_ ?_; rotate_left
         ·intro w'; go_simp; with_reducible rfl
         rotate_left
         ·simp only [Act.put, zv, i64_w, i32_w]; rfl
         refine zp 2 (some 13) (v := ?_) (a' := ?_) (bz 38 7) rfl rfl HT_.out zz zQ ?_ ?_ ?_; rotate_left
         ·intro w'; go_simp; with_reducible rfl
         rotate_left
         ·simp only [Act.put, zv, i64_w, i32_w]; rfl
         refine zp 3 (some 14) (v := ?_) (a' := ?_) (bz 38 15) rfl rfl HT_.out zz zQ ?_ ?_ ?_; rotate_left
         ·intro w'; go_simp; with_reducible rfl
         rotate_left
         ·simp only [Act.put, zv, i64_w, i32_w]; rfl
         refine zp 5 (some 16) (v := ?_) (a' := ?_) (bz 38 47) rfl rfl HT_.out zz zQ ?_ ?_ ?_; rotate_left
         ·intro w'; go_simp; with_reducible rfl
         rotate_left
         ·simp only [Act.put, zv, i64_w, i32_w]; rfl
         refine zp 6 (some 17) (v := ?_) (a' := ?_) (bz 38 111) rfl rfl HT_.out zz zQ ?_ ?_ ?_; rotate_left
         ·intro w'; go_simp; with_reducible rfl
         rotate_left
         ·simp only [Act.put, zv, i64_w, i32_w]; rfl
         refine zp 7 (some 18) (v := ?_) (a' := ?_) (bz 38 239) rfl rfl HT_.out zz zQ ?_ ?_ ?_; rotate_left
         ·intro w'; go_simp; with_reducible rfl
         rotate_left
         ·simp only [Act.put, zv, i64_w, i32_w]; rfl
         refine zp 8 (some 19) (v := ?_) (a' := ?_) (bz 38 495) rfl rfl HT_.out zz zQ ?_ ?_ ?_; rotate_left
         ·intro w'; go_simp; with_reducible rfl
         rotate_left
         ·simp only [Act.put, zv, i64_w, i32_w]; rfl
         refine zp 10 (some 21) (v := ?_) (a' := ?_) (bz 38 1519) rfl rfl HT_.out zz zQ ?_ ?_ ?_; rotate_left
         ·intro w'; go_simp; with_reducible rfl
         rotate_left
         ·simp only [Act.put, zv, i64_w, i32_w]; rfl
         refine zp 11 (some 22) (v := ?_) (a' := ?_) (bz 38 3567) rfl rfl HT_.out zz zQ ?_ ?_ ?_; rotate_left
         ·intro w'; go_simp; with_reducible rfl
         rotate_left
         ·simp only [Act.put, zv, i64_w, i32_w]; rfl
         refine zp 12 (some 23) (v := ?_) (a' := ?_) (bz 38 7663) rfl rfl HT_.out zz zQ ?_ ?_ ?_; rotate_left
         ·intro w'; go_simp; with_reducible rfl
         rotate_left
         ·simp only [Act.put, zv, i64_w, i32_w]; rfl
         refine take_ (i := 4) (N := some 15) (v := ?_) (a' := ?_) (bz 38 7679) rfl rfl (take_ofW HT_.out HW_.out zz) zQ (Or.inl ⟨by rfl, ?_⟩) hHeld ?_ ?_; rotate_left
         ·rintro w' ⟨s0, s1, s2, s3, s4, s5⟩; go_simp; with_reducible rfl
         rotate_left
         ·simp only [Act.put, zv, i64_w, i32_w]; rfl
         refine take_ (i := 9) (N := some 20) (v := ?_) (a' := ?_) (bz 38 8191) rfl rfl (take_ofW HT_.out HW_.out zz) zQ (Or.inl ⟨by rfl, ?_⟩) hHeld ?_ ?_; rotate_left
         ·rintro w' ⟨s0, s1, s2, s3, s4, s5⟩; go_simp; with_reducible rfl
         rotate_left
         ·simp only [Act.put, zv, i64_w, i32_w]; rfl
         refine take_ (i := 13) (N := some 24) (v := ?_) (a' := ?_) (bz 38 16383) rfl rfl (take_ofW HT_.out HW_.out zz) zQ (Or.inl ⟨by rfl, ?_⟩) hHeld ?_ ?_; rotate_left
         ·rintro w' ⟨s0, s1, s2, s3, s4, s5⟩; go_simp; with_reducible rfl
         rotate_left
         ·simp only [Act.put, zv, i64_w, i32_w]; rfl
         refine one_ (i := 14) (N := some 25) (bz 38 32767) rfl rfl (one_of HT_.out zz) (by decide) (fun K hK => ?_); refine goes_ Try.func81 zz rfl #[.agg #[.slice A597_0 ((rd_T50 l0 x5_1).f0).length c597_0, .int .i64 ((rd_T50 l0 x5_1).f1)]] (by rfl) rfl rfl zM ?_; with_reducible refine (leadtrailref08_Count.calls k1 _ _ ((rd_T50 l0 x5_1).f0) ((rd_T50 l0 x5_1).f1) t599 _ ?side1 ?side2 A8.out).mono ?_; (case side1 => exact zc (Kd.C_below HR598_0.out HB.out))
         (case side2 => exact HC598_0.out)
         rintro e w19 ⟨rfl, hb⟩; refine ⟨_, rfl, ?_⟩; have n0_ := zk (below_step (zU HB.out) hb); clear HB; have HB := n0_; clear n0_; (try clear hb); (try clear hb2); (try clear hk); (try clear hi); refine hK.out _ _ ⟨(zcl HB.out hw596_0), (zcl HB.out hw596_1), (zcl HB.out hw597_0), (zcl HB.out hw597_1), (zcl HB.out hw598_0), (zcl HB.out hw598_1)⟩ (fun hHeld => ?_); clear hK K; refine norm_ (a' := ?_) ?_ ?_; rotate_left
         ·show Act.put _ (some 25) _ = _; simp only [Act.put, zv, i64_w, i32_w]; rfl
         refine zp 15 (some 26) (v := ?_) (a' := ?_) (bz 38 65535) rfl rfl HT_.out zz zQ ?_ ?_ ?_; rotate_left
         ·intro w'; go_simp; with_reducible rfl
         rotate_left
         ·simp only [Act.put, zv, i64_w, i32_w]; rfl
         refine zp 16 (some 27) (v := ?_) (a' := ?_) (bz 38 131071) rfl rfl HT_.out zz zQ ?_ ?_ ?_; rotate_left
         ·intro w'; go_simp; with_reducible rfl
         rotate_left
         ·simp only [Act.put, zv, i64_w, i32_w]; rfl
         refine zp 17 (some 28) (v := ?_) (a' := ?_) (bz 38 262143) rfl rfl HT_.out zz zQ ?_ ?_ ?_; rotate_left
         ·intro w'; go_simp; with_reducible rfl
         rotate_left
         ·simp only [Act.put, zv, i64_w, i32_w]; rfl
         refine zp 18 (some 29) (v := ?_) (a' := ?_) (bz 38 524287) rfl rfl HT_.out zz zQ ?_ ?_ ?_; rotate_left
         ·intro w'; go_simp; with_reducible rfl
         rotate_left
         ·simp only [Act.put, zv, i64_w, i32_w]; rfl
         refine pure_ (i := 19) (N := some 30) (v := undef) (a' := ?_) (bz 38 1048575) rfl rfl (any_of HT_.out zz) zQ (Or.inr ⟨by rfl, rfl⟩) ?_ ?_; rotate_left
         ·simp only [Act.put, zv, i64_w, i32_w]; rfl
         refine pure_ (i := 20) (N := some 31) (v := undef) (a' := ?_) (bz 38 2097151) rfl rfl (any_of HT_.out zz) zQ (Or.inr ⟨by rfl, rfl⟩) ?_ ?_; rotate_left
         ·simp only [Act.put, zv, i64_w, i32_w]; rfl
         refine pure_ (i := 21) (N := some 32) (v := undef) (a' := ?_) (bz 38 4194303) rfl rfl (any_of HT_.out zz) zQ (Or.inr ⟨by rfl, rfl⟩) ?_ ?_; rotate_left
         ·simp only [Act.put, zv, i64_w, i32_w]; rfl
         refine pure_ (i := 22) (N := some 33) (v := undef) (a' := ?_) (bz 38 8388607) rfl rfl (any_of HT_.out zz) zQ (Or.inr ⟨by rfl, rfl⟩) ?_ ?_; rotate_left
         ·simp only [Act.put, zv, i64_w, i32_w]; rfl
         refine pure_ (i := 23) (N := some 34) (v := undef) (a' := ?_) (bz 38 16777215) rfl rfl (any_of HT_.out zz) zQ (Or.inr ⟨by rfl, rfl⟩) ?_ ?_; rotate_left
         ·simp only [Act.put, zv, i64_w, i32_w]; rfl
         refine pure_ (i := 24) (N := some 35) (v := undef) (a' := ?_) (bz 38 33554431) rfl rfl (any_of HT_.out zz) zQ (Or.inr ⟨by rfl, rfl⟩) ?_ ?_; rotate_left
         ·simp only [Act.put, zv, i64_w, i32_w]; rfl
         refine pure_ (i := 25) (N := some 36) (v := undef) (a' := ?_) (bz 38 67108863) rfl rfl (any_of HT_.out zz) zQ (Or.inr ⟨by rfl, rfl⟩) ?_ ?_; rotate_left
         ·simp only [Act.put, zv, i64_w, i32_w]; rfl
         refine pure_ (i := 26) (N := some 37) (v := undef) (a' := ?_) (bz 38 134217727) rfl rfl (any_of HT_.out zz) zQ (Or.inr ⟨by rfl, rfl⟩) ?_ ?_; rotate_left
         ·simp only [Act.put, zv, i64_w, i32_w]; rfl
         refine pure_ (i := 27) (N := some 38) (v := undef) (a' := ?_) (bz 38 268435455) rfl rfl (any_of HT_.out zz) zQ (Or.inr ⟨by rfl, rfl⟩) ?_ ?_; rotate_left
         ·simp only [Act.put, zv, i64_w, i32_w]; rfl
         refine pure_ (i := 28) (N := some 39) (v := undef) (a' := ?_) (bz 38 536870911) rfl rfl (any_of HT_.out zz) zQ (Or.inr ⟨by rfl, rfl⟩) ?_ ?_; rotate_left
         ·simp only [Act.put, zv, i64_w, i32_w]; rfl
         refine pure_ (i := 29) (N := some 40) (v := undef) (a' := ?_) (bz 38 1073741823) rfl rfl (any_of HT_.out zz) zQ (Or.inr ⟨by rfl, rfl⟩) ?_ ?_; rotate_left
         ·simp only [Act.put, zv, i64_w, i32_w]; rfl
         refine pure_ (i := 30) (N := some 41) (v := undef) (a' := ?_) (bz 38 2147483647) rfl rfl (any_of HT_.out zz) zQ (Or.inr ⟨by rfl, rfl⟩) ?_ ?_; rotate_left
         ·simp only [Act.put, zv, i64_w, i32_w]; rfl
         refine pure_ (i := 31) (N := some 42) (v := undef) (a' := ?_) (bz 38 4294967295) rfl rfl (any_of HT_.out zz) zQ (Or.inr ⟨by rfl, rfl⟩) ?_ ?_; rotate_left
         ·simp only [Act.put, zv, i64_w, i32_w]; rfl
         refine pure_ (i := 32) (N := some 43) (v := undef) (a' := ?_) (bz 38 8589934591) rfl rfl (any_of HT_.out zz) zQ (Or.inr ⟨by rfl, rfl⟩) ?_ ?_; rotate_left
         ·simp only [Act.put, zv, i64_w, i32_w]; rfl
         refine pure_ (i := 33) (N := some 44) (v := undef) (a' := ?_) (bz 38 17179869183) rfl rfl (any_of HT_.out zz) zQ (Or.inr ⟨by rfl, rfl⟩) ?_ ?_; rotate_left
         ·simp only [Act.put, zv, i64_w, i32_w]; rfl
         refine pure_ (i := 34) (N := some 45) (v := undef) (a' := ?_) (bz 38 34359738367) rfl rfl (any_of HT_.out zz) zQ (Or.inr ⟨by rfl, rfl⟩) ?_ ?_; rotate_left
         ·simp only [Act.put, zv, i64_w, i32_w]; rfl
         refine pure_ (i := 35) (N := some 46) (v := undef) (a' := ?_) (bz 38 68719476735) rfl rfl (any_of HT_.out zz) zQ (Or.inr ⟨by rfl, rfl⟩) ?_ ?_; rotate_left
         ·simp only [Act.put, zv, i64_w, i32_w]; rfl
         refine pure_ (i := 36) (N := some 47) (v := undef) (a' := ?_) (bz 38 137438953471) rfl rfl (any_of HT_.out zz) zQ (Or.inr ⟨by rfl, rfl⟩) ?_ ?_; rotate_left
         ·simp only [Act.put, zv, i64_w, i32_w]; rfl
         refine zp 37 (some 48) (v := ?_) (a' := ?_) (bz 38 274877906943) rfl rfl HT_.out zz zQ ?_ ?_ ?_; rotate_left
         ·intro w'; go_simp; with_reducible rfl
         rotate_left
         ·simp only [Act.put, zv, i64_w, i32_w]; rfl
         refine done_ (done_of HT_.out zz) ?_; try go_wp2
         go_roundg k1
         case measure => have := HK1.out; omega
         case rel => exact ⟨(wrap64 (x5_1 + 1)), zR, H', ⟨by have := HK1.out; omega⟩, ⟨zU HB.out⟩⟩
       ·rw [if_neg c7] at H; exact absurd H (by simp)
      ·rw [if_neg c6] at H; exact absurd H (by simp)
     ·rw [if_neg c5] at H; exact absurd H (by simp)
    ·rw [if_neg c4] at H; exact absurd H (by simp)
   ·rw [if_neg c3] at H; have c3b0 : decide (x5_1 < a1) = false := decide_eq_false c3; clear c3; obtain rfl := Option.some.inj H; go_wp2
    go_ret
    exact ⟨ze, zU HB.out⟩
end Go.Proofs.Ytkcklnmbeinfkaa.B
