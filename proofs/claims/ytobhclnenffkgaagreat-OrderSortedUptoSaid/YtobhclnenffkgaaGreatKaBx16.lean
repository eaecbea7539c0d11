/- Words and walks of this claim, of the text Bx16. -/
import Derived.Test.YtobhclnenffkgaaGreatKaQW0
import Derived.Test.YtobhclnenffkgaaGreatKaBx0
import Derived.Test.YtobhclnenffkgaaGreatKaBx12
namespace Go.Proofs.YtobhclnenffkgaaGreat.B
open Go.RowKit Go.Proofs.YtobhclnenffkgaaGreatW.PrintWords Go.Proofs.YtobhclnenffkgaaGreatW.PrintLast Go.Proofs.YtobhclnenffkgaaGreatW.PrintMore
set_option maxHeartbeats 8000000
set_option maxRecDepth 100000
attribute [local go_sem] max2_int min2_int max_two min_two max_three min_three max_four min_four
set_option linter.unusedVariables false
set_option linter.unusedSimpArgs false
def leadtrailref08_meet.l0 : Nat → List (S48) → Int → Int → Option (Bool)
 | 0, _, _, _ => none
 | k + 1, x0, x1, x5 => if x5 < x1 then (if 0 ≤ x1 then (if x1 < (x0.length : Int) then (if 0 ≤ x5 then (if x5 < (x0.length : Int) then ((leadtrailref08_Count.f k ((rd_T48 x0 x5).f0) ((rd_T48 x0 x5).f1)).bind fun t430 => (if ((rd_T48 x0 x1).f1) ≤ (wrap64 ((wrap64 (((rd_T48 x0 x5).f1) + t430)) - 1)) then ((leadtrailref08_Count.f k ((rd_T48 x0 x1).f0) ((rd_T48 x0 x1).f1)).bind fun t434 => (if ((rd_T48 x0 x5).f1) ≤ (wrap64 ((wrap64 (((rd_T48 x0 x1).f1) + t434)) - 1)) then (some true) else (leadtrailref08_meet.l0 k x0 x1 (wrap64 (x5 + 1))))) else (leadtrailref08_meet.l0 k x0 x1 (wrap64 (x5 + 1))))) else (none)) else (none)) else (none)) else (none)) else (some false)
def leadtrailref08_meet.f (k : Nat) (l0 : List (S48)) (a1 : Int) : Option (Bool) := leadtrailref08_meet.l0 k l0 a1 0
def leadtrailref08_meet.T4 : Bool × List (List Nat × List Nat) := (true, [([], []), ([], []), ([0, 1], [0, 1]), ([2], [2]), ([3], [3]), ([], []), ([], []), ([5, 6], [5, 6]), ([7], [7]), ([8], [8]), ([], []), ([], []), ([10, 11], [10, 11]), ([12], [12]), ([13], [13]), ([9, 14], [9, 14]), ([15], [15]), ([4, 16], [4, 16]), ([17, 14], [17]), ([18], [18]), ([18], [18]), ([19, 20, 18], [18, 19, 20]), ([21, 18], [18, 21]), ([22, 18], [18, 22]), ([18], [18]), ([18], [18]), ([24, 25, 18], [18, 24, 25]), ([26, 18], [18, 26]), ([27, 18], [18, 27]), ([18], [18]), ([18], [18]), ([29, 30, 18], [18, 29, 30]), ([31, 18], [18, 31]), ([32, 18, 18], [18, 32]), ([28, 33, 18], [18, 28, 33]), ([34, 18], [18, 34]), ([23, 35, 18], [18, 23, 35]), ([18, 36], [18, 36])])
def leadtrailref08_meet.B4 : List Nat := [0, 0, 3, 7, 15, 0, 0, 96, 224, 480, 0, 0, 3072, 7168, 15360, 32736, 65504, 131071, 262143, 524287, 524287, 2097151, 4194303, 8388607, 524287, 524287, 50855935, 117964799, 252182527, 524287, 524287, 1611137023, 3758620671, 8053587967, 17163616255, 34343485439, 68719476735, 137438953471]
theorem leadtrailref08_meet.tab4 : rtab .any (opsOf Tryz.f42 4) = leadtrailref08_meet.T4 := by kernel_rfl
theorem leadtrailref08_meet.bits4 : waitsOk leadtrailref08_meet.T4.2 leadtrailref08_meet.B4 = true := by kernel_rfl
theorem leadtrailref08_meet.calls (k : Nat) (A0 : Option Addr) (c0 : Nat) (l0 : List (S48)) (a1 : Int) (r : Bool) (w : World) (hr0 : Kd.C k48 w A0 l0.length l0) (hc0 : l0.length ≤ c0) (h : leadtrailref08_meet.f k l0 a1 = some r) :
 Calls Tryz.prog 42 #[.slice A0 l0.length c0, .int .i64 a1] w fun e w' => e = .returned (.bool r) ∧ Below w.heap.size w w' := by
 have hu48 := Tryz.underlying48; have HR0 := zk hr0; have HC0 := zk hc0; clear hr0 hc0; have HB := zk (Below.refl w.heap.size w); have H : (leadtrailref08_meet.l0 k l0 a1 0) = some r := h; clear h; have H' := zk H; clear H; go_enter Tryz.func42, Tryz.ntmps42
 go_wp2
 go_loopg [5] k (fun kq v5 w' => ∃ (x5_1 : Int), v5 = .int .i64 x5_1 ∧ Aside0 (leadtrailref08_meet.l0 kq l0 a1 x5_1 = some r) ∧ Aside0 (kq ≤ k) ∧ Aside0 (Below w.heap.size w w'))
 case atStart => exact ⟨(0), zR, H', ⟨Nat.le_refl _⟩, ⟨zU HB.out⟩⟩
 case round =>
  clear H'; (try clear p2); obtain ⟨x5_1, rfl, HA, HK1, HB⟩ := hrel
  cases gk with
  | zero => exact absurd HA.out (by simp [leadtrailref08_meet.l0])
  | succ k1 =>
   have H := HA.out; clear HA; simp only [leadtrailref08_meet.l0] at H; by_cases c3 : x5_1 < a1
   ·rw [if_pos c3] at H; have c3b0 : decide (x5_1 < a1) = true := decide_eq_true c3; clear c3; by_cases c4 : 0 ≤ a1
    ·rw [if_pos c4] at H; have c4b0 : decide (0 ≤ a1) = true := decide_eq_true c4; clear c4; by_cases c5 : a1 < (l0.length : Int)
     ·rw [if_pos c5] at H; have c5b0 : decide (a1 < (l0.length : Int)) = true := decide_eq_true c5; clear c5; by_cases c6 : 0 ≤ x5_1
      ·rw [if_pos c6] at H; have c6b0 : decide (0 ≤ x5_1) = true := decide_eq_true c6; clear c6; by_cases c7 : x5_1 < (l0.length : Int)
       ·rw [if_pos c7] at H; have c7b0 : decide (x5_1 < (l0.length : Int)) = true := decide_eq_true c7; clear c7; replace H := Option.bind_eq_some_iff.mp H; obtain ⟨t430, A80, H⟩ := H; replace H : (if ((rd_T48 l0 a1).f1) ≤ (wrap64 ((wrap64 (((rd_T48 l0 x5_1).f1) + t430)) - 1)) then ((leadtrailref08_Count.f k1 ((rd_T48 l0 a1).f0) ((rd_T48 l0 a1).f1)).bind fun t434 => (if ((rd_T48 l0 x5_1).f1) ≤ (wrap64 ((wrap64 (((rd_T48 l0 a1).f1) + t434)) - 1)) then (some true) else (leadtrailref08_meet.l0 k1 l0 a1 (wrap64 (x5_1 + 1))))) else (leadtrailref08_meet.l0 k1 l0 a1 (wrap64 (x5_1 + 1)))) = some r := H; have A8 := zk A80; clear A80; by_cases c9 : ((rd_T48 l0 a1).f1) ≤ (wrap64 ((wrap64 (((rd_T48 l0 x5_1).f1) + t430)) - 1))
        ·rw [if_pos c9] at H; have c9b0 : decide (((rd_T48 l0 a1).f1) ≤ (wrap64 ((wrap64 (((rd_T48 l0 x5_1).f1) + t430)) - 1))) = true := decide_eq_true c9; clear c9; replace H := Option.bind_eq_some_iff.mp H; obtain ⟨t434, A100, H⟩ := H; replace H : (if ((rd_T48 l0 x5_1).f1) ≤ (wrap64 ((wrap64 (((rd_T48 l0 a1).f1) + t434)) - 1)) then (some true) else (leadtrailref08_meet.l0 k1 l0 a1 (wrap64 (x5_1 + 1)))) = some r := H; have A10 := zk A100; clear A100; by_cases c11 : ((rd_T48 l0 x5_1).f1) ≤ (wrap64 ((wrap64 (((rd_T48 l0 a1).f1) + t434)) - 1))
         ·rw [if_pos c11] at H; have c11b0 : decide (((rd_T48 l0 x5_1).f1) ≤ (wrap64 ((wrap64 (((rd_T48 l0 a1).f1) + t434)) - 1))) = true := decide_eq_true c11; clear c11; obtain rfl := Option.some.inj H; try go_wp2
          have n0_ := zk (below_drew1 HB.out); clear HB; have HB := n0_; clear n0_; have p427 : 0 ≤ (a1 : Int) := zT; have q427 : a1 < (l0.length : Int) := zT; obtain ⟨ad427, A427_0, c427_0, e427, hx427_0, hx427_1, hl427_0, hi427_0⟩ := at_T48 HR0.out a1 p427 q427; have hw427_1 := hx427_1; have hw427_0 := hx427_0; cases e427; replace hx427_0 := zcl HB.out hx427_0; replace hx427_1 := zcl HB.out hx427_1; have HR427_0 := zk hi427_0; have HC427_0 := zk hl427_0; clear hi427_0 hl427_0; replace p427 := eq_true p427; replace q427 := eq_true q427; have p428 : 0 ≤ (x5_1 : Int) := zT; have q428 : x5_1 < (l0.length : Int) := zT; obtain ⟨ad428, A428_0, c428_0, e428, hx428_0, hx428_1, hl428_0, hi428_0⟩ := at_T48 HR0.out x5_1 p428 q428; have hw428_1 := hx428_1; have hw428_0 := hx428_0; obtain rfl : ad427 = ad428 := (by injection e428); replace hx428_0 := zcl HB.out hx428_0; replace hx428_1 := zcl HB.out hx428_1; have HR428_0 := zk hi428_0; have HC428_0 := zk hl428_0; clear hi428_0 hl428_0; replace p428 := eq_true p428; replace q428 := eq_true q428; have p429 : 0 ≤ (x5_1 : Int) := zT; have q429 : x5_1 < (l0.length : Int) := zT; obtain ⟨ad429, A429_0, c429_0, e429, hx429_0, hx429_1, hl429_0, hi429_0⟩ := at_T48 HR0.out x5_1 p429 q429; have hw429_1 := hx429_1; have hw429_0 := hx429_0; obtain rfl : ad427 = ad429 := (by injection e429); replace hx429_0 := zcl HB.out hx429_0; replace hx429_1 := zcl HB.out hx429_1; have HR429_0 := zk hi429_0; have HC429_0 := zk hl429_0; clear hi429_0 hl429_0; replace p429 := eq_true p429; replace q429 := eq_true q429; have ea_ := Option.some.inj (hx428_0.symm.trans hx429_0); injection ea_ with ea_ en_ ec_
          subst ea_; subst ec_; clear en_; have p431 : 0 ≤ (x5_1 : Int) := zT; have q431 : x5_1 < (l0.length : Int) := zT; obtain ⟨ad431, A431_0, c431_0, e431, hx431_0, hx431_1, hl431_0, hi431_0⟩ := at_T48 HR0.out x5_1 p431 q431; have hw431_1 := hx431_1; have hw431_0 := hx431_0; obtain rfl : ad427 = ad431 := (by injection e431); replace hx431_0 := zcl HB.out hx431_0; replace hx431_1 := zcl HB.out hx431_1; have HR431_0 := zk hi431_0; have HC431_0 := zk hl431_0; clear hi431_0 hl431_0; replace p431 := eq_true p431; replace q431 := eq_true q431; have ez_ := Option.some.inj (hw428_0.symm.trans hw431_0); injection ez_ with ez_ en_ ec_
          subst ez_; subst ec_; clear en_; have p432 : 0 ≤ (a1 : Int) := zT; have q432 : a1 < (l0.length : Int) := zT; obtain ⟨ad432, A432_0, c432_0, e432, hx432_0, hx432_1, hl432_0, hi432_0⟩ := at_T48 HR0.out a1 p432 q432; have hw432_1 := hx432_1; have hw432_0 := hx432_0; obtain rfl : ad427 = ad432 := (by injection e432); replace hx432_0 := zcl HB.out hx432_0; replace hx432_1 := zcl HB.out hx432_1; have HR432_0 := zk hi432_0; have HC432_0 := zk hl432_0; clear hi432_0 hl432_0; replace p432 := eq_true p432; replace q432 := eq_true q432; have ez_ := Option.some.inj (hw427_0.symm.trans hw432_0); injection ez_ with ez_ en_ ec_
          subst ez_; subst ec_; clear en_; have p433 : 0 ≤ (a1 : Int) := zT; have q433 : a1 < (l0.length : Int) := zT; obtain ⟨ad433, A433_0, c433_0, e433, hx433_0, hx433_1, hl433_0, hi433_0⟩ := at_T48 HR0.out a1 p433 q433; have hw433_1 := hx433_1; have hw433_0 := hx433_0; obtain rfl : ad427 = ad433 := (by injection e433); replace hx433_0 := zcl HB.out hx433_0; replace hx433_1 := zcl HB.out hx433_1; have HR433_0 := zk hi433_0; have HC433_0 := zk hl433_0; clear hi433_0 hl433_0; replace p433 := eq_true p433; replace q433 := eq_true q433; have ea_ := Option.some.inj (hx432_0.symm.trans hx433_0); injection ea_ with ea_ en_ ec_
          subst ea_; subst ec_; clear en_; refine start_ (n := 38) (S := fun w' => w'.cell? (ad427.add ((a1).toNat * 2)) = some (.slice A427_0 ((rd_T48 l0 a1).f0).length c427_0) ∧ w'.cell? ⟨(ad427.add ((a1).toNat * 2)).block, (ad427.add ((a1).toNat * 2)).off + 1, none⟩ = some (.int .i64 ((rd_T48 l0 a1).f1)) ∧ w'.cell? (ad427.add ((x5_1).toNat * 2)) = some (.slice A428_0 ((rd_T48 l0 x5_1).f0).length c428_0) ∧ w'.cell? ⟨(ad427.add ((x5_1).toNat * 2)).block, (ad427.add ((x5_1).toNat * 2)).off + 1, none⟩ = some (.int .i64 ((rd_T48 l0 x5_1).f1)) ∧ w'.cell? (ad427.add ((x5_1).toNat * 2)) = some (.slice A428_0 ((rd_T48 l0 x5_1).f0).length c428_0) ∧ w'.cell? ⟨(ad427.add ((x5_1).toNat * 2)).block, (ad427.add ((x5_1).toNat * 2)).off + 1, none⟩ = some (.int .i64 ((rd_T48 l0 x5_1).f1)) ∧ w'.cell? (ad427.add ((x5_1).toNat * 2)) = some (.slice A428_0 ((rd_T48 l0 x5_1).f0).length c428_0) ∧ w'.cell? ⟨(ad427.add ((x5_1).toNat * 2)).block, (ad427.add ((x5_1).toNat * 2)).off + 1, none⟩ = some (.int .i64 ((rd_T48 l0 x5_1).f1)) ∧ w'.cell? (ad427.add ((a1).toNat * 2)) = some (.slice A427_0 ((rd_T48 l0 a1).f0).length c427_0) ∧ w'.cell? ⟨(ad427.add ((a1).toNat * 2)).block, (ad427.add ((a1).toNat * 2)).off + 1, none⟩ = some (.int .i64 ((rd_T48 l0 a1).f1)) ∧ w'.cell? (ad427.add ((a1).toNat * 2)) = some (.slice A427_0 ((rd_T48 l0 a1).f0).length c427_0) ∧ w'.cell? ⟨(ad427.add ((a1).toNat * 2)).block, (ad427.add ((a1).toNat * 2)).off + 1, none⟩ = some (.int .i64 ((rd_T48 l0 a1).f1))) (ds := []) #[false, false, false, false, false, false, false, false, false, false, false, false, false, false, false, false, false, false, false, false, false, false, false, false, false, false, false, false, false, false, false, false, false, false, false, false, false, false] zz rfl rfl ⟨(zcl HB.out hw427_0), (zcl HB.out hw427_1), (zcl HB.out hw428_0), (zcl HB.out hw428_1), (zcl HB.out hw429_0), (zcl HB.out hw429_1), (zcl HB.out hw431_0), (zcl HB.out hw431_1), (zcl HB.out hw432_0), (zcl HB.out hw432_1), (zcl HB.out hw433_0), (zcl HB.out hw433_1)⟩ (fun hHeld => ?_); refine with_tabW leadtrailref08_meet.tab4 leadtrailref08_meet.bits4 (fun HT_ HW_ => ?_); generalize wr.drew = w12 at HB HR427_0 HR428_0 HR429_0 HR431_0 HR432_0 HR433_0 hx427_0 hx427_1 hx428_0 hx428_1 hx429_0 hx429_1 hx431_0 hx431_1 hx432_0 hx432_1 hx433_0 hx433_1 hHeld ⊢; refine zp 0 (some 11) (v := ?_) (a' := ?_) (bz 38 1) rfl rfl HT_.out zz zQ ?_ ?_ ?_; rotate_left
          ·intro w'; go_simp; with_reducible rfl
          rotate_left
          ·simp only [zy]; rfl
          refine zp 1 (some 12) (v := ?_) (a' := ?_) (bz 38 3) rfl rfl HT_.out zz zQ ?_ ?_ ?_; rotate_left
          ·intro w'; go_simp; with_reducible rfl
          rotate_left
          ·simp only [zy]; rfl
          refine zp 2 (some 13) (v := ?_) (a' := ?_) (bz 38 7) rfl rfl HT_.out zz zQ ?_ ?_ ?_; rotate_left
          ·intro w'; go_simp; with_reducible rfl
          rotate_left
          ·simp only [zy]; rfl
          refine zp 3 (some 14) (v := ?_) (a' := ?_) (bz 38 15) rfl rfl HT_.out zz zQ ?_ ?_ ?_; rotate_left
          ·intro w'; go_simp; with_reducible rfl
          rotate_left
          ·simp only [zy]; rfl
          refine zp 5 (some 16) (v := ?_) (a' := ?_) (bz 38 47) rfl rfl HT_.out zz zQ ?_ ?_ ?_; rotate_left
          ·intro w'; go_simp; with_reducible rfl
          rotate_left
          ·simp only [zy]; rfl
          refine zp 6 (some 17) (v := ?_) (a' := ?_) (bz 38 111) rfl rfl HT_.out zz zQ ?_ ?_ ?_; rotate_left
          ·intro w'; go_simp; with_reducible rfl
          rotate_left
          ·simp only [zy]; rfl
          refine zp 7 (some 18) (v := ?_) (a' := ?_) (bz 38 239) rfl rfl HT_.out zz zQ ?_ ?_ ?_; rotate_left
          ·intro w'; go_simp; with_reducible rfl
          rotate_left
          ·simp only [zy]; rfl
          refine zp 8 (some 19) (v := ?_) (a' := ?_) (bz 38 495) rfl rfl HT_.out zz zQ ?_ ?_ ?_; rotate_left
          ·intro w'; go_simp; with_reducible rfl
          rotate_left
          ·simp only [zy]; rfl
          refine zp 10 (some 21) (v := ?_) (a' := ?_) (bz 38 1519) rfl rfl HT_.out zz zQ ?_ ?_ ?_; rotate_left
          ·intro w'; go_simp; with_reducible rfl
          rotate_left
          ·simp only [zy]; rfl
          refine zp 11 (some 22) (v := ?_) (a' := ?_) (bz 38 3567) rfl rfl HT_.out zz zQ ?_ ?_ ?_; rotate_left
          ·intro w'; go_simp; with_reducible rfl
          rotate_left
          ·simp only [zy]; rfl
          refine zp 12 (some 23) (v := ?_) (a' := ?_) (bz 38 7663) rfl rfl HT_.out zz zQ ?_ ?_ ?_; rotate_left
          ·intro w'; go_simp; with_reducible rfl
          rotate_left
          ·simp only [zy]; rfl
          refine take_ (i := 4) (N := some 15) (v := ?_) (a' := ?_) (bz 38 7679) rfl rfl (take_ofW HT_.out HW_.out zz) zQ (Or.inl ⟨by rfl, ?_⟩) hHeld ?_ ?_; rotate_left
          ·rintro w' ⟨s0, s1, s2, s3, s4, s5, s6, s7, s8, s9, s10, s11⟩; go_simp; with_reducible rfl
          rotate_left
          ·simp only [zy]; rfl
          refine take_ (i := 9) (N := some 20) (v := ?_) (a' := ?_) (bz 38 8191) rfl rfl (take_ofW HT_.out HW_.out zz) zQ (Or.inl ⟨by rfl, ?_⟩) hHeld ?_ ?_; rotate_left
          ·rintro w' ⟨s0, s1, s2, s3, s4, s5, s6, s7, s8, s9, s10, s11⟩; go_simp; with_reducible rfl
          rotate_left
          ·simp only [zy]; rfl
          refine take_ (i := 13) (N := some 24) (v := ?_) (a' := ?_) (bz 38 16383) rfl rfl (take_ofW HT_.out HW_.out zz) zQ (Or.inl ⟨by rfl, ?_⟩) hHeld ?_ ?_; rotate_left
          ·rintro w' ⟨s0, s1, s2, s3, s4, s5, s6, s7, s8, s9, s10, s11⟩; go_simp; with_reducible rfl
          rotate_left
          ·simp only [zy]; rfl
          refine one_ (i := 14) (N := some 25) (bz 38 32767) rfl rfl (one_of HT_.out zz) (by decide) (fun K hK => ?_); refine goes_ Tryz.func24 zz rfl #[.agg #[.slice A428_0 ((rd_T48 l0 x5_1).f0).length c428_0, .int .i64 ((rd_T48 l0 x5_1).f1)]] (by rfl) rfl rfl zM ?_; with_reducible refine (leadtrailref08_Count.calls k1 _ _ ((rd_T48 l0 x5_1).f0) ((rd_T48 l0 x5_1).f1) t430 _ ?side1 ?side2 A8.out).mono ?_; (case side1 => exact zc (Kd.C_below HR429_0.out HB.out))
          (case side2 => exact HC429_0.out)
          rintro e w13 ⟨rfl, hb⟩; refine ⟨_, rfl, ?_⟩; have n0_ := zs HB hb; clear HB; have HB := n0_; clear n0_; (try clear hb); (try clear hb2); (try clear hk); (try clear hi); refine hK.out _ _ ⟨(zcl HB.out hw427_0), (zcl HB.out hw427_1), (zcl HB.out hw428_0), (zcl HB.out hw428_1), (zcl HB.out hw429_0), (zcl HB.out hw429_1), (zcl HB.out hw431_0), (zcl HB.out hw431_1), (zcl HB.out hw432_0), (zcl HB.out hw432_1), (zcl HB.out hw433_0), (zcl HB.out hw433_1)⟩ (fun hHeld => ?_); clear hK K; refine norm_ (a' := ?_) ?_ ?_; rotate_left
          ·show Act.put _ (some 25) _ = _; simp only [zy]; rfl
          refine zp 15 (some 26) (v := ?_) (a' := ?_) (bz 38 65535) rfl rfl HT_.out zz zQ ?_ ?_ ?_; rotate_left
          ·intro w'; go_simp; with_reducible rfl
          rotate_left
          ·simp only [zy]; rfl
          refine zp 16 (some 27) (v := ?_) (a' := ?_) (bz 38 131071) rfl rfl HT_.out zz zQ ?_ ?_ ?_; rotate_left
          ·intro w'; go_simp; with_reducible rfl
          rotate_left
          ·simp only [zy]; rfl
          refine zp 17 (some 28) (v := ?_) (a' := ?_) (bz 38 262143) rfl rfl HT_.out zz zQ ?_ ?_ ?_; rotate_left
          ·intro w'; go_simp; with_reducible rfl
          rotate_left
          ·simp only [zy]; rfl
          refine zp 18 (some 29) (v := ?_) (a' := ?_) (bz 38 524287) rfl rfl HT_.out zz zQ ?_ ?_ ?_; rotate_left
          ·intro w'; go_simp; with_reducible rfl
          rotate_left
          ·simp only [zy]; rfl
          refine zp 19 (some 30) (v := ?_) (a' := ?_) (bz 38 1048575) rfl rfl HT_.out zz zQ ?_ ?_ ?_; rotate_left
          ·intro w'; go_simp; with_reducible rfl
          rotate_left
          ·simp only [zy]; rfl
          refine zp 20 (some 31) (v := ?_) (a' := ?_) (bz 38 2097151) rfl rfl HT_.out zz zQ ?_ ?_ ?_; rotate_left
          ·intro w'; go_simp; with_reducible rfl
          rotate_left
          ·simp only [zy]; rfl
          refine zp 21 (some 32) (v := ?_) (a' := ?_) (bz 38 4194303) rfl rfl HT_.out zz zQ ?_ ?_ ?_; rotate_left
          ·intro w'; go_simp; with_reducible rfl
          rotate_left
          ·simp only [zy]; rfl
          refine zp 22 (some 33) (v := ?_) (a' := ?_) (bz 38 8388607) rfl rfl HT_.out zz zQ ?_ ?_ ?_; rotate_left
          ·intro w'; go_simp; with_reducible rfl
          rotate_left
          ·simp only [zy]; rfl
          refine zp 24 (some 35) (v := ?_) (a' := ?_) (bz 38 25165823) rfl rfl HT_.out zz zQ ?_ ?_ ?_; rotate_left
          ·intro w'; go_simp; with_reducible rfl
          rotate_left
          ·simp only [zy]; rfl
          refine zp 25 (some 36) (v := ?_) (a' := ?_) (bz 38 58720255) rfl rfl HT_.out zz zQ ?_ ?_ ?_; rotate_left
          ·intro w'; go_simp; with_reducible rfl
          rotate_left
          ·simp only [zy]; rfl
          refine zp 26 (some 37) (v := ?_) (a' := ?_) (bz 38 125829119) rfl rfl HT_.out zz zQ ?_ ?_ ?_; rotate_left
          ·intro w'; go_simp; with_reducible rfl
          rotate_left
          ·simp only [zy]; rfl
          refine zp 27 (some 38) (v := ?_) (a' := ?_) (bz 38 260046847) rfl rfl HT_.out zz zQ ?_ ?_ ?_; rotate_left
          ·intro w'; go_simp; with_reducible rfl
          rotate_left
          ·simp only [zy]; rfl
          refine zp 29 (some 40) (v := ?_) (a' := ?_) (bz 38 796917759) rfl rfl HT_.out zz zQ ?_ ?_ ?_; rotate_left
          ·intro w'; go_simp; with_reducible rfl
          rotate_left
          ·simp only [zy]; rfl
          refine zp 30 (some 41) (v := ?_) (a' := ?_) (bz 38 1870659583) rfl rfl HT_.out zz zQ ?_ ?_ ?_; rotate_left
          ·intro w'; go_simp; with_reducible rfl
          rotate_left
          ·simp only [zy]; rfl
          refine zp 31 (some 42) (v := ?_) (a' := ?_) (bz 38 4018143231) rfl rfl HT_.out zz zQ ?_ ?_ ?_; rotate_left
          ·intro w'; go_simp; with_reducible rfl
          rotate_left
          ·simp only [zy]; rfl
          refine take_ (i := 23) (N := some 34) (v := ?_) (a' := ?_) (bz 38 4026531839) rfl rfl (take_ofW HT_.out HW_.out zz) zQ (Or.inl ⟨by rfl, ?_⟩) hHeld ?_ ?_; rotate_left
          ·rintro w' ⟨s0, s1, s2, s3, s4, s5, s6, s7, s8, s9, s10, s11⟩; go_simp; with_reducible rfl
          rotate_left
          ·simp only [zy]; rfl
          refine take_ (i := 28) (N := some 39) (v := ?_) (a' := ?_) (bz 38 4294967295) rfl rfl (take_ofW HT_.out HW_.out zz) zQ (Or.inl ⟨by rfl, ?_⟩) hHeld ?_ ?_; rotate_left
          ·rintro w' ⟨s0, s1, s2, s3, s4, s5, s6, s7, s8, s9, s10, s11⟩; go_simp; with_reducible rfl
          rotate_left
          ·simp only [zy]; rfl
          refine take_ (i := 32) (N := some 43) (v := ?_) (a' := ?_) (bz 38 8589934591) rfl rfl (take_ofW HT_.out HW_.out zz) zQ (Or.inl ⟨by rfl, ?_⟩) hHeld ?_ ?_; rotate_left
          ·rintro w' ⟨s0, s1, s2, s3, s4, s5, s6, s7, s8, s9, s10, s11⟩; go_simp; with_reducible rfl
          rotate_left
          ·simp only [zy]; rfl
          refine one_ (i := 33) (N := some 44) (bz 38 17179869183) rfl rfl (one_of HT_.out zz) (by decide) (fun K hK => ?_); refine goes_ Tryz.func24 zz rfl #[.agg #[.slice A427_0 ((rd_T48 l0 a1).f0).length c427_0, .int .i64 ((rd_T48 l0 a1).f1)]] (by rfl) rfl rfl zM ?_; with_reducible refine (leadtrailref08_Count.calls k1 _ _ ((rd_T48 l0 a1).f0) ((rd_T48 l0 a1).f1) t434 _ ?side1 ?side2 A10.out).mono ?_; (case side1 => exact zc (Kd.C_below HR433_0.out HB.out))
          (case side2 => exact HC433_0.out)
          rintro e w14 ⟨rfl, hb⟩; refine ⟨_, rfl, ?_⟩; have n0_ := zs HB hb; clear HB; have HB := n0_; clear n0_; (try clear hb); (try clear hb2); (try clear hk); (try clear hi); refine hK.out _ _ ⟨(zcl HB.out hw427_0), (zcl HB.out hw427_1), (zcl HB.out hw428_0), (zcl HB.out hw428_1), (zcl HB.out hw429_0), (zcl HB.out hw429_1), (zcl HB.out hw431_0), (zcl HB.out hw431_1), (zcl HB.out hw432_0), (zcl HB.out hw432_1), (zcl HB.out hw433_0), (zcl HB.out hw433_1)⟩ (fun hHeld => ?_); clear hK K; refine norm_ (a' := ?_) ?_ ?_; rotate_left
          ·show Act.put _ (some 44) _ = _; simp only [zy]; rfl
          refine zp 34 (some 45) (v := ?_) (a' := ?_) (bz 38 34359738367) rfl rfl HT_.out zz zQ ?_ ?_ ?_; rotate_left
          ·intro w'; go_simp; with_reducible rfl
          rotate_left
          ·simp only [zy]; rfl
          refine zp 35 (some 46) (v := ?_) (a' := ?_) (bz 38 68719476735) rfl rfl HT_.out zz zQ ?_ ?_ ?_; rotate_left
          ·intro w'; go_simp; with_reducible rfl
          rotate_left
          ·simp only [zy]; rfl
          refine zp 36 (some 47) (v := ?_) (a' := ?_) (bz 38 137438953471) rfl rfl HT_.out zz zQ ?_ ?_ ?_; rotate_left
          ·intro w'; go_simp; with_reducible rfl
          rotate_left
          ·simp only [zy]; rfl
          refine zp 37 (some 48) (v := ?_) (a' := ?_) (bz 38 274877906943) rfl rfl HT_.out zz zQ ?_ ?_ ?_; rotate_left
          ·intro w'; go_simp; with_reducible rfl
          rotate_left
          ·simp only [zy]; rfl
          refine done_ (done_of HT_.out zz) ?_; try go_wp2
          go_ret
          exact ⟨ze, zU HB.out⟩
         ·rw [if_neg c11] at H; have c11b0 : decide (((rd_T48 l0 x5_1).f1) ≤ (wrap64 ((wrap64 (((rd_T48 l0 a1).f1) + t434)) - 1))) = false := decide_eq_false c11; clear c11; have H' := zk H; clear H; try go_wp2
          have n0_ := zk (below_drew1 HB.out); clear HB; have HB := n0_; clear n0_; have p427 : 0 ≤ (a1 : Int) := zT; have q427 : a1 < (l0.length : Int) := zT; obtain ⟨ad427, A427_0, c427_0, e427, hx427_0, hx427_1, hl427_0, hi427_0⟩ := at_T48 HR0.out a1 p427 q427; have hw427_1 := hx427_1; have hw427_0 := hx427_0; cases e427; replace hx427_0 := zcl HB.out hx427_0; replace hx427_1 := zcl HB.out hx427_1; have HR427_0 := zk hi427_0; have HC427_0 := zk hl427_0; clear hi427_0 hl427_0; replace p427 := eq_true p427; replace q427 := eq_true q427; have p428 : 0 ≤ (x5_1 : Int) := zT; have q428 : x5_1 < (l0.length : Int) := zT; obtain ⟨ad428, A428_0, c428_0, e428, hx428_0, hx428_1, hl428_0, hi428_0⟩ := at_T48 HR0.out x5_1 p428 q428; have hw428_1 := hx428_1; have hw428_0 := hx428_0; obtain rfl : ad427 = ad428 := (by injection e428); replace hx428_0 := zcl HB.out hx428_0; replace hx428_1 := zcl HB.out hx428_1; have HR428_0 := zk hi428_0; have HC428_0 := zk hl428_0; clear hi428_0 hl428_0; replace p428 := eq_true p428; replace q428 := eq_true q428; have p429 : 0 ≤ (x5_1 : Int) := zT; have q429 : x5_1 < (l0.length : Int) := zT; obtain ⟨ad429, A429_0, c429_0, e429, hx429_0, hx429_1, hl429_0, hi429_0⟩ := at_T48 HR0.out x5_1 p429 q429; have hw429_1 := hx429_1; have hw429_0 := hx429_0; obtain rfl : ad427 = ad429 := (by injection e429); replace hx429_0 := zcl HB.out hx429_0; replace hx429_1 := zcl HB.out hx429_1; have HR429_0 := zk hi429_0; have HC429_0 := zk hl429_0; clear hi429_0 hl429_0; replace p429 := eq_true p429; replace q429 := eq_true q429; have ea_ := Option.some.inj (hx428_0.symm.trans hx429_0); injection ea_ with ea_ en_ ec_
          subst ea_; subst ec_; clear en_; have p431 : 0 ≤ (x5_1 : Int) := zT; have q431 : x5_1 < (l0.length : Int) := zT; obtain ⟨ad431, A431_0, c431_0, e431, hx431_0, hx431_1, hl431_0, hi431_0⟩ := at_T48 HR0.out x5_1 p431 q431; have hw431_1 := hx431_1; have hw431_0 := hx431_0; obtain rfl : ad427 = ad431 := (by injection e431); replace hx431_0 := zcl HB.out hx431_0; replace hx431_1 := zcl HB.out hx431_1; have HR431_0 := zk hi431_0; have HC431_0 := zk hl431_0; clear hi431_0 hl431_0; replace p431 := eq_true p431; replace q431 := eq_true q431; have ez_ := Option.some.inj (hw428_0.symm.trans hw431_0); injection ez_ with ez_ en_ ec_
          subst ez_; subst ec_; clear en_; have p432 : 0 ≤ (a1 : Int) := zT; have q432 : a1 < (l0.length : Int) := zT; obtain ⟨ad432, A432_0, c432_0, e432, hx432_0, hx432_1, hl432_0, hi432_0⟩ := at_T48 HR0.out a1 p432 q432; have hw432_1 := hx432_1; have hw432_0 := hx432_0; obtain rfl : ad427 = ad432 := (by injection e432); replace hx432_0 := zcl HB.out hx432_0; replace hx432_1 := zcl HB.out hx432_1; have HR432_0 := zk hi432_0; have HC432_0 := zk hl432_0; clear hi432_0 hl432_0; replace p432 := eq_true p432; replace q432 := eq_true q432; have ez_ := Option.some.inj (hw427_0.symm.trans hw432_0); injection ez_ with ez_ en_ ec_
          subst ez_; subst ec_; clear en_; have p433 : 0 ≤ (a1 : Int) := zT; have q433 : a1 < (l0.length : Int) := zT; obtain ⟨ad433, A433_0, c433_0, e433, hx433_0, hx433_1, hl433_0, hi433_0⟩ := at_T48 HR0.out a1 p433 q433; have hw433_1 := hx433_1; have hw433_0 := hx433_0; obtain rfl : ad427 = ad433 := (by injection e433); replace hx433_0 := zcl HB.out hx433_0; replace hx433_1 := zcl HB.out hx433_1; have HR433_0 := zk hi433_0; have HC433_0 := zk hl433_0; clear hi433_0 hl433_0; replace p433 := eq_true p433; replace q433 := eq_true q433; have ea_ := Option.some.inj (hx432_0.symm.trans hx433_0); injection ea_ with ea_ en_ ec_
          subst ea_; subst ec_; clear en_; refine start_ (n := 38) (S := fun w' => w'.cell? (ad427.add ((a1).toNat * 2)) = some (.slice A427_0 ((rd_T48 l0 a1).f0).length c427_0) ∧ w'.cell? ⟨(ad427.add ((a1).toNat * 2)).block, (ad427.add ((a1).toNat * 2)).off + 1, none⟩ = some (.int .i64 ((rd_T48 l0 a1).f1)) ∧ w'.cell? (ad427.add ((x5_1).toNat * 2)) = some (.slice A428_0 ((rd_T48 l0 x5_1).f0).length c428_0) ∧ w'.cell? ⟨(ad427.add ((x5_1).toNat * 2)).block, (ad427.add ((x5_1).toNat * 2)).off + 1, none⟩ = some (.int .i64 ((rd_T48 l0 x5_1).f1)) ∧ w'.cell? (ad427.add ((x5_1).toNat * 2)) = some (.slice A428_0 ((rd_T48 l0 x5_1).f0).length c428_0) ∧ w'.cell? ⟨(ad427.add ((x5_1).toNat * 2)).block, (ad427.add ((x5_1).toNat * 2)).off + 1, none⟩ = some (.int .i64 ((rd_T48 l0 x5_1).f1)) ∧ w'.cell? (ad427.add ((x5_1).toNat * 2)) = some (.slice A428_0 ((rd_T48 l0 x5_1).f0).length c428_0) ∧ w'.cell? ⟨(ad427.add ((x5_1).toNat * 2)).block, (ad427.add ((x5_1).toNat * 2)).off + 1, none⟩ = some (.int .i64 ((rd_T48 l0 x5_1).f1)) ∧ w'.cell? (ad427.add ((a1).toNat * 2)) = some (.slice A427_0 ((rd_T48 l0 a1).f0).length c427_0) ∧ w'.cell? ⟨(ad427.add ((a1).toNat * 2)).block, (ad427.add ((a1).toNat * 2)).off + 1, none⟩ = some (.int .i64 ((rd_T48 l0 a1).f1)) ∧ w'.cell? (ad427.add ((a1).toNat * 2)) = some (.slice A427_0 ((rd_T48 l0 a1).f0).length c427_0) ∧ w'.cell? ⟨(ad427.add ((a1).toNat * 2)).block, (ad427.add ((a1).toNat * 2)).off + 1, none⟩ = some (.int .i64 ((rd_T48 l0 a1).f1))) (ds := []) #[false, false, false, false, false, false, false, false, false, false, false, false, false, false, false, false, false, false, false, false, false, false, false, false, false, false, false, false, false, false, false, false, false, false, false, false, false, false] zz rfl rfl ⟨(zcl HB.out hw427_0), (zcl HB.out hw427_1), (zcl HB.out hw428_0), (zcl HB.out hw428_1), (zcl HB.out hw429_0), (zcl HB.out hw429_1), (zcl HB.out hw431_0), (zcl HB.out hw431_1), (zcl HB.out hw432_0), (zcl HB.out hw432_1), (zcl HB.out hw433_0), (zcl HB.out hw433_1)⟩ (fun hHeld => ?_); refine with_tabW leadtrailref08_meet.tab4 leadtrailref08_meet.bits4 (fun HT_ HW_ => ?_); generalize wr.drew = w15 at HB HR427_0 HR428_0 HR429_0 HR431_0 HR432_0 HR433_0 hx427_0 hx427_1 hx428_0 hx428_1 hx429_0 hx429_1 hx431_0 hx431_1 hx432_0 hx432_1 hx433_0 hx433_1 hHeld ⊢; refine zp 0 (some 11) (v := ?_) (a' := ?_) (bz 38 1) rfl rfl HT_.out zz zQ ?_ ?_ ?_; rotate_left
          ·intro w'; go_simp; with_reducible rfl
          rotate_left
          ·simp only [zy]; rfl
          refine zp 1 (some 12) (v := ?_) (a' := ?_) (bz 38 3) rfl rfl HT_.out zz zQ ?_ ?_ ?_; rotate_left
          ·intro w'; go_simp; with_reducible rfl
          rotate_left
          ·simp only [zy]; rfl
          refine zp 2 (some 13) (v := ?_) (a' := ?_) (bz 38 7) rfl rfl HT_.out zz zQ ?_ ?_ ?_; rotate_left
          ·intro w'; go_simp; with_reducible rfl
          rotate_left
          ·simp only [zy]; rfl
          refine zp 3 (some 14) (v := ?_) (a' := ?_) (bz 38 15) rfl rfl HT_.out zz zQ ?_ ?_ ?_; rotate_left
          ·intro w'; go_simp; with_reducible rfl
          rotate_left
          ·simp only [zy]; rfl
          refine zp 5 (some 16) (v := ?_) (a' := ?_) (bz 38 47) rfl rfl HT_.out zz zQ ?_ ?_ ?_; rotate_left
          ·intro w'; go_simp; with_reducible rfl
          rotate_left
          ·simp only [zy]; rfl
          refine zp 6 (some 17) (v := ?_) (a' := ?_) (bz 38 111) rfl rfl HT_.out zz zQ ?_ ?_ ?_; rotate_left
          ·intro w'; go_simp; with_reducible rfl
          rotate_left
          ·simp only [zy]; rfl
          refine zp 7 (some 18) (v := ?_) (a' := ?_) (bz 38 239) rfl rfl HT_.out zz zQ ?_ ?_ ?_; rotate_left
          ·intro w'; go_simp; with_reducible rfl
          rotate_left
          ·simp only [zy]; rfl
          refine zp 8 (some 19) (v := ?_) (a' := ?_) (bz 38 495) rfl rfl HT_.out zz zQ ?_ ?_ ?_; rotate_left
          ·intro w'; go_simp; with_reducible rfl
          rotate_left
          ·simp only [zy]; rfl
          refine zp 10 (some 21) (v := ?_) (a' := ?_) (bz 38 1519) rfl rfl HT_.out zz zQ ?_ ?_ ?_; rotate_left
          ·intro w'; go_simp; with_reducible rfl
          rotate_left
          ·simp only [zy]; rfl
          refine zp 11 (some 22) (v := ?_) (a' := ?_) (bz 38 3567) rfl rfl HT_.out zz zQ ?_ ?_ ?_; rotate_left
          ·intro w'; go_simp; with_reducible rfl
          rotate_left
          ·simp only [zy]; rfl
          refine zp 12 (some 23) (v := ?_) (a' := ?_) (bz 38 7663) rfl rfl HT_.out zz zQ ?_ ?_ ?_; rotate_left
          ·intro w'; go_simp; with_reducible rfl
          rotate_left
          ·simp only [zy]; rfl
          refine take_ (i := 4) (N := some 15) (v := ?_) (a' := ?_) (bz 38 7679) rfl rfl (take_ofW HT_.out HW_.out zz) zQ (Or.inl ⟨by rfl, ?_⟩) hHeld ?_ ?_; rotate_left
          ·rintro w' ⟨s0, s1, s2, s3, s4, s5, s6, s7, s8, s9, s10, s11⟩; go_simp; with_reducible rfl
          rotate_left
          ·simp only [zy]; rfl
          refine take_ (i := 9) (N := some 20) (v := ?_) (a' := ?_) (bz 38 8191) rfl rfl (take_ofW HT_.out HW_.out zz) zQ (Or.inl ⟨by rfl, ?_⟩) hHeld ?_ ?_; rotate_left
          ·rintro w' ⟨s0, s1, s2, s3, s4, s5, s6, s7, s8, s9, s10, s11⟩; go_simp; with_reducible rfl
          rotate_left
          ·simp only [zy]; rfl
          refine take_ (i := 13) (N := some 24) (v := ?_) (a' := ?_) (bz 38 16383) rfl rfl (take_ofW HT_.out HW_.out zz) zQ (Or.inl ⟨by rfl, ?_⟩) hHeld ?_ ?_; rotate_left
          ·rintro w' ⟨s0, s1, s2, s3, s4, s5, s6, s7, s8, s9, s10, s11⟩; go_simp; with_reducible rfl
          rotate_left
          ·simp only [zy]; rfl
          refine one_ (i := 14) (N := some 25) (bz 38 32767) rfl rfl (one_of HT_.out zz) (by decide) (fun K hK => ?_); refine goes_ Tryz.func24 zz rfl #[.agg #[.slice A428_0 ((rd_T48 l0 x5_1).f0).length c428_0, .int .i64 ((rd_T48 l0 x5_1).f1)]] (by rfl) rfl rfl zM ?_; with_reducible refine (leadtrailref08_Count.calls k1 _ _ ((rd_T48 l0 x5_1).f0) ((rd_T48 l0 x5_1).f1) t430 _ ?side1 ?side2 A8.out).mono ?_; (case side1 => exact zc (Kd.C_below HR429_0.out HB.out))
          (case side2 => exact HC429_0.out)
          rintro e w16 ⟨rfl, hb⟩; refine ⟨_, rfl, ?_⟩; have n0_ := zs HB hb; clear HB; have HB := n0_; clear n0_; (try clear hb); (try clear hb2); (try clear hk); (try clear hi); refine hK.out _ _ ⟨(zcl HB.out hw427_0), (zcl HB.out hw427_1), (zcl HB.out hw428_0), (zcl HB.out hw428_1), (zcl HB.out hw429_0), (zcl HB.out hw429_1), (zcl HB.out hw431_0), (zcl HB.out hw431_1), (zcl HB.out hw432_0), (zcl HB.out hw432_1), (zcl HB.out hw433_0), (zcl HB.out hw433_1)⟩ (fun hHeld => ?_); clear hK K; refine norm_ (a' := ?_) ?_ ?_; rotate_left
          ·show Act.put _ (some 25) _ = _; simp only [zy]; rfl
          refine zp 15 (some 26) (v := ?_) (a' := ?_) (bz 38 65535) rfl rfl HT_.out zz zQ ?_ ?_ ?_; rotate_left
          ·intro w'; go_simp; with_reducible rfl
          rotate_left
          ·simp only [zy]; rfl
          refine zp 16 (some 27) (v := ?_) (a' := ?_) (bz 38 131071) rfl rfl HT_.out zz zQ ?_ ?_ ?_; rotate_left
          ·intro w'; go_simp; with_reducible rfl
          rotate_left
          ·simp only [zy]; rfl
          refine zp 17 (some 28) (v := ?_) (a' := ?_) (bz 38 262143) rfl rfl HT_.out zz zQ ?_ ?_ ?_; rotate_left
          ·intro w'; go_simp; with_reducible rfl
          rotate_left
          ·simp only [zy]; rfl
          refine zp 18 (some 29) (v := ?_) (a' := ?_) (bz 38 524287) rfl rfl HT_.out zz zQ ?_ ?_ ?_; rotate_left
          ·intro w'; go_simp; with_reducible rfl
          rotate_left
          ·simp only [zy]; rfl
          refine zp 19 (some 30) (v := ?_) (a' := ?_) (bz 38 1048575) rfl rfl HT_.out zz zQ ?_ ?_ ?_; rotate_left
          ·intro w'; go_simp; with_reducible rfl
          rotate_left
          ·simp only [zy]; rfl
          refine zp 20 (some 31) (v := ?_) (a' := ?_) (bz 38 2097151) rfl rfl HT_.out zz zQ ?_ ?_ ?_; rotate_left
          ·intro w'; go_simp; with_reducible rfl
          rotate_left
          ·simp only [zy]; rfl
          refine zp 21 (some 32) (v := ?_) (a' := ?_) (bz 38 4194303) rfl rfl HT_.out zz zQ ?_ ?_ ?_; rotate_left
          ·intro w'; go_simp; with_reducible rfl
          rotate_left
          ·simp only [zy]; rfl
          refine zp 22 (some 33) (v := ?_) (a' := ?_) (bz 38 8388607) rfl rfl HT_.out zz zQ ?_ ?_ ?_; rotate_left
          ·intro w'; go_simp; with_reducible rfl
          rotate_left
          ·simp only [zy]; rfl
          refine zp 24 (some 35) (v := ?_) (a' := ?_) (bz 38 25165823) rfl rfl HT_.out zz zQ ?_ ?_ ?_; rotate_left
          ·intro w'; go_simp; with_reducible rfl
          rotate_left
          ·simp only [zy]; rfl
          refine zp 25 (some 36) (v := ?_) (a' := ?_) (bz 38 58720255) rfl rfl HT_.out zz zQ ?_ ?_ ?_; rotate_left
          ·intro w'; go_simp; with_reducible rfl
          rotate_left
          ·simp only [zy]; rfl
          refine zp 26 (some 37) (v := ?_) (a' := ?_) (bz 38 125829119) rfl rfl HT_.out zz zQ ?_ ?_ ?_; rotate_left
          ·intro w'; go_simp; with_reducible rfl
          rotate_left
          ·simp only [zy]; rfl
          refine zp 27 (some 38) (v := ?_) (a' := ?_) (bz 38 260046847) rfl rfl HT_.out zz zQ ?_ ?_ ?_; rotate_left
          ·intro w'; go_simp; with_reducible rfl
          rotate_left
          ·simp only [zy]; rfl
          refine zp 29 (some 40) (v := ?_) (a' := ?_) (bz 38 796917759) rfl rfl HT_.out zz zQ ?_ ?_ ?_; rotate_left
          ·intro w'; go_simp; with_reducible rfl
          rotate_left
          ·simp only [zy]; rfl
          refine zp 30 (some 41) (v := ?_) (a' := ?_) (bz 38 1870659583) rfl rfl HT_.out zz zQ ?_ ?_ ?_; rotate_left
          ·intro w'; go_simp; with_reducible rfl
          rotate_left
          ·simp only [zy]; rfl
          refine zp 31 (some 42) (v := ?_) (a' := ?_) (bz 38 4018143231) rfl rfl HT_.out zz zQ ?_ ?_ ?_; rotate_left
          ·intro w'; go_simp; with_reducible rfl
          rotate_left
          ·simp only [zy]; rfl
          refine take_ (i := 23) (N := some 34) (v := ?_) (a' := ?_) (bz 38 4026531839) rfl rfl (take_ofW HT_.out HW_.out zz) zQ (Or.inl ⟨by rfl, ?_⟩) hHeld ?_ ?_; rotate_left
          ·rintro w' ⟨s0, s1, s2, s3, s4, s5, s6, s7, s8, s9, s10, s11⟩; go_simp; with_reducible rfl
          rotate_left
          ·simp only [zy]; rfl
          refine take_ (i := 28) (N := some 39) (v := ?_) (a' := ?_) (bz 38 4294967295) rfl rfl (take_ofW HT_.out HW_.out zz) zQ (Or.inl ⟨by rfl, ?_⟩) hHeld ?_ ?_; rotate_left
          ·rintro w' ⟨s0, s1, s2, s3, s4, s5, s6, s7, s8, s9, s10, s11⟩; go_simp; with_reducible rfl
          rotate_left
          ·simp only [zy]; rfl
          refine take_ (i := 32) (N := some 43) (v := ?_) (a' := ?_) (bz 38 8589934591) rfl rfl (take_ofW HT_.out HW_.out zz) zQ (Or.inl ⟨by rfl, ?_⟩) hHeld ?_ ?_; rotate_left
          ·rintro w' ⟨s0, s1, s2, s3, s4, s5, s6, s7, s8, s9, s10, s11⟩; go_simp; with_reducible rfl
          rotate_left
          ·simp only [zy]; rfl
          refine one_ (i := 33) (N := some 44) (bz 38 17179869183) rfl rfl (one_of HT_.out zz) (by decide) (fun K hK => ?_); refine goes_ Tryz.func24 zz rfl #[.agg #[.slice A427_0 ((rd_T48 l0 a1).f0).length c427_0, .int .i64 ((rd_T48 l0 a1).f1)]] (by rfl) rfl rfl zM ?_; with_reducible refine (leadtrailref08_Count.calls k1 _ _ ((rd_T48 l0 a1).f0) ((rd_T48 l0 a1).f1) t434 _ ?side1 ?side2 A10.out).mono ?_; (case side1 => exact zc (Kd.C_below HR433_0.out HB.out))
          (case side2 => exact HC433_0.out)
          rintro e w17 ⟨rfl, hb⟩; refine ⟨_, rfl, ?_⟩; have n0_ := zs HB hb; clear HB; have HB := n0_; clear n0_; (try clear hb); (try clear hb2); (try clear hk); (try clear hi); refine hK.out _ _ ⟨(zcl HB.out hw427_0), (zcl HB.out hw427_1), (zcl HB.out hw428_0), (zcl HB.out hw428_1), (zcl HB.out hw429_0), (zcl HB.out hw429_1), (zcl HB.out hw431_0), (zcl HB.out hw431_1), (zcl HB.out hw432_0), (zcl HB.out hw432_1), (zcl HB.out hw433_0), (zcl HB.out hw433_1)⟩ (fun hHeld => ?_); clear hK K; refine norm_ (a' := ?_) ?_ ?_; rotate_left
          ·show Act.put _ (some 44) _ = _; simp only [zy]; rfl
          refine zp 34 (some 45) (v := ?_) (a' := ?_) (bz 38 34359738367) rfl rfl HT_.out zz zQ ?_ ?_ ?_; rotate_left
          ·intro w'; go_simp; with_reducible rfl
          rotate_left
          ·simp only [zy]; rfl
          refine zp 35 (some 46) (v := ?_) (a' := ?_) (bz 38 68719476735) rfl rfl HT_.out zz zQ ?_ ?_ ?_; rotate_left
          ·intro w'; go_simp; with_reducible rfl
          rotate_left
          ·simp only [zy]; rfl
          refine zp 36 (some 47) (v := ?_) (a' := ?_) (bz 38 137438953471) rfl rfl HT_.out zz zQ ?_ ?_ ?_; rotate_left
          ·intro w'; go_simp; with_reducible rfl
          rotate_left
          ·simp only [zy]; rfl
          refine zp 37 (some 48) (v := ?_) (a' := ?_) (bz 38 274877906943) rfl rfl HT_.out zz zQ ?_ ?_ ?_; rotate_left
          ·intro w'; go_simp; with_reducible rfl
          rotate_left
          ·simp only [zy]; rfl
          refine done_ (done_of HT_.out zz) ?_; try go_wp2
          go_roundg k1
          case measure => have := HK1.out; omega
          case rel => exact ⟨(wrap64 (x5_1 + 1)), zR, H', ⟨by have := HK1.out; omega⟩, ⟨zU HB.out⟩⟩
        ·rw [if_neg c9] at H; have c9b0 : decide (((rd_T48 l0 a1).f1) ≤ (wrap64 ((wrap64 (((rd_T48 l0 x5_1).f1) + t430)) - 1))) = false := decide_eq_false c9; clear c9; have H' := zk H; clear H; try go_wp2
         have n0_ := zk (below_drew1 HB.out); clear HB; have HB := n0_; clear n0_; have p427 : 0 ≤ (a1 : Int) := zT; have q427 : a1 < (l0.length : Int) := zT; obtain ⟨ad427, A427_0, c427_0, e427, hx427_0, hx427_1, hl427_0, hi427_0⟩ := at_T48 HR0.out a1 p427 q427; have hw427_1 := hx427_1; have hw427_0 := hx427_0; cases e427; replace hx427_0 := zcl HB.out hx427_0; replace hx427_1 := zcl HB.out hx427_1; have HR427_0 := zk hi427_0; have HC427_0 := zk hl427_0; clear hi427_0 hl427_0; replace p427 := eq_true p427; replace q427 := eq_true q427; have p428 : 0 ≤ (x5_1 : Int) := zT; have q428 : x5_1 < (l0.length : Int) := zT; obtain ⟨ad428, A428_0, c428_0, e428, hx428_0, hx428_1, hl428_0, hi428_0⟩ := at_T48 HR0.out x5_1 p428 q428; have hw428_1 := hx428_1; have hw428_0 := hx428_0; obtain rfl : ad427 = ad428 := (by injection e428); replace hx428_0 := zcl HB.out hx428_0; replace hx428_1 := zcl HB.out hx428_1; have HR428_0 := zk hi428_0; have HC428_0 := zk hl428_0; clear hi428_0 hl428_0; replace p428 := eq_true p428; replace q428 := eq_true q428; have p429 : 0 ≤ (x5_1 : Int) := zT; have q429 : x5_1 < (l0.length : Int) := zT; obtain ⟨ad429, A429_0, c429_0, e429, hx429_0, hx429_1, hl429_0, hi429_0⟩ := at_T48 HR0.out x5_1 p429 q429; have hw429_1 := hx429_1; have hw429_0 := hx429_0; obtain rfl : ad427 = ad429 := (by injection e429); replace hx429_0 := zcl HB.out hx429_0; replace hx429_1 := zcl HB.out hx429_1; have HR429_0 := zk hi429_0; have HC429_0 := zk hl429_0; clear hi429_0 hl429_0; replace p429 := eq_true p429; replace q429 := eq_true q429; have ea_ := Option.some.inj (hx428_0.symm.trans hx429_0); injection ea_ with ea_ en_ ec_
         subst ea_; subst ec_; clear en_; refine start_ (n := 38) (S := fun w' => w'.cell? (ad427.add ((a1).toNat * 2)) = some (.slice A427_0 ((rd_T48 l0 a1).f0).length c427_0) ∧ w'.cell? ⟨(ad427.add ((a1).toNat * 2)).block, (ad427.add ((a1).toNat * 2)).off + 1, none⟩ = some (.int .i64 ((rd_T48 l0 a1).f1)) ∧ w'.cell? (ad427.add ((x5_1).toNat * 2)) = some (.slice A428_0 ((rd_T48 l0 x5_1).f0).length c428_0) ∧ w'.cell? ⟨(ad427.add ((x5_1).toNat * 2)).block, (ad427.add ((x5_1).toNat * 2)).off + 1, none⟩ = some (.int .i64 ((rd_T48 l0 x5_1).f1)) ∧ w'.cell? (ad427.add ((x5_1).toNat * 2)) = some (.slice A428_0 ((rd_T48 l0 x5_1).f0).length c428_0) ∧ w'.cell? ⟨(ad427.add ((x5_1).toNat * 2)).block, (ad427.add ((x5_1).toNat * 2)).off + 1, none⟩ = some (.int .i64 ((rd_T48 l0 x5_1).f1))) (ds := []) #[false, false, false, false, false, false, false, false, false, false, false, false, false, false, false, false, false, false, false, false, false, false, false, false, false, false, false, false, false, false, false, false, false, false, false, false, false, false] zz rfl rfl ⟨(zcl HB.out hw427_0), (zcl HB.out hw427_1), (zcl HB.out hw428_0), (zcl HB.out hw428_1), (zcl HB.out hw429_0), (zcl HB.out hw429_1)⟩ (fun hHeld => ?_); refine with_tabW leadtrailref08_meet.tab4 leadtrailref08_meet.bits4 (fun HT_ HW_ => ?_); generalize wr.drew = w18 at HB HR427_0 HR428_0 HR429_0 hx427_0 hx427_1 hx428_0 hx428_1 hx429_0 hx429_1 hHeld ⊢; refine zp 0 (some 11) (v := ?_) (a' := ?_) (bz 38 1) rfl rfl HT_.out zz zQ ?_ ?_ ?_; rotate_left
         ·intro w'; go_simp; with_reducible rfl
         rotate_left
         ·simp only [zy]; rfl
         refine zp 1 (some 12) (v := ?_) (a' := ?_) (bz 38 3) rfl rfl HT_.out zz zQ ?_ ?_ ?_; rotate_left
         ·intro w'; go_simp; with_reducible rfl
         rotate_left
         ·simp only [zy]; rfl
         refine zp 2 (some 13) (v := ?_) (a' := ?_) (bz 38 7) rfl rfl HT_.out zz zQ ?_ ?_ ?_; rotate_left
         ·intro w'; go_simp; with_reducible rfl
         rotate_left
         ·simp only [zy]; rfl
         refine zp 3 (some 14) (v := ?_) (a' := ?_) (bz 38 15) rfl rfl HT_.out zz zQ ?_ ?_ ?_; rotate_left
         ·intro w'; go_simp; with_reducible rfl
         rotate_left
         ·simp only [zy]; rfl
         refine zp 5 (some 16) (v := ?_) (a' := ?_) (bz 38 47) rfl rfl HT_.out zz zQ ?_ ?_ ?_; rotate_left
         ·intro w'; go_simp; with_reducible rfl
         rotate_left
         ·simp only [zy]; rfl
         refine zp 6 (some 17) (v := ?_) (a' := ?_) (bz 38 111) rfl rfl HT_.out zz zQ ?_ ?_ ?_; rotate_left
         ·intro w'; go_simp; with_reducible rfl
         rotate_left
         ·simp only [zy]; rfl
         refine zp 7 (some 18) (v := ?_) (a' := ?_) (bz 38 239) rfl rfl HT_.out zz zQ ?_ ?_ ?_; rotate_left
         ·intro w'; go_simp; with_reducible rfl
         rotate_left
         ·simp only [zy]; rfl
         refine zp 8 (some 19) (v := ?_) (a' := ?_) (bz 38 495) rfl rfl HT_.out zz zQ ?_ ?_ ?_; rotate_left
         ·intro w'; go_simp; with_reducible rfl
         rotate_left
         ·simp only [zy]; rfl
         refine zp 10 (some 21) (v := ?_) (a' := ?_) (bz 38 1519) rfl rfl HT_.out zz zQ ?_ ?_ ?_; rotate_left
         ·intro w'; go_simp; with_reducible rfl
         rotate_left
         ·simp only [zy]; rfl
         refine zp 11 (some 22) (v := ?_) (a' := ?_) (bz 38 3567) rfl rfl HT_.out zz zQ ?_ ?_ ?_; rotate_left
         ·intro w'; go_simp; with_reducible rfl
         rotate_left
         ·simp only [zy]; rfl
         refine zp 12 (some 23) (v := ?_) (a' := ?_) (bz 38 7663) rfl rfl HT_.out zz zQ ?_ ?_ ?_; rotate_left
         ·intro w'; go_simp; with_reducible rfl
         rotate_left
         ·simp only [zy]; rfl
         refine take_ (i := 4) (N := some 15) (v := ?_) (a' := ?_) (bz 38 7679) rfl rfl (take_ofW HT_.out HW_.out zz) zQ (Or.inl ⟨by rfl, ?_⟩) hHeld ?_ ?_; rotate_left
         ·rintro w' ⟨s0, s1, s2, s3, s4, s5⟩; go_simp; with_reducible rfl
         rotate_left
         ·simp only [zy]; rfl
         refine take_ (i := 9) (N := some 20) (v := ?_) (a' := ?_) (bz 38 8191) rfl rfl (take_ofW HT_.out HW_.out zz) zQ (Or.inl ⟨by rfl, ?_⟩) hHeld ?_ ?_; rotate_left
         ·rintro w' ⟨s0, s1, s2, s3, s4, s5⟩; go_simp; with_reducible rfl
         rotate_left
         ·simp only [zy]; rfl
         refine take_ (i := 13) (N := some 24) (v := ?_) (a' := ?_) (bz 38 16383) rfl rfl (take_ofW HT_.out HW_.out zz) zQ (Or.inl ⟨by rfl, ?_⟩) hHeld ?_ ?_; rotate_left
         ·rintro w' ⟨s0, s1, s2, s3, s4, s5⟩; go_simp; with_reducible rfl
         rotate_left
         ·simp only [zy]; rfl
         refine one_ (i := 14) (N := some 25) (bz 38 32767) rfl rfl (one_of HT_.out zz) (by decide) (fun K hK => ?_); refine goes_ Tryz.func24 zz rfl #[.agg #[.slice A428_0 ((rd_T48 l0 x5_1).f0).length c428_0, .int .i64 ((rd_T48 l0 x5_1).f1)]] (by rfl) rfl rfl zM ?_; with_reducible refine (leadtrailref08_Count.calls k1 _ _ ((rd_T48 l0 x5_1).f0) ((rd_T48 l0 x5_1).f1) t430 _ ?side1 ?side2 A8.out).mono ?_; (case side1 => exact zc (Kd.C_below HR429_0.out HB.out))
         (case side2 => exact HC429_0.out)
         rintro e w19 ⟨rfl, hb⟩; refine ⟨_, rfl, ?_⟩; have n0_ := zs HB hb; clear HB; have HB := n0_; clear n0_; (try clear hb); (try clear hb2); (try clear hk); (try clear hi); refine hK.out _ _ ⟨(zcl HB.out hw427_0), (zcl HB.out hw427_1), (zcl HB.out hw428_0), (zcl HB.out hw428_1), (zcl HB.out hw429_0), (zcl HB.out hw429_1)⟩ (fun hHeld => ?_); clear hK K; refine norm_ (a' := ?_) ?_ ?_; rotate_left
         ·show Act.put _ (some 25) _ = _; simp only [zy]; rfl
         refine zp 15 (some 26) (v := ?_) (a' := ?_) (bz 38 65535) rfl rfl HT_.out zz zQ ?_ ?_ ?_; rotate_left
         ·intro w'; go_simp; with_reducible rfl
         rotate_left
         ·simp only [zy]; rfl
         refine zp 16 (some 27) (v := ?_) (a' := ?_) (bz 38 131071) rfl rfl HT_.out zz zQ ?_ ?_ ?_; rotate_left
         ·intro w'; go_simp; with_reducible rfl
         rotate_left
         ·simp only [zy]; rfl
         refine zp 17 (some 28) (v := ?_) (a' := ?_) (bz 38 262143) rfl rfl HT_.out zz zQ ?_ ?_ ?_; rotate_left
         ·intro w'; go_simp; with_reducible rfl
         rotate_left
         ·simp only [zy]; rfl
         refine zp 18 (some 29) (v := ?_) (a' := ?_) (bz 38 524287) rfl rfl HT_.out zz zQ ?_ ?_ ?_; rotate_left
         ·intro w'; go_simp; with_reducible rfl
         rotate_left
         ·simp only [zy]; rfl
         refine pure_ (i := 19) (N := some 30) (v := undef) (a' := ?_) (bz 38 1048575) rfl rfl (any_of HT_.out zz) zQ (Or.inr ⟨by rfl, rfl⟩) ?_ ?_; rotate_left
         ·simp only [zy]; rfl
         refine pure_ (i := 20) (N := some 31) (v := undef) (a' := ?_) (bz 38 2097151) rfl rfl (any_of HT_.out zz) zQ (Or.inr ⟨by rfl, rfl⟩) ?_ ?_; rotate_left
         ·simp only [zy]; rfl
         refine pure_ (i := 21) (N := some 32) (v := undef) (a' := ?_) (bz 38 4194303) rfl rfl (any_of HT_.out zz) zQ (Or.inr ⟨by rfl, rfl⟩) ?_ ?_; rotate_left
         ·simp only [zy]; rfl
         refine pure_ (i := 22) (N := some 33) (v := undef) (a' := ?_) (bz 38 8388607) rfl rfl (any_of HT_.out zz) zQ (Or.inr ⟨by rfl, rfl⟩) ?_ ?_; rotate_left
         ·simp only [zy]; rfl
         refine pure_ (i := 23) (N := some 34) (v := undef) (a' := ?_) (bz 38 16777215) rfl rfl (any_of HT_.out zz) zQ (Or.inr ⟨by rfl, rfl⟩) ?_ ?_; rotate_left
         ·simp only [zy]; rfl
         refine pure_ (i := 24) (N := some 35) (v := undef) (a' := ?_) (bz 38 33554431) rfl rfl (any_of HT_.out zz) zQ (Or.inr ⟨by rfl, rfl⟩) ?_ ?_; rotate_left
         ·simp only [zy]; rfl
         refine pure_ (i := 25) (N := some 36) (v := undef) (a' := ?_) (bz 38 67108863) rfl rfl (any_of HT_.out zz) zQ (Or.inr ⟨by rfl, rfl⟩) ?_ ?_; rotate_left
         ·simp only [zy]; rfl
         refine pure_ (i := 26) (N := some 37) (v := undef) (a' := ?_) (bz 38 134217727) rfl rfl (any_of HT_.out zz) zQ (Or.inr ⟨by rfl, rfl⟩) ?_ ?_; rotate_left
         ·simp only [zy]; rfl
         refine pure_ (i := 27) (N := some 38) (v := undef) (a' := ?_) (bz 38 268435455) rfl rfl (any_of HT_.out zz) zQ (Or.inr ⟨by rfl, rfl⟩) ?_ ?_; rotate_left
         ·simp only [zy]; rfl
         refine pure_ (i := 28) (N := some 39) (v := undef) (a' := ?_) (bz 38 536870911) rfl rfl (any_of HT_.out zz) zQ (Or.inr ⟨by rfl, rfl⟩) ?_ ?_; rotate_left
         ·simp only [zy]; rfl
         refine pure_ (i := 29) (N := some 40) (v := undef) (a' := ?_) (bz 38 1073741823) rfl rfl (any_of HT_.out zz) zQ (Or.inr ⟨by rfl, rfl⟩) ?_ ?_; rotate_left
         ·simp only [zy]; rfl
         refine pure_ (i := 30) (N := some 41) (v := undef) (a' := ?_) (bz 38 2147483647) rfl rfl (any_of HT_.out zz) zQ (Or.inr ⟨by rfl, rfl⟩) ?_ ?_; rotate_left
         ·simp only [zy]; rfl
         refine pure_ (i := 31) (N := some 42) (v := undef) (a' := ?_) (bz 38 4294967295) rfl rfl (any_of HT_.out zz) zQ (Or.inr ⟨by rfl, rfl⟩) ?_ ?_; rotate_left
         ·simp only [zy]; rfl
         refine pure_ (i := 32) (N := some 43) (v := undef) (a' := ?_) (bz 38 8589934591) rfl rfl (any_of HT_.out zz) zQ (Or.inr ⟨by rfl, rfl⟩) ?_ ?_; rotate_left
         ·simp only [zy]; rfl
         refine pure_ (i := 33) (N := some 44) (v := undef) (a' := ?_) (bz 38 17179869183) rfl rfl (any_of HT_.out zz) zQ (Or.inr ⟨by rfl, rfl⟩) ?_ ?_; rotate_left
         ·simp only [zy]; rfl
         refine pure_ (i := 34) (N := some 45) (v := undef) (a' := ?_) (bz 38 34359738367) rfl rfl (any_of HT_.out zz) zQ (Or.inr ⟨by rfl, rfl⟩) ?_ ?_; rotate_left
         ·simp only [zy]; rfl
         refine pure_ (i := 35) (N := some 46) (v := undef) (a' := ?_) (bz 38 68719476735) rfl rfl (any_of HT_.out zz) zQ (Or.inr ⟨by rfl, rfl⟩) ?_ ?_; rotate_left
         ·simp only [zy]; rfl
         refine pure_ (i := 36) (N := some 47) (v := undef) (a' := ?_) (bz 38 137438953471) rfl rfl (any_of HT_.out zz) zQ (Or.inr ⟨by rfl, rfl⟩) ?_ ?_; rotate_left
         ·simp only [zy]; rfl
         refine zp 37 (some 48) (v := ?_) (a' := ?_) (bz 38 274877906943) rfl rfl HT_.out zz zQ ?_ ?_ ?_; rotate_left
         ·intro w'; go_simp; with_reducible rfl
         rotate_left
         ·simp only [zy]; rfl
         refine done_ (done_of HT_.out zz) ?_; try go_wp2
         go_roundg k1
         case measure => have := HK1.out; omega
         case rel => exact ⟨(wrap64 (x5_1 + 1)), zR, H', ⟨by have := HK1.out; omega⟩, ⟨zU HB.out⟩⟩
       ·rw [if_neg c7] at H; cases H
      ·rw [if_neg c6] at H; cases H
     ·rw [if_neg c5] at H; cases H
    ·rw [if_neg c4] at H; cases H
   ·rw [if_neg c3] at H; have c3b0 : decide (x5_1 < a1) = false := decide_eq_false c3; clear c3; obtain rfl := Option.some.inj H; go_wp2
    go_ret
    exact ⟨ze, zU HB.out⟩
end Go.Proofs.YtobhclnenffkgaaGreat.B
