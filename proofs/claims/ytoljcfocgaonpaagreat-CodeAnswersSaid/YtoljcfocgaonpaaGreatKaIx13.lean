/- Words and walks of this claim, of the text Ix13. -/
import Derived.Test.YtoljcfocgaonpaaGreatKaQW0
import Derived.Test.YtoljcfocgaonpaaGreatKaIx0
import Derived.Test.YtoljcfocgaonpaaGreatKaIx12
namespace Go.Proofs.I
open Go.RowKit Go.Proofs.Zw.PrintWords Go.Proofs.Zw.PrintLast Go.Proofs.Zw.PrintMore
set_option maxHeartbeats 8000000
set_option maxRecDepth 100000
attribute [local go_sem] Dw Ec El Es Dd Dj Dr Eb
set_option linter.unusedVariables false
set_option linter.unusedSimpArgs false
def Au.l0 : Nat → List (S44) → Int → Int → Option (Bool)
 | 0, _, _, _ => none
 | k + 1, x0, x1, x5 => if x5 < x1 then (if 0 ≤ x1 then (if x1 < (x0.length : Int) then (if 0 ≤ x5 then (if x5 < (x0.length : Int) then ((Am.f k ((Ad x0 x5).f0) ((Ad x0 x5).f1)).bind fun t392 => (if ((Ad x0 x1).f1) ≤ (wrap64 ((wrap64 (((Ad x0 x5).f1) + t392)) - 1)) then ((Am.f k ((Ad x0 x1).f0) ((Ad x0 x1).f1)).bind fun t396 => (if ((Ad x0 x5).f1) ≤ (wrap64 ((wrap64 (((Ad x0 x1).f1) + t396)) - 1)) then (some true) else (Au.l0 k x0 x1 (wrap64 (x5 + 1))))) else (Au.l0 k x0 x1 (wrap64 (x5 + 1))))) else (none)) else (none)) else (none)) else (none)) else (some false)
def Au.f (k : Nat) (l0 : List (S44)) (a1 : Int) : Option (Bool) := Au.l0 k l0 a1 0
def Au.T4 : Bool × List (List Nat × List Nat) := (true, [([], []), ([], []), ([0, 1], [0, 1]), ([2], [2]), ([3], [3]), ([], []), ([], []), ([5, 6], [5, 6]), ([7], [7]), ([8], [8]), ([], []), ([], []), ([10, 11], [10, 11]), ([12], [12]), ([13], [13]), ([9, 14], [9, 14]), ([15], [15]), ([4, 16], [4, 16]), ([17, 14], [17]), ([18], [18]), ([18], [18]), ([19, 20, 18], [18, 19, 20]), ([21, 18], [18, 21]), ([22, 18], [18, 22]), ([18], [18]), ([18], [18]), ([24, 25, 18], [18, 24, 25]), ([26, 18], [18, 26]), ([27, 18], [18, 27]), ([18], [18]), ([18], [18]), ([29, 30, 18], [18, 29, 30]), ([31, 18], [18, 31]), ([32, 18, 18], [18, 32]), ([28, 33, 18], [18, 28, 33]), ([34, 18], [18, 34]), ([23, 35, 18], [18, 23, 35]), ([18, 36], [18, 36])])
def Au.B4 : List Nat := [0, 0, 3, 7, 15, 0, 0, 96, 224, 480, 0, 0, 3072, 7168, 15360, 32736, 65504, 131071, 262143, 524287, 524287, 2097151, 4194303, 8388607, 524287, 524287, 50855935, 117964799, 252182527, 524287, 524287, 1611137023, 3758620671, 8053587967, 17163616255, 34343485439, 68719476735, 137438953471]
theorem Au.tab4 : rtab .any (Jp Tryz.f31 4) = Au.T4 := by kernel_rfl
theorem Au.bits4 : Ff Au.T4.2 Au.B4 = true := by kernel_rfl
theorem Au.calls (k : Nat) (A0 : Option Addr) (c0 : Nat) (l0 : List (S44)) (a1 : Int) (r : Bool) (w : World) (hr0 : Kd.C k44 w A0 l0.length l0) (hc0 : l0.length ≤ c0) (h : Au.f k l0 a1 = some r) :
 Calls Tryz.prog 31 #[.slice A0 l0.length c0, .int .i64 a1] w fun e w' => e = .returned (.bool r) ∧ Below w.heap.size w w' := by
 have hu44 := Tryz.underlying44; have HR0 := zk hr0; have HC0 := zk hc0; clear hr0 hc0; have HB := zk (Below.refl w.heap.size w); have H : (Au.l0 k l0 a1 0) = some r := h; clear h; have H' := zk H; clear H; go_enter Tryz.func31, Tryz.ntmps31
 go_wp2
 go_loopg [5] k (fun kq v5 w' => ∃ (x5_1 : Int), v5 = .int .i64 x5_1 ∧ Aa (Au.l0 kq l0 a1 x5_1 = some r) ∧ Aa (kq ≤ k) ∧ Aa (Below w.heap.size w w'))
 case atStart => exact ⟨(0), zR, H', ⟨Nat.le_refl _⟩, ⟨zU HB.out⟩⟩
 case round =>
  clear H'; (try clear p2); obtain ⟨x5_1, rfl, HA, HK1, HB⟩ := hrel
  cases gk with
  | zero => exact absurd HA.out (by simp [Au.l0])
  | succ k1 =>
   have H := HA.out; clear HA; simp only [Au.l0] at H; by_cases c3 : x5_1 < a1
   ·rw [if_pos c3] at H; have c3b0 : decide (x5_1 < a1) = true := decide_eq_true c3; clear c3; by_cases c4 : 0 ≤ a1
    ·rw [if_pos c4] at H; have c4b0 : decide (0 ≤ a1) = true := decide_eq_true c4; clear c4; by_cases c5 : a1 < (l0.length : Int)
     ·rw [if_pos c5] at H; have c5b0 : decide (a1 < (l0.length : Int)) = true := decide_eq_true c5; clear c5; by_cases c6 : 0 ≤ x5_1
      ·rw [if_pos c6] at H; have c6b0 : decide (0 ≤ x5_1) = true := decide_eq_true c6; clear c6; by_cases c7 : x5_1 < (l0.length : Int)
       ·rw [if_pos c7] at H; have c7b0 : decide (x5_1 < (l0.length : Int)) = true := decide_eq_true c7; clear c7; replace H := Option.bind_eq_some_iff.mp H; obtain ⟨t392, A80, H⟩ := H; replace H : (if ((Ad l0 a1).f1) ≤ (wrap64 ((wrap64 (((Ad l0 x5_1).f1) + t392)) - 1)) then ((Am.f k1 ((Ad l0 a1).f0) ((Ad l0 a1).f1)).bind fun t396 => (if ((Ad l0 x5_1).f1) ≤ (wrap64 ((wrap64 (((Ad l0 a1).f1) + t396)) - 1)) then (some true) else (Au.l0 k1 l0 a1 (wrap64 (x5_1 + 1))))) else (Au.l0 k1 l0 a1 (wrap64 (x5_1 + 1)))) = some r := H; have A8 := zk A80; clear A80; by_cases c9 : ((Ad l0 a1).f1) ≤ (wrap64 ((wrap64 (((Ad l0 x5_1).f1) + t392)) - 1))
        ·rw [if_pos c9] at H; have c9b0 : decide (((Ad l0 a1).f1) ≤ (wrap64 ((wrap64 (((Ad l0 x5_1).f1) + t392)) - 1))) = true := decide_eq_true c9; clear c9; replace H := Option.bind_eq_some_iff.mp H; obtain ⟨t396, A100, H⟩ := H; replace H : (if ((Ad l0 x5_1).f1) ≤ (wrap64 ((wrap64 (((Ad l0 a1).f1) + t396)) - 1)) then (some true) else (Au.l0 k1 l0 a1 (wrap64 (x5_1 + 1)))) = some r := H; have A10 := zk A100; clear A100; by_cases c11 : ((Ad l0 x5_1).f1) ≤ (wrap64 ((wrap64 (((Ad l0 a1).f1) + t396)) - 1))
         ·rw [if_pos c11] at H; have c11b0 : decide (((Ad l0 x5_1).f1) ≤ (wrap64 ((wrap64 (((Ad l0 a1).f1) + t396)) - 1))) = true := decide_eq_true c11; clear c11; obtain rfl := Option.some.inj H; try go_wp2
          have n0_ := zk (Bv HB.out); clear HB; have HB := n0_; clear n0_; have p389 : 0 ≤ (a1 : Int) := zT; have q389 : a1 < (l0.length : Int) := zT; obtain ⟨ad389, A389_0, c389_0, e389, hx389_0, hx389_1, hl389_0, hi389_0⟩ := Cz HR0.out a1 p389 q389; have hw389_1 := hx389_1; have hw389_0 := hx389_0; cases e389; replace hx389_0 := zcl HB.out hx389_0; replace hx389_1 := zcl HB.out hx389_1; have HR389_0 := zk hi389_0; have HC389_0 := zk hl389_0; clear hi389_0 hl389_0; replace p389 := eq_true p389; replace q389 := eq_true q389; have p390 : 0 ≤ (x5_1 : Int) := zT; have q390 : x5_1 < (l0.length : Int) := zT; obtain ⟨ad390, A390_0, c390_0, e390, hx390_0, hx390_1, hl390_0, hi390_0⟩ := Cz HR0.out x5_1 p390 q390; have hw390_1 := hx390_1; have hw390_0 := hx390_0; obtain rfl : ad389 = ad390 := (by injection e390); replace hx390_0 := zcl HB.out hx390_0; replace hx390_1 := zcl HB.out hx390_1; have HR390_0 := zk hi390_0; have HC390_0 := zk hl390_0; clear hi390_0 hl390_0; replace p390 := eq_true p390; replace q390 := eq_true q390; have p391 : 0 ≤ (x5_1 : Int) := zT; have q391 : x5_1 < (l0.length : Int) := zT; obtain ⟨ad391, A391_0, c391_0, e391, hx391_0, hx391_1, hl391_0, hi391_0⟩ := Cz HR0.out x5_1 p391 q391; have hw391_1 := hx391_1; have hw391_0 := hx391_0; obtain rfl : ad389 = ad391 := (by injection e391); replace hx391_0 := zcl HB.out hx391_0; replace hx391_1 := zcl HB.out hx391_1; have HR391_0 := zk hi391_0; have HC391_0 := zk hl391_0; clear hi391_0 hl391_0; replace p391 := eq_true p391; replace q391 := eq_true q391; have ea_ := Option.some.inj (hx390_0.symm.trans hx391_0); injection ea_ with ea_ en_ ec_
          subst ea_; subst ec_; clear en_; have p393 : 0 ≤ (x5_1 : Int) := zT; have q393 : x5_1 < (l0.length : Int) := zT; obtain ⟨ad393, A393_0, c393_0, e393, hx393_0, hx393_1, hl393_0, hi393_0⟩ := Cz HR0.out x5_1 p393 q393; have hw393_1 := hx393_1; have hw393_0 := hx393_0; obtain rfl : ad389 = ad393 := (by injection e393); replace hx393_0 := zcl HB.out hx393_0; replace hx393_1 := zcl HB.out hx393_1; have HR393_0 := zk hi393_0; have HC393_0 := zk hl393_0; clear hi393_0 hl393_0; replace p393 := eq_true p393; replace q393 := eq_true q393; have ez_ := Option.some.inj (hw390_0.symm.trans hw393_0); injection ez_ with ez_ en_ ec_
          subst ez_; subst ec_; clear en_; have p394 : 0 ≤ (a1 : Int) := zT; have q394 : a1 < (l0.length : Int) := zT; obtain ⟨ad394, A394_0, c394_0, e394, hx394_0, hx394_1, hl394_0, hi394_0⟩ := Cz HR0.out a1 p394 q394; have hw394_1 := hx394_1; have hw394_0 := hx394_0; obtain rfl : ad389 = ad394 := (by injection e394); replace hx394_0 := zcl HB.out hx394_0; replace hx394_1 := zcl HB.out hx394_1; have HR394_0 := zk hi394_0; have HC394_0 := zk hl394_0; clear hi394_0 hl394_0; replace p394 := eq_true p394; replace q394 := eq_true q394; have ez_ := Option.some.inj (hw389_0.symm.trans hw394_0); injection ez_ with ez_ en_ ec_
          subst ez_; subst ec_; clear en_; have p395 : 0 ≤ (a1 : Int) := zT; have q395 : a1 < (l0.length : Int) := zT; obtain ⟨ad395, A395_0, c395_0, e395, hx395_0, hx395_1, hl395_0, hi395_0⟩ := Cz HR0.out a1 p395 q395; have hw395_1 := hx395_1; have hw395_0 := hx395_0; obtain rfl : ad389 = ad395 := (by injection e395); replace hx395_0 := zcl HB.out hx395_0; replace hx395_1 := zcl HB.out hx395_1; have HR395_0 := zk hi395_0; have HC395_0 := zk hl395_0; clear hi395_0 hl395_0; replace p395 := eq_true p395; replace q395 := eq_true q395; have ea_ := Option.some.inj (hx394_0.symm.trans hx395_0); injection ea_ with ea_ en_ ec_
          subst ea_; subst ec_; clear en_; refine Ew (n := 38) (S := fun w' => w'.cell? (ad389.add ((a1).toNat * 2)) = some (.slice A389_0 ((Ad l0 a1).f0).length c389_0) ∧ w'.cell? ⟨(ad389.add ((a1).toNat * 2)).block, (ad389.add ((a1).toNat * 2)).off + 1, none⟩ = some (.int .i64 ((Ad l0 a1).f1)) ∧ w'.cell? (ad389.add ((x5_1).toNat * 2)) = some (.slice A390_0 ((Ad l0 x5_1).f0).length c390_0) ∧ w'.cell? ⟨(ad389.add ((x5_1).toNat * 2)).block, (ad389.add ((x5_1).toNat * 2)).off + 1, none⟩ = some (.int .i64 ((Ad l0 x5_1).f1)) ∧ w'.cell? (ad389.add ((x5_1).toNat * 2)) = some (.slice A390_0 ((Ad l0 x5_1).f0).length c390_0) ∧ w'.cell? ⟨(ad389.add ((x5_1).toNat * 2)).block, (ad389.add ((x5_1).toNat * 2)).off + 1, none⟩ = some (.int .i64 ((Ad l0 x5_1).f1)) ∧ w'.cell? (ad389.add ((x5_1).toNat * 2)) = some (.slice A390_0 ((Ad l0 x5_1).f0).length c390_0) ∧ w'.cell? ⟨(ad389.add ((x5_1).toNat * 2)).block, (ad389.add ((x5_1).toNat * 2)).off + 1, none⟩ = some (.int .i64 ((Ad l0 x5_1).f1)) ∧ w'.cell? (ad389.add ((a1).toNat * 2)) = some (.slice A389_0 ((Ad l0 a1).f0).length c389_0) ∧ w'.cell? ⟨(ad389.add ((a1).toNat * 2)).block, (ad389.add ((a1).toNat * 2)).off + 1, none⟩ = some (.int .i64 ((Ad l0 a1).f1)) ∧ w'.cell? (ad389.add ((a1).toNat * 2)) = some (.slice A389_0 ((Ad l0 a1).f0).length c389_0) ∧ w'.cell? ⟨(ad389.add ((a1).toNat * 2)).block, (ad389.add ((a1).toNat * 2)).off + 1, none⟩ = some (.int .i64 ((Ad l0 a1).f1))) (ds := []) #[false, false, false, false, false, false, false, false, false, false, false, false, false, false, false, false, false, false, false, false, false, false, false, false, false, false, false, false, false, false, false, false, false, false, false, false, false, false] zz rfl rfl ⟨(zcl HB.out hw389_0), (zcl HB.out hw389_1), (zcl HB.out hw390_0), (zcl HB.out hw390_1), (zcl HB.out hw391_0), (zcl HB.out hw391_1), (zcl HB.out hw393_0), (zcl HB.out hw393_1), (zcl HB.out hw394_0), (zcl HB.out hw394_1), (zcl HB.out hw395_0), (zcl HB.out hw395_1)⟩ (fun hHeld => ?_); refine Cy Au.tab4 Au.bits4 (fun HT_ HW_ => ?_); generalize wr.drew = w12 at HB HR389_0 HR390_0 HR391_0 HR393_0 HR394_0 HR395_0 hx389_0 hx389_1 hx390_0 hx390_1 hx391_0 hx391_1 hx393_0 hx393_1 hx394_0 hx394_1 hx395_0 hx395_1 hHeld ⊢; refine zp 0 (some 11) (v := ?_) (a' := ?_) (bz 38 1) rfl rfl HT_.out zz zQ ?_ ?_ ?_; rotate_left
          ·intro w'; go_simp; with_reducible rfl
          rotate_left
          ·simp only [zy]; rfl
          refine zp 1 (some 12) (v := ?_) (a' := ?_) (bz 38 3) rfl rfl HT_.out zz zQ ?_ ?_ ?_; rotate_left
          ·intro w'; go_simp; with_reducible rfl
          rotate_left
          ·simp only [zy]; rfl
          refine zp 2 (some 13) (v := ?_) (a' := ?_) (bz 38 7) rfl rfl HT_.out zz zQ ?_ ?_ ?_; rotate_left
          ·intro w'; go_simp; with_reducible rfl
          rotate_left
          ·simp only [zy]; rfl
          refine zp 3 (some 14) (v := ?_) (a' := ?_) (bz 38 15) rfl rfl HT_.out zz zQ ?_ ?_ ?_; rotate_left
          ·intro w'; go_simp; with_reducible rfl
          rotate_left
          ·simp only [zy]; rfl
          refine zp 5 (some 16) (v := ?_) (a' := ?_) (bz 38 47) rfl rfl HT_.out zz zQ ?_ ?_ ?_; rotate_left
          ·intro w'; go_simp; with_reducible rfl
          rotate_left
          ·simp only [zy]; rfl
          refine zp 6 (some 17) (v := ?_) (a' := ?_) (bz 38 111) rfl rfl HT_.out zz zQ ?_ ?_ ?_; rotate_left
          ·intro w'; go_simp; with_reducible rfl
          rotate_left
          ·simp only [zy]; rfl
          refine zp 7 (some 18) (v := ?_) (a' := ?_) (bz 38 239) rfl rfl HT_.out zz zQ ?_ ?_ ?_; rotate_left
          ·intro w'; go_simp; with_reducible rfl
          rotate_left
          ·simp only [zy]; rfl
          refine zp 8 (some 19) (v := ?_) (a' := ?_) (bz 38 495) rfl rfl HT_.out zz zQ ?_ ?_ ?_; rotate_left
          ·intro w'; go_simp; with_reducible rfl
          rotate_left
          ·simp only [zy]; rfl
          refine zp 10 (some 21) (v := ?_) (a' := ?_) (bz 38 1519) rfl rfl HT_.out zz zQ ?_ ?_ ?_; rotate_left
          ·intro w'; go_simp; with_reducible rfl
          rotate_left
          ·simp only [zy]; rfl
          refine zp 11 (some 22) (v := ?_) (a' := ?_) (bz 38 3567) rfl rfl HT_.out zz zQ ?_ ?_ ?_; rotate_left
          ·intro w'; go_simp; with_reducible rfl
          rotate_left
          ·simp only [zy]; rfl
          refine zp 12 (some 23) (v := ?_) (a' := ?_) (bz 38 7663) rfl rfl HT_.out zz zQ ?_ ?_ ?_; rotate_left
          ·intro w'; go_simp; with_reducible rfl
          rotate_left
          ·simp only [zy]; rfl
          refine take_ (i := 4) (N := some 15) (v := ?_) (a' := ?_) (bz 38 7679) rfl rfl (Bk HT_.out HW_.out zz) zQ (Or.inl ⟨by rfl, ?_⟩) hHeld ?_ ?_; rotate_left
          ·rintro w' ⟨s0, s1, s2, s3, s4, s5, s6, s7, s8, s9, s10, s11⟩; go_simp; with_reducible rfl
          rotate_left
          ·simp only [zy]; rfl
          refine take_ (i := 9) (N := some 20) (v := ?_) (a' := ?_) (bz 38 8191) rfl rfl (Bk HT_.out HW_.out zz) zQ (Or.inl ⟨by rfl, ?_⟩) hHeld ?_ ?_; rotate_left
          ·rintro w' ⟨s0, s1, s2, s3, s4, s5, s6, s7, s8, s9, s10, s11⟩; go_simp; with_reducible rfl
          rotate_left
          ·simp only [zy]; rfl
          refine take_ (i := 13) (N := some 24) (v := ?_) (a' := ?_) (bz 38 16383) rfl rfl (Bk HT_.out HW_.out zz) zQ (Or.inl ⟨by rfl, ?_⟩) hHeld ?_ ?_; rotate_left
          ·rintro w' ⟨s0, s1, s2, s3, s4, s5, s6, s7, s8, s9, s10, s11⟩; go_simp; with_reducible rfl
          rotate_left
          ·simp only [zy]; rfl
          refine one_ (i := 14) (N := some 25) (bz 38 32767) rfl rfl (Eh HT_.out zz) (by decide) (fun K hK => ?_); refine Gy Tryz.func22 zz rfl #[.agg #[.slice A390_0 ((Ad l0 x5_1).f0).length c390_0, .int .i64 ((Ad l0 x5_1).f1)]] (by rfl) rfl rfl zM ?_; with_reducible refine (Am.calls k1 _ _ ((Ad l0 x5_1).f0) ((Ad l0 x5_1).f1) t392 _ ?side1 ?side2 A8.out).mono ?_; (case side1 => exact zc (Kd.C_below HR391_0.out HB.out))
          (case side2 => exact HC391_0.out)
          rintro e w13 ⟨rfl, hb⟩; refine ⟨_, rfl, ?_⟩; have n0_ := zs HB hb; clear HB; have HB := n0_; clear n0_; (try clear hb); (try clear hb2); (try clear hk); (try clear hi); refine hK.out _ _ ⟨(zcl HB.out hw389_0), (zcl HB.out hw389_1), (zcl HB.out hw390_0), (zcl HB.out hw390_1), (zcl HB.out hw391_0), (zcl HB.out hw391_1), (zcl HB.out hw393_0), (zcl HB.out hw393_1), (zcl HB.out hw394_0), (zcl HB.out hw394_1), (zcl HB.out hw395_0), (zcl HB.out hw395_1)⟩ (fun hHeld => ?_); clear hK K; refine Fi (a' := ?_) ?_ ?_; rotate_left
          ·show Act.put _ (some 25) _ = _; simp only [zy]; rfl
          refine zp 15 (some 26) (v := ?_) (a' := ?_) (bz 38 65535) rfl rfl HT_.out zz zQ ?_ ?_ ?_; rotate_left
          ·intro w'; go_simp; with_reducible rfl
          rotate_left
          ·simp only [zy]; rfl
          refine zp 16 (some 27) (v := ?_) (a' := ?_) (bz 38 131071) rfl rfl HT_.out zz zQ ?_ ?_ ?_; rotate_left
          ·intro w'; go_simp; with_reducible rfl
          rotate_left
          ·simp only [zy]; rfl
          refine zp 17 (some 28) (v := ?_) (a' := ?_) (bz 38 262143) rfl rfl HT_.out zz zQ ?_ ?_ ?_; rotate_left
          ·intro w'; go_simp; with_reducible rfl
          rotate_left
          ·simp only [zy]; rfl
          refine zp 18 (some 29) (v := ?_) (a' := ?_) (bz 38 524287) rfl rfl HT_.out zz zQ ?_ ?_ ?_; rotate_left
          ·intro w'; go_simp; with_reducible rfl
          rotate_left
          ·simp only [zy]; rfl
          refine zp 19 (some 30) (v := ?_) (a' := ?_) (bz 38 1048575) rfl rfl HT_.out zz zQ ?_ ?_ ?_; rotate_left
          ·intro w'; go_simp; with_reducible rfl
          rotate_left
          ·simp only [zy]; rfl
          refine zp 20 (some 31) (v := ?_) (a' := ?_) (bz 38 2097151) rfl rfl HT_.out zz zQ ?_ ?_ ?_; rotate_left
          ·intro w'; go_simp; with_reducible rfl
          rotate_left
          ·simp only [zy]; rfl
          refine zp 21 (some 32) (v := ?_) (a' := ?_) (bz 38 4194303) rfl rfl HT_.out zz zQ ?_ ?_ ?_; rotate_left
          ·intro w'; go_simp; with_reducible rfl
          rotate_left
          ·simp only [zy]; rfl
          refine zp 22 (some 33) (v := ?_) (a' := ?_) (bz 38 8388607) rfl rfl HT_.out zz zQ ?_ ?_ ?_; rotate_left
          ·intro w'; go_simp; with_reducible rfl
          rotate_left
          ·simp only [zy]; rfl
          refine zp 24 (some 35) (v := ?_) (a' := ?_) (bz 38 25165823) rfl rfl HT_.out zz zQ ?_ ?_ ?_; rotate_left
          ·intro w'; go_simp; with_reducible rfl
          rotate_left
          ·simp only [zy]; rfl
          refine zp 25 (some 36) (v := ?_) (a' := ?_) (bz 38 58720255) rfl rfl HT_.out zz zQ ?_ ?_ ?_; rotate_left
          ·intro w'; go_simp; with_reducible rfl
          rotate_left
          ·simp only [zy]; rfl
          refine zp 26 (some 37) (v := ?_) (a' := ?_) (bz 38 125829119) rfl rfl HT_.out zz zQ ?_ ?_ ?_; rotate_left
          ·intro w'; go_simp; with_reducible rfl
          rotate_left
          ·simp only [zy]; rfl
          refine zp 27 (some 38) (v := ?_) (a' := ?_) (bz 38 260046847) rfl rfl HT_.out zz zQ ?_ ?_ ?_; rotate_left
          ·intro w'; go_simp; with_reducible rfl
          rotate_left
          ·simp only [zy]; rfl
          refine zp 29 (some 40) (v := ?_) (a' := ?_) (bz 38 796917759) rfl rfl HT_.out zz zQ ?_ ?_ ?_; rotate_left
          ·intro w'; go_simp; with_reducible rfl
          rotate_left
          ·simp only [zy]; rfl
          refine zp 30 (some 41) (v := ?_) (a' := ?_) (bz 38 1870659583) rfl rfl HT_.out zz zQ ?_ ?_ ?_; rotate_left
          ·intro w'; go_simp; with_reducible rfl
          rotate_left
          ·simp only [zy]; rfl
          refine zp 31 (some 42) (v := ?_) (a' := ?_) (bz 38 4018143231) rfl rfl HT_.out zz zQ ?_ ?_ ?_; rotate_left
          ·intro w'; go_simp; with_reducible rfl
          rotate_left
          ·simp only [zy]; rfl
          refine take_ (i := 23) (N := some 34) (v := ?_) (a' := ?_) (bz 38 4026531839) rfl rfl (Bk HT_.out HW_.out zz) zQ (Or.inl ⟨by rfl, ?_⟩) hHeld ?_ ?_; rotate_left
          ·rintro w' ⟨s0, s1, s2, s3, s4, s5, s6, s7, s8, s9, s10, s11⟩; go_simp; with_reducible rfl
          rotate_left
          ·simp only [zy]; rfl
          refine take_ (i := 28) (N := some 39) (v := ?_) (a' := ?_) (bz 38 4294967295) rfl rfl (Bk HT_.out HW_.out zz) zQ (Or.inl ⟨by rfl, ?_⟩) hHeld ?_ ?_; rotate_left
          ·rintro w' ⟨s0, s1, s2, s3, s4, s5, s6, s7, s8, s9, s10, s11⟩; go_simp; with_reducible rfl
          rotate_left
          ·simp only [zy]; rfl
          refine take_ (i := 32) (N := some 43) (v := ?_) (a' := ?_) (bz 38 8589934591) rfl rfl (Bk HT_.out HW_.out zz) zQ (Or.inl ⟨by rfl, ?_⟩) hHeld ?_ ?_; rotate_left
          ·rintro w' ⟨s0, s1, s2, s3, s4, s5, s6, s7, s8, s9, s10, s11⟩; go_simp; with_reducible rfl
          rotate_left
          ·simp only [zy]; rfl
          refine one_ (i := 33) (N := some 44) (bz 38 17179869183) rfl rfl (Eh HT_.out zz) (by decide) (fun K hK => ?_); refine Gy Tryz.func22 zz rfl #[.agg #[.slice A389_0 ((Ad l0 a1).f0).length c389_0, .int .i64 ((Ad l0 a1).f1)]] (by rfl) rfl rfl zM ?_; with_reducible refine (Am.calls k1 _ _ ((Ad l0 a1).f0) ((Ad l0 a1).f1) t396 _ ?side1 ?side2 A10.out).mono ?_; (case side1 => exact zc (Kd.C_below HR395_0.out HB.out))
          (case side2 => exact HC395_0.out)
          rintro e w14 ⟨rfl, hb⟩; refine ⟨_, rfl, ?_⟩; have n0_ := zs HB hb; clear HB; have HB := n0_; clear n0_; (try clear hb); (try clear hb2); (try clear hk); (try clear hi); refine hK.out _ _ ⟨(zcl HB.out hw389_0), (zcl HB.out hw389_1), (zcl HB.out hw390_0), (zcl HB.out hw390_1), (zcl HB.out hw391_0), (zcl HB.out hw391_1), (zcl HB.out hw393_0), (zcl HB.out hw393_1), (zcl HB.out hw394_0), (zcl HB.out hw394_1), (zcl HB.out hw395_0), (zcl HB.out hw395_1)⟩ (fun hHeld => ?_); clear hK K; refine Fi (a' := ?_) ?_ ?_; rotate_left
          ·show Act.put _ (some 44) _ = _; simp only [zy]; rfl
          refine zp 34 (some 45) (v := ?_) (a' := ?_) (bz 38 34359738367) rfl rfl HT_.out zz zQ ?_ ?_ ?_; rotate_left
          ·intro w'; go_simp; with_reducible rfl
          rotate_left
          ·simp only [zy]; rfl
          refine zp 35 (some 46) (v := ?_) (a' := ?_) (bz 38 68719476735) rfl rfl HT_.out zz zQ ?_ ?_ ?_; rotate_left
          ·intro w'; go_simp; with_reducible rfl
          rotate_left
          ·simp only [zy]; rfl
          refine zp 36 (some 47) (v := ?_) (a' := ?_) (bz 38 137438953471) rfl rfl HT_.out zz zQ ?_ ?_ ?_; rotate_left
          ·intro w'; go_simp; with_reducible rfl
          rotate_left
          ·simp only [zy]; rfl
          refine zp 37 (some 48) (v := ?_) (a' := ?_) (bz 38 274877906943) rfl rfl HT_.out zz zQ ?_ ?_ ?_; rotate_left
          ·intro w'; go_simp; with_reducible rfl
          rotate_left
          ·simp only [zy]; rfl
          refine Gg (Ei HT_.out zz) ?_; try go_wp2
          go_ret
          exact ⟨ze, zU HB.out⟩
         ·rw [if_neg c11] at H; have c11b0 : decide (((Ad l0 x5_1).f1) ≤ (wrap64 ((wrap64 (((Ad l0 a1).f1) + t396)) - 1))) = false := decide_eq_false c11; clear c11; have H' := zk H; clear H; try go_wp2
          have n0_ := zk (Bv HB.out); clear HB; have HB := n0_; clear n0_; have p389 : 0 ≤ (a1 : Int) := zT; have q389 : a1 < (l0.length : Int) := zT; obtain ⟨ad389, A389_0, c389_0, e389, hx389_0, hx389_1, hl389_0, hi389_0⟩ := Cz HR0.out a1 p389 q389; have hw389_1 := hx389_1; have hw389_0 := hx389_0; cases e389; replace hx389_0 := zcl HB.out hx389_0; replace hx389_1 := zcl HB.out hx389_1; have HR389_0 := zk hi389_0; have HC389_0 := zk hl389_0; clear hi389_0 hl389_0; replace p389 := eq_true p389; replace q389 := eq_true q389; have p390 : 0 ≤ (x5_1 : Int) := zT; have q390 : x5_1 < (l0.length : Int) := zT; obtain ⟨ad390, A390_0, c390_0, e390, hx390_0, hx390_1, hl390_0, hi390_0⟩ := Cz HR0.out x5_1 p390 q390; have hw390_1 := hx390_1; have hw390_0 := hx390_0; obtain rfl : ad389 = ad390 := (by injection e390); replace hx390_0 := zcl HB.out hx390_0; replace hx390_1 := zcl HB.out hx390_1; have HR390_0 := zk hi390_0; have HC390_0 := zk hl390_0; clear hi390_0 hl390_0; replace p390 := eq_true p390; replace q390 := eq_true q390; have p391 : 0 ≤ (x5_1 : Int) := zT; have q391 : x5_1 < (l0.length : Int) := zT; obtain ⟨ad391, A391_0, c391_0, e391, hx391_0, hx391_1, hl391_0, hi391_0⟩ := Cz HR0.out x5_1 p391 q391; have hw391_1 := hx391_1; have hw391_0 := hx391_0; obtain rfl : ad389 = ad391 := (by injection e391); replace hx391_0 := zcl HB.out hx391_0; replace hx391_1 := zcl HB.out hx391_1; have HR391_0 := zk hi391_0; have HC391_0 := zk hl391_0; clear hi391_0 hl391_0; replace p391 := eq_true p391; replace q391 := eq_true q391; have ea_ := Option.some.inj (hx390_0.symm.trans hx391_0); injection ea_ with ea_ en_ ec_
          subst ea_; subst ec_; clear en_; have p393 : 0 ≤ (x5_1 : Int) := zT; have q393 : x5_1 < (l0.length : Int) := zT; obtain ⟨ad393, A393_0, c393_0, e393, hx393_0, hx393_1, hl393_0, hi393_0⟩ := Cz HR0.out x5_1 p393 q393; have hw393_1 := hx393_1; have hw393_0 := hx393_0; obtain rfl : ad389 = ad393 := (by injection e393); replace hx393_0 := zcl HB.out hx393_0; replace hx393_1 := zcl HB.out hx393_1; have HR393_0 := zk hi393_0; have HC393_0 := zk hl393_0; clear hi393_0 hl393_0; replace p393 := eq_true p393; replace q393 := eq_true q393; have ez_ := Option.some.inj (hw390_0.symm.trans hw393_0); injection ez_ with ez_ en_ ec_
          subst ez_; subst ec_; clear en_; have p394 : 0 ≤ (a1 : Int) := zT; have q394 : a1 < (l0.length : Int) := zT; obtain ⟨ad394, A394_0, c394_0, e394, hx394_0, hx394_1, hl394_0, hi394_0⟩ := Cz HR0.out a1 p394 q394; have hw394_1 := hx394_1; have hw394_0 := hx394_0; obtain rfl : ad389 = ad394 := (by injection e394); replace hx394_0 := zcl HB.out hx394_0; replace hx394_1 := zcl HB.out hx394_1; have HR394_0 := zk hi394_0; have HC394_0 := zk hl394_0; clear hi394_0 hl394_0; replace p394 := eq_true p394; replace q394 := eq_true q394; have ez_ := Option.some.inj (hw389_0.symm.trans hw394_0); injection ez_ with ez_ en_ ec_
          subst ez_; subst ec_; clear en_; have p395 : 0 ≤ (a1 : Int) := zT; have q395 : a1 < (l0.length : Int) := zT; obtain ⟨ad395, A395_0, c395_0, e395, hx395_0, hx395_1, hl395_0, hi395_0⟩ := Cz HR0.out a1 p395 q395; have hw395_1 := hx395_1; have hw395_0 := hx395_0; obtain rfl : ad389 = ad395 := (by injection e395); replace hx395_0 := zcl HB.out hx395_0; replace hx395_1 := zcl HB.out hx395_1; have HR395_0 := zk hi395_0; have HC395_0 := zk hl395_0; clear hi395_0 hl395_0; replace p395 := eq_true p395; replace q395 := eq_true q395; have ea_ := Option.some.inj (hx394_0.symm.trans hx395_0); injection ea_ with ea_ en_ ec_
          subst ea_; subst ec_; clear en_; refine Ew (n := 38) (S := fun w' => w'.cell? (ad389.add ((a1).toNat * 2)) = some (.slice A389_0 ((Ad l0 a1).f0).length c389_0) ∧ w'.cell? ⟨(ad389.add ((a1).toNat * 2)).block, (ad389.add ((a1).toNat * 2)).off + 1, none⟩ = some (.int .i64 ((Ad l0 a1).f1)) ∧ w'.cell? (ad389.add ((x5_1).toNat * 2)) = some (.slice A390_0 ((Ad l0 x5_1).f0).length c390_0) ∧ w'.cell? ⟨(ad389.add ((x5_1).toNat * 2)).block, (ad389.add ((x5_1).toNat * 2)).off + 1, none⟩ = some (.int .i64 ((Ad l0 x5_1).f1)) ∧ w'.cell? (ad389.add ((x5_1).toNat * 2)) = some (.slice A390_0 ((Ad l0 x5_1).f0).length c390_0) ∧ w'.cell? ⟨(ad389.add ((x5_1).toNat * 2)).block, (ad389.add ((x5_1).toNat * 2)).off + 1, none⟩ = some (.int .i64 ((Ad l0 x5_1).f1)) ∧ w'.cell? (ad389.add ((x5_1).toNat * 2)) = some (.slice A390_0 ((Ad l0 x5_1).f0).length c390_0) ∧ w'.cell? ⟨(ad389.add ((x5_1).toNat * 2)).block, (ad389.add ((x5_1).toNat * 2)).off + 1, none⟩ = some (.int .i64 ((Ad l0 x5_1).f1)) ∧ w'.cell? (ad389.add ((a1).toNat * 2)) = some (.slice A389_0 ((Ad l0 a1).f0).length c389_0) ∧ w'.cell? ⟨(ad389.add ((a1).toNat * 2)).block, (ad389.add ((a1).toNat * 2)).off + 1, none⟩ = some (.int .i64 ((Ad l0 a1).f1)) ∧ w'.cell? (ad389.add ((a1).toNat * 2)) = some (.slice A389_0 ((Ad l0 a1).f0).length c389_0) ∧ w'.cell? ⟨(ad389.add ((a1).toNat * 2)).block, (ad389.add ((a1).toNat * 2)).off + 1, none⟩ = some (.int .i64 ((Ad l0 a1).f1))) (ds := []) #[false, false, false, false, false, false, false, false, false, false, false, false, false, false, false, false, false, false, false, false, false, false, false, false, false, false, false, false, false, false, false, false, false, false, false, false, false, false] zz rfl rfl ⟨(zcl HB.out hw389_0), (zcl HB.out hw389_1), (zcl HB.out hw390_0), (zcl HB.out hw390_1), (zcl HB.out hw391_0), (zcl HB.out hw391_1), (zcl HB.out hw393_0), (zcl HB.out hw393_1), (zcl HB.out hw394_0), (zcl HB.out hw394_1), (zcl HB.out hw395_0), (zcl HB.out hw395_1)⟩ (fun hHeld => ?_); refine Cy Au.tab4 Au.bits4 (fun HT_ HW_ => ?_); generalize wr.drew = w15 at HB HR389_0 HR390_0 HR391_0 HR393_0 HR394_0 HR395_0 hx389_0 hx389_1 hx390_0 hx390_1 hx391_0 hx391_1 hx393_0 hx393_1 hx394_0 hx394_1 hx395_0 hx395_1 hHeld ⊢; refine zp 0 (some 11) (v := ?_) (a' := ?_) (bz 38 1) rfl rfl HT_.out zz zQ ?_ ?_ ?_; rotate_left
          ·intro w'; go_simp; with_reducible rfl
          rotate_left
          ·simp only [zy]; rfl
          refine zp 1 (some 12) (v := ?_) (a' := ?_) (bz 38 3) rfl rfl HT_.out zz zQ ?_ ?_ ?_; rotate_left
          ·intro w'; go_simp; with_reducible rfl
          rotate_left
          ·simp only [zy]; rfl
          refine zp 2 (some 13) (v := ?_) (a' := ?_) (bz 38 7) rfl rfl HT_.out zz zQ ?_ ?_ ?_; rotate_left
          ·intro w'; go_simp; with_reducible rfl
          rotate_left
          ·simp only [zy]; rfl
          refine zp 3 (some 14) (v := ?_) (a' := ?_) (bz 38 15) rfl rfl HT_.out zz zQ ?_ ?_ ?_; rotate_left
          ·intro w'; go_simp; with_reducible rfl
          rotate_left
          ·simp only [zy]; rfl
          refine zp 5 (some 16) (v := ?_) (a' := ?_) (bz 38 47) rfl rfl HT_.out zz zQ ?_ ?_ ?_; rotate_left
          ·intro w'; go_simp; with_reducible rfl
          rotate_left
          ·simp only [zy]; rfl
          refine zp 6 (some 17) (v := ?_) (a' := ?_) (bz 38 111) rfl rfl HT_.out zz zQ ?_ ?_ ?_; rotate_left
          ·intro w'; go_simp; with_reducible rfl
          rotate_left
          ·simp only [zy]; rfl
          refine zp 7 (some 18) (v := ?_) (a' := ?_) (bz 38 239) rfl rfl HT_.out zz zQ ?_ ?_ ?_; rotate_left
          ·intro w'; go_simp; with_reducible rfl
          rotate_left
          ·simp only [zy]; rfl
          refine zp 8 (some 19) (v := ?_) (a' := ?_) (bz 38 495) rfl rfl HT_.out zz zQ ?_ ?_ ?_; rotate_left
          ·intro w'; go_simp; with_reducible rfl
          rotate_left
          ·simp only [zy]; rfl
          refine zp 10 (some 21) (v := ?_) (a' := ?_) (bz 38 1519) rfl rfl HT_.out zz zQ ?_ ?_ ?_; rotate_left
          ·intro w'; go_simp; with_reducible rfl
          rotate_left
          ·simp only [zy]; rfl
          refine zp 11 (some 22) (v := ?_) (a' := ?_) (bz 38 3567) rfl rfl HT_.out zz zQ ?_ ?_ ?_; rotate_left
          ·intro w'; go_simp; with_reducible rfl
          rotate_left
          ·simp only [zy]; rfl
          refine zp 12 (some 23) (v := ?_) (a' := ?_) (bz 38 7663) rfl rfl HT_.out zz zQ ?_ ?_ ?_; rotate_left
          ·intro w'; go_simp; with_reducible rfl
          rotate_left
          ·simp only [zy]; rfl
          refine take_ (i := 4) (N := some 15) (v := ?_) (a' := ?_) (bz 38 7679) rfl rfl (Bk HT_.out HW_.out zz) zQ (Or.inl ⟨by rfl, ?_⟩) hHeld ?_ ?_; rotate_left
          ·rintro w' ⟨s0, s1, s2, s3, s4, s5, s6, s7, s8, s9, s10, s11⟩; go_simp; with_reducible rfl
          rotate_left
          ·simp only [zy]; rfl
          refine take_ (i := 9) (N := some 20) (v := ?_) (a' := ?_) (bz 38 8191) rfl rfl (Bk HT_.out HW_.out zz) zQ (Or.inl ⟨by rfl, ?_⟩) hHeld ?_ ?_; rotate_left
          ·rintro w' ⟨s0, s1, s2, s3, s4, s5, s6, s7, s8, s9, s10, s11⟩; go_simp; with_reducible rfl
          rotate_left
          ·simp only [zy]; rfl
          refine take_ (i := 13) (N := some 24) (v := ?_) (a' := ?_) (bz 38 16383) rfl rfl (Bk HT_.out HW_.out zz) zQ (Or.inl ⟨by rfl, ?_⟩) hHeld ?_ ?_; rotate_left
          ·rintro w' ⟨s0, s1, s2, s3, s4, s5, s6, s7, s8, s9, s10, s11⟩; go_simp; with_reducible rfl
          rotate_left
          ·simp only [zy]; rfl
          refine one_ (i := 14) (N := some 25) (bz 38 32767) rfl rfl (Eh HT_.out zz) (by decide) (fun K hK => ?_); refine Gy Tryz.func22 zz rfl #[.agg #[.slice A390_0 ((Ad l0 x5_1).f0).length c390_0, .int .i64 ((Ad l0 x5_1).f1)]] (by rfl) rfl rfl zM ?_; with_reducible refine (Am.calls k1 _ _ ((Ad l0 x5_1).f0) ((Ad l0 x5_1).f1) t392 _ ?side1 ?side2 A8.out).mono ?_; (case side1 => exact zc (Kd.C_below HR391_0.out HB.out))
          (case side2 => exact HC391_0.out)
          rintro e w16 ⟨rfl, hb⟩; refine ⟨_, rfl, ?_⟩; have n0_ := zs HB hb; clear HB; have HB := n0_; clear n0_; (try clear hb); (try clear hb2); (try clear hk); (try clear hi); refine hK.out _ _ ⟨(zcl HB.out hw389_0), (zcl HB.out hw389_1), (zcl HB.out hw390_0), (zcl HB.out hw390_1), (zcl HB.out hw391_0), (zcl HB.out hw391_1), (zcl HB.out hw393_0), (zcl HB.out hw393_1), (zcl HB.out hw394_0), (zcl HB.out hw394_1), (zcl HB.out hw395_0), (zcl HB.out hw395_1)⟩ (fun hHeld => ?_); clear hK K; refine Fi (a' := ?_) ?_ ?_; rotate_left
          ·show Act.put _ (some 25) _ = _; simp only [zy]; rfl
          refine zp 15 (some 26) (v := ?_) (a' := ?_) (bz 38 65535) rfl rfl HT_.out zz zQ ?_ ?_ ?_; rotate_left
          ·intro w'; go_simp; with_reducible rfl
          rotate_left
          ·simp only [zy]; rfl
          refine zp 16 (some 27) (v := ?_) (a' := ?_) (bz 38 131071) rfl rfl HT_.out zz zQ ?_ ?_ ?_; rotate_left
          ·intro w'; go_simp; with_reducible rfl
          rotate_left
          ·simp only [zy]; rfl
          refine zp 17 (some 28) (v := ?_) (a' := ?_) (bz 38 262143) rfl rfl HT_.out zz zQ ?_ ?_ ?_; rotate_left
          ·intro w'; go_simp; with_reducible rfl
          rotate_left
          ·simp only [zy]; rfl
          refine zp 18 (some 29) (v := ?_) (a' := ?_) (bz 38 524287) rfl rfl HT_.out zz zQ ?_ ?_ ?_; rotate_left
          ·intro w'; go_simp; with_reducible rfl
          rotate_left
          ·simp only [zy]; rfl
          refine zp 19 (some 30) (v := ?_) (a' := ?_) (bz 38 1048575) rfl rfl HT_.out zz zQ ?_ ?_ ?_; rotate_left
          ·intro w'; go_simp; with_reducible rfl
          rotate_left
          ·simp only [zy]; rfl
          refine zp 20 (some 31) (v := ?_) (a' := ?_) (bz 38 2097151) rfl rfl HT_.out zz zQ ?_ ?_ ?_; rotate_left
          ·intro w'; go_simp; with_reducible rfl
          rotate_left
          ·simp only [zy]; rfl
          refine zp 21 (some 32) (v := ?_) (a' := ?_) (bz 38 4194303) rfl rfl HT_.out zz zQ ?_ ?_ ?_; rotate_left
          ·intro w'; go_simp; with_reducible rfl
          rotate_left
          ·simp only [zy]; rfl
          refine zp 22 (some 33) (v := ?_) (a' := ?_) (bz 38 8388607) rfl rfl HT_.out zz zQ ?_ ?_ ?_; rotate_left
          ·intro w'; go_simp; with_reducible rfl
          rotate_left
          ·simp only [zy]; rfl
          refine zp 24 (some 35) (v := ?_) (a' := ?_) (bz 38 25165823) rfl rfl HT_.out zz zQ ?_ ?_ ?_; rotate_left
          ·intro w'; go_simp; with_reducible rfl
          rotate_left
          ·simp only [zy]; rfl
          refine zp 25 (some 36) (v := ?_) (a' := ?_) (bz 38 58720255) rfl rfl HT_.out zz zQ ?_ ?_ ?_; rotate_left
          ·intro w'; go_simp; with_reducible rfl
          rotate_left
          ·simp only [zy]; rfl
          refine zp 26 (some 37) (v := ?_) (a' := ?_) (bz 38 125829119) rfl rfl HT_.out zz zQ ?_ ?_ ?_; rotate_left
          ·intro w'; go_simp; with_reducible rfl
          rotate_left
          ·simp only [zy]; rfl
          refine zp 27 (some 38) (v := ?_) (a' := ?_) (bz 38 260046847) rfl rfl HT_.out zz zQ ?_ ?_ ?_; rotate_left
          ·intro w'; go_simp; with_reducible rfl
          rotate_left
          ·simp only [zy]; rfl
          refine zp 29 (some 40) (v := ?_) (a' := ?_) (bz 38 796917759) rfl rfl HT_.out zz zQ ?_ ?_ ?_; rotate_left
          ·intro w'; go_simp; with_reducible rfl
          rotate_left
          ·simp only [zy]; rfl
          refine zp 30 (some 41) (v := ?_) (a' := ?_) (bz 38 1870659583) rfl rfl HT_.out zz zQ ?_ ?_ ?_; rotate_left
          ·intro w'; go_simp; with_reducible rfl
          rotate_left
          ·simp only [zy]; rfl
          refine zp 31 (some 42) (v := ?_) (a' := ?_) (bz 38 4018143231) rfl rfl HT_.out zz zQ ?_ ?_ ?_; rotate_left
          ·intro w'; go_simp; with_reducible rfl
          rotate_left
          ·simp only [zy]; rfl
          refine take_ (i := 23) (N := some 34) (v := ?_) (a' := ?_) (bz 38 4026531839) rfl rfl (Bk HT_.out HW_.out zz) zQ (Or.inl ⟨by rfl, ?_⟩) hHeld ?_ ?_; rotate_left
          ·rintro w' ⟨s0, s1, s2, s3, s4, s5, s6, s7, s8, s9, s10, s11⟩; go_simp; with_reducible rfl
          rotate_left
          ·simp only [zy]; rfl
          refine take_ (i := 28) (N := some 39) (v := ?_) (a' := ?_) (bz 38 4294967295) rfl rfl (Bk HT_.out HW_.out zz) zQ (Or.inl ⟨by rfl, ?_⟩) hHeld ?_ ?_; rotate_left
          ·rintro w' ⟨s0, s1, s2, s3, s4, s5, s6, s7, s8, s9, s10, s11⟩; go_simp; with_reducible rfl
          rotate_left
          ·simp only [zy]; rfl
          refine take_ (i := 32) (N := some 43) (v := ?_) (a' := ?_) (bz 38 8589934591) rfl rfl (Bk HT_.out HW_.out zz) zQ (Or.inl ⟨by rfl, ?_⟩) hHeld ?_ ?_; rotate_left
          ·rintro w' ⟨s0, s1, s2, s3, s4, s5, s6, s7, s8, s9, s10, s11⟩; go_simp; with_reducible rfl
          rotate_left
          ·simp only [zy]; rfl
          refine one_ (i := 33) (N := some 44) (bz 38 17179869183) rfl rfl (Eh HT_.out zz) (by decide) (fun K hK => ?_); refine Gy Tryz.func22 zz rfl #[.agg #[.slice A389_0 ((Ad l0 a1).f0).length c389_0, .int .i64 ((Ad l0 a1).f1)]] (by rfl) rfl rfl zM ?_; with_reducible refine (Am.calls k1 _ _ ((Ad l0 a1).f0) ((Ad l0 a1).f1) t396 _ ?side1 ?side2 A10.out).mono ?_; (case side1 => exact zc (Kd.C_below HR395_0.out HB.out))
          (case side2 => exact HC395_0.out)
          rintro e w17 ⟨rfl, hb⟩; refine ⟨_, rfl, ?_⟩; have n0_ := zs HB hb; clear HB; have HB := n0_; clear n0_; (try clear hb); (try clear hb2); (try clear hk); (try clear hi); refine hK.out _ _ ⟨(zcl HB.out hw389_0), (zcl HB.out hw389_1), (zcl HB.out hw390_0), (zcl HB.out hw390_1), (zcl HB.out hw391_0), (zcl HB.out hw391_1), (zcl HB.out hw393_0), (zcl HB.out hw393_1), (zcl HB.out hw394_0), (zcl HB.out hw394_1), (zcl HB.out hw395_0), (zcl HB.out hw395_1)⟩ (fun hHeld => ?_); clear hK K; refine Fi (a' := ?_) ?_ ?_; rotate_left
          ·show Act.put _ (some 44) _ = _; simp only [zy]; rfl
          refine zp 34 (some 45) (v := ?_) (a' := ?_) (bz 38 34359738367) rfl rfl HT_.out zz zQ ?_ ?_ ?_; rotate_left
          ·intro w'; go_simp; with_reducible rfl
          rotate_left
          ·simp only [zy]; rfl
          refine zp 35 (some 46) (v := ?_) (a' := ?_) (bz 38 68719476735) rfl rfl HT_.out zz zQ ?_ ?_ ?_; rotate_left
          ·intro w'; go_simp; with_reducible rfl
          rotate_left
          ·simp only [zy]; rfl
          refine zp 36 (some 47) (v := ?_) (a' := ?_) (bz 38 137438953471) rfl rfl HT_.out zz zQ ?_ ?_ ?_; rotate_left
          ·intro w'; go_simp; with_reducible rfl
          rotate_left
          ·simp only [zy]; rfl
          refine zp 37 (some 48) (v := ?_) (a' := ?_) (bz 38 274877906943) rfl rfl HT_.out zz zQ ?_ ?_ ?_; rotate_left
          ·intro w'; go_simp; with_reducible rfl
          rotate_left
          ·simp only [zy]; rfl
          refine Gg (Ei HT_.out zz) ?_; try go_wp2
          go_roundg k1
          case measure => have := HK1.out; omega
          case rel => exact ⟨(wrap64 (x5_1 + 1)), zR, H', ⟨by have := HK1.out; omega⟩, ⟨zU HB.out⟩⟩
        ·rw [if_neg c9] at H; have c9b0 : decide (((Ad l0 a1).f1) ≤ (wrap64 ((wrap64 (((Ad l0 x5_1).f1) + t392)) - 1))) = false := decide_eq_false c9; clear c9; have H' := zk H; clear H; try go_wp2
         have n0_ := zk (Bv HB.out); clear HB; have HB := n0_; clear n0_; have p389 : 0 ≤ (a1 : Int) := zT; have q389 : a1 < (l0.length : Int) := zT; obtain ⟨ad389, A389_0, c389_0, e389, hx389_0, hx389_1, hl389_0, hi389_0⟩ := Cz HR0.out a1 p389 q389; have hw389_1 := hx389_1; have hw389_0 := hx389_0; cases e389; replace hx389_0 := zcl HB.out hx389_0; replace hx389_1 := zcl HB.out hx389_1; have HR389_0 := zk hi389_0; have HC389_0 := zk hl389_0; clear hi389_0 hl389_0; replace p389 := eq_true p389; replace q389 := eq_true q389; have p390 : 0 ≤ (x5_1 : Int) := zT; have q390 : x5_1 < (l0.length : Int) := zT; obtain ⟨ad390, A390_0, c390_0, e390, hx390_0, hx390_1, hl390_0, hi390_0⟩ := Cz HR0.out x5_1 p390 q390; have hw390_1 := hx390_1; have hw390_0 := hx390_0; obtain rfl : ad389 = ad390 := (by injection e390); replace hx390_0 := zcl HB.out hx390_0; replace hx390_1 := zcl HB.out hx390_1; have HR390_0 := zk hi390_0; have HC390_0 := zk hl390_0; clear hi390_0 hl390_0; replace p390 := eq_true p390; replace q390 := eq_true q390; have p391 : 0 ≤ (x5_1 : Int) := zT; have q391 : x5_1 < (l0.length : Int) := zT; obtain ⟨ad391, A391_0, c391_0, e391, hx391_0, hx391_1, hl391_0, hi391_0⟩ := Cz HR0.out x5_1 p391 q391; have hw391_1 := hx391_1; have hw391_0 := hx391_0; obtain rfl : ad389 = ad391 := (by injection e391); replace hx391_0 := zcl HB.out hx391_0; replace hx391_1 := zcl HB.out hx391_1; have HR391_0 := zk hi391_0; have HC391_0 := zk hl391_0; clear hi391_0 hl391_0; replace p391 := eq_true p391; replace q391 := eq_true q391; have ea_ := Option.some.inj (hx390_0.symm.trans hx391_0); injection ea_ with ea_ en_ ec_
         subst ea_; subst ec_; clear en_; refine Ew (n := 38) (S := fun w' => w'.cell? (ad389.add ((a1).toNat * 2)) = some (.slice A389_0 ((Ad l0 a1).f0).length c389_0) ∧ w'.cell? ⟨(ad389.add ((a1).toNat * 2)).block, (ad389.add ((a1).toNat * 2)).off + 1, none⟩ = some (.int .i64 ((Ad l0 a1).f1)) ∧ w'.cell? (ad389.add ((x5_1).toNat * 2)) = some (.slice A390_0 ((Ad l0 x5_1).f0).length c390_0) ∧ w'.cell? ⟨(ad389.add ((x5_1).toNat * 2)).block, (ad389.add ((x5_1).toNat * 2)).off + 1, none⟩ = some (.int .i64 ((Ad l0 x5_1).f1)) ∧ w'.cell? (ad389.add ((x5_1).toNat * 2)) = some (.slice A390_0 ((Ad l0 x5_1).f0).length c390_0) ∧ w'.cell? ⟨(ad389.add ((x5_1).toNat * 2)).block, (ad389.add ((x5_1).toNat * 2)).off + 1, none⟩ = some (.int .i64 ((Ad l0 x5_1).f1))) (ds := []) #[false, false, false, false, false, false, false, false, false, false, false, false, false, false, false, false, false, false, false, false, false, false, false, false, false, false, false, false, false, false, false, false, false, false, false, false, false, false] zz rfl rfl ⟨(zcl HB.out hw389_0), (zcl HB.out hw389_1), (zcl HB.out hw390_0), (zcl HB.out hw390_1), (zcl HB.out hw391_0), (zcl HB.out hw391_1)⟩ (fun hHeld => ?_); refine Cy Au.tab4 Au.bits4 (fun HT_ HW_ => ?_); generalize wr.drew = w18 at HB HR389_0 HR390_0 HR391_0 hx389_0 hx389_1 hx390_0 hx390_1 hx391_0 hx391_1 hHeld ⊢; refine zp 0 (some 11) (v := ?_) (a' := ?_) (bz 38 1) rfl rfl HT_.out zz zQ ?_ ?_ ?_; rotate_left
         ·intro w'; go_simp; with_reducible rfl
         rotate_left
         ·simp only [zy]; rfl
         refine zp 1 (some 12) (v := ?_) (a' := ?_) (bz 38 3) rfl rfl HT_.out zz zQ ?_ ?_ ?_; rotate_left
         ·intro w'; go_simp; with_reducible rfl
         rotate_left
         ·simp only [zy]; rfl
         refine zp 2 (some 13) (v := ?_) (a' := ?_) (bz 38 7) rfl rfl HT_.out zz zQ ?_ ?_ ?_; rotate_left
         ·intro w'; go_simp; with_reducible rfl
         rotate_left
         ·simp only [zy]; rfl
         refine zp 3 (some 14) (v := ?_) (a' := ?_) (bz 38 15) rfl rfl HT_.out zz zQ ?_ ?_ ?_; rotate_left
         ·intro w'; go_simp; with_reducible rfl
         rotate_left
         ·simp only [zy]; rfl
         refine zp 5 (some 16) (v := ?_) (a' := ?_) (bz 38 47) rfl rfl HT_.out zz zQ ?_ ?_ ?_; rotate_left
         ·intro w'; go_simp; with_reducible rfl
         rotate_left
         ·simp only [zy]; rfl
         refine zp 6 (some 17) (v := ?_) (a' := ?_) (bz 38 111) rfl rfl HT_.out zz zQ ?_ ?_ ?_; rotate_left
         ·intro w'; go_simp; with_reducible rfl
         rotate_left
         ·simp only [zy]; rfl
         refine zp 7 (some 18) (v := ?_) (a' := ?_) (bz 38 239) rfl rfl HT_.out zz zQ ?_ ?_ ?_; rotate_left
         ·intro w'; go_simp; with_reducible rfl
         rotate_left
         ·simp only [zy]; rfl
         refine zp 8 (some 19) (v := ?_) (a' := ?_) (bz 38 495) rfl rfl HT_.out zz zQ ?_ ?_ ?_; rotate_left
         ·intro w'; go_simp; with_reducible rfl
         rotate_left
         ·simp only [zy]; rfl
         refine zp 10 (some 21) (v := ?_) (a' := ?_) (bz 38 1519) rfl rfl HT_.out zz zQ ?_ ?_ ?_; rotate_left
         ·intro w'; go_simp; with_reducible rfl
         rotate_left
         ·simp only [zy]; rfl
         refine zp 11 (some 22) (v := ?_) (a' := ?_) (bz 38 3567) rfl rfl HT_.out zz zQ ?_ ?_ ?_; rotate_left
         ·intro w'; go_simp; with_reducible rfl
         rotate_left
         ·simp only [zy]; rfl
         refine zp 12 (some 23) (v := ?_) (a' := ?_) (bz 38 7663) rfl rfl HT_.out zz zQ ?_ ?_ ?_; rotate_left
         ·intro w'; go_simp; with_reducible rfl
         rotate_left
         ·simp only [zy]; rfl
         refine take_ (i := 4) (N := some 15) (v := ?_) (a' := ?_) (bz 38 7679) rfl rfl (Bk HT_.out HW_.out zz) zQ (Or.inl ⟨by rfl, ?_⟩) hHeld ?_ ?_; rotate_left
         ·rintro w' ⟨s0, s1, s2, s3, s4, s5⟩; go_simp; with_reducible rfl
         rotate_left
         ·simp only [zy]; rfl
         refine take_ (i := 9) (N := some 20) (v := ?_) (a' := ?_) (bz 38 8191) rfl rfl (Bk HT_.out HW_.out zz) zQ (Or.inl ⟨by rfl, ?_⟩) hHeld ?_ ?_; rotate_left
         ·rintro w' ⟨s0, s1, s2, s3, s4, s5⟩; go_simp; with_reducible rfl
         rotate_left
         ·simp only [zy]; rfl
         refine take_ (i := 13) (N := some 24) (v := ?_) (a' := ?_) (bz 38 16383) rfl rfl (Bk HT_.out HW_.out zz) zQ (Or.inl ⟨by rfl, ?_⟩) hHeld ?_ ?_; rotate_left
         ·rintro w' ⟨s0, s1, s2, s3, s4, s5⟩; go_simp; with_reducible rfl
         rotate_left
         ·simp only [zy]; rfl
         refine one_ (i := 14) (N := some 25) (bz 38 32767) rfl rfl (Eh HT_.out zz) (by decide) (fun K hK => ?_); refine Gy Tryz.func22 zz rfl #[.agg #[.slice A390_0 ((Ad l0 x5_1).f0).length c390_0, .int .i64 ((Ad l0 x5_1).f1)]] (by rfl) rfl rfl zM ?_; with_reducible refine (Am.calls k1 _ _ ((Ad l0 x5_1).f0) ((Ad l0 x5_1).f1) t392 _ ?side1 ?side2 A8.out).mono ?_; (case side1 => exact zc (Kd.C_below HR391_0.out HB.out))
         (case side2 => exact HC391_0.out)
         rintro e w19 ⟨rfl, hb⟩; refine ⟨_, rfl, ?_⟩; have n0_ := zs HB hb; clear HB; have HB := n0_; clear n0_; (try clear hb); (try clear hb2); (try clear hk); (try clear hi); refine hK.out _ _ ⟨(zcl HB.out hw389_0), (zcl HB.out hw389_1), (zcl HB.out hw390_0), (zcl HB.out hw390_1), (zcl HB.out hw391_0), (zcl HB.out hw391_1)⟩ (fun hHeld => ?_); clear hK K; refine Fi (a' := ?_) ?_ ?_; rotate_left
         ·show Act.put _ (some 25) _ = _; simp only [zy]; rfl
         refine zp 15 (some 26) (v := ?_) (a' := ?_) (bz 38 65535) rfl rfl HT_.out zz zQ ?_ ?_ ?_; rotate_left
         ·intro w'; go_simp; with_reducible rfl
         rotate_left
         ·simp only [zy]; rfl
         refine zp 16 (some 27) (v := ?_) (a' := ?_) (bz 38 131071) rfl rfl HT_.out zz zQ ?_ ?_ ?_; rotate_left
         ·intro w'; go_simp; with_reducible rfl
         rotate_left
         ·simp only [zy]; rfl
         refine zp 17 (some 28) (v := ?_) (a' := ?_) (bz 38 262143) rfl rfl HT_.out zz zQ ?_ ?_ ?_; rotate_left
         ·intro w'; go_simp; with_reducible rfl
         rotate_left
         ·simp only [zy]; rfl
         refine zp 18 (some 29) (v := ?_) (a' := ?_) (bz 38 524287) rfl rfl HT_.out zz zQ ?_ ?_ ?_; rotate_left
         ·intro w'; go_simp; with_reducible rfl
         rotate_left
         ·simp only [zy]; rfl
         refine Dv (i := 19) (N := some 30) (v := undef) (a' := ?_) (bz 38 1048575) rfl rfl (Da HT_.out zz) zQ (Or.inr ⟨by rfl, rfl⟩) ?_ ?_; rotate_left
         ·simp only [zy]; rfl
         refine Dv (i := 20) (N := some 31) (v := undef) (a' := ?_) (bz 38 2097151) rfl rfl (Da HT_.out zz) zQ (Or.inr ⟨by rfl, rfl⟩) ?_ ?_; rotate_left
         ·simp only [zy]; rfl
         refine Dv (i := 21) (N := some 32) (v := undef) (a' := ?_) (bz 38 4194303) rfl rfl (Da HT_.out zz) zQ (Or.inr ⟨by rfl, rfl⟩) ?_ ?_; rotate_left
         ·simp only [zy]; rfl
         refine Dv (i := 22) (N := some 33) (v := undef) (a' := ?_) (bz 38 8388607) rfl rfl (Da HT_.out zz) zQ (Or.inr ⟨by rfl, rfl⟩) ?_ ?_; rotate_left
         ·simp only [zy]; rfl
         refine Dv (i := 23) (N := some 34) (v := undef) (a' := ?_) (bz 38 16777215) rfl rfl (Da HT_.out zz) zQ (Or.inr ⟨by rfl, rfl⟩) ?_ ?_; rotate_left
         ·simp only [zy]; rfl
         refine Dv (i := 24) (N := some 35) (v := undef) (a' := ?_) (bz 38 33554431) rfl rfl (Da HT_.out zz) zQ (Or.inr ⟨by rfl, rfl⟩) ?_ ?_; rotate_left
         ·simp only [zy]; rfl
         refine Dv (i := 25) (N := some 36) (v := undef) (a' := ?_) (bz 38 67108863) rfl rfl (Da HT_.out zz) zQ (Or.inr ⟨by rfl, rfl⟩) ?_ ?_; rotate_left
         ·simp only [zy]; rfl
         refine Dv (i := 26) (N := some 37) (v := undef) (a' := ?_) (bz 38 134217727) rfl rfl (Da HT_.out zz) zQ (Or.inr ⟨by rfl, rfl⟩) ?_ ?_; rotate_left
         ·simp only [zy]; rfl
         refine Dv (i := 27) (N := some 38) (v := undef) (a' := ?_) (bz 38 268435455) rfl rfl (Da HT_.out zz) zQ (Or.inr ⟨by rfl, rfl⟩) ?_ ?_; rotate_left
         ·simp only [zy]; rfl
         refine Dv (i := 28) (N := some 39) (v := undef) (a' := ?_) (bz 38 536870911) rfl rfl (Da HT_.out zz) zQ (Or.inr ⟨by rfl, rfl⟩) ?_ ?_; rotate_left
         ·simp only [zy]; rfl
         refine Dv (i := 29) (N := some 40) (v := undef) (a' := ?_) (bz 38 1073741823) rfl rfl (Da HT_.out zz) zQ (Or.inr ⟨by rfl, rfl⟩) ?_ ?_; rotate_left
         ·simp only [zy]; rfl
         refine Dv (i := 30) (N := some 41) (v := undef) (a' := ?_) (bz 38 2147483647) rfl rfl (Da HT_.out zz) zQ (Or.inr ⟨by rfl, rfl⟩) ?_ ?_; rotate_left
         ·simp only [zy]; rfl
         refine Dv (i := 31) (N := some 42) (v := undef) (a' := ?_) (bz 38 4294967295) rfl rfl (Da HT_.out zz) zQ (Or.inr ⟨by rfl, rfl⟩) ?_ ?_; rotate_left
         ·simp only [zy]; rfl
         refine Dv (i := 32) (N := some 43) (v := undef) (a' := ?_) (bz 38 8589934591) rfl rfl (Da HT_.out zz) zQ (Or.inr ⟨by rfl, rfl⟩) ?_ ?_; rotate_left
         ·simp only [zy]; rfl
         refine Dv (i := 33) (N := some 44) (v := undef) (a' := ?_) (bz 38 17179869183) rfl rfl (Da HT_.out zz) zQ (Or.inr ⟨by rfl, rfl⟩) ?_ ?_; rotate_left
         ·simp only [zy]; rfl
         refine Dv (i := 34) (N := some 45) (v := undef) (a' := ?_) (bz 38 34359738367) rfl rfl (Da HT_.out zz) zQ (Or.inr ⟨by rfl, rfl⟩) ?_ ?_; rotate_left
         ·simp only [zy]; rfl
         refine Dv (i := 35) (N := some 46) (v := undef) (a' := ?_) (bz 38 68719476735) rfl rfl (Da HT_.out zz) zQ (Or.inr ⟨by rfl, rfl⟩) ?_ ?_; rotate_left
         ·simp only [zy]; rfl
         refine Dv (i := 36) (N := some 47) (v := undef) (a' := ?_) (bz 38 137438953471) rfl rfl (Da HT_.out zz) zQ (Or.inr ⟨by rfl, rfl⟩) ?_ ?_; rotate_left
         ·simp only [zy]; rfl
         refine zp 37 (some 48) (v := ?_) (a' := ?_) (bz 38 274877906943) rfl rfl HT_.out zz zQ ?_ ?_ ?_; rotate_left
         ·intro w'; go_simp; with_reducible rfl
         rotate_left
         ·simp only [zy]; rfl
         refine Gg (Ei HT_.out zz) ?_; try go_wp2
         go_roundg k1
         case measure => have := HK1.out; omega
         case rel => exact ⟨(wrap64 (x5_1 + 1)), zR, H', ⟨by have := HK1.out; omega⟩, ⟨zU HB.out⟩⟩
       ·rw [if_neg c7] at H; cases H
      ·rw [if_neg c6] at H; cases H
     ·rw [if_neg c5] at H; cases H
    ·rw [if_neg c4] at H; cases H
   ·rw [if_neg c3] at H; have c3b0 : decide (x5_1 < a1) = false := decide_eq_false c3; clear c3; obtain rfl := Option.some.inj H; go_wp2
    go_ret
    exact ⟨ze, zU HB.out⟩
end Go.Proofs.I
