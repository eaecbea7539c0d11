/- Words and walks of this claim, of the text Bx35. -/
import Derived.Test.YtkcklnmbeinfkaaKhQW0
import Derived.Test.YtkcklnmbeinfkaaKhBx0
import Derived.Test.YtkcklnmbeinfkaaKhBx21
import Derived.Test.YtkcklnmbeinfkaaKhBx25
namespace Go.Proofs.Ytkcklnmbeinfkaa.B
open Go.RowKit Go.Proofs.YtkcklnmbeinfkaaW.PrintWords Go.Proofs.YtkcklnmbeinfkaaW.PrintLast Go.Proofs.YtkcklnmbeinfkaaW.PrintMore
attribute [local go_sem] max2_int min2_int max_two min_two max_three min_three max_four min_four
set_option linter.unusedVariables false
set_option linter.unusedSimpArgs false
mutual
def leadtrailref11_Inject.l0 : Nat → Int → List (S50) → Option (Bool × Int)
 | 0, _, _ => none
 | k + 1, x4, x871000 => if x4 < (x871000.length : Int) then (leadtrailref11_Inject.l1 k x4 0 x871000) else (some (true, 0))
def leadtrailref11_Inject.l1 : Nat → Int → Int → List (S50) → Option (Bool × Int)
 | 0, _, _, _ => none
 | k + 1, x4, x5, x871000 => if x5 < x4 then (if 0 ≤ x4 then (if x4 < (x871000.length : Int) then (if 0 ≤ x5 then (if x5 < (x871000.length : Int) then (if (((rd_T50 x871000 x4).f0).length : Int) = (((rd_T50 x871000 x5).f0).length : Int) then ((leadtrailref09_Common.f k ((rd_T50 x871000 x4).f0) ((rd_T50 x871000 x4).f1) ((rd_T50 x871000 x5).f0) ((rd_T50 x871000 x5).f1) (((rd_T50 x871000 x4).f0).length : Int)).bind fun bt876 => (if bt876.2 = true then (some (false, 0)) else (leadtrailref11_Inject.l1 k x4 (wrap64 (x5 + 1)) x871000))) else (leadtrailref11_Inject.l1 k x4 (wrap64 (x5 + 1)) x871000)) else (none)) else (none)) else (none)) else (none)) else (leadtrailref11_Inject.l0 k (wrap64 (x4 + 1)) x871000)
end
def leadtrailref11_Inject.f (k : Nat) (l0_0 : List (S50)) : Option (Bool × Int) := (leadtrailref08_Valid.f k l0_0).bind fun t871 => (if t871 = true then (leadtrailref11_Inject.l0 k 0 l0_0) else (some (false, 84)))
def leadtrailref11_Inject.T11 : Bool × List (List Nat × List Nat) := (true, [([], []), ([0], [0]), ([], []), ([1, 2], [1, 2]), ([3], [3]), ([], []), ([5], [5]), ([], []), ([6, 7], [6, 7]), ([8], [8]), ([], []), ([4, 9, 10], [4, 9, 10]), ([11], [11]), ([12], [12]), ([12], [12]), ([13, 11, 0, 1, 2, 3, 4, 5, 6, 7, 8, 9, 10, 11, 12, 13], [13]), ([14, 15, 0, 1, 2, 3, 4, 5, 6, 7, 8, 9, 10, 11, 12, 13, 14, 15], [14])])
def leadtrailref11_Inject.B11 : List Nat := [0, 1, 0, 7, 15, 0, 32, 0, 224, 480, 0, 2047, 4095, 8191, 8191, 16383, 65535]
theorem leadtrailref11_Inject.tab11 : rtab .any (opsOf Try.f61 11) = leadtrailref11_Inject.T11 := by kernel_rfl
theorem leadtrailref11_Inject.bits11 : waitsOk leadtrailref11_Inject.T11.2 leadtrailref11_Inject.B11 = true := by kernel_rfl
set_option maxHeartbeats 8000000 in
set_option maxRecDepth 100000 in
theorem leadtrailref11_Inject.calls (k : Nat) (A0_0 : Option Addr) (c0_0 : Nat) (l0_0 : List (S50)) (r1 : Bool) (r2 : Int) (w : World) (hr0_0 : Kd.C k50 w A0_0 l0_0.length l0_0) (hc0_0 : l0_0.length ≤ c0_0) (h : leadtrailref11_Inject.f k l0_0 = some (r1, r2)) :
 Calls Try.prog 61 #[.agg #[.slice A0_0 l0_0.length c0_0]] w fun e w' => e = .returned (.tuple #[.bool r1, .int .i64 r2]) ∧ Below w.heap.size w w' := by
 have hu24 := Try.underlying24; have hu50 := Try.underlying50; have HR0_0 := zk hr0_0; have HC0_0 := zk hc0_0; clear hr0_0 hc0_0; have HB := zk (Below.refl w.heap.size w); have H : ((leadtrailref08_Valid.f k l0_0).bind fun t871 => (if t871 = true then (leadtrailref11_Inject.l0 k 0 l0_0) else (some (false, 84)))) = some (r1, r2) := h; clear h; replace H := Option.bind_eq_some_iff.mp H; obtain ⟨t871, A20, H⟩ := H; replace H : (if t871 = true then (leadtrailref11_Inject.l0 k 0 l0_0) else (some (false, 84))) = some (r1, r2) := H; have A2 := zk A20; clear A20; by_cases c3 : t871 = true
 ·subst c3; have H1 : (leadtrailref11_Inject.l0 k 0 l0_0) = some (r1, r2) := by rw [if_pos rfl] at H; exact H
  clear H; have H := H1; clear H1; have H' := zk H; clear H; go_enter Try.func61, Try.ntmps61
  go_wp2_with (first | ((with_reducible refine gate_dst (N := 1) rfl ?_); refine box_event ?hg (N := 1) ?hd (cs := #[.slice A0_0 l0_0.length c0_0]) (t := 24) ?hr ?_; (case hd => rfl); (case hg => rfl); (case hr => first | (go_simp; done) | (go_simp; rfl)); intro gb870 hg w4 hbox hb; have BK870 := zk (hbox); have GE870 := zk ((zg hg HB.out : w.heap.size ≤ gb870)); replace HB := zk (below_step (zU HB.out) hb);  clear hb hbox hg; have hcz5_0 : w4.cell? ⟨gb870, 0, none⟩ = some (.slice A0_0 l0_0.length c0_0) := zh BK870.out 0; have hfz5_0 := blk_frozen BK870.out 0) | ((with_reducible refine gate_callee (f := 79) rfl ?_); refine goesL_ (some 10) rfl rfl Try.func79 zz rfl #[.agg #[.slice A0_0 l0_0.length c0_0]] rfl zM ?_; (with_reducible refine (leadtrailref08_Valid.calls k _ _ l0_0 true _ ?side1 ?side2 A2.out).mono ?_); (case side1 => exact zc (Kd.C_below HR0_0.out HB.out)); (case side2 => exact HC0_0.out); rintro e w6 ⟨rfl, hb⟩; refine ⟨_, rfl, ?_⟩; replace BK870 := zk (zbb BK870.out hb); replace HB := zk (below_step (zU HB.out) hb);  (try clear hb); (try clear hb2); (try clear hk); (try clear hi)))
  go_loopg [4] k (fun kq v4 w' => ∃ (x4_1 : Int), v4 = .int .i64 x4_1 ∧ Aside0 (leadtrailref11_Inject.l0 kq x4_1 l0_0 = some (r1, r2)) ∧ Aside0 (kq ≤ k) ∧ Aside0 (w'.heap[gb870]? = some (.cells #[(.slice A0_0 l0_0.length c0_0)] 24 (0, 0))) ∧ Aside0 (Below w.heap.size w w'))
  case atStart => exact ⟨(0), zR, H', ⟨Nat.le_refl _⟩, ⟨zb BK870.out⟩, ⟨zU HB.out⟩⟩
  case round =>
   clear H'; (try clear p2); (try clear c3); (try clear c6); (try clear hcz5_0); (try clear hfz5_0); obtain ⟨x4_1, rfl, HA, HK1, BK870, HB⟩ := hrel
   cases gk with
   | zero => exact absurd HA.out (by simp [leadtrailref11_Inject.l0])
   | succ k1 =>
    have H := HA.out; clear HA; simp only [leadtrailref11_Inject.l0] at H; by_cases c7 : x4_1 < (l0_0.length : Int)
    ·rw [if_pos c7] at H; have c7b0 : decide (x4_1 < (l0_0.length : Int)) = true := decide_eq_true c7; clear c7; have H' := zk H; clear H; have hcz8_0 : wr.cell? ⟨gb870, 0, none⟩ = some (.slice A0_0 l0_0.length c0_0) := zh BK870.out 0; have hfz8_0 := blk_frozen BK870.out 0; go_wp2
     go_loopg [5] k1 (fun kq v5 w' => ∃ (x5_2 : Int), v5 = .int .i64 x5_2 ∧ Aside0 (leadtrailref11_Inject.l1 kq x4_1 x5_2 l0_0 = some (r1, r2)) ∧ Aside0 (kq ≤ k1) ∧ Aside0 (w'.heap[gb870]? = some (.cells #[(.slice A0_0 l0_0.length c0_0)] 24 (0, 0))) ∧ Aside0 (Below w.heap.size w w'))
     case atStart => exact ⟨(0), zR, H', ⟨Nat.le_refl _⟩, ⟨zb BK870.out⟩, ⟨zU HB.out⟩⟩
     case round =>
      clear H'; (try clear p2); (try clear c3); (try clear c6); (try clear c7); (try clear c7b0); (try clear hcz5_0); (try clear hcz8_0); (try clear hfz5_0); (try clear hfz8_0); (try clear p2); obtain ⟨x5_2, rfl, HA, HK2, BK870, HB⟩ := hrel
      cases gk with
      | zero => exact absurd HA.out (by simp [leadtrailref11_Inject.l1])
      | succ k2 =>
       have H := HA.out; clear HA; simp only [leadtrailref11_Inject.l1] at H; by_cases c9 : x5_2 < x4_1
       ·rw [if_pos c9] at H; have c9b0 : decide (x5_2 < x4_1) = true := decide_eq_true c9; clear c9; by_cases c10 : 0 ≤ x4_1
        ·rw [if_pos c10] at H; have c10b0 : decide (0 ≤ x4_1) = true := decide_eq_true c10; clear c10; by_cases c11 : x4_1 < (l0_0.length : Int)
         ·rw [if_pos c11] at H; have c11b0 : decide (x4_1 < (l0_0.length : Int)) = true := decide_eq_true c11; clear c11; by_cases c12 : 0 ≤ x5_2
          ·rw [if_pos c12] at H; have c12b0 : decide (0 ≤ x5_2) = true := decide_eq_true c12; clear c12; by_cases c13 : x5_2 < (l0_0.length : Int)
           ·rw [if_pos c13] at H; have c13b0 : decide (x5_2 < (l0_0.length : Int)) = true := decide_eq_true c13; clear c13; by_cases c14 : (((rd_T50 l0_0 x4_1).f0).length : Int) = (((rd_T50 l0_0 x5_2).f0).length : Int)
            ·rw [if_pos c14] at H; have c14b0 : ((((rd_T50 l0_0 x4_1).f0).length : Int) == (((rd_T50 l0_0 x5_2).f0).length : Int)) = true := beq_iff_eq.mpr c14; have c14b1 : ((((rd_T50 l0_0 x4_1).f0).length : Int) != (((rd_T50 l0_0 x5_2).f0).length : Int)) = false := bne_eq_false_iff_eq.mpr c14; have c14b2 : (((rd_T50 l0_0 x4_1).f0).length == ((rd_T50 l0_0 x5_2).f0).length) = true := by first | simpa using c14 | (simp at c14 ⊢; omega)
             clear c14; replace H := Option.bind_eq_some_iff.mp H; obtain ⟨⟨t876, t879⟩, A150, H⟩ := H; replace H : (if t879 = true then (some (false, 0)) else (leadtrailref11_Inject.l1 k2 x4_1 (wrap64 (x5_2 + 1)) l0_0)) = some (r1, r2) := H; have A15 := zk A150; clear A150; by_cases c16 : t879 = true
             ·subst c16; have H1 : (some (false, 0)) = some (r1, r2) := by rw [if_pos rfl] at H; exact H
              clear H; have H := H1; clear H1; simp only [Option.some.injEq, Prod.mk.injEq] at H; obtain ⟨rfl, rfl⟩ := H; have hcz17_0 : wr.cell? ⟨gb870, 0, none⟩ = some (.slice A0_0 l0_0.length c0_0) := zh BK870.out 0; have hfz17_0 := blk_frozen BK870.out 0; have p872 : 0 ≤ (x4_1 : Int) := zT; have q872 : x4_1 < (l0_0.length : Int) := zT; obtain ⟨ad872, A872_0, c872_0, e872, hx872_0, hx872_1, hl872_0, hi872_0⟩ := at_T50 HR0_0.out x4_1 p872 q872; cases e872; replace hx872_0 := zcl HB.out hx872_0; replace hx872_1 := zcl HB.out hx872_1; have HR872_0 := zk hi872_0; have HC872_0 := zk hl872_0; clear hi872_0 hl872_0; replace p872 := eq_true p872; replace q872 := eq_true q872; have p873 : 0 ≤ (x5_2 : Int) := zT; have q873 : x5_2 < (l0_0.length : Int) := zT; obtain ⟨ad873, A873_0, c873_0, e873, hx873_0, hx873_1, hl873_0, hi873_0⟩ := at_T50 HR0_0.out x5_2 p873 q873; obtain rfl : ad872 = ad873 := (by injection e873); replace hx873_0 := zcl HB.out hx873_0; replace hx873_1 := zcl HB.out hx873_1; have HR873_0 := zk hi873_0; have HC873_0 := zk hl873_0; clear hi873_0 hl873_0; replace p873 := eq_true p873; replace q873 := eq_true q873; try go_wp2
              have n0_ := zk (blk_drew BK870.out); have n1_ := zk (below_drew1 HB.out); clear BK870; clear HB; have BK870 := n0_; have HB := n1_; clear n0_ n1_; have p874 : 0 ≤ (x4_1 : Int) := zT; have q874 : x4_1 < (l0_0.length : Int) := zT; obtain ⟨ad874, A874_0, c874_0, e874, hx874_0, hx874_1, hl874_0, hi874_0⟩ := at_T50 HR0_0.out x4_1 p874 q874; have hw874_1 := hx874_1; have hw874_0 := hx874_0; obtain rfl : ad872 = ad874 := (by injection e874); replace hx874_0 := zcl HB.out hx874_0; replace hx874_1 := zcl HB.out hx874_1; have HR874_0 := zk hi874_0; have HC874_0 := zk hl874_0; clear hi874_0 hl874_0; replace p874 := eq_true p874; replace q874 := eq_true q874; have p875 : 0 ≤ (x5_2 : Int) := zT; have q875 : x5_2 < (l0_0.length : Int) := zT; obtain ⟨ad875, A875_0, c875_0, e875, hx875_0, hx875_1, hl875_0, hi875_0⟩ := at_T50 HR0_0.out x5_2 p875 q875; have hw875_1 := hx875_1; have hw875_0 := hx875_0; obtain rfl : ad872 = ad875 := (by injection e875); replace hx875_0 := zcl HB.out hx875_0; replace hx875_1 := zcl HB.out hx875_1; have HR875_0 := zk hi875_0; have HC875_0 := zk hl875_0; clear hi875_0 hl875_0; replace p875 := eq_true p875; replace q875 := eq_true q875; refine start_ (n := 17) (S := fun w' => w'.cell? ⟨gb870, 0, none⟩ = some (.slice (some ad872) l0_0.length c0_0) ∧ w'.cell? (ad872.add ((x4_1).toNat * 2)) = some (.slice A874_0 ((rd_T50 l0_0 x4_1).f0).length c874_0) ∧ w'.cell? ⟨(ad872.add ((x4_1).toNat * 2)).block, (ad872.add ((x4_1).toNat * 2)).off + 1, none⟩ = some (.int .i64 ((rd_T50 l0_0 x4_1).f1)) ∧ w'.cell? (ad872.add ((x5_2).toNat * 2)) = some (.slice A875_0 ((rd_T50 l0_0 x5_2).f0).length c875_0) ∧ w'.cell? ⟨(ad872.add ((x5_2).toNat * 2)).block, (ad872.add ((x5_2).toNat * 2)).off + 1, none⟩ = some (.int .i64 ((rd_T50 l0_0 x5_2).f1))) (ds := []) #[false, false, false, false, false, false, false, false, false, false, false, false, false, false, false, false, false] zz rfl rfl ⟨(blk_cell BK870.out 0).trans rfl, (zcl HB.out hw874_0), (zcl HB.out hw874_1), (zcl HB.out hw875_0), (zcl HB.out hw875_1)⟩ (fun hHeld => ?_); refine with_tabW leadtrailref11_Inject.tab11 leadtrailref11_Inject.bits11 (fun HT_ HW_ => ?_); generalize wr.drew = w18 at BK870 HB HR874_0 HR875_0 hx874_0 hx874_1 hx875_0 hx875_1 hHeld ⊢; refine zp 0 (some 41) (v := ?_) (a' := ?_) (bz 17 1) rfl rfl HT_.out zz zQ ?_ ?_ ?_; rotate_left
              ·intro w'; go_simp; with_reducible rfl
              rotate_left
              ·simp only [Act.put, zv, i64_w, i32_w]; rfl
              refine zp 2 (some 43) (v := ?_) (a' := ?_) (bz 17 5) rfl rfl HT_.out zz zQ ?_ ?_ ?_; rotate_left
              ·intro w'; go_simp; with_reducible rfl
              rotate_left
              ·simp only [Act.put, zv, i64_w, i32_w]; rfl
              refine zp 5 (some 46) (v := ?_) (a' := ?_) (bz 17 37) rfl rfl HT_.out zz zQ ?_ ?_ ?_; rotate_left
              ·intro w'; go_simp; with_reducible rfl
              rotate_left
              ·simp only [Act.put, zv, i64_w, i32_w]; rfl
              refine zp 7 (some 48) (v := ?_) (a' := ?_) (bz 17 165) rfl rfl HT_.out zz zQ ?_ ?_ ?_; rotate_left
              ·intro w'; go_simp; with_reducible rfl
              rotate_left
              ·simp only [Act.put, zv, i64_w, i32_w]; rfl
              refine zp 10 (some 51) (v := ?_) (a' := ?_) (bz 17 1189) rfl rfl HT_.out zz zQ ?_ ?_ ?_; rotate_left
              ·intro w'; go_simp; with_reducible rfl
              rotate_left
              ·simp only [Act.put, zv, i64_w, i32_w]; rfl
              refine take_ (i := 1) (N := some 42) (v := ?_) (a' := ?_) (bz 17 1191) rfl rfl (take_ofW HT_.out HW_.out zz) zQ (Or.inl ⟨by rfl, ?_⟩) hHeld ?_ ?_; rotate_left
              ·rintro w' ⟨s0, s1, s2, s3, s4⟩; go_simp; with_reducible rfl
              rotate_left
              ·simp only [Act.put, zv, i64_w, i32_w]; rfl
              refine zp 3 (some 44) (v := ?_) (a' := ?_) (bz 17 1199) rfl rfl HT_.out zz zQ ?_ ?_ ?_; rotate_left
              ·intro w'; go_simp; with_reducible rfl
              rotate_left
              ·simp only [Act.put, zv, i64_w, i32_w]; rfl
              refine take_ (i := 4) (N := some 45) (v := ?_) (a' := ?_) (bz 17 1215) rfl rfl (take_ofW HT_.out HW_.out zz) zQ (Or.inl ⟨by rfl, ?_⟩) hHeld ?_ ?_; rotate_left
              ·rintro w' ⟨s0, s1, s2, s3, s4⟩; go_simp; with_reducible rfl
              rotate_left
              ·simp only [Act.put, zv, i64_w, i32_w]; rfl
              refine take_ (i := 6) (N := some 47) (v := ?_) (a' := ?_) (bz 17 1279) rfl rfl (take_ofW HT_.out HW_.out zz) zQ (Or.inl ⟨by rfl, ?_⟩) hHeld ?_ ?_; rotate_left
              ·rintro w' ⟨s0, s1, s2, s3, s4⟩; go_simp; with_reducible rfl
              rotate_left
              ·simp only [Act.put, zv, i64_w, i32_w]; rfl
              refine zp 8 (some 49) (v := ?_) (a' := ?_) (bz 17 1535) rfl rfl HT_.out zz zQ ?_ ?_ ?_; rotate_left
              ·intro w'; go_simp; with_reducible rfl
              rotate_left
              ·simp only [Act.put, zv, i64_w, i32_w]; rfl
              refine take_ (i := 9) (N := some 50) (v := ?_) (a' := ?_) (bz 17 2047) rfl rfl (take_ofW HT_.out HW_.out zz) zQ (Or.inl ⟨by rfl, ?_⟩) hHeld ?_ ?_; rotate_left
              ·rintro w' ⟨s0, s1, s2, s3, s4⟩; go_simp; with_reducible rfl
              rotate_left
              ·simp only [Act.put, zv, i64_w, i32_w]; rfl
              refine one_ (i := 11) (N := some 52) (bz 17 4095) rfl rfl (one_of HT_.out zz) (by decide) (fun K hK => ?_); refine goes_ Try.func58 zz rfl #[.agg #[.slice A874_0 ((rd_T50 l0_0 x4_1).f0).length c874_0, .int .i64 ((rd_T50 l0_0 x4_1).f1)], .agg #[.slice A875_0 ((rd_T50 l0_0 x5_2).f0).length c875_0, .int .i64 ((rd_T50 l0_0 x5_2).f1)], .int .i64 (((rd_T50 l0_0 x4_1).f0).length : Int)] (by rfl) rfl rfl zM ?_; with_reducible refine (leadtrailref09_Common.calls k2 _ _ ((rd_T50 l0_0 x4_1).f0) ((rd_T50 l0_0 x4_1).f1) _ _ ((rd_T50 l0_0 x5_2).f0) ((rd_T50 l0_0 x5_2).f1) (((rd_T50 l0_0 x4_1).f0).length : Int) t876 true _ ?side1 ?side2 ?side3 ?side4 A15.out).mono ?_; (case side1 => exact zc (Kd.C_below HR874_0.out HB.out))
              (case side2 => exact HC874_0.out)
              (case side3 => exact zc (Kd.C_below HR875_0.out HB.out))
              (case side4 => exact HC875_0.out)
              rintro e w19 ⟨v877, rfl, ho0, hb⟩; refine ⟨_, rfl, ?_⟩; have n0_ := zk (Kd.R_lower ho0 (below_size (zU HB.out))); have n1_ := zk (zbb BK870.out hb); have n2_ := zk (below_step (zU HB.out) hb); clear BK870; clear HB; have HO878 := n0_; have BK870 := n1_; have HB := n2_; clear n0_ n1_ n2_; (try clear hb); (try clear hb2); (try clear hk); (try clear hi); (try clear ho0); refine hK.out _ _ ⟨(blk_cell BK870.out 0).trans rfl, (zcl HB.out hw874_0), (zcl HB.out hw874_1), (zcl HB.out hw875_0), (zcl HB.out hw875_1)⟩ (fun hHeld => ?_); clear hK K; refine norm_ (a' := ?_) ?_ ?_; rotate_left
              ·show Act.put _ (some 52) _ = _; simp only [Act.put, zv, i64_w, i32_w]; rfl
              refine zp 12 (some 40) (v := ?_) (a' := ?_) (bz 17 8191) rfl rfl HT_.out zz zQ ?_ ?_ ?_; rotate_left
              ·intro w'; go_simp; with_reducible rfl
              rotate_left
              ·simp only [Act.put, zv, i64_w, i32_w]; rfl
              refine zp 13 (some 53) (v := ?_) (a' := ?_) (bz 17 16383) rfl rfl HT_.out zz zQ ?_ ?_ ?_; rotate_left
              ·intro w'; go_simp; with_reducible rfl
              rotate_left
              ·simp only [Act.put, zv, i64_w, i32_w]; rfl
              refine zp 14 (some 54) (v := ?_) (a' := ?_) (bz 17 32767) rfl rfl HT_.out zz zQ ?_ ?_ ?_; rotate_left
              ·intro w'; go_simp; with_reducible rfl
              rotate_left
              ·simp only [Act.put, zv, i64_w, i32_w]; rfl
              refine zp 15 (some 7) (v := ?_) (a' := ?_) (bz 17 65535) rfl rfl HT_.out zz zQ ?_ ?_ ?_; rotate_left
              ·intro w'; go_simp; with_reducible rfl
              rotate_left
              ·simp only [Act.put, zv, i64_w, i32_w]; rfl
              refine zp 16 (some 8) (v := ?_) (a' := ?_) (bz 17 131071) rfl rfl HT_.out zz zQ ?_ ?_ ?_; rotate_left
              ·intro w'; go_simp; with_reducible rfl
              rotate_left
              ·simp only [Act.put, zv, i64_w, i32_w]; rfl
              refine done_ (done_of HT_.out zz) ?_; try go_wp2
              go_ret2
              exact ⟨ze, zU HB.out⟩
             ·replace c16 := Bool.eq_false_iff.mpr c16; subst c16; have H1 : (leadtrailref11_Inject.l1 k2 x4_1 (wrap64 (x5_2 + 1)) l0_0) = some (r1, r2) := by rw [if_neg (show ¬ (false = true) by decide)] at H; exact H
              clear H; have H := H1; clear H1; have H' := zk H; clear H; have hcz20_0 : wr.cell? ⟨gb870, 0, none⟩ = some (.slice A0_0 l0_0.length c0_0) := zh BK870.out 0; have hfz20_0 := blk_frozen BK870.out 0; have p872 : 0 ≤ (x4_1 : Int) := zT; have q872 : x4_1 < (l0_0.length : Int) := zT; obtain ⟨ad872, A872_0, c872_0, e872, hx872_0, hx872_1, hl872_0, hi872_0⟩ := at_T50 HR0_0.out x4_1 p872 q872; cases e872; replace hx872_0 := zcl HB.out hx872_0; replace hx872_1 := zcl HB.out hx872_1; have HR872_0 := zk hi872_0; have HC872_0 := zk hl872_0; clear hi872_0 hl872_0; replace p872 := eq_true p872; replace q872 := eq_true q872; have p873 : 0 ≤ (x5_2 : Int) := zT; have q873 : x5_2 < (l0_0.length : Int) := zT; obtain ⟨ad873, A873_0, c873_0, e873, hx873_0, hx873_1, hl873_0, hi873_0⟩ := at_T50 HR0_0.out x5_2 p873 q873; obtain rfl : ad872 = ad873 := (by injection e873); replace hx873_0 := zcl HB.out hx873_0; replace hx873_1 := zcl HB.out hx873_1; have HR873_0 := zk hi873_0; have HC873_0 := zk hl873_0; clear hi873_0 hl873_0; replace p873 := eq_true p873; replace q873 := eq_true q873; try go_wp2
              have n0_ := zk (blk_drew BK870.out); have n1_ := zk (below_drew1 HB.out); clear BK870; clear HB; have BK870 := n0_; have HB := n1_; clear n0_ n1_; have p874 : 0 ≤ (x4_1 : Int) := zT; have q874 : x4_1 < (l0_0.length : Int) := zT; obtain ⟨ad874, A874_0, c874_0, e874, hx874_0, hx874_1, hl874_0, hi874_0⟩ := at_T50 HR0_0.out x4_1 p874 q874; have hw874_1 := hx874_1; have hw874_0 := hx874_0; obtain rfl : ad872 = ad874 := (by injection e874); replace hx874_0 := zcl HB.out hx874_0; replace hx874_1 := zcl HB.out hx874_1; have HR874_0 := zk hi874_0; have HC874_0 := zk hl874_0; clear hi874_0 hl874_0; replace p874 := eq_true p874; replace q874 := eq_true q874; have p875 : 0 ≤ (x5_2 : Int) := zT; have q875 : x5_2 < (l0_0.length : Int) := zT; obtain ⟨ad875, A875_0, c875_0, e875, hx875_0, hx875_1, hl875_0, hi875_0⟩ := at_T50 HR0_0.out x5_2 p875 q875; have hw875_1 := hx875_1; have hw875_0 := hx875_0; obtain rfl : ad872 = ad875 := (by injection e875); replace hx875_0 := zcl HB.out hx875_0; replace hx875_1 := zcl HB.out hx875_1; have HR875_0 := zk hi875_0; have HC875_0 := zk hl875_0; clear hi875_0 hl875_0; replace p875 := eq_true p875; replace q875 := eq_true q875; refine start_ (n := 17) (S := fun w' => w'.cell? ⟨gb870, 0, none⟩ = some (.slice (some ad872) l0_0.length c0_0) ∧ w'.cell? (ad872.add ((x4_1).toNat * 2)) = some (.slice A874_0 ((rd_T50 l0_0 x4_1).f0).length c874_0) ∧ w'.cell? ⟨(ad872.add ((x4_1).toNat * 2)).block, (ad872.add ((x4_1).toNat * 2)).off + 1, none⟩ = some (.int .i64 ((rd_T50 l0_0 x4_1).f1)) ∧ w'.cell? (ad872.add ((x5_2).toNat * 2)) = some (.slice A875_0 ((rd_T50 l0_0 x5_2).f0).length c875_0) ∧ w'.cell? ⟨(ad872.add ((x5_2).toNat * 2)).block, (ad872.add ((x5_2).toNat * 2)).off + 1, none⟩ = some (.int .i64 ((rd_T50 l0_0 x5_2).f1))) (ds := []) #[false, false, false, false, false, false, false, false, false, false, false, false, false, false, false, false, false] zz rfl rfl ⟨(blk_cell BK870.out 0).trans rfl, (zcl HB.out hw874_0), (zcl HB.out hw874_1), (zcl HB.out hw875_0), (zcl HB.out hw875_1)⟩ (fun hHeld => ?_); refine with_tabW leadtrailref11_Inject.tab11 leadtrailref11_Inject.bits11 (fun HT_ HW_ => ?_); generalize wr.drew = w21 at BK870 HB HR874_0 HR875_0 hx874_0 hx874_1 hx875_0 hx875_1 hHeld ⊢; refine zp 0 (some 41) (v := ?_) (a' := ?_) (bz 17 1) rfl rfl HT_.out zz zQ ?_ ?_ ?_; rotate_left
              ·intro w'; go_simp; with_reducible rfl
              rotate_left
              ·simp only [Act.put, zv, i64_w, i32_w]; rfl
              refine zp 2 (some 43) (v := ?_) (a' := ?_) (bz 17 5) rfl rfl HT_.out zz zQ ?_ ?_ ?_; rotate_left
              ·intro w'; go_simp; with_reducible rfl
              rotate_left
              ·simp only [Act.put, zv, i64_w, i32_w]; rfl
              refine zp 5 (some 46) (v := ?_) (a' := ?_) (bz 17 37) rfl rfl HT_.out zz zQ ?_ ?_ ?_; rotate_left
              ·intro w'; go_simp; with_reducible rfl
              rotate_left
              ·simp only [Act.put, zv, i64_w, i32_w]; rfl
              refine zp 7 (some 48) (v := ?_) (a' := ?_) (bz 17 165) rfl rfl HT_.out zz zQ ?_ ?_ ?_; rotate_left
              ·intro w'; go_simp; with_reducible rfl
              rotate_left
              ·simp only [Act.put, zv, i64_w, i32_w]; rfl
              refine zp 10 (some 51) (v := ?_) (a' := ?_) (bz 17 1189) rfl rfl HT_.out zz zQ ?_ ?_ ?_; rotate_left
              ·intro w'; go_simp; with_reducible rfl
              rotate_left
              ·simp only [Act.put, zv, i64_w, i32_w]; rfl
              refine take_ (i := 1) (N := some 42) (v := ?_) (a' := ?_) (bz 17 1191) rfl rfl (take_ofW HT_.out HW_.out zz) zQ (Or.inl ⟨by rfl, ?_⟩) hHeld ?_ ?_; rotate_left
              ·rintro w' ⟨s0, s1, s2, s3, s4⟩; go_simp; with_reducible rfl
              rotate_left
              ·simp only [Act.put, zv, i64_w, i32_w]; rfl
              refine zp 3 (some 44) (v := ?_) (a' := ?_) (bz 17 1199) rfl rfl HT_.out zz zQ ?_ ?_ ?_; rotate_left
              ·intro w'; go_simp; with_reducible rfl
              rotate_left
              ·simp only [Act.put, zv, i64_w, i32_w]; rfl
              refine take_ (i := 4) (N := some 45) (v := ?_) (a' := ?_) (bz 17 1215) rfl rfl (take_ofW HT_.out HW_.out zz) zQ (Or.inl ⟨by rfl, ?_⟩) hHeld ?_ ?_; rotate_left
              ·rintro w' ⟨s0, s1, s2, s3, s4⟩; go_simp; with_reducible rfl
              rotate_left
              ·simp only [Act.put, zv, i64_w, i32_w]; rfl
              refine take_ (i := 6) (N := some 47) (v := ?_) (a' := ?_) (bz 17 1279) rfl rfl (take_ofW HT_.out HW_.out zz) zQ (Or.inl ⟨by rfl, ?_⟩) hHeld ?_ ?_; rotate_left
              ·rintro w' ⟨s0, s1, s2, s3, s4⟩; go_simp; with_reducible rfl
              rotate_left
              ·simp only [Act.put, zv, i64_w, i32_w]; rfl
              refine zp 8 (some 49) (v := ?_) (a' := ?_) (bz 17 1535) rfl rfl HT_.out zz zQ ?_ ?_ ?_; rotate_left
              ·intro w'; go_simp; with_reducible rfl
              rotate_left
              ·simp only [Act.put, zv, i64_w, i32_w]; rfl
              refine take_ (i := 9) (N := some 50) (v := ?_) (a' := ?_) (bz 17 2047) rfl rfl (take_ofW HT_.out HW_.out zz) zQ (Or.inl ⟨by rfl, ?_⟩) hHeld ?_ ?_; rotate_left
              ·rintro w' ⟨s0, s1, s2, s3, s4⟩; go_simp; with_reducible rfl
              rotate_left
              ·simp only [Act.put, zv, i64_w, i32_w]; rfl
              refine one_ (i := 11) (N := some 52) (bz 17 4095) rfl rfl (one_of HT_.out zz) (by decide) (fun K hK => ?_); refine goes_ Try.func58 zz rfl #[.agg #[.slice A874_0 ((rd_T50 l0_0 x4_1).f0).length c874_0, .int .i64 ((rd_T50 l0_0 x4_1).f1)], .agg #[.slice A875_0 ((rd_T50 l0_0 x5_2).f0).length c875_0, .int .i64 ((rd_T50 l0_0 x5_2).f1)], .int .i64 (((rd_T50 l0_0 x4_1).f0).length : Int)] (by rfl) rfl rfl zM ?_; with_reducible refine (leadtrailref09_Common.calls k2 _ _ ((rd_T50 l0_0 x4_1).f0) ((rd_T50 l0_0 x4_1).f1) _ _ ((rd_T50 l0_0 x5_2).f0) ((rd_T50 l0_0 x5_2).f1) (((rd_T50 l0_0 x4_1).f0).length : Int) t876 false _ ?side1 ?side2 ?side3 ?side4 A15.out).mono ?_; (case side1 => exact zc (Kd.C_below HR874_0.out HB.out))
              (case side2 => exact HC874_0.out)
              (case side3 => exact zc (Kd.C_below HR875_0.out HB.out))
              (case side4 => exact HC875_0.out)
              rintro e w22 ⟨v877, rfl, ho0, hb⟩; refine ⟨_, rfl, ?_⟩; have n0_ := zk (Kd.R_lower ho0 (below_size (zU HB.out))); have n1_ := zk (zbb BK870.out hb); have n2_ := zk (below_step (zU HB.out) hb); clear BK870; clear HB; have HO878 := n0_; have BK870 := n1_; have HB := n2_; clear n0_ n1_ n2_; (try clear hb); (try clear hb2); (try clear hk); (try clear hi); (try clear ho0); refine hK.out _ _ ⟨(blk_cell BK870.out 0).trans rfl, (zcl HB.out hw874_0), (zcl HB.out hw874_1), (zcl HB.out hw875_0), (zcl HB.out hw875_1)⟩ (fun hHeld => ?_); clear hK K; refine norm_ (a' := ?_) ?_ ?_; rotate_left
              ·show Act.put _ (some 52) _ = _; simp only [Act.put, zv, i64_w, i32_w]; rfl
              refine zp 12 (some 40) (v := ?_) (a' := ?_) (bz 17 8191) rfl rfl HT_.out zz zQ ?_ ?_ ?_; rotate_left
              ·intro w'; go_simp; with_reducible rfl
              rotate_left
              ·simp only [Act.put, zv, i64_w, i32_w]; rfl
              refine zp 13 (some 53) (v := ?_) (a' := ?_) (bz 17 16383) rfl rfl HT_.out zz zQ ?_ ?_ ?_; rotate_left
              ·intro w'; go_simp; with_reducible rfl
              rotate_left
              ·simp only [Act.put, zv, i64_w, i32_w]; rfl
              refine zp 14 (some 54) (v := ?_) (a' := ?_) (bz 17 32767) rfl rfl HT_.out zz zQ ?_ ?_ ?_; rotate_left
              ·intro w'; go_simp; with_reducible rfl
              rotate_left
              ·simp only [Act.put, zv, i64_w, i32_w]; rfl
              refine zp 15 (some 7) (v := ?_) (a' := ?_) (bz 17 65535) rfl rfl HT_.out zz zQ ?_ ?_ ?_; rotate_left
              ·intro w'; go_simp; with_reducible rfl
              rotate_left
              ·simp only [Act.put, zv, i64_w, i32_w]; rfl
              refine zp 16 (some 8) (v := ?_) (a' := ?_) (bz 17 131071) rfl rfl HT_.out zz zQ ?_ ?_ ?_; rotate_left
              ·intro w'; go_simp; with_reducible rfl
              rotate_left
              ·simp only [Act.put, zv, i64_w, i32_w]; rfl
              refine done_ (done_of HT_.out zz) ?_; try go_wp2
              go_roundg k2
              case measure => have := HK1.out; have := HK2.out; omega
              case rel => exact ⟨(wrap64 (x5_2 + 1)), zR, H', ⟨by have := HK1.out; have := HK2.out; omega⟩, ⟨zb BK870.out⟩, ⟨zU HB.out⟩⟩
            ·rw [if_neg c14] at H; have c14b0 : ((((rd_T50 l0_0 x4_1).f0).length : Int) == (((rd_T50 l0_0 x5_2).f0).length : Int)) = false := beq_eq_false_iff_ne.mpr c14; have c14b1 : ((((rd_T50 l0_0 x4_1).f0).length : Int) != (((rd_T50 l0_0 x5_2).f0).length : Int)) = true := bne_iff_ne.mpr c14; have c14b2 : (((rd_T50 l0_0 x4_1).f0).length == ((rd_T50 l0_0 x5_2).f0).length) = false := by first | simpa using c14 | (simp at c14 ⊢; omega)
             have H' := zk H; clear H; have hcz23_0 : wr.cell? ⟨gb870, 0, none⟩ = some (.slice A0_0 l0_0.length c0_0) := zh BK870.out 0; have hfz23_0 := blk_frozen BK870.out 0; have p872 : 0 ≤ (x4_1 : Int) := zT; have q872 : x4_1 < (l0_0.length : Int) := zT; obtain ⟨ad872, A872_0, c872_0, e872, hx872_0, hx872_1, hl872_0, hi872_0⟩ := at_T50 HR0_0.out x4_1 p872 q872; cases e872; replace hx872_0 := zcl HB.out hx872_0; replace hx872_1 := zcl HB.out hx872_1; have HR872_0 := zk hi872_0; have HC872_0 := zk hl872_0; clear hi872_0 hl872_0; replace p872 := eq_true p872; replace q872 := eq_true q872; have p873 : 0 ≤ (x5_2 : Int) := zT; have q873 : x5_2 < (l0_0.length : Int) := zT; obtain ⟨ad873, A873_0, c873_0, e873, hx873_0, hx873_1, hl873_0, hi873_0⟩ := at_T50 HR0_0.out x5_2 p873 q873; obtain rfl : ad872 = ad873 := (by injection e873); replace hx873_0 := zcl HB.out hx873_0; replace hx873_1 := zcl HB.out hx873_1; have HR873_0 := zk hi873_0; have HC873_0 := zk hl873_0; clear hi873_0 hl873_0; replace p873 := eq_true p873; replace q873 := eq_true q873; go_wp2
             go_roundg k2
             case measure => have := HK1.out; have := HK2.out; omega
             case rel => exact ⟨(wrap64 (x5_2 + 1)), zR, H', ⟨by have := HK1.out; have := HK2.out; omega⟩, ⟨zb BK870.out⟩, ⟨zU HB.out⟩⟩
           ·rw [if_neg c13] at H; exact absurd H (by simp)
          ·rw [if_neg c12] at H; exact absurd H (by simp)
         ·rw [if_neg c11] at H; exact absurd H (by simp)
        ·rw [if_neg c10] at H; exact absurd H (by simp)
       ·rw [if_neg c9] at H; have c9b0 : decide (x5_2 < x4_1) = false := decide_eq_false c9; clear c9; have H' := zk H; clear H; go_wp2
        go_roundg k2
        case measure => have := HK1.out; have := HK2.out; omega
        case rel => exact ⟨(wrap64 (x4_1 + 1)), zR, H', ⟨by have := HK1.out; have := HK2.out; omega⟩, ⟨zb BK870.out⟩, ⟨zU HB.out⟩⟩
    ·rw [if_neg c7] at H; have c7b0 : decide (x4_1 < (l0_0.length : Int)) = false := decide_eq_false c7; clear c7; simp only [Option.some.injEq, Prod.mk.injEq] at H; obtain ⟨rfl, rfl⟩ := H; have hcz24_0 : wr.cell? ⟨gb870, 0, none⟩ = some (.slice A0_0 l0_0.length c0_0) := zh BK870.out 0; have hfz24_0 := blk_frozen BK870.out 0; go_wp2
     go_ret2
     exact ⟨ze, zU HB.out⟩
 ·replace c3 := Bool.eq_false_iff.mpr c3; subst c3; have H1 : (some (false, 84)) = some (r1, r2) := by rw [if_neg (show ¬ (false = true) by decide)] at H; exact H
  clear H; have H := H1; clear H1; simp only [Option.some.injEq, Prod.mk.injEq] at H; obtain ⟨rfl, rfl⟩ := H; go_enter Try.func61, Try.ntmps61
  go_wp2_with (first | ((with_reducible refine gate_dst (N := 1) rfl ?_); refine box_event ?hg (N := 1) ?hd (cs := #[.slice A0_0 l0_0.length c0_0]) (t := 24) ?hr ?_; (case hd => rfl); (case hg => rfl); (case hr => first | (go_simp; done) | (go_simp; rfl)); intro gb870 hg w25 hbox hb; have BK870 := zk (hbox); have GE870 := zk ((zg hg HB.out : w.heap.size ≤ gb870)); replace HB := zk (below_step (zU HB.out) hb);  clear hb hbox hg; have hcz26_0 : w25.cell? ⟨gb870, 0, none⟩ = some (.slice A0_0 l0_0.length c0_0) := zh BK870.out 0; have hfz26_0 := blk_frozen BK870.out 0) | ((with_reducible refine gate_callee (f := 79) rfl ?_); refine goesL_ (some 10) rfl rfl Try.func79 zz rfl #[.agg #[.slice A0_0 l0_0.length c0_0]] rfl zM ?_; (with_reducible refine (leadtrailref08_Valid.calls k _ _ l0_0 false _ ?side1 ?side2 A2.out).mono ?_); (case side1 => exact zc (Kd.C_below HR0_0.out HB.out)); (case side2 => exact HC0_0.out); rintro e w27 ⟨rfl, hb⟩; refine ⟨_, rfl, ?_⟩; replace BK870 := zk (zbb BK870.out hb); replace HB := zk (below_step (zU HB.out) hb);  (try clear hb); (try clear hb2); (try clear hk); (try clear hi)))
  go_ret2
  exact ⟨ze, zU HB.out⟩
end Go.Proofs.Ytkcklnmbeinfkaa.B
