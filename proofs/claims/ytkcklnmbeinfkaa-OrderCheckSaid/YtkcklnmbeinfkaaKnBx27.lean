/- Words and walks of this claim, of the text Bx27. -/
import Derived.Test.YtkcklnmbeinfkaaKnQW0
import Derived.Test.YtkcklnmbeinfkaaKnBx0
import Derived.Test.YtkcklnmbeinfkaaKnBx12
import Derived.Test.YtkcklnmbeinfkaaKnBx15
import Derived.Test.YtkcklnmbeinfkaaKnBx24
import Derived.Test.YtkcklnmbeinfkaaKnBx26
namespace Go.Proofs.Ytkcklnmbeinfkaa.B
open Go.RowKit Go.Proofs.YtkcklnmbeinfkaaW.PrintWords Go.Proofs.YtkcklnmbeinfkaaW.PrintLast Go.Proofs.YtkcklnmbeinfkaaW.PrintMore
attribute [local go_sem] max2_int min2_int max_two min_two max_three min_three max_four min_four
set_option linter.unusedVariables false
set_option linter.unusedSimpArgs false
mutual
def leadtrailref12_Check.l0 : Nat → Int → List (S50) → Option (Bool × Int)
 | 0, _, _ => none
 | k + 1, x4, x609000 => if x4 < (x609000.length : Int) then (leadtrailref12_Check.l1 k x4 0 x609000) else (some (true, 0))
def leadtrailref12_Check.l1 : Nat → Int → Int → List (S50) → Option (Bool × Int)
 | 0, _, _, _ => none
 | k + 1, x4, x5, x609000 => if x5 < (x609000.length : Int) then (if 0 ≤ x4 then (if x4 < (x609000.length : Int) then (if 0 ≤ x5 then (if ((rd_T50 x609000 x4).f1) < ((rd_T50 x609000 x5).f1) then ((leadtrailref08_Count.f k ((rd_T50 x609000 x4).f0) ((rd_T50 x609000 x4).f1)).bind fun t614 => ((leadtrailref09_Unrank.f k ((rd_T50 x609000 x4).f0) ((rd_T50 x609000 x4).f1) (wrap64 (t614 - 1))).bind fun bt615 => ((leadtrailref09_Unrank.f k ((rd_T50 x609000 x5).f0) ((rd_T50 x609000 x5).f1) 0).bind fun bt620 => ((leadtrailref12_Less.f k bt615.1 bt620.1).bind fun t624 => (if t624 = true then (leadtrailref12_Check.l1 k x4 (wrap64 (x5 + 1)) x609000) else (some (false, 0))))))) else (leadtrailref12_Check.l1 k x4 (wrap64 (x5 + 1)) x609000)) else (none)) else (none)) else (none)) else (leadtrailref12_Check.l0 k (wrap64 (x4 + 1)) x609000)
end
def leadtrailref12_Check.f (k : Nat) (l0_0 : List (S50)) : Option (Bool × Int) := (leadtrailref08_Valid.f k l0_0).bind fun t609 => (if t609 = true then (leadtrailref12_Check.l0 k 0 l0_0) else (some (false, 84)))
def leadtrailref12_Check.T9 : Bool × List (List Nat × List Nat) := (true, [([], []), ([0], [0]), ([], []), ([1, 2], [1, 2]), ([3], [3]), ([4], [4]), ([], []), ([6], [6]), ([], []), ([7, 8], [7, 8]), ([9], [9]), ([10], [10]), ([5, 11], [5, 11])])
def leadtrailref12_Check.B9 : List Nat := [0, 1, 0, 7, 15, 31, 0, 64, 0, 448, 960, 1984, 4095]
theorem leadtrailref12_Check.tab9 : rtab .any (opsOf Try.f38 9) = leadtrailref12_Check.T9 := by kernel_rfl
theorem leadtrailref12_Check.bits9 : waitsOk leadtrailref12_Check.T9.2 leadtrailref12_Check.B9 = true := by kernel_rfl
def leadtrailref12_Check.T10 : Bool × List (List Nat × List Nat) := (true, [([], []), ([0], [0]), ([], []), ([1, 2], [1, 2]), ([3], [3]), ([], []), ([5], [5]), ([], []), ([6, 7], [6, 7]), ([8], [8]), ([9], [9]), ([10], [10]), ([4, 11, 10], [4, 11]), ([12], [12]), ([13], [13]), ([13], [13]), ([14, 12, 0, 1, 2, 3, 4, 5, 6, 7, 8, 9, 10, 11, 12, 13, 14], [14]), ([15, 16, 0, 1, 2, 3, 4, 5, 6, 7, 8, 9, 10, 11, 12, 13, 14, 15, 16], [15])])
def leadtrailref12_Check.B10 : List Nat := [0, 1, 0, 7, 15, 0, 32, 0, 224, 480, 992, 2016, 4095, 8191, 16383, 16383, 32767, 131071]
theorem leadtrailref12_Check.tab10 : rtab .any (opsOf Try.f38 10) = leadtrailref12_Check.T10 := by kernel_rfl
theorem leadtrailref12_Check.bits10 : waitsOk leadtrailref12_Check.T10.2 leadtrailref12_Check.B10 = true := by kernel_rfl
set_option maxHeartbeats 8000000 in
set_option maxRecDepth 100000 in
theorem leadtrailref12_Check.calls (k : Nat) (A0_0 : Option Addr) (c0_0 : Nat) (l0_0 : List (S50)) (r1 : Bool) (r2 : Int) (w : World) (hr0_0 : Kd.C k50 w A0_0 l0_0.length l0_0) (hc0_0 : l0_0.length ≤ c0_0) (h : leadtrailref12_Check.f k l0_0 = some (r1, r2)) :
 Calls Try.prog 38 #[.agg #[.slice A0_0 l0_0.length c0_0]] w fun e w' => e = .returned (.tuple #[.bool r1, .int .i64 r2]) ∧ Below w.heap.size w w' := by
 have hu24 := Try.underlying24; have hu50 := Try.underlying50; have HR0_0 := zk hr0_0; have HC0_0 := zk hc0_0; clear hr0_0 hc0_0; have HB := zk (Below.refl w.heap.size w); have H : ((leadtrailref08_Valid.f k l0_0).bind fun t609 => (if t609 = true then (leadtrailref12_Check.l0 k 0 l0_0) else (some (false, 84)))) = some (r1, r2) := h; clear h; replace H := Option.bind_eq_some_iff.mp H; obtain ⟨t609, A20, H⟩ := H; replace H : (if t609 = true then (leadtrailref12_Check.l0 k 0 l0_0) else (some (false, 84))) = some (r1, r2) := H; have A2 := zk A20; clear A20; by_cases c3 : t609 = true
 ·subst c3; have H1 : (leadtrailref12_Check.l0 k 0 l0_0) = some (r1, r2) := by rw [if_pos rfl] at H; exact H
  clear H; have H := H1; clear H1; have H' := zk H; clear H; go_enter Try.func38, Try.ntmps38
  go_wp2_with (first | ((with_reducible refine gate_dst (N := 1) rfl ?_); refine box_event ?hg (N := 1) ?hd (cs := #[.slice A0_0 l0_0.length c0_0]) (t := 24) ?hr ?_; (case hd => rfl); (case hg => rfl); (case hr => first | (go_simp; done) | (go_simp; rfl)); intro gb608 hg w4 hbox hb; have BK608 := zk (hbox); have GE608 := zk ((zg hg HB.out : w.heap.size ≤ gb608)); replace HB := zk (below_step (zU HB.out) hb);  clear hb hbox hg; have hcz5_0 : w4.cell? ⟨gb608, 0, none⟩ = some (.slice A0_0 l0_0.length c0_0) := zh BK608.out 0; have hfz5_0 := blk_frozen BK608.out 0) | ((with_reducible refine gate_callee (f := 79) rfl ?_); refine goesL_ (some 11) rfl rfl Try.func79 zz rfl #[.agg #[.slice A0_0 l0_0.length c0_0]] rfl zM ?_; (with_reducible refine (leadtrailref08_Valid.calls k _ _ l0_0 true _ ?side1 ?side2 A2.out).mono ?_); (case side1 => exact zc (Kd.C_below HR0_0.out HB.out)); (case side2 => exact HC0_0.out); rintro e w6 ⟨rfl, hb⟩; refine ⟨_, rfl, ?_⟩; replace BK608 := zk (zbb BK608.out hb); replace HB := zk (below_step (zU HB.out) hb);  (try clear hb); (try clear hb2); (try clear hk); (try clear hi)))
  go_loopg [4] k (fun kq v4 w' => ∃ (x4_1 : Int), v4 = .int .i64 x4_1 ∧ Aside0 (leadtrailref12_Check.l0 kq x4_1 l0_0 = some (r1, r2)) ∧ Aside0 (kq ≤ k) ∧ Aside0 (w'.heap[gb608]? = some (.cells #[(.slice A0_0 l0_0.length c0_0)] 24 (0, 0))) ∧ Aside0 (Below w.heap.size w w'))
  case atStart => exact ⟨(0), zR, H', ⟨Nat.le_refl _⟩, ⟨zb BK608.out⟩, ⟨zU HB.out⟩⟩
  case round =>
   clear H'; (try clear p2); (try clear c3); (try clear hcz5_0); (try clear hfz5_0); obtain ⟨x4_1, rfl, HA, HK1, BK608, HB⟩ := hrel
   cases gk with
   | zero => exact absurd HA.out (by simp [leadtrailref12_Check.l0])
   | succ k1 =>
    have H := HA.out; clear HA; simp only [leadtrailref12_Check.l0] at H; by_cases c7 : x4_1 < (l0_0.length : Int)
    ·rw [if_pos c7] at H; have c7b0 : decide (x4_1 < (l0_0.length : Int)) = true := decide_eq_true c7; clear c7; have H' := zk H; clear H; have hcz8_0 : wr.cell? ⟨gb608, 0, none⟩ = some (.slice A0_0 l0_0.length c0_0) := zh BK608.out 0; have hfz8_0 := blk_frozen BK608.out 0; go_wp2
     go_loopg [5] k1 (fun kq v5 w' => ∃ (x5_2 : Int), v5 = .int .i64 x5_2 ∧ Aside0 (leadtrailref12_Check.l1 kq x4_1 x5_2 l0_0 = some (r1, r2)) ∧ Aside0 (kq ≤ k1) ∧ Aside0 (w'.heap[gb608]? = some (.cells #[(.slice A0_0 l0_0.length c0_0)] 24 (0, 0))) ∧ Aside0 (Below w.heap.size w w'))
     case atStart => exact ⟨(0), zR, H', ⟨Nat.le_refl _⟩, ⟨zb BK608.out⟩, ⟨zU HB.out⟩⟩
     case round =>
      clear H'; (try clear p2); (try clear c3); (try clear c7); (try clear c7b0); (try clear hcz5_0); (try clear hcz8_0); (try clear hfz5_0); (try clear hfz8_0); (try clear p2); obtain ⟨x5_2, rfl, HA, HK2, BK608, HB⟩ := hrel
      cases gk with
      | zero => exact absurd HA.out (by simp [leadtrailref12_Check.l1])
      | succ k2 =>
       have H := HA.out; clear HA; simp only [leadtrailref12_Check.l1] at H; by_cases c9 : x5_2 < (l0_0.length : Int)
       ·rw [if_pos c9] at H; have c9b0 : decide (x5_2 < (l0_0.length : Int)) = true := decide_eq_true c9; clear c9; by_cases c10 : 0 ≤ x4_1
        ·rw [if_pos c10] at H; have c10b0 : decide (0 ≤ x4_1) = true := decide_eq_true c10; clear c10; by_cases c11 : x4_1 < (l0_0.length : Int)
         ·rw [if_pos c11] at H; have c11b0 : decide (x4_1 < (l0_0.length : Int)) = true := decide_eq_true c11; clear c11; by_cases c12 : 0 ≤ x5_2
          ·rw [if_pos c12] at H; have c12b0 : decide (0 ≤ x5_2) = true := decide_eq_true c12; clear c12; by_cases c13 : ((rd_T50 l0_0 x4_1).f1) < ((rd_T50 l0_0 x5_2).f1)
           ·rw [if_pos c13] at H; have c13b0 : decide (((rd_T50 l0_0 x4_1).f1) < ((rd_T50 l0_0 x5_2).f1)) = true := decide_eq_true c13; clear c13; replace H := Option.bind_eq_some_iff.mp H; obtain ⟨t614, A140, H⟩ := H; replace H : ((leadtrailref09_Unrank.f k2 ((rd_T50 l0_0 x4_1).f0) ((rd_T50 l0_0 x4_1).f1) (wrap64 (t614 - 1))).bind fun bt615 => ((leadtrailref09_Unrank.f k2 ((rd_T50 l0_0 x5_2).f0) ((rd_T50 l0_0 x5_2).f1) 0).bind fun bt620 => ((leadtrailref12_Less.f k2 bt615.1 bt620.1).bind fun t624 => (if t624 = true then (leadtrailref12_Check.l1 k2 x4_1 (wrap64 (x5_2 + 1)) l0_0) else (some (false, 0)))))) = some (r1, r2) := H; have A14 := zk A140; clear A140; replace H := Option.bind_eq_some_iff.mp H; obtain ⟨⟨t615, t618⟩, A150, H⟩ := H; replace H : ((leadtrailref09_Unrank.f k2 ((rd_T50 l0_0 x5_2).f0) ((rd_T50 l0_0 x5_2).f1) 0).bind fun bt620 => ((leadtrailref12_Less.f k2 t615 bt620.1).bind fun t624 => (if t624 = true then (leadtrailref12_Check.l1 k2 x4_1 (wrap64 (x5_2 + 1)) l0_0) else (some (false, 0))))) = some (r1, r2) := H; have A15 := zk A150; clear A150; replace H := Option.bind_eq_some_iff.mp H; obtain ⟨⟨t620, t623⟩, A160, H⟩ := H; replace H : ((leadtrailref12_Less.f k2 t615 t620).bind fun t624 => (if t624 = true then (leadtrailref12_Check.l1 k2 x4_1 (wrap64 (x5_2 + 1)) l0_0) else (some (false, 0)))) = some (r1, r2) := H; have A16 := zk A160; clear A160; replace H := Option.bind_eq_some_iff.mp H; obtain ⟨t624, A170, H⟩ := H; replace H : (if t624 = true then (leadtrailref12_Check.l1 k2 x4_1 (wrap64 (x5_2 + 1)) l0_0) else (some (false, 0))) = some (r1, r2) := H; have A17 := zk A170; clear A170; by_cases c18 : t624 = true
            ·subst c18; have H1 : (leadtrailref12_Check.l1 k2 x4_1 (wrap64 (x5_2 + 1)) l0_0) = some (r1, r2) := by rw [if_pos rfl] at H; exact H
             clear H; have H := H1; clear H1; have H' := zk H; clear H; have hcz19_0 : wr.cell? ⟨gb608, 0, none⟩ = some (.slice A0_0 l0_0.length c0_0) := zh BK608.out 0; have hfz19_0 := blk_frozen BK608.out 0; try go_wp2
             have n0_ := zk (blk_drew BK608.out); have n1_ := zk (below_drew1 HB.out); clear BK608; clear HB; have BK608 := n0_; have HB := n1_; clear n0_ n1_; have p610 : 0 ≤ (x4_1 : Int) := zT; have q610 : x4_1 < (l0_0.length : Int) := zT; obtain ⟨ad610, A610_0, c610_0, e610, hx610_0, hx610_1, hl610_0, hi610_0⟩ := at_T50 HR0_0.out x4_1 p610 q610; have hw610_1 := hx610_1; have hw610_0 := hx610_0; cases e610; replace hx610_0 := zcl HB.out hx610_0; replace hx610_1 := zcl HB.out hx610_1; have HR610_0 := zk hi610_0; have HC610_0 := zk hl610_0; clear hi610_0 hl610_0; replace p610 := eq_true p610; replace q610 := eq_true q610; have p611 : 0 ≤ (x5_2 : Int) := zT; have q611 : x5_2 < (l0_0.length : Int) := zT; obtain ⟨ad611, A611_0, c611_0, e611, hx611_0, hx611_1, hl611_0, hi611_0⟩ := at_T50 HR0_0.out x5_2 p611 q611; have hw611_1 := hx611_1; have hw611_0 := hx611_0; obtain rfl : ad610 = ad611 := (by injection e611); replace hx611_0 := zcl HB.out hx611_0; replace hx611_1 := zcl HB.out hx611_1; have HR611_0 := zk hi611_0; have HC611_0 := zk hl611_0; clear hi611_0 hl611_0; replace p611 := eq_true p611; replace q611 := eq_true q611; refine start_ (n := 13) (S := fun w' => w'.cell? ⟨gb608, 0, none⟩ = some (.slice (some ad610) l0_0.length c0_0) ∧ w'.cell? (ad610.add ((x4_1).toNat * 2)) = some (.slice A610_0 ((rd_T50 l0_0 x4_1).f0).length c610_0) ∧ w'.cell? ⟨(ad610.add ((x4_1).toNat * 2)).block, (ad610.add ((x4_1).toNat * 2)).off + 1, none⟩ = some (.int .i64 ((rd_T50 l0_0 x4_1).f1)) ∧ w'.cell? (ad610.add ((x5_2).toNat * 2)) = some (.slice A611_0 ((rd_T50 l0_0 x5_2).f0).length c611_0) ∧ w'.cell? ⟨(ad610.add ((x5_2).toNat * 2)).block, (ad610.add ((x5_2).toNat * 2)).off + 1, none⟩ = some (.int .i64 ((rd_T50 l0_0 x5_2).f1))) (ds := []) #[false, false, false, false, false, false, false, false, false, false, false, false, false] zz rfl rfl ⟨(blk_cell BK608.out 0).trans rfl, (zcl HB.out hw610_0), (zcl HB.out hw610_1), (zcl HB.out hw611_0), (zcl HB.out hw611_1)⟩ (fun hHeld => ?_); refine with_tabW leadtrailref12_Check.tab9 leadtrailref12_Check.bits9 (fun HT_ HW_ => ?_); generalize wr.drew = w20 at BK608 HB HR610_0 HR611_0 hx610_0 hx610_1 hx611_0 hx611_1 hHeld ⊢; refine zp 0 (some 27) (v := ?_) (a' := ?_) (bz 13 1) rfl rfl HT_.out zz zQ ?_ ?_ ?_; rotate_left
             ·intro w'; go_simp; with_reducible rfl
             rotate_left
             ·simp only [Act.put, zv, i64_w, i32_w]; rfl
             refine zp 2 (some 29) (v := ?_) (a' := ?_) (bz 13 5) rfl rfl HT_.out zz zQ ?_ ?_ ?_; rotate_left
             ·intro w'; go_simp; with_reducible rfl
             rotate_left
             ·simp only [Act.put, zv, i64_w, i32_w]; rfl
             refine zp 6 (some 33) (v := ?_) (a' := ?_) (bz 13 69) rfl rfl HT_.out zz zQ ?_ ?_ ?_; rotate_left
             ·intro w'; go_simp; with_reducible rfl
             rotate_left
             ·simp only [Act.put, zv, i64_w, i32_w]; rfl
             refine zp 8 (some 35) (v := ?_) (a' := ?_) (bz 13 325) rfl rfl HT_.out zz zQ ?_ ?_ ?_; rotate_left
             ·intro w'; go_simp; with_reducible rfl
             rotate_left
             ·simp only [Act.put, zv, i64_w, i32_w]; rfl
             refine take_ (i := 1) (N := some 28) (v := ?_) (a' := ?_) (bz 13 327) rfl rfl (take_ofW HT_.out HW_.out zz) zQ (Or.inl ⟨by rfl, ?_⟩) hHeld ?_ ?_; rotate_left
             ·rintro w' ⟨s0, s1, s2, s3, s4⟩; go_simp; with_reducible rfl
             rotate_left
             ·simp only [Act.put, zv, i64_w, i32_w]; rfl
             refine zp 3 (some 30) (v := ?_) (a' := ?_) (bz 13 335) rfl rfl HT_.out zz zQ ?_ ?_ ?_; rotate_left
             ·intro w'; go_simp; with_reducible rfl
             rotate_left
             ·simp only [Act.put, zv, i64_w, i32_w]; rfl
             refine zp 4 (some 31) (v := ?_) (a' := ?_) (bz 13 351) rfl rfl HT_.out zz zQ ?_ ?_ ?_; rotate_left
             ·intro w'; go_simp; with_reducible rfl
             rotate_left
             ·simp only [Act.put, zv, i64_w, i32_w]; rfl
             refine take_ (i := 5) (N := some 32) (v := ?_) (a' := ?_) (bz 13 383) rfl rfl (take_ofW HT_.out HW_.out zz) zQ (Or.inl ⟨by rfl, ?_⟩) hHeld ?_ ?_; rotate_left
             ·rintro w' ⟨s0, s1, s2, s3, s4⟩; go_simp; with_reducible rfl
             rotate_left
             ·simp only [Act.put, zv, i64_w, i32_w]; rfl
             refine take_ (i := 7) (N := some 34) (v := ?_) (a' := ?_) (bz 13 511) rfl rfl (take_ofW HT_.out HW_.out zz) zQ (Or.inl ⟨by rfl, ?_⟩) hHeld ?_ ?_; rotate_left
             ·rintro w' ⟨s0, s1, s2, s3, s4⟩; go_simp; with_reducible rfl
             rotate_left
             ·simp only [Act.put, zv, i64_w, i32_w]; rfl
             refine zp 9 (some 36) (v := ?_) (a' := ?_) (bz 13 1023) rfl rfl HT_.out zz zQ ?_ ?_ ?_; rotate_left
             ·intro w'; go_simp; with_reducible rfl
             rotate_left
             ·simp only [Act.put, zv, i64_w, i32_w]; rfl
             refine zp 10 (some 37) (v := ?_) (a' := ?_) (bz 13 2047) rfl rfl HT_.out zz zQ ?_ ?_ ?_; rotate_left
             ·intro w'; go_simp; with_reducible rfl
             rotate_left
             ·simp only [Act.put, zv, i64_w, i32_w]; rfl
             refine take_ (i := 11) (N := some 38) (v := ?_) (a' := ?_) (bz 13 4095) rfl rfl (take_ofW HT_.out HW_.out zz) zQ (Or.inl ⟨by rfl, ?_⟩) hHeld ?_ ?_; rotate_left
             ·rintro w' ⟨s0, s1, s2, s3, s4⟩; go_simp; with_reducible rfl
             rotate_left
             ·simp only [Act.put, zv, i64_w, i32_w]; rfl
             refine zp 12 (some 39) (v := ?_) (a' := ?_) (bz 13 8191) rfl rfl HT_.out zz zQ ?_ ?_ ?_; rotate_left
             ·intro w'; go_simp; with_reducible rfl
             rotate_left
             ·simp only [Act.put, zv, i64_w, i32_w]; rfl
             refine done_ (done_of HT_.out zz) ?_; try go_wp2
             have n0_ := zk (blk_drew BK608.out); have n1_ := zk (below_drew1 HB.out); clear BK608; clear HB; have BK608 := n0_; have HB := n1_; clear n0_ n1_; have p612 : 0 ≤ (x4_1 : Int) := zT; have q612 : x4_1 < (l0_0.length : Int) := zT; obtain ⟨ad612, A612_0, c612_0, e612, hx612_0, hx612_1, hl612_0, hi612_0⟩ := at_T50 HR0_0.out x4_1 p612 q612; have hw612_1 := hx612_1; have hw612_0 := hx612_0; obtain rfl : ad610 = ad612 := (by injection e612); replace hx612_0 := zcl HB.out hx612_0; replace hx612_1 := zcl HB.out hx612_1; have HR612_0 := zk hi612_0; have HC612_0 := zk hl612_0; clear hi612_0 hl612_0; replace p612 := eq_true p612; replace q612 := eq_true q612; have p613 : 0 ≤ (x4_1 : Int) := zT; have q613 : x4_1 < (l0_0.length : Int) := zT; obtain ⟨ad613, A613_0, c613_0, e613, hx613_0, hx613_1, hl613_0, hi613_0⟩ := at_T50 HR0_0.out x4_1 p613 q613; have hw613_1 := hx613_1; have hw613_0 := hx613_0; obtain rfl : ad610 = ad613 := (by injection e613); replace hx613_0 := zcl HB.out hx613_0; replace hx613_1 := zcl HB.out hx613_1; have HR613_0 := zk hi613_0; have HC613_0 := zk hl613_0; clear hi613_0 hl613_0; replace p613 := eq_true p613; replace q613 := eq_true q613; have ea_ := Option.some.inj (hx612_0.symm.trans hx613_0); injection ea_ with ea_ en_ ec_
             subst ea_; subst ec_; clear en_; refine start_ (n := 18) (S := fun w' => w'.cell? ⟨gb608, 0, none⟩ = some (.slice (some ad610) l0_0.length c0_0) ∧ w'.cell? (ad610.add ((x4_1).toNat * 2)) = some (.slice A612_0 ((rd_T50 l0_0 x4_1).f0).length c612_0) ∧ w'.cell? ⟨(ad610.add ((x4_1).toNat * 2)).block, (ad610.add ((x4_1).toNat * 2)).off + 1, none⟩ = some (.int .i64 ((rd_T50 l0_0 x4_1).f1)) ∧ w'.cell? (ad610.add ((x4_1).toNat * 2)) = some (.slice A612_0 ((rd_T50 l0_0 x4_1).f0).length c612_0) ∧ w'.cell? ⟨(ad610.add ((x4_1).toNat * 2)).block, (ad610.add ((x4_1).toNat * 2)).off + 1, none⟩ = some (.int .i64 ((rd_T50 l0_0 x4_1).f1))) (ds := []) #[false, false, false, false, false, false, false, false, false, false, false, false, false, false, false, false, false, false] zz rfl rfl ⟨(blk_cell BK608.out 0).trans rfl, (zcl HB.out hw612_0), (zcl HB.out hw612_1), (zcl HB.out hw613_0), (zcl HB.out hw613_1)⟩ (fun hHeld => ?_); refine with_tabW leadtrailref12_Check.tab10 leadtrailref12_Check.bits10 (fun HT_ HW_ => ?_); generalize w20.drew = w21 at BK608 HB HR612_0 HR613_0 hx612_0 hx612_1 hx613_0 hx613_1 hHeld ⊢; refine zp 0 (some 41) (v := ?_) (a' := ?_) (bz 18 1) rfl rfl HT_.out zz zQ ?_ ?_ ?_; rotate_left
             ·intro w'; go_simp; with_reducible rfl
             rotate_left
             ·simp only [Act.put, zv, i64_w, i32_w]; rfl
             refine zp 2 (some 43) (v := ?_) (a' := ?_) (bz 18 5) rfl rfl HT_.out zz zQ ?_ ?_ ?_; rotate_left
             ·intro w'; go_simp; with_reducible rfl
             rotate_left
             ·simp only [Act.put, zv, i64_w, i32_w]; rfl
             refine zp 5 (some 46) (v := ?_) (a' := ?_) (bz 18 37) rfl rfl HT_.out zz zQ ?_ ?_ ?_; rotate_left
             ·intro w'; go_simp; with_reducible rfl
             rotate_left
             ·simp only [Act.put, zv, i64_w, i32_w]; rfl
             refine zp 7 (some 48) (v := ?_) (a' := ?_) (bz 18 165) rfl rfl HT_.out zz zQ ?_ ?_ ?_; rotate_left
             ·intro w'; go_simp; with_reducible rfl
             rotate_left
             ·simp only [Act.put, zv, i64_w, i32_w]; rfl
             refine take_ (i := 1) (N := some 42) (v := ?_) (a' := ?_) (bz 18 167) rfl rfl (take_ofW HT_.out HW_.out zz) zQ (Or.inl ⟨by rfl, ?_⟩) hHeld ?_ ?_; rotate_left
             ·rintro w' ⟨s0, s1, s2, s3, s4⟩; go_simp; with_reducible rfl
             rotate_left
             ·simp only [Act.put, zv, i64_w, i32_w]; rfl
             refine zp 3 (some 44) (v := ?_) (a' := ?_) (bz 18 175) rfl rfl HT_.out zz zQ ?_ ?_ ?_; rotate_left
             ·intro w'; go_simp; with_reducible rfl
             rotate_left
             ·simp only [Act.put, zv, i64_w, i32_w]; rfl
             refine take_ (i := 4) (N := some 45) (v := ?_) (a' := ?_) (bz 18 191) rfl rfl (take_ofW HT_.out HW_.out zz) zQ (Or.inl ⟨by rfl, ?_⟩) hHeld ?_ ?_; rotate_left
             ·rintro w' ⟨s0, s1, s2, s3, s4⟩; go_simp; with_reducible rfl
             rotate_left
             ·simp only [Act.put, zv, i64_w, i32_w]; rfl
             refine take_ (i := 6) (N := some 47) (v := ?_) (a' := ?_) (bz 18 255) rfl rfl (take_ofW HT_.out HW_.out zz) zQ (Or.inl ⟨by rfl, ?_⟩) hHeld ?_ ?_; rotate_left
             ·rintro w' ⟨s0, s1, s2, s3, s4⟩; go_simp; with_reducible rfl
             rotate_left
             ·simp only [Act.put, zv, i64_w, i32_w]; rfl
             refine zp 8 (some 49) (v := ?_) (a' := ?_) (bz 18 511) rfl rfl HT_.out zz zQ ?_ ?_ ?_; rotate_left
             ·intro w'; go_simp; with_reducible rfl
             rotate_left
             ·simp only [Act.put, zv, i64_w, i32_w]; rfl
             refine take_ (i := 9) (N := some 50) (v := ?_) (a' := ?_) (bz 18 1023) rfl rfl (take_ofW HT_.out HW_.out zz) zQ (Or.inl ⟨by rfl, ?_⟩) hHeld ?_ ?_; rotate_left
             ·rintro w' ⟨s0, s1, s2, s3, s4⟩; go_simp; with_reducible rfl
             rotate_left
             ·simp only [Act.put, zv, i64_w, i32_w]; rfl
             refine one_ (i := 10) (N := some 51) (bz 18 2047) rfl rfl (one_of HT_.out zz) (by decide) (fun K hK => ?_); refine goes_ Try.func81 zz rfl #[.agg #[.slice A612_0 ((rd_T50 l0_0 x4_1).f0).length c612_0, .int .i64 ((rd_T50 l0_0 x4_1).f1)]] (by rfl) rfl rfl zM ?_; with_reducible refine (leadtrailref08_Count.calls k2 _ _ ((rd_T50 l0_0 x4_1).f0) ((rd_T50 l0_0 x4_1).f1) t614 _ ?side1 ?side2 A14.out).mono ?_; (case side1 => exact zc (Kd.C_below HR613_0.out HB.out))
             (case side2 => exact HC613_0.out)
             rintro e w22 ⟨rfl, hb⟩; refine ⟨_, rfl, ?_⟩; have n0_ := zk (zbb BK608.out hb); have n1_ := zk (below_step (zU HB.out) hb); clear BK608; clear HB; have BK608 := n0_; have HB := n1_; clear n0_ n1_; (try clear hb); (try clear hb2); (try clear hk); (try clear hi); refine hK.out _ _ ⟨(blk_cell BK608.out 0).trans rfl, (zcl HB.out hw612_0), (zcl HB.out hw612_1), (zcl HB.out hw613_0), (zcl HB.out hw613_1)⟩ (fun hHeld => ?_); clear hK K; refine norm_ (a' := ?_) ?_ ?_; rotate_left
             ·show Act.put _ (some 51) _ = _; simp only [Act.put, zv, i64_w, i32_w]; rfl
             refine zp 11 (some 52) (v := ?_) (a' := ?_) (bz 18 4095) rfl rfl HT_.out zz zQ ?_ ?_ ?_; rotate_left
             ·intro w'; go_simp; with_reducible rfl
             rotate_left
             ·simp only [Act.put, zv, i64_w, i32_w]; rfl
             refine one_ (i := 12) (N := some 53) (bz 18 8191) rfl rfl (one_of HT_.out zz) (by decide) (fun K hK => ?_); refine goes_ Try.func50 zz rfl #[.agg #[.slice A612_0 ((rd_T50 l0_0 x4_1).f0).length c612_0, .int .i64 ((rd_T50 l0_0 x4_1).f1)], .int .i64 (wrap64 (t614 - 1))] (by rfl) rfl rfl zM ?_; with_reducible refine (leadtrailref09_Unrank.calls k2 _ _ ((rd_T50 l0_0 x4_1).f0) ((rd_T50 l0_0 x4_1).f1) (wrap64 (t614 - 1)) t615 t618 _ ?side1 ?side2 A15.out).mono ?_; (case side1 => exact zc (Kd.C_below HR612_0.out HB.out))
             (case side2 => exact HC612_0.out)
             rintro e w23 ⟨v616, rfl, ho0, hb⟩; refine ⟨_, rfl, ?_⟩; have n0_ := zk (Kd.R_lower ho0 (below_size (zU HB.out))); have n1_ := zk (zbb BK608.out hb); have n2_ := zk (below_step (zU HB.out) hb); clear BK608; clear HB; have HO617 := n0_; have BK608 := n1_; have HB := n2_; clear n0_ n1_ n2_; (try clear hb); (try clear hb2); (try clear hk); (try clear hi); (try clear ho0); refine hK.out _ _ ⟨(blk_cell BK608.out 0).trans rfl, (zcl HB.out hw612_0), (zcl HB.out hw612_1), (zcl HB.out hw613_0), (zcl HB.out hw613_1)⟩ (fun hHeld => ?_); clear hK K; refine norm_ (a' := ?_) ?_ ?_; rotate_left
             ·show Act.put _ (some 53) _ = _; simp only [Act.put, zv, i64_w, i32_w]; rfl
             refine zp 13 (some 40) (v := ?_) (a' := ?_) (bz 18 16383) rfl rfl HT_.out zz zQ ?_ ?_ ?_; rotate_left
             ·intro w'; go_simp; with_reducible rfl
             rotate_left
             ·simp only [Act.put, zv, i64_w, i32_w]; rfl
             refine zp 14 (some 54) (v := ?_) (a' := ?_) (bz 18 32767) rfl rfl HT_.out zz zQ ?_ ?_ ?_; rotate_left
             ·intro w'; go_simp; with_reducible rfl
             rotate_left
             ·simp only [Act.put, zv, i64_w, i32_w]; rfl
             refine zp 15 (some 55) (v := ?_) (a' := ?_) (bz 18 65535) rfl rfl HT_.out zz zQ ?_ ?_ ?_; rotate_left
             ·intro w'; go_simp; with_reducible rfl
             rotate_left
             ·simp only [Act.put, zv, i64_w, i32_w]; rfl
             refine zp 16 (some 6) (v := ?_) (a' := ?_) (bz 18 131071) rfl rfl HT_.out zz zQ ?_ ?_ ?_; rotate_left
             ·intro w'; go_simp; with_reducible rfl
             rotate_left
             ·simp only [Act.put, zv, i64_w, i32_w]; rfl
             refine zp 17 (some 7) (v := ?_) (a' := ?_) (bz 18 262143) rfl rfl HT_.out zz zQ ?_ ?_ ?_; rotate_left
             ·intro w'; go_simp; with_reducible rfl
             rotate_left
             ·simp only [Act.put, zv, i64_w, i32_w]; rfl
             refine done_ (done_of HT_.out zz) ?_; have hcz24_0 : w23.cell? ⟨gb608, 0, none⟩ = some (.slice (some ad610) l0_0.length c0_0) := zh BK608.out 0; have hfz24_0 := blk_frozen BK608.out 0; have p619 : 0 ≤ (x5_2 : Int) := zT; have q619 : x5_2 < (l0_0.length : Int) := zT; obtain ⟨ad619, A619_0, c619_0, e619, hx619_0, hx619_1, hl619_0, hi619_0⟩ := at_T50 HR0_0.out x5_2 p619 q619; obtain rfl : ad610 = ad619 := (by injection e619); replace hx619_0 := zcl HB.out hx619_0; replace hx619_1 := zcl HB.out hx619_1; have HR619_0 := zk hi619_0; have HC619_0 := zk hl619_0; clear hi619_0 hl619_0; replace p619 := eq_true p619; replace q619 := eq_true q619; try go_wp2_with (first | ((with_reducible refine gate_callee (f := 50) rfl ?_); refine goesL_ (some 62) rfl rfl Try.func50 zz rfl #[.agg #[.slice A619_0 ((rd_T50 l0_0 x5_2).f0).length c619_0, .int .i64 ((rd_T50 l0_0 x5_2).f1)], .int .i64 0] rfl zM ?_; (with_reducible refine (leadtrailref09_Unrank.calls k2 _ _ ((rd_T50 l0_0 x5_2).f0) ((rd_T50 l0_0 x5_2).f1) 0 t620 t623 _ ?side1 ?side2 A16.out).mono ?_); (case side1 => exact zc (Kd.C_below HR619_0.out HB.out)); (case side2 => exact HC619_0.out); rintro e w25 ⟨v621, rfl, ho0, hb⟩; refine ⟨_, rfl, ?_⟩; have HO622 := zk (Kd.R_lower (Kd.R_new' ho0 (Kd.R_lt (zr HO617.out))) (below_size (zU HB.out))); replace HO617 := zk (Kd.R_elder' (zr HO617.out) (Kd.R_base ho0) hb); replace BK608 := zk (zbb BK608.out hb); replace HB := zk (below_step (zU HB.out) hb);  (try clear hb); (try clear hb2); (try clear hk); (try clear hi); (try clear ho0); obtain ⟨Ao26, co26, eo26⟩ := Kd.R_slice HO617.out; subst eo26; obtain ⟨Ao27, co27, eo27⟩ := Kd.R_slice HO622.out; subst eo27) | ((with_reducible refine gate_callee (f := 40) rfl ?_); refine goesL_ (some 67) rfl rfl Try.func40 zz rfl #[.slice Ao26 t615.length co26, .slice Ao27 t620.length co27] rfl zM ?_; (with_reducible refine (leadtrailref12_Less.calls k2 _ _ t615 _ _ t620 true _ ?side1 ?side2 ?side3 ?side4 A17.out).mono ?_); (case side1 => exact zc (Kd.R_reads' HO617.out).2.2); (case side2 => exact (Kd.R_reads' HO617.out).2.1); (case side3 => exact zc (Kd.R_reads' HO622.out).2.2); (case side4 => exact (Kd.R_reads' HO622.out).2.1); rintro e w' ⟨rfl, ⟨nd, rfl⟩⟩; refine ⟨_, rfl, ?_⟩))
             go_roundg k2
             case measure => have := HK1.out; have := HK2.out; omega
             case rel => exact ⟨(wrap64 (x5_2 + 1)), zR, H', ⟨by have := HK1.out; have := HK2.out; omega⟩, ⟨zb BK608.out⟩, ⟨zU HB.out⟩⟩
            ·replace c18 := Bool.eq_false_iff.mpr c18; subst c18; have H1 : (some (false, 0)) = some (r1, r2) := by rw [if_neg (show ¬ (false = true) by decide)] at H; exact H
             clear H; have H := H1; clear H1; simp only [Option.some.injEq, Prod.mk.injEq] at H; obtain ⟨rfl, rfl⟩ := H; have hcz28_0 : wr.cell? ⟨gb608, 0, none⟩ = some (.slice A0_0 l0_0.length c0_0) := zh BK608.out 0; have hfz28_0 := blk_frozen BK608.out 0; try go_wp2
             have n0_ := zk (blk_drew BK608.out); have n1_ := zk (below_drew1 HB.out); clear BK608; clear HB; have BK608 := n0_; have HB := n1_; clear n0_ n1_; have p610 : 0 ≤ (x4_1 : Int) := zT; have q610 : x4_1 < (l0_0.length : Int) := zT; obtain ⟨ad610, A610_0, c610_0, e610, hx610_0, hx610_1, hl610_0, hi610_0⟩ := at_T50 HR0_0.out x4_1 p610 q610; have hw610_1 := hx610_1; have hw610_0 := hx610_0; cases e610; replace hx610_0 := zcl HB.out hx610_0; replace hx610_1 := zcl HB.out hx610_1; have HR610_0 := zk hi610_0; have HC610_0 := zk hl610_0; clear hi610_0 hl610_0; replace p610 := eq_true p610; replace q610 := eq_true q610; have p611 : 0 ≤ (x5_2 : Int) := zT; have q611 : x5_2 < (l0_0.length : Int) := zT; obtain ⟨ad611, A611_0, c611_0, e611, hx611_0, hx611_1, hl611_0, hi611_0⟩ := at_T50 HR0_0.out x5_2 p611 q611; have hw611_1 := hx611_1; have hw611_0 := hx611_0; obtain rfl : ad610 = ad611 := (by injection e611); replace hx611_0 := zcl HB.out hx611_0; replace hx611_1 := zcl HB.out hx611_1; have HR611_0 := zk hi611_0; have HC611_0 := zk hl611_0; clear hi611_0 hl611_0; replace p611 := eq_true p611; replace q611 := eq_true q611; refine start_ (n := 13) (S := fun w' => w'.cell? ⟨gb608, 0, none⟩ = some (.slice (some ad610) l0_0.length c0_0) ∧ w'.cell? (ad610.add ((x4_1).toNat * 2)) = some (.slice A610_0 ((rd_T50 l0_0 x4_1).f0).length c610_0) ∧ w'.cell? ⟨(ad610.add ((x4_1).toNat * 2)).block, (ad610.add ((x4_1).toNat * 2)).off + 1, none⟩ = some (.int .i64 ((rd_T50 l0_0 x4_1).f1)) ∧ w'.cell? (ad610.add ((x5_2).toNat * 2)) = some (.slice A611_0 ((rd_T50 l0_0 x5_2).f0).length c611_0) ∧ w'.cell? ⟨(ad610.add ((x5_2).toNat * 2)).block, (ad610.add ((x5_2).toNat * 2)).off + 1, none⟩ = some (.int .i64 ((rd_T50 l0_0 x5_2).f1))) (ds := []) #[false, false, false, false, false, false, false, false, false, false, false, false, false] zz rfl rfl ⟨(blk_cell BK608.out 0).trans rfl, (zcl HB.out hw610_0), (zcl HB.out hw610_1), (zcl HB.out hw611_0), (zcl HB.out hw611_1)⟩ (fun hHeld => ?_); refine with_tabW leadtrailref12_Check.tab9 leadtrailref12_Check.bits9 (fun HT_ HW_ => ?_); generalize wr.drew = w29 at BK608 HB HR610_0 HR611_0 hx610_0 hx610_1 hx611_0 hx611_1 hHeld ⊢; refine zp 0 (some 27) (v := ?_) (a' := ?_) (bz 13 1) rfl rfl HT_.out zz zQ ?_ ?_ ?_; rotate_left
             ·intro w'; go_simp; with_reducible rfl
             rotate_left
             ·simp only [Act.put, zv, i64_w, i32_w]; rfl
             refine zp 2 (some 29) (v := ?_) (a' := ?_) (bz 13 5) rfl rfl HT_.out zz zQ ?_ ?_ ?_; rotate_left
             ·intro w'; go_simp; with_reducible rfl
             rotate_left
             ·simp only [Act.put, zv, i64_w, i32_w]; rfl
             refine zp 6 (some 33) (v := ?_) (a' := ?_) (bz 13 69) rfl rfl HT_.out zz zQ ?_ ?_ ?_; rotate_left
             ·intro w'; go_simp; with_reducible rfl
             rotate_left
             ·simp only [Act.put, zv, i64_w, i32_w]; rfl
             refine zp 8 (some 35) (v := ?_) (a' := ?_) (bz 13 325) rfl rfl HT_.out zz zQ ?_ ?_ ?_; rotate_left
             ·intro w'; go_simp; with_reducible rfl
             rotate_left
             ·simp only [Act.put, zv, i64_w, i32_w]; rfl
             refine take_ (i := 1) (N := some 28) (v := ?_) (a' := ?_) (bz 13 327) rfl rfl (take_ofW HT_.out HW_.out zz) zQ (Or.inl ⟨by rfl, ?_⟩) hHeld ?_ ?_; rotate_left
             ·rintro w' ⟨s0, s1, s2, s3, s4⟩; go_simp; with_reducible rfl
             rotate_left
             ·simp only [Act.put, zv, i64_w, i32_w]; rfl
             refine zp 3 (some 30) (v := ?_) (a' := ?_) (bz 13 335) rfl rfl HT_.out zz zQ ?_ ?_ ?_; rotate_left
             ·intro w'; go_simp; with_reducible rfl
             rotate_left
             ·simp only [Act.put, zv, i64_w, i32_w]; rfl
             refine zp 4 (some 31) (v := ?_) (a' := ?_) (bz 13 351) rfl rfl HT_.out zz zQ ?_ ?_ ?_; rotate_left
             ·intro w'; go_simp; with_reducible rfl
             rotate_left
             ·simp only [Act.put, zv, i64_w, i32_w]; rfl
             refine take_ (i := 5) (N := some 32) (v := ?_) (a' := ?_) (bz 13 383) rfl rfl (take_ofW HT_.out HW_.out zz) zQ (Or.inl ⟨by rfl, ?_⟩) hHeld ?_ ?_; rotate_left
             ·rintro w' ⟨s0, s1, s2, s3, s4⟩; go_simp; with_reducible rfl
             rotate_left
             ·simp only [Act.put, zv, i64_w, i32_w]; rfl
             refine take_ (i := 7) (N := some 34) (v := ?_) (a' := ?_) (bz 13 511) rfl rfl (take_ofW HT_.out HW_.out zz) zQ (Or.inl ⟨by rfl, ?_⟩) hHeld ?_ ?_; rotate_left
             ·rintro w' ⟨s0, s1, s2, s3, s4⟩; go_simp; with_reducible rfl
             rotate_left
             ·simp only [Act.put, zv, i64_w, i32_w]; rfl
             refine zp 9 (some 36) (v := ?_) (a' := ?_) (bz 13 1023) rfl rfl HT_.out zz zQ ?_ ?_ ?_; rotate_left
             ·intro w'; go_simp; with_reducible rfl
             rotate_left
             ·simp only [Act.put, zv, i64_w, i32_w]; rfl
             refine zp 10 (some 37) (v := ?_) (a' := ?_) (bz 13 2047) rfl rfl HT_.out zz zQ ?_ ?_ ?_; rotate_left
             ·intro w'; go_simp; with_reducible rfl
             rotate_left
             ·simp only [Act.put, zv, i64_w, i32_w]; rfl
             refine take_ (i := 11) (N := some 38) (v := ?_) (a' := ?_) (bz 13 4095) rfl rfl (take_ofW HT_.out HW_.out zz) zQ (Or.inl ⟨by rfl, ?_⟩) hHeld ?_ ?_; rotate_left
             ·rintro w' ⟨s0, s1, s2, s3, s4⟩; go_simp; with_reducible rfl
             rotate_left
             ·simp only [Act.put, zv, i64_w, i32_w]; rfl
             refine zp 12 (some 39) (v := ?_) (a' := ?_) (bz 13 8191) rfl rfl HT_.out zz zQ ?_ ?_ ?_; rotate_left
             ·intro w'; go_simp; with_reducible rfl
             rotate_left
             ·simp only [Act.put, zv, i64_w, i32_w]; rfl
             refine done_ (done_of HT_.out zz) ?_; try go_wp2
             have n0_ := zk (blk_drew BK608.out); have n1_ := zk (below_drew1 HB.out); clear BK608; clear HB; have BK608 := n0_; have HB := n1_; clear n0_ n1_; have p612 : 0 ≤ (x4_1 : Int) := zT; have q612 : x4_1 < (l0_0.length : Int) := zT; obtain ⟨ad612, A612_0, c612_0, e612, hx612_0, hx612_1, hl612_0, hi612_0⟩ := at_T50 HR0_0.out x4_1 p612 q612; have hw612_1 := hx612_1; have hw612_0 := hx612_0; obtain rfl : ad610 = ad612 := (by injection e612); replace hx612_0 := zcl HB.out hx612_0; replace hx612_1 := zcl HB.out hx612_1; have HR612_0 := zk hi612_0; have HC612_0 := zk hl612_0; clear hi612_0 hl612_0; replace p612 := eq_true p612; replace q612 := eq_true q612; have p613 : 0 ≤ (x4_1 : Int) := zT; have q613 : x4_1 < (l0_0.length : Int) := zT; obtain ⟨ad613, A613_0, c613_0, e613, hx613_0, hx613_1, hl613_0, hi613_0⟩ := at_T50 HR0_0.out x4_1 p613 q613; have hw613_1 := hx613_1; have hw613_0 := hx613_0; obtain rfl : ad610 = ad613 := (by injection e613); replace hx613_0 := zcl HB.out hx613_0; replace hx613_1 := zcl HB.out hx613_1; have HR613_0 := zk hi613_0; have HC613_0 := zk hl613_0; clear hi613_0 hl613_0; replace p613 := eq_true p613; replace q613 := eq_true q613; have ea_ := Option.some.inj (hx612_0.symm.trans hx613_0); injection ea_ with ea_ en_ ec_
             subst ea_; subst ec_; clear en_; refine start_ (n := 18) (S := fun w' => w'.cell? ⟨gb608, 0, none⟩ = some (.slice (some ad610) l0_0.length c0_0) ∧ w'.cell? (ad610.add ((x4_1).toNat * 2)) = some (.slice A612_0 ((rd_T50 l0_0 x4_1).f0).length c612_0) ∧ w'.cell? ⟨(ad610.add ((x4_1).toNat * 2)).block, (ad610.add ((x4_1).toNat * 2)).off + 1, none⟩ = some (.int .i64 ((rd_T50 l0_0 x4_1).f1)) ∧ w'.cell? (ad610.add ((x4_1).toNat * 2)) = some (.slice A612_0 ((rd_T50 l0_0 x4_1).f0).length c612_0) ∧ w'.cell? ⟨(ad610.add ((x4_1).toNat * 2)).block, (ad610.add ((x4_1).toNat * 2)).off + 1, none⟩ = some (.int .i64 ((rd_T50 l0_0 x4_1).f1))) (ds := []) #[false, false, false, false, false, false, false, false, false, false, false, false, false, false, false, false, false, false] zz rfl rfl ⟨(blk_cell BK608.out 0).trans rfl, (zcl HB.out hw612_0), (zcl HB.out hw612_1), (zcl HB.out hw613_0), (zcl HB.out hw613_1)⟩ (fun hHeld => ?_); refine with_tabW leadtrailref12_Check.tab10 leadtrailref12_Check.bits10 (fun HT_ HW_ => ?_); generalize w29.drew = w30 at BK608 HB HR612_0 HR613_0 hx612_0 hx612_1 hx613_0 hx613_1 hHeld ⊢; refine zp 0 (some 41) (v := ?_) (a' := ?_) (bz 18 1) rfl rfl HT_.out zz zQ ?_ ?_ ?_; rotate_left
             ·intro w'; go_simp; with_reducible rfl
             rotate_left
             ·simp only [Act.put, zv, i64_w, i32_w]; rfl
             refine zp 2 (some 43) (v := ?_) (a' := ?_) (bz 18 5) rfl rfl HT_.out zz zQ ?_ ?_ ?_; rotate_left
             ·intro w'; go_simp; with_reducible rfl
             rotate_left
             ·simp only [Act.put, zv, i64_w, i32_w]; rfl
             refine zp 5 (some 46) (v := ?_) (a' := ?_) (bz 18 37) rfl rfl HT_.out zz zQ ?_ ?_ ?_; rotate_left
             ·intro w'; go_simp; with_reducible rfl
             rotate_left
             ·simp only [Act.put, zv, i64_w, i32_w]; rfl
             refine zp 7 (some 48) (v := ?_) (a' := ?_) (bz 18 165) rfl rfl HT_.out zz zQ ?_ ?_ ?_; rotate_left
             ·intro w'; go_simp; with_reducible rfl
             rotate_left
             ·simp only [Act.put, zv, i64_w, i32_w]; rfl
             refine take_ (i := 1) (N := some 42) (v := ?_) (a' := ?_) (bz 18 167) rfl rfl (take_ofW HT_.out HW_.out zz) zQ (Or.inl ⟨by rfl, ?_⟩) hHeld ?_ ?_; rotate_left
             ·rintro w' ⟨s0, s1, s2, s3, s4⟩; go_simp; with_reducible rfl
             rotate_left
             ·simp only [Act.put, zv, i64_w, i32_w]; rfl
             refine zp 3 (some 44) (v := ?_) (a' := ?_) (bz 18 175) rfl rfl HT_.out zz zQ ?_ ?_ ?_; rotate_left
             ·intro w'; go_simp; with_reducible rfl
             rotate_left
             ·simp only [Act.put, zv, i64_w, i32_w]; rfl
             refine take_ (i := 4) (N := some 45) (v := ?_) (a' := ?_) (bz 18 191) rfl rfl (take_ofW HT_.out HW_.out zz) zQ (Or.inl ⟨by rfl, ?_⟩) hHeld ?_ ?_; rotate_left
             ·rintro w' ⟨s0, s1, s2, s3, s4⟩; go_simp; with_reducible rfl
             rotate_left
             ·simp only [Act.put, zv, i64_w, i32_w]; rfl
             refine take_ (i := 6) (N := some 47) (v := ?_) (a' := ?_) (bz 18 255) rfl rfl (take_ofW HT_.out HW_.out zz) zQ (Or.inl ⟨by rfl, ?_⟩) hHeld ?_ ?_; rotate_left
             ·rintro w' ⟨s0, s1, s2, s3, s4⟩; go_simp; with_reducible rfl
             rotate_left
             ·simp only [Act.put, zv, i64_w, i32_w]; rfl
             refine zp 8 (some 49) (v := ?_) (a' := ?_) (bz 18 511) rfl rfl HT_.out zz zQ ?_ ?_ ?_; rotate_left
             ·intro w'; go_simp; with_reducible rfl
             rotate_left
             ·simp only [Act.put, zv, i64_w, i32_w]; rfl
             refine take_ (i := 9) (N := some 50) (v := ?_) (a' := ?_) (bz 18 1023) rfl rfl (take_ofW HT_.out HW_.out zz) zQ (Or.inl ⟨by rfl, ?_⟩) hHeld ?_ ?_; rotate_left
             ·rintro w' ⟨s0, s1, s2, s3, s4⟩; go_simp; with_reducible rfl
             rotate_left
             ·simp only [Act.put, zv, i64_w, i32_w]; rfl
             refine one_ (i := 10) (N := some 51) (bz 18 2047) rfl rfl (one_of HT_.out zz) (by decide) (fun K hK => ?_); refine goes_ Try.func81 zz rfl #[.agg #[.slice A612_0 ((rd_T50 l0_0 x4_1).f0).length c612_0, .int .i64 ((rd_T50 l0_0 x4_1).f1)]] (by rfl) rfl rfl zM ?_; with_reducible refine (leadtrailref08_Count.calls k2 _ _ ((rd_T50 l0_0 x4_1).f0) ((rd_T50 l0_0 x4_1).f1) t614 _ ?side1 ?side2 A14.out).mono ?_; (case side1 => exact zc (Kd.C_below HR613_0.out HB.out))
             (case side2 => exact HC613_0.out)
             rintro e w31 ⟨rfl, hb⟩; refine ⟨_, rfl, ?_⟩; have n0_ := zk (zbb BK608.out hb); have n1_ := zk (below_step (zU HB.out) hb); clear BK608; clear HB; have BK608 := n0_; have HB := n1_; clear n0_ n1_; (try clear hb); (try clear hb2); (try clear hk); (try clear hi); refine hK.out _ _ ⟨(blk_cell BK608.out 0).trans rfl, (zcl HB.out hw612_0), (zcl HB.out hw612_1), (zcl HB.out hw613_0), (zcl HB.out hw613_1)⟩ (fun hHeld => ?_); clear hK K; refine norm_ (a' := ?_) ?_ ?_; rotate_left
             ·show Act.put _ (some 51) _ = _; simp only [Act.put, zv, i64_w, i32_w]; rfl
             refine zp 11 (some 52) (v := ?_) (a' := ?_) (bz 18 4095) rfl rfl HT_.out zz zQ ?_ ?_ ?_; rotate_left
             ·intro w'; go_simp; with_reducible rfl
             rotate_left
             ·simp only [Act.put, zv, i64_w, i32_w]; rfl
             refine one_ (i := 12) (N := some 53) (bz 18 8191) rfl rfl (one_of HT_.out zz) (by decide) (fun K hK => ?_); refine goes_ Try.func50 zz rfl #[.agg #[.slice A612_0 ((rd_T50 l0_0 x4_1).f0).length c612_0, .int .i64 ((rd_T50 l0_0 x4_1).f1)], .int .i64 (wrap64 (t614 - 1))] (by rfl) rfl rfl zM ?_; with_reducible refine (leadtrailref09_Unrank.calls k2 _ _ ((rd_T50 l0_0 x4_1).f0) ((rd_T50 l0_0 x4_1).f1) (wrap64 (t614 - 1)) t615 t618 _ ?side1 ?side2 A15.out).mono ?_; (case side1 => exact zc (Kd.C_below HR612_0.out HB.out))
             (case side2 => exact HC612_0.out)
             rintro e w32 ⟨v616, rfl, ho0, hb⟩; refine ⟨_, rfl, ?_⟩; have n0_ := zk (Kd.R_lower ho0 (below_size (zU HB.out))); have n1_ := zk (zbb BK608.out hb); have n2_ := zk (below_step (zU HB.out) hb); clear BK608; clear HB; have HO617 := n0_; have BK608 := n1_; have HB := n2_; clear n0_ n1_ n2_; (try clear hb); (try clear hb2); (try clear hk); (try clear hi); (try clear ho0); refine hK.out _ _ ⟨(blk_cell BK608.out 0).trans rfl, (zcl HB.out hw612_0), (zcl HB.out hw612_1), (zcl HB.out hw613_0), (zcl HB.out hw613_1)⟩ (fun hHeld => ?_); clear hK K; refine norm_ (a' := ?_) ?_ ?_; rotate_left
             ·show Act.put _ (some 53) _ = _; simp only [Act.put, zv, i64_w, i32_w]; rfl
             refine zp 13 (some 40) (v := ?_) (a' := ?_) (bz 18 16383) rfl rfl HT_.out zz zQ ?_ ?_ ?_; rotate_left
             ·intro w'; go_simp; with_reducible rfl
             rotate_left
             ·simp only [Act.put, zv, i64_w, i32_w]; rfl
             refine zp 14 (some 54) (v := ?_) (a' := ?_) (bz 18 32767) rfl rfl HT_.out zz zQ ?_ ?_ ?_; rotate_left
             ·intro w'; go_simp; with_reducible rfl
             rotate_left
             ·simp only [Act.put, zv, i64_w, i32_w]; rfl
             refine zp 15 (some 55) (v := ?_) (a' := ?_) (bz 18 65535) rfl rfl HT_.out zz zQ ?_ ?_ ?_; rotate_left
             ·intro w'; go_simp; with_reducible rfl
             rotate_left
             ·simp only [Act.put, zv, i64_w, i32_w]; rfl
             refine zp 16 (some 6) (v := ?_) (a' := ?_) (bz 18 131071) rfl rfl HT_.out zz zQ ?_ ?_ ?_; rotate_left
             ·intro w'; go_simp; with_reducible rfl
             rotate_left
             ·simp only [Act.put, zv, i64_w, i32_w]; rfl
             refine zp 17 (some 7) (v := ?_) (a' := ?_) (bz 18 262143) rfl rfl HT_.out zz zQ ?_ ?_ ?_; rotate_left
             ·intro w'; go_simp; with_reducible rfl
             rotate_left
             ·simp only [Act.put, zv, i64_w, i32_w]; rfl
             refine done_ (done_of HT_.out zz) ?_; have hcz33_0 : w32.cell? ⟨gb608, 0, none⟩ = some (.slice (some ad610) l0_0.length c0_0) := zh BK608.out 0; have hfz33_0 := blk_frozen BK608.out 0; have p619 : 0 ≤ (x5_2 : Int) := zT; have q619 : x5_2 < (l0_0.length : Int) := zT; obtain ⟨ad619, A619_0, c619_0, e619, hx619_0, hx619_1, hl619_0, hi619_0⟩ := at_T50 HR0_0.out x5_2 p619 q619; obtain rfl : ad610 = ad619 := (by injection e619); replace hx619_0 := zcl HB.out hx619_0; replace hx619_1 := zcl HB.out hx619_1; have HR619_0 := zk hi619_0; have HC619_0 := zk hl619_0; clear hi619_0 hl619_0; replace p619 := eq_true p619; replace q619 := eq_true q619; try go_wp2_with (first | ((with_reducible refine gate_callee (f := 50) rfl ?_); refine goesL_ (some 62) rfl rfl Try.func50 zz rfl #[.agg #[.slice A619_0 ((rd_T50 l0_0 x5_2).f0).length c619_0, .int .i64 ((rd_T50 l0_0 x5_2).f1)], .int .i64 0] rfl zM ?_; (with_reducible refine (leadtrailref09_Unrank.calls k2 _ _ ((rd_T50 l0_0 x5_2).f0) ((rd_T50 l0_0 x5_2).f1) 0 t620 t623 _ ?side1 ?side2 A16.out).mono ?_); (case side1 => exact zc (Kd.C_below HR619_0.out HB.out)); (case side2 => exact HC619_0.out); rintro e w34 ⟨v621, rfl, ho0, hb⟩; refine ⟨_, rfl, ?_⟩; have HO622 := zk (Kd.R_lower (Kd.R_new' ho0 (Kd.R_lt (zr HO617.out))) (below_size (zU HB.out))); replace HO617 := zk (Kd.R_elder' (zr HO617.out) (Kd.R_base ho0) hb); replace BK608 := zk (zbb BK608.out hb); replace HB := zk (below_step (zU HB.out) hb);  (try clear hb); (try clear hb2); (try clear hk); (try clear hi); (try clear ho0); obtain ⟨Ao35, co35, eo35⟩ := Kd.R_slice HO617.out; subst eo35; obtain ⟨Ao36, co36, eo36⟩ := Kd.R_slice HO622.out; subst eo36) | ((with_reducible refine gate_callee (f := 40) rfl ?_); refine goesL_ (some 67) rfl rfl Try.func40 zz rfl #[.slice Ao35 t615.length co35, .slice Ao36 t620.length co36] rfl zM ?_; (with_reducible refine (leadtrailref12_Less.calls k2 _ _ t615 _ _ t620 false _ ?side1 ?side2 ?side3 ?side4 A17.out).mono ?_); (case side1 => exact zc (Kd.R_reads' HO617.out).2.2); (case side2 => exact (Kd.R_reads' HO617.out).2.1); (case side3 => exact zc (Kd.R_reads' HO622.out).2.2); (case side4 => exact (Kd.R_reads' HO622.out).2.1); rintro e w' ⟨rfl, ⟨nd, rfl⟩⟩; refine ⟨_, rfl, ?_⟩))
             go_ret2
             exact ⟨ze, zU HB.out⟩
           ·rw [if_neg c13] at H; have c13b0 : decide (((rd_T50 l0_0 x4_1).f1) < ((rd_T50 l0_0 x5_2).f1)) = false := decide_eq_false c13; clear c13; have H' := zk H; clear H; have hcz37_0 : wr.cell? ⟨gb608, 0, none⟩ = some (.slice A0_0 l0_0.length c0_0) := zh BK608.out 0; have hfz37_0 := blk_frozen BK608.out 0; try go_wp2
            have n0_ := zk (blk_drew BK608.out); have n1_ := zk (below_drew1 HB.out); clear BK608; clear HB; have BK608 := n0_; have HB := n1_; clear n0_ n1_; have p610 : 0 ≤ (x4_1 : Int) := zT; have q610 : x4_1 < (l0_0.length : Int) := zT; obtain ⟨ad610, A610_0, c610_0, e610, hx610_0, hx610_1, hl610_0, hi610_0⟩ := at_T50 HR0_0.out x4_1 p610 q610; have hw610_1 := hx610_1; have hw610_0 := hx610_0; cases e610; replace hx610_0 := zcl HB.out hx610_0; replace hx610_1 := zcl HB.out hx610_1; have HR610_0 := zk hi610_0; have HC610_0 := zk hl610_0; clear hi610_0 hl610_0; replace p610 := eq_true p610; replace q610 := eq_true q610; have p611 : 0 ≤ (x5_2 : Int) := zT; have q611 : x5_2 < (l0_0.length : Int) := zT; obtain ⟨ad611, A611_0, c611_0, e611, hx611_0, hx611_1, hl611_0, hi611_0⟩ := at_T50 HR0_0.out x5_2 p611 q611; have hw611_1 := hx611_1; have hw611_0 := hx611_0; obtain rfl : ad610 = ad611 := (by injection e611); replace hx611_0 := zcl HB.out hx611_0; replace hx611_1 := zcl HB.out hx611_1; have HR611_0 := zk hi611_0; have HC611_0 := zk hl611_0; clear hi611_0 hl611_0; replace p611 := eq_true p611; replace q611 := eq_true q611; refine start_ (n := 13) (S := fun w' => w'.cell? ⟨gb608, 0, none⟩ = some (.slice (some ad610) l0_0.length c0_0) ∧ w'.cell? (ad610.add ((x4_1).toNat * 2)) = some (.slice A610_0 ((rd_T50 l0_0 x4_1).f0).length c610_0) ∧ w'.cell? ⟨(ad610.add ((x4_1).toNat * 2)).block, (ad610.add ((x4_1).toNat * 2)).off + 1, none⟩ = some (.int .i64 ((rd_T50 l0_0 x4_1).f1)) ∧ w'.cell? (ad610.add ((x5_2).toNat * 2)) = some (.slice A611_0 ((rd_T50 l0_0 x5_2).f0).length c611_0) ∧ w'.cell? ⟨(ad610.add ((x5_2).toNat * 2)).block, (ad610.add ((x5_2).toNat * 2)).off + 1, none⟩ = some (.int .i64 ((rd_T50 l0_0 x5_2).f1))) (ds := []) #[false, false, false, false, false, false, false, false, false, false, false, false, false] zz rfl rfl ⟨(blk_cell BK608.out 0).trans rfl, (zcl HB.out hw610_0), (zcl HB.out hw610_1), (zcl HB.out hw611_0), (zcl HB.out hw611_1)⟩ (fun hHeld => ?_); refine with_tabW leadtrailref12_Check.tab9 leadtrailref12_Check.bits9 (fun HT_ HW_ => ?_); generalize wr.drew = w38 at BK608 HB HR610_0 HR611_0 hx610_0 hx610_1 hx611_0 hx611_1 hHeld ⊢; refine zp 0 (some 27) (v := ?_) (a' := ?_) (bz 13 1) rfl rfl HT_.out zz zQ ?_ ?_ ?_; rotate_left
            ·intro w'; go_simp; with_reducible rfl
            rotate_left
            ·simp only [Act.put, zv, i64_w, i32_w]; rfl
            refine zp 2 (some 29) (v := ?_) (a' := ?_) (bz 13 5) rfl rfl HT_.out zz zQ ?_ ?_ ?_; rotate_left
            ·intro w'; go_simp; with_reducible rfl
            rotate_left
            ·simp only [Act.put, zv, i64_w, i32_w]; rfl
            refine zp 6 (some 33) (v := ?_) (a' := ?_) (bz 13 69) rfl rfl HT_.out zz zQ ?_ ?_ ?_; rotate_left
            ·intro w'; go_simp; with_reducible rfl
            rotate_left
            ·simp only [Act.put, zv, i64_w, i32_w]; rfl
            refine zp 8 (some 35) (v := ?_) (a' := ?_) (bz 13 325) rfl rfl HT_.out zz zQ ?_ ?_ ?_; rotate_left
            ·intro w'; go_simp; with_reducible rfl
            rotate_left
            ·simp only [Act.put, zv, i64_w, i32_w]; rfl
            refine take_ (i := 1) (N := some 28) (v := ?_) (a' := ?_) (bz 13 327) rfl rfl (take_ofW HT_.out HW_.out zz) zQ (Or.inl ⟨by rfl, ?_⟩) hHeld ?_ ?_; rotate_left
            ·rintro w' ⟨s0, s1, s2, s3, s4⟩; go_simp; with_reducible rfl
            rotate_left
            ·simp only [Act.put, zv, i64_w, i32_w]; rfl
            refine zp 3 (some 30) (v := ?_) (a' := ?_) (bz 13 335) rfl rfl HT_.out zz zQ ?_ ?_ ?_; rotate_left
            ·intro w'; go_simp; with_reducible rfl
            rotate_left
            ·simp only [Act.put, zv, i64_w, i32_w]; rfl
            refine zp 4 (some 31) (v := ?_) (a' := ?_) (bz 13 351) rfl rfl HT_.out zz zQ ?_ ?_ ?_; rotate_left
            ·intro w'; go_simp; with_reducible rfl
            rotate_left
            ·simp only [Act.put, zv, i64_w, i32_w]; rfl
            refine take_ (i := 5) (N := some 32) (v := ?_) (a' := ?_) (bz 13 383) rfl rfl (take_ofW HT_.out HW_.out zz) zQ (Or.inl ⟨by rfl, ?_⟩) hHeld ?_ ?_; rotate_left
            ·rintro w' ⟨s0, s1, s2, s3, s4⟩; go_simp; with_reducible rfl
            rotate_left
            ·simp only [Act.put, zv, i64_w, i32_w]; rfl
            refine take_ (i := 7) (N := some 34) (v := ?_) (a' := ?_) (bz 13 511) rfl rfl (take_ofW HT_.out HW_.out zz) zQ (Or.inl ⟨by rfl, ?_⟩) hHeld ?_ ?_; rotate_left
            ·rintro w' ⟨s0, s1, s2, s3, s4⟩; go_simp; with_reducible rfl
            rotate_left
            ·simp only [Act.put, zv, i64_w, i32_w]; rfl
            refine zp 9 (some 36) (v := ?_) (a' := ?_) (bz 13 1023) rfl rfl HT_.out zz zQ ?_ ?_ ?_; rotate_left
            ·intro w'; go_simp; with_reducible rfl
            rotate_left
            ·simp only [Act.put, zv, i64_w, i32_w]; rfl
            refine zp 10 (some 37) (v := ?_) (a' := ?_) (bz 13 2047) rfl rfl HT_.out zz zQ ?_ ?_ ?_; rotate_left
            ·intro w'; go_simp; with_reducible rfl
            rotate_left
            ·simp only [Act.put, zv, i64_w, i32_w]; rfl
            refine take_ (i := 11) (N := some 38) (v := ?_) (a' := ?_) (bz 13 4095) rfl rfl (take_ofW HT_.out HW_.out zz) zQ (Or.inl ⟨by rfl, ?_⟩) hHeld ?_ ?_; rotate_left
            ·rintro w' ⟨s0, s1, s2, s3, s4⟩; go_simp; with_reducible rfl
            rotate_left
            ·simp only [Act.put, zv, i64_w, i32_w]; rfl
            refine zp 12 (some 39) (v := ?_) (a' := ?_) (bz 13 8191) rfl rfl HT_.out zz zQ ?_ ?_ ?_; rotate_left
            ·intro w'; go_simp; with_reducible rfl
            rotate_left
            ·simp only [Act.put, zv, i64_w, i32_w]; rfl
            refine done_ (done_of HT_.out zz) ?_; try go_wp2
            go_roundg k2
            case measure => have := HK1.out; have := HK2.out; omega
            case rel => exact ⟨(wrap64 (x5_2 + 1)), zR, H', ⟨by have := HK1.out; have := HK2.out; omega⟩, ⟨zb BK608.out⟩, ⟨zU HB.out⟩⟩
          ·rw [if_neg c12] at H; exact absurd H (by simp)
         ·rw [if_neg c11] at H; exact absurd H (by simp)
        ·rw [if_neg c10] at H; exact absurd H (by simp)
       ·rw [if_neg c9] at H; have c9b0 : decide (x5_2 < (l0_0.length : Int)) = false := decide_eq_false c9; clear c9; have H' := zk H; clear H; have hcz39_0 : wr.cell? ⟨gb608, 0, none⟩ = some (.slice A0_0 l0_0.length c0_0) := zh BK608.out 0; have hfz39_0 := blk_frozen BK608.out 0; go_wp2
        go_roundg k2
        case measure => have := HK1.out; have := HK2.out; omega
        case rel => exact ⟨(wrap64 (x4_1 + 1)), zR, H', ⟨by have := HK1.out; have := HK2.out; omega⟩, ⟨zb BK608.out⟩, ⟨zU HB.out⟩⟩
    ·rw [if_neg c7] at H; have c7b0 : decide (x4_1 < (l0_0.length : Int)) = false := decide_eq_false c7; clear c7; simp only [Option.some.injEq, Prod.mk.injEq] at H; obtain ⟨rfl, rfl⟩ := H; have hcz40_0 : wr.cell? ⟨gb608, 0, none⟩ = some (.slice A0_0 l0_0.length c0_0) := zh BK608.out 0; have hfz40_0 := blk_frozen BK608.out 0; go_wp2
     go_ret2
     exact ⟨ze, zU HB.out⟩
 ·replace c3 := Bool.eq_false_iff.mpr c3; subst c3; have H1 : (some (false, 84)) = some (r1, r2) := by rw [if_neg (show ¬ (false = true) by decide)] at H; exact H
  clear H; have H := H1; clear H1; simp only [Option.some.injEq, Prod.mk.injEq] at H; obtain ⟨rfl, rfl⟩ := H; go_enter Try.func38, Try.ntmps38
  go_wp2_with (first | ((with_reducible refine gate_dst (N := 1) rfl ?_); refine box_event ?hg (N := 1) ?hd (cs := #[.slice A0_0 l0_0.length c0_0]) (t := 24) ?hr ?_; (case hd => rfl); (case hg => rfl); (case hr => first | (go_simp; done) | (go_simp; rfl)); intro gb608 hg w41 hbox hb; have BK608 := zk (hbox); have GE608 := zk ((zg hg HB.out : w.heap.size ≤ gb608)); replace HB := zk (below_step (zU HB.out) hb);  clear hb hbox hg; have hcz42_0 : w41.cell? ⟨gb608, 0, none⟩ = some (.slice A0_0 l0_0.length c0_0) := zh BK608.out 0; have hfz42_0 := blk_frozen BK608.out 0) | ((with_reducible refine gate_callee (f := 79) rfl ?_); refine goesL_ (some 11) rfl rfl Try.func79 zz rfl #[.agg #[.slice A0_0 l0_0.length c0_0]] rfl zM ?_; (with_reducible refine (leadtrailref08_Valid.calls k _ _ l0_0 false _ ?side1 ?side2 A2.out).mono ?_); (case side1 => exact zc (Kd.C_below HR0_0.out HB.out)); (case side2 => exact HC0_0.out); rintro e w43 ⟨rfl, hb⟩; refine ⟨_, rfl, ?_⟩; replace BK608 := zk (zbb BK608.out hb); replace HB := zk (below_step (zU HB.out) hb);  (try clear hb); (try clear hb2); (try clear hk); (try clear hi)))
  go_ret2
  exact ⟨ze, zU HB.out⟩
end Go.Proofs.Ytkcklnmbeinfkaa.B
