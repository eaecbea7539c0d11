/- Words and walks of this claim, of the text Bx18. -/
import Derived.Test.YtobhclnenffkgaaGreatKaQW0
import Derived.Test.YtobhclnenffkgaaGreatKaBx0
import Derived.Test.YtobhclnenffkgaaGreatKaBx12
import Derived.Test.YtobhclnenffkgaaGreatKaBx13
import Derived.Test.YtobhclnenffkgaaGreatKaBx17
namespace Go.Proofs.YtobhclnenffkgaaGreat.B
open Go.RowKit Go.Proofs.YtobhclnenffkgaaGreatW.PrintWords Go.Proofs.YtobhclnenffkgaaGreatW.PrintLast Go.Proofs.YtobhclnenffkgaaGreatW.PrintMore
set_option maxHeartbeats 8000000
set_option maxRecDepth 100000
attribute [local go_sem] max2_int min2_int max_two min_two max_three min_three max_four min_four
set_option linter.unusedVariables false
set_option linter.unusedSimpArgs false
mutual
def leadtrailref12_Check.l0 : Nat → Int → List (S48) → Option (Bool × Int)
 | 0, _, _ => none
 | k + 1, x4, x454000 => if x4 < (x454000.length : Int) then (leadtrailref12_Check.l1 k x4 0 x454000) else (some (true, 0))
def leadtrailref12_Check.l1 : Nat → Int → Int → List (S48) → Option (Bool × Int)
 | 0, _, _, _ => none
 | k + 1, x4, x5, x454000 => if x5 < (x454000.length : Int) then (if 0 ≤ x4 then (if x4 < (x454000.length : Int) then (if 0 ≤ x5 then (if ((rd_T48 x454000 x4).f1) < ((rd_T48 x454000 x5).f1) then ((leadtrailref08_Count.f k ((rd_T48 x454000 x4).f0) ((rd_T48 x454000 x4).f1)).bind fun t459 => ((leadtrailref09_Unrank.f k ((rd_T48 x454000 x4).f0) ((rd_T48 x454000 x4).f1) (wrap64 (t459 - 1))).bind fun bt460 => ((leadtrailref09_Unrank.f k ((rd_T48 x454000 x5).f0) ((rd_T48 x454000 x5).f1) 0).bind fun bt465 => ((leadtrailref12_Less.f k bt460.1 bt465.1).bind fun t469 => (if t469 = true then (leadtrailref12_Check.l1 k x4 (wrap64 (x5 + 1)) x454000) else (some (false, 0))))))) else (leadtrailref12_Check.l1 k x4 (wrap64 (x5 + 1)) x454000)) else (none)) else (none)) else (none)) else (leadtrailref12_Check.l0 k (wrap64 (x4 + 1)) x454000)
end
def leadtrailref12_Check.f (k : Nat) (l0_0 : List (S48)) : Option (Bool × Int) := (leadtrailref08_Valid.f k l0_0).bind fun t454 => (if t454 = true then (leadtrailref12_Check.l0 k 0 l0_0) else (some (false, 84)))
def leadtrailref12_Check.T9 : Bool × List (List Nat × List Nat) := (true, [([], []), ([0], [0]), ([], []), ([1, 2], [1, 2]), ([3], [3]), ([4], [4]), ([], []), ([6], [6]), ([], []), ([7, 8], [7, 8]), ([9], [9]), ([10], [10]), ([5, 11], [5, 11])])
def leadtrailref12_Check.B9 : List Nat := [0, 1, 0, 7, 15, 31, 0, 64, 0, 448, 960, 1984, 4095]
theorem leadtrailref12_Check.tab9 : rtab .any (opsOf Tryz.f8 9) = leadtrailref12_Check.T9 := by kernel_rfl
theorem leadtrailref12_Check.bits9 : waitsOk leadtrailref12_Check.T9.2 leadtrailref12_Check.B9 = true := by kernel_rfl
def leadtrailref12_Check.T10 : Bool × List (List Nat × List Nat) := (true, [([], []), ([0], [0]), ([], []), ([1, 2], [1, 2]), ([3], [3]), ([], []), ([5], [5]), ([], []), ([6, 7], [6, 7]), ([8], [8]), ([9], [9]), ([10], [10]), ([4, 11, 10], [4, 11]), ([12], [12]), ([13], [13]), ([13], [13]), ([14, 12, 0, 1, 2, 3, 4, 5, 6, 7, 8, 9, 10, 11, 12, 13, 14], [14]), ([15, 16, 0, 1, 2, 3, 4, 5, 6, 7, 8, 9, 10, 11, 12, 13, 14, 15, 16], [15])])
def leadtrailref12_Check.B10 : List Nat := [0, 1, 0, 7, 15, 0, 32, 0, 224, 480, 992, 2016, 4095, 8191, 16383, 16383, 32767, 131071]
theorem leadtrailref12_Check.tab10 : rtab .any (opsOf Tryz.f8 10) = leadtrailref12_Check.T10 := by kernel_rfl
theorem leadtrailref12_Check.bits10 : waitsOk leadtrailref12_Check.T10.2 leadtrailref12_Check.B10 = true := by kernel_rfl
theorem leadtrailref12_Check.calls (k : Nat) (A0_0 : Option Addr) (c0_0 : Nat) (l0_0 : List (S48)) (r1 : Bool) (r2 : Int) (w : World) (hr0_0 : Kd.C k48 w A0_0 l0_0.length l0_0) (hc0_0 : l0_0.length ≤ c0_0) (h : leadtrailref12_Check.f k l0_0 = some (r1, r2)) :
 Calls Tryz.prog 8 #[.agg #[.slice A0_0 l0_0.length c0_0]] w fun e w' => e = .returned (.tuple #[.bool r1, .int .i64 r2]) ∧ Below w.heap.size w w' := by
 have hu24 := Tryz.underlying24; have hu48 := Tryz.underlying48; have HR0_0 := zk hr0_0; have HC0_0 := zk hc0_0; clear hr0_0 hc0_0; have HB := zk (Below.refl w.heap.size w); have H : ((leadtrailref08_Valid.f k l0_0).bind fun t454 => (if t454 = true then (leadtrailref12_Check.l0 k 0 l0_0) else (some (false, 84)))) = some (r1, r2) := h; clear h; replace H := Option.bind_eq_some_iff.mp H; obtain ⟨t454, A20, H⟩ := H; replace H : (if t454 = true then (leadtrailref12_Check.l0 k 0 l0_0) else (some (false, 84))) = some (r1, r2) := H; have A2 := zk A20; clear A20; by_cases c3 : t454 = true
 ·subst c3; have H1 : (leadtrailref12_Check.l0 k 0 l0_0) = some (r1, r2) := by rw [if_pos rfl] at H; exact H
  clear H; have H := H1; clear H1; have H' := zk H; clear H; go_enter Tryz.func8, Tryz.ntmps8
  go_wp2_with (first | ((with_reducible refine gate_dst (N := 1) rfl ?_); refine box_event ?hg (N := 1) ?hd (cs := #[.slice A0_0 l0_0.length c0_0]) (t := 24) ?hr ?_; (case hd => rfl); (case hg => rfl); (case hr => first | (go_simp; done) | (go_simp; rfl)); intro gb453 hg w4 hbox hb; have BK453 := zk (hbox); have GE453 := zk ((zg hg HB.out : w.heap.size ≤ gb453)); replace HB := zs HB hb;  clear hb hbox hg; have hcz5_0 : w4.cell? ⟨gb453, 0, none⟩ = some (.slice A0_0 l0_0.length c0_0) := zh BK453.out 0; have hfz5_0 := blk_frozen BK453.out 0) | ((with_reducible refine gate_callee (f := 22) rfl ?_); refine goesL_ (some 11) rfl rfl Tryz.func22 zz rfl #[.agg #[.slice A0_0 l0_0.length c0_0]] rfl zM ?_; (with_reducible refine (leadtrailref08_Valid.calls k _ _ l0_0 true _ ?side1 ?side2 A2.out).mono ?_); (case side1 => exact zc (Kd.C_below HR0_0.out HB.out)); (case side2 => exact HC0_0.out); rintro e w6 ⟨rfl, hb⟩; refine ⟨_, rfl, ?_⟩; replace BK453 := zk (zbb BK453.out hb); replace HB := zs HB hb;  (try clear hb); (try clear hb2); (try clear hk); (try clear hi)))
  go_loopg [4] k (fun kq v4 w' => ∃ (x4_1 : Int), v4 = .int .i64 x4_1 ∧ Aside0 (leadtrailref12_Check.l0 kq x4_1 l0_0 = some (r1, r2)) ∧ Aside0 (kq ≤ k) ∧ Aside0 (w'.heap[gb453]? = some (.cells #[(.slice A0_0 l0_0.length c0_0)] 24 (0, 0))) ∧ Aside0 (Below w.heap.size w w'))
  case atStart => exact ⟨(0), zR, H', ⟨Nat.le_refl _⟩, ⟨zb BK453.out⟩, ⟨zU HB.out⟩⟩
  case round =>
   clear H'; (try clear c2); (try clear p2); (try clear c3); (try clear hcz5_0); (try clear hfz5_0); obtain ⟨x4_1, rfl, HA, HK1, BK453, HB⟩ := hrel
   cases gk with
   | zero => exact absurd HA.out (by simp [leadtrailref12_Check.l0])
   | succ k1 =>
    have H := HA.out; clear HA; simp only [leadtrailref12_Check.l0] at H; by_cases c7 : x4_1 < (l0_0.length : Int)
    ·rw [if_pos c7] at H; have c7b0 : decide (x4_1 < (l0_0.length : Int)) = true := decide_eq_true c7; clear c7; have H' := zk H; clear H; have hcz8_0 : wr.cell? ⟨gb453, 0, none⟩ = some (.slice A0_0 l0_0.length c0_0) := zh BK453.out 0; have hfz8_0 := blk_frozen BK453.out 0; go_wp2
     go_loopg [5] k1 (fun kq v5 w' => ∃ (x5_2 : Int), v5 = .int .i64 x5_2 ∧ Aside0 (leadtrailref12_Check.l1 kq x4_1 x5_2 l0_0 = some (r1, r2)) ∧ Aside0 (kq ≤ k1) ∧ Aside0 (w'.heap[gb453]? = some (.cells #[(.slice A0_0 l0_0.length c0_0)] 24 (0, 0))) ∧ Aside0 (Below w.heap.size w w'))
     case atStart => exact ⟨(0), zR, H', ⟨Nat.le_refl _⟩, ⟨zb BK453.out⟩, ⟨zU HB.out⟩⟩
     case round =>
      clear H'; (try clear c2); (try clear p2); (try clear c3); (try clear c7); (try clear c7b0); (try clear c8); (try clear hcz5_0); (try clear hcz8_0); (try clear hfz5_0); (try clear hfz8_0); (try clear p2); obtain ⟨x5_2, rfl, HA, HK2, BK453, HB⟩ := hrel
      cases gk with
      | zero => exact absurd HA.out (by simp [leadtrailref12_Check.l1])
      | succ k2 =>
       have H := HA.out; clear HA; simp only [leadtrailref12_Check.l1] at H; by_cases c9 : x5_2 < (l0_0.length : Int)
       ·rw [if_pos c9] at H; have c9b0 : decide (x5_2 < (l0_0.length : Int)) = true := decide_eq_true c9; clear c9; by_cases c10 : 0 ≤ x4_1
        ·rw [if_pos c10] at H; have c10b0 : decide (0 ≤ x4_1) = true := decide_eq_true c10; clear c10; by_cases c11 : x4_1 < (l0_0.length : Int)
         ·rw [if_pos c11] at H; have c11b0 : decide (x4_1 < (l0_0.length : Int)) = true := decide_eq_true c11; clear c11; by_cases c12 : 0 ≤ x5_2
          ·rw [if_pos c12] at H; have c12b0 : decide (0 ≤ x5_2) = true := decide_eq_true c12; clear c12; by_cases c13 : ((rd_T48 l0_0 x4_1).f1) < ((rd_T48 l0_0 x5_2).f1)
           ·rw [if_pos c13] at H; have c13b0 : decide (((rd_T48 l0_0 x4_1).f1) < ((rd_T48 l0_0 x5_2).f1)) = true := decide_eq_true c13; clear c13; replace H := Option.bind_eq_some_iff.mp H; obtain ⟨t459, A140, H⟩ := H; replace H : ((leadtrailref09_Unrank.f k2 ((rd_T48 l0_0 x4_1).f0) ((rd_T48 l0_0 x4_1).f1) (wrap64 (t459 - 1))).bind fun bt460 => ((leadtrailref09_Unrank.f k2 ((rd_T48 l0_0 x5_2).f0) ((rd_T48 l0_0 x5_2).f1) 0).bind fun bt465 => ((leadtrailref12_Less.f k2 bt460.1 bt465.1).bind fun t469 => (if t469 = true then (leadtrailref12_Check.l1 k2 x4_1 (wrap64 (x5_2 + 1)) l0_0) else (some (false, 0)))))) = some (r1, r2) := H; have A14 := zk A140; clear A140; replace H := Option.bind_eq_some_iff.mp H; obtain ⟨⟨t460, t463⟩, A150, H⟩ := H; replace H : ((leadtrailref09_Unrank.f k2 ((rd_T48 l0_0 x5_2).f0) ((rd_T48 l0_0 x5_2).f1) 0).bind fun bt465 => ((leadtrailref12_Less.f k2 t460 bt465.1).bind fun t469 => (if t469 = true then (leadtrailref12_Check.l1 k2 x4_1 (wrap64 (x5_2 + 1)) l0_0) else (some (false, 0))))) = some (r1, r2) := H; have A15 := zk A150; clear A150; replace H := Option.bind_eq_some_iff.mp H; obtain ⟨⟨t465, t468⟩, A160, H⟩ := H; replace H : ((leadtrailref12_Less.f k2 t460 t465).bind fun t469 => (if t469 = true then (leadtrailref12_Check.l1 k2 x4_1 (wrap64 (x5_2 + 1)) l0_0) else (some (false, 0)))) = some (r1, r2) := H; have A16 := zk A160; clear A160; replace H := Option.bind_eq_some_iff.mp H; obtain ⟨t469, A170, H⟩ := H; replace H : (if t469 = true then (leadtrailref12_Check.l1 k2 x4_1 (wrap64 (x5_2 + 1)) l0_0) else (some (false, 0))) = some (r1, r2) := H; have A17 := zk A170; clear A170; by_cases c18 : t469 = true
            ·subst c18; have H1 : (leadtrailref12_Check.l1 k2 x4_1 (wrap64 (x5_2 + 1)) l0_0) = some (r1, r2) := by rw [if_pos rfl] at H; exact H
             clear H; have H := H1; clear H1; have H' := zk H; clear H; have hcz19_0 : wr.cell? ⟨gb453, 0, none⟩ = some (.slice A0_0 l0_0.length c0_0) := zh BK453.out 0; have hfz19_0 := blk_frozen BK453.out 0; try go_wp2
             have n0_ := zk (blk_drew BK453.out); have n1_ := zk (below_drew1 HB.out); clear BK453; clear HB; have BK453 := n0_; have HB := n1_; clear n0_ n1_; have p455 : 0 ≤ (x4_1 : Int) := zT; have q455 : x4_1 < (l0_0.length : Int) := zT; obtain ⟨ad455, A455_0, c455_0, e455, hx455_0, hx455_1, hl455_0, hi455_0⟩ := at_T48 HR0_0.out x4_1 p455 q455; have hw455_1 := hx455_1; have hw455_0 := hx455_0; cases e455; replace hx455_0 := zcl HB.out hx455_0; replace hx455_1 := zcl HB.out hx455_1; have HR455_0 := zk hi455_0; have HC455_0 := zk hl455_0; clear hi455_0 hl455_0; replace p455 := eq_true p455; replace q455 := eq_true q455; have p456 : 0 ≤ (x5_2 : Int) := zT; have q456 : x5_2 < (l0_0.length : Int) := zT; obtain ⟨ad456, A456_0, c456_0, e456, hx456_0, hx456_1, hl456_0, hi456_0⟩ := at_T48 HR0_0.out x5_2 p456 q456; have hw456_1 := hx456_1; have hw456_0 := hx456_0; obtain rfl : ad455 = ad456 := (by injection e456); replace hx456_0 := zcl HB.out hx456_0; replace hx456_1 := zcl HB.out hx456_1; have HR456_0 := zk hi456_0; have HC456_0 := zk hl456_0; clear hi456_0 hl456_0; replace p456 := eq_true p456; replace q456 := eq_true q456; refine start_ (n := 13) (S := fun w' => w'.cell? ⟨gb453, 0, none⟩ = some (.slice (some ad455) l0_0.length c0_0) ∧ w'.cell? (ad455.add ((x4_1).toNat * 2)) = some (.slice A455_0 ((rd_T48 l0_0 x4_1).f0).length c455_0) ∧ w'.cell? ⟨(ad455.add ((x4_1).toNat * 2)).block, (ad455.add ((x4_1).toNat * 2)).off + 1, none⟩ = some (.int .i64 ((rd_T48 l0_0 x4_1).f1)) ∧ w'.cell? (ad455.add ((x5_2).toNat * 2)) = some (.slice A456_0 ((rd_T48 l0_0 x5_2).f0).length c456_0) ∧ w'.cell? ⟨(ad455.add ((x5_2).toNat * 2)).block, (ad455.add ((x5_2).toNat * 2)).off + 1, none⟩ = some (.int .i64 ((rd_T48 l0_0 x5_2).f1))) (ds := []) #[false, false, false, false, false, false, false, false, false, false, false, false, false] zz rfl rfl ⟨(blk_cell BK453.out 0).trans rfl, (zcl HB.out hw455_0), (zcl HB.out hw455_1), (zcl HB.out hw456_0), (zcl HB.out hw456_1)⟩ (fun hHeld => ?_); refine with_tabW leadtrailref12_Check.tab9 leadtrailref12_Check.bits9 (fun HT_ HW_ => ?_); generalize wr.drew = w20 at BK453 HB HR455_0 HR456_0 hx455_0 hx455_1 hx456_0 hx456_1 hHeld ⊢; refine zp 0 (some 27) (v := ?_) (a' := ?_) (bz 13 1) rfl rfl HT_.out zz zQ ?_ ?_ ?_; rotate_left
             ·intro w'; go_simp; with_reducible rfl
             rotate_left
             ·simp only [zy]; rfl
             refine zp 2 (some 29) (v := ?_) (a' := ?_) (bz 13 5) rfl rfl HT_.out zz zQ ?_ ?_ ?_; rotate_left
             ·intro w'; go_simp; with_reducible rfl
             rotate_left
             ·simp only [zy]; rfl
             refine zp 6 (some 33) (v := ?_) (a' := ?_) (bz 13 69) rfl rfl HT_.out zz zQ ?_ ?_ ?_; rotate_left
             ·intro w'; go_simp; with_reducible rfl
             rotate_left
             ·simp only [zy]; rfl
             refine zp 8 (some 35) (v := ?_) (a' := ?_) (bz 13 325) rfl rfl HT_.out zz zQ ?_ ?_ ?_; rotate_left
             ·intro w'; go_simp; with_reducible rfl
             rotate_left
             ·simp only [zy]; rfl
             refine take_ (i := 1) (N := some 28) (v := ?_) (a' := ?_) (bz 13 327) rfl rfl (take_ofW HT_.out HW_.out zz) zQ (Or.inl ⟨by rfl, ?_⟩) hHeld ?_ ?_; rotate_left
             ·rintro w' ⟨s0, s1, s2, s3, s4⟩; go_simp; with_reducible rfl
             rotate_left
             ·simp only [zy]; rfl
             refine zp 3 (some 30) (v := ?_) (a' := ?_) (bz 13 335) rfl rfl HT_.out zz zQ ?_ ?_ ?_; rotate_left
             ·intro w'; go_simp; with_reducible rfl
             rotate_left
             ·simp only [zy]; rfl
             refine zp 4 (some 31) (v := ?_) (a' := ?_) (bz 13 351) rfl rfl HT_.out zz zQ ?_ ?_ ?_; rotate_left
             ·intro w'; go_simp; with_reducible rfl
             rotate_left
             ·simp only [zy]; rfl
             refine take_ (i := 5) (N := some 32) (v := ?_) (a' := ?_) (bz 13 383) rfl rfl (take_ofW HT_.out HW_.out zz) zQ (Or.inl ⟨by rfl, ?_⟩) hHeld ?_ ?_; rotate_left
             ·rintro w' ⟨s0, s1, s2, s3, s4⟩; go_simp; with_reducible rfl
             rotate_left
             ·simp only [zy]; rfl
             refine take_ (i := 7) (N := some 34) (v := ?_) (a' := ?_) (bz 13 511) rfl rfl (take_ofW HT_.out HW_.out zz) zQ (Or.inl ⟨by rfl, ?_⟩) hHeld ?_ ?_; rotate_left
             ·rintro w' ⟨s0, s1, s2, s3, s4⟩; go_simp; with_reducible rfl
             rotate_left
             ·simp only [zy]; rfl
             refine zp 9 (some 36) (v := ?_) (a' := ?_) (bz 13 1023) rfl rfl HT_.out zz zQ ?_ ?_ ?_; rotate_left
             ·intro w'; go_simp; with_reducible rfl
             rotate_left
             ·simp only [zy]; rfl
             refine zp 10 (some 37) (v := ?_) (a' := ?_) (bz 13 2047) rfl rfl HT_.out zz zQ ?_ ?_ ?_; rotate_left
             ·intro w'; go_simp; with_reducible rfl
             rotate_left
             ·simp only [zy]; rfl
             refine take_ (i := 11) (N := some 38) (v := ?_) (a' := ?_) (bz 13 4095) rfl rfl (take_ofW HT_.out HW_.out zz) zQ (Or.inl ⟨by rfl, ?_⟩) hHeld ?_ ?_; rotate_left
             ·rintro w' ⟨s0, s1, s2, s3, s4⟩; go_simp; with_reducible rfl
             rotate_left
             ·simp only [zy]; rfl
             refine zp 12 (some 39) (v := ?_) (a' := ?_) (bz 13 8191) rfl rfl HT_.out zz zQ ?_ ?_ ?_; rotate_left
             ·intro w'; go_simp; with_reducible rfl
             rotate_left
             ·simp only [zy]; rfl
             refine done_ (done_of HT_.out zz) ?_; try go_wp2
             have n0_ := zk (blk_drew BK453.out); have n1_ := zk (below_drew1 HB.out); clear BK453; clear HB; have BK453 := n0_; have HB := n1_; clear n0_ n1_; have p457 : 0 ≤ (x4_1 : Int) := zT; have q457 : x4_1 < (l0_0.length : Int) := zT; obtain ⟨ad457, A457_0, c457_0, e457, hx457_0, hx457_1, hl457_0, hi457_0⟩ := at_T48 HR0_0.out x4_1 p457 q457; have hw457_1 := hx457_1; have hw457_0 := hx457_0; obtain rfl : ad455 = ad457 := (by injection e457); replace hx457_0 := zcl HB.out hx457_0; replace hx457_1 := zcl HB.out hx457_1; have HR457_0 := zk hi457_0; have HC457_0 := zk hl457_0; clear hi457_0 hl457_0; replace p457 := eq_true p457; replace q457 := eq_true q457; have p458 : 0 ≤ (x4_1 : Int) := zT; have q458 : x4_1 < (l0_0.length : Int) := zT; obtain ⟨ad458, A458_0, c458_0, e458, hx458_0, hx458_1, hl458_0, hi458_0⟩ := at_T48 HR0_0.out x4_1 p458 q458; have hw458_1 := hx458_1; have hw458_0 := hx458_0; obtain rfl : ad455 = ad458 := (by injection e458); replace hx458_0 := zcl HB.out hx458_0; replace hx458_1 := zcl HB.out hx458_1; have HR458_0 := zk hi458_0; have HC458_0 := zk hl458_0; clear hi458_0 hl458_0; replace p458 := eq_true p458; replace q458 := eq_true q458; have ea_ := Option.some.inj (hx457_0.symm.trans hx458_0); injection ea_ with ea_ en_ ec_
             subst ea_; subst ec_; clear en_; refine start_ (n := 18) (S := fun w' => w'.cell? ⟨gb453, 0, none⟩ = some (.slice (some ad455) l0_0.length c0_0) ∧ w'.cell? (ad455.add ((x4_1).toNat * 2)) = some (.slice A457_0 ((rd_T48 l0_0 x4_1).f0).length c457_0) ∧ w'.cell? ⟨(ad455.add ((x4_1).toNat * 2)).block, (ad455.add ((x4_1).toNat * 2)).off + 1, none⟩ = some (.int .i64 ((rd_T48 l0_0 x4_1).f1)) ∧ w'.cell? (ad455.add ((x4_1).toNat * 2)) = some (.slice A457_0 ((rd_T48 l0_0 x4_1).f0).length c457_0) ∧ w'.cell? ⟨(ad455.add ((x4_1).toNat * 2)).block, (ad455.add ((x4_1).toNat * 2)).off + 1, none⟩ = some (.int .i64 ((rd_T48 l0_0 x4_1).f1))) (ds := []) #[false, false, false, false, false, false, false, false, false, false, false, false, false, false, false, false, false, false] zz rfl rfl ⟨(blk_cell BK453.out 0).trans rfl, (zcl HB.out hw457_0), (zcl HB.out hw457_1), (zcl HB.out hw458_0), (zcl HB.out hw458_1)⟩ (fun hHeld => ?_); refine with_tabW leadtrailref12_Check.tab10 leadtrailref12_Check.bits10 (fun HT_ HW_ => ?_); generalize w20.drew = w21 at BK453 HB HR457_0 HR458_0 hx457_0 hx457_1 hx458_0 hx458_1 hHeld ⊢; refine zp 0 (some 41) (v := ?_) (a' := ?_) (bz 18 1) rfl rfl HT_.out zz zQ ?_ ?_ ?_; rotate_left
             ·intro w'; go_simp; with_reducible rfl
             rotate_left
             ·simp only [zy]; rfl
             refine zp 2 (some 43) (v := ?_) (a' := ?_) (bz 18 5) rfl rfl HT_.out zz zQ ?_ ?_ ?_; rotate_left
             ·intro w'; go_simp; with_reducible rfl
             rotate_left
             ·simp only [zy]; rfl
             refine zp 5 (some 46) (v := ?_) (a' := ?_) (bz 18 37) rfl rfl HT_.out zz zQ ?_ ?_ ?_; rotate_left
             ·intro w'; go_simp; with_reducible rfl
             rotate_left
             ·simp only [zy]; rfl
             refine zp 7 (some 48) (v := ?_) (a' := ?_) (bz 18 165) rfl rfl HT_.out zz zQ ?_ ?_ ?_; rotate_left
             ·intro w'; go_simp; with_reducible rfl
             rotate_left
             ·simp only [zy]; rfl
             refine take_ (i := 1) (N := some 42) (v := ?_) (a' := ?_) (bz 18 167) rfl rfl (take_ofW HT_.out HW_.out zz) zQ (Or.inl ⟨by rfl, ?_⟩) hHeld ?_ ?_; rotate_left
             ·rintro w' ⟨s0, s1, s2, s3, s4⟩; go_simp; with_reducible rfl
             rotate_left
             ·simp only [zy]; rfl
             refine zp 3 (some 44) (v := ?_) (a' := ?_) (bz 18 175) rfl rfl HT_.out zz zQ ?_ ?_ ?_; rotate_left
             ·intro w'; go_simp; with_reducible rfl
             rotate_left
             ·simp only [zy]; rfl
             refine take_ (i := 4) (N := some 45) (v := ?_) (a' := ?_) (bz 18 191) rfl rfl (take_ofW HT_.out HW_.out zz) zQ (Or.inl ⟨by rfl, ?_⟩) hHeld ?_ ?_; rotate_left
             ·rintro w' ⟨s0, s1, s2, s3, s4⟩; go_simp; with_reducible rfl
             rotate_left
             ·simp only [zy]; rfl
             refine take_ (i := 6) (N := some 47) (v := ?_) (a' := ?_) (bz 18 255) rfl rfl (take_ofW HT_.out HW_.out zz) zQ (Or.inl ⟨by rfl, ?_⟩) hHeld ?_ ?_; rotate_left
             ·rintro w' ⟨s0, s1, s2, s3, s4⟩; go_simp; with_reducible rfl
             rotate_left
             ·simp only [zy]; rfl
             refine zp 8 (some 49) (v := ?_) (a' := ?_) (bz 18 511) rfl rfl HT_.out zz zQ ?_ ?_ ?_; rotate_left
             ·intro w'; go_simp; with_reducible rfl
             rotate_left
             ·simp only [zy]; rfl
             refine take_ (i := 9) (N := some 50) (v := ?_) (a' := ?_) (bz 18 1023) rfl rfl (take_ofW HT_.out HW_.out zz) zQ (Or.inl ⟨by rfl, ?_⟩) hHeld ?_ ?_; rotate_left
             ·rintro w' ⟨s0, s1, s2, s3, s4⟩; go_simp; with_reducible rfl
             rotate_left
             ·simp only [zy]; rfl
             refine one_ (i := 10) (N := some 51) (bz 18 2047) rfl rfl (one_of HT_.out zz) (by decide) (fun K hK => ?_); refine goes_ Tryz.func24 zz rfl #[.agg #[.slice A457_0 ((rd_T48 l0_0 x4_1).f0).length c457_0, .int .i64 ((rd_T48 l0_0 x4_1).f1)]] (by rfl) rfl rfl zM ?_; with_reducible refine (leadtrailref08_Count.calls k2 _ _ ((rd_T48 l0_0 x4_1).f0) ((rd_T48 l0_0 x4_1).f1) t459 _ ?side1 ?side2 A14.out).mono ?_; (case side1 => exact zc (Kd.C_below HR458_0.out HB.out))
             (case side2 => exact HC458_0.out)
             rintro e w22 ⟨rfl, hb⟩; refine ⟨_, rfl, ?_⟩; have n0_ := zk (zbb BK453.out hb); have n1_ := zs HB hb; clear BK453; clear HB; have BK453 := n0_; have HB := n1_; clear n0_ n1_; (try clear hb); (try clear hb2); (try clear hk); (try clear hi); refine hK.out _ _ ⟨(blk_cell BK453.out 0).trans rfl, (zcl HB.out hw457_0), (zcl HB.out hw457_1), (zcl HB.out hw458_0), (zcl HB.out hw458_1)⟩ (fun hHeld => ?_); clear hK K; refine norm_ (a' := ?_) ?_ ?_; rotate_left
             ·show Act.put _ (some 51) _ = _; simp only [zy]; rfl
             refine zp 11 (some 52) (v := ?_) (a' := ?_) (bz 18 4095) rfl rfl HT_.out zz zQ ?_ ?_ ?_; rotate_left
             ·intro w'; go_simp; with_reducible rfl
             rotate_left
             ·simp only [zy]; rfl
             refine one_ (i := 12) (N := some 53) (bz 18 8191) rfl rfl (one_of HT_.out zz) (by decide) (fun K hK => ?_); refine goes_ Tryz.func23 zz rfl #[.agg #[.slice A457_0 ((rd_T48 l0_0 x4_1).f0).length c457_0, .int .i64 ((rd_T48 l0_0 x4_1).f1)], .int .i64 (wrap64 (t459 - 1))] (by rfl) rfl rfl zM ?_; with_reducible refine (leadtrailref09_Unrank.calls k2 _ _ ((rd_T48 l0_0 x4_1).f0) ((rd_T48 l0_0 x4_1).f1) (wrap64 (t459 - 1)) t460 t463 _ ?side1 ?side2 A15.out).mono ?_; (case side1 => exact zc (Kd.C_below HR457_0.out HB.out))
             (case side2 => exact HC457_0.out)
             rintro e w23 ⟨v461, rfl, ho0, hb⟩; refine ⟨_, rfl, ?_⟩; have n0_ := zk (Kd.R_lower ho0 (below_size (zU HB.out))); have n1_ := zk (zbb BK453.out hb); have n2_ := zs HB hb; clear BK453; clear HB; have HO462 := n0_; have BK453 := n1_; have HB := n2_; clear n0_ n1_ n2_; (try clear hb); (try clear hb2); (try clear hk); (try clear hi); (try clear ho0); refine hK.out _ _ ⟨(blk_cell BK453.out 0).trans rfl, (zcl HB.out hw457_0), (zcl HB.out hw457_1), (zcl HB.out hw458_0), (zcl HB.out hw458_1)⟩ (fun hHeld => ?_); clear hK K; refine norm_ (a' := ?_) ?_ ?_; rotate_left
             ·show Act.put _ (some 53) _ = _; simp only [zy]; rfl
             refine zp 13 (some 40) (v := ?_) (a' := ?_) (bz 18 16383) rfl rfl HT_.out zz zQ ?_ ?_ ?_; rotate_left
             ·intro w'; go_simp; with_reducible rfl
             rotate_left
             ·simp only [zy]; rfl
             refine zp 14 (some 54) (v := ?_) (a' := ?_) (bz 18 32767) rfl rfl HT_.out zz zQ ?_ ?_ ?_; rotate_left
             ·intro w'; go_simp; with_reducible rfl
             rotate_left
             ·simp only [zy]; rfl
             refine zp 15 (some 55) (v := ?_) (a' := ?_) (bz 18 65535) rfl rfl HT_.out zz zQ ?_ ?_ ?_; rotate_left
             ·intro w'; go_simp; with_reducible rfl
             rotate_left
             ·simp only [zy]; rfl
             refine zp 16 (some 6) (v := ?_) (a' := ?_) (bz 18 131071) rfl rfl HT_.out zz zQ ?_ ?_ ?_; rotate_left
             ·intro w'; go_simp; with_reducible rfl
             rotate_left
             ·simp only [zy]; rfl
             refine zp 17 (some 7) (v := ?_) (a' := ?_) (bz 18 262143) rfl rfl HT_.out zz zQ ?_ ?_ ?_; rotate_left
             ·intro w'; go_simp; with_reducible rfl
             rotate_left
             ·simp only [zy]; rfl
             refine done_ (done_of HT_.out zz) ?_; have hcz24_0 : w23.cell? ⟨gb453, 0, none⟩ = some (.slice (some ad455) l0_0.length c0_0) := zh BK453.out 0; have hfz24_0 := blk_frozen BK453.out 0; have p464 : 0 ≤ (x5_2 : Int) := zT; have q464 : x5_2 < (l0_0.length : Int) := zT; obtain ⟨ad464, A464_0, c464_0, e464, hx464_0, hx464_1, hl464_0, hi464_0⟩ := at_T48 HR0_0.out x5_2 p464 q464; obtain rfl : ad455 = ad464 := (by injection e464); replace hx464_0 := zcl HB.out hx464_0; replace hx464_1 := zcl HB.out hx464_1; have HR464_0 := zk hi464_0; have HC464_0 := zk hl464_0; clear hi464_0 hl464_0; replace p464 := eq_true p464; replace q464 := eq_true q464; try go_wp2_with (first | ((with_reducible refine gate_callee (f := 23) rfl ?_); refine goesL_ (some 62) rfl rfl Tryz.func23 zz rfl #[.agg #[.slice A464_0 ((rd_T48 l0_0 x5_2).f0).length c464_0, .int .i64 ((rd_T48 l0_0 x5_2).f1)], .int .i64 0] rfl zM ?_; (with_reducible refine (leadtrailref09_Unrank.calls k2 _ _ ((rd_T48 l0_0 x5_2).f0) ((rd_T48 l0_0 x5_2).f1) 0 t465 t468 _ ?side1 ?side2 A16.out).mono ?_); (case side1 => exact zc (Kd.C_below HR464_0.out HB.out)); (case side2 => exact HC464_0.out); rintro e w25 ⟨v466, rfl, ho0, hb⟩; refine ⟨_, rfl, ?_⟩; have HO467 := zk (Kd.R_lower (Kd.R_new' ho0 (Kd.R_lt (zr HO462.out))) (below_size (zU HB.out))); replace HO462 := zk (Kd.R_elder' (zr HO462.out) (Kd.R_base ho0) hb); replace BK453 := zk (zbb BK453.out hb); replace HB := zs HB hb;  (try clear hb); (try clear hb2); (try clear hk); (try clear hi); (try clear ho0); obtain ⟨Ao26, co26, eo26⟩ := Kd.R_slice HO462.out; subst eo26; obtain ⟨Ao27, co27, eo27⟩ := Kd.R_slice HO467.out; subst eo27) | ((with_reducible refine gate_callee (f := 10) rfl ?_); refine goesL_ (some 67) rfl rfl Tryz.func10 zz rfl #[.slice Ao26 t460.length co26, .slice Ao27 t465.length co27] rfl zM ?_; (with_reducible refine (leadtrailref12_Less.calls k2 _ _ t460 _ _ t465 true _ ?side1 ?side2 ?side3 ?side4 A17.out).mono ?_); (case side1 => exact zc (Kd.R_reads' HO462.out).2.2); (case side2 => exact (Kd.R_reads' HO462.out).2.1); (case side3 => exact zc (Kd.R_reads' HO467.out).2.2); (case side4 => exact (Kd.R_reads' HO467.out).2.1); rintro e w' ⟨rfl, ⟨nd, rfl⟩⟩; refine ⟨_, rfl, ?_⟩))
             go_roundg k2
             case measure => have := HK1.out; have := HK2.out; omega
             case rel => exact ⟨(wrap64 (x5_2 + 1)), zR, H', ⟨by have := HK1.out; have := HK2.out; omega⟩, ⟨zb BK453.out⟩, ⟨zU HB.out⟩⟩
            ·replace c18 := Bool.eq_false_iff.mpr c18; subst c18; have H1 : (some (false, 0)) = some (r1, r2) := by rw [if_neg (show ¬ (false = true) by decide)] at H; exact H
             clear H; have H := H1; clear H1; simp only [Option.some.injEq, Prod.mk.injEq] at H; obtain ⟨rfl, rfl⟩ := H; have hcz28_0 : wr.cell? ⟨gb453, 0, none⟩ = some (.slice A0_0 l0_0.length c0_0) := zh BK453.out 0; have hfz28_0 := blk_frozen BK453.out 0; try go_wp2
             have n0_ := zk (blk_drew BK453.out); have n1_ := zk (below_drew1 HB.out); clear BK453; clear HB; have BK453 := n0_; have HB := n1_; clear n0_ n1_; have p455 : 0 ≤ (x4_1 : Int) := zT; have q455 : x4_1 < (l0_0.length : Int) := zT; obtain ⟨ad455, A455_0, c455_0, e455, hx455_0, hx455_1, hl455_0, hi455_0⟩ := at_T48 HR0_0.out x4_1 p455 q455; have hw455_1 := hx455_1; have hw455_0 := hx455_0; cases e455; replace hx455_0 := zcl HB.out hx455_0; replace hx455_1 := zcl HB.out hx455_1; have HR455_0 := zk hi455_0; have HC455_0 := zk hl455_0; clear hi455_0 hl455_0; replace p455 := eq_true p455; replace q455 := eq_true q455; have p456 : 0 ≤ (x5_2 : Int) := zT; have q456 : x5_2 < (l0_0.length : Int) := zT; obtain ⟨ad456, A456_0, c456_0, e456, hx456_0, hx456_1, hl456_0, hi456_0⟩ := at_T48 HR0_0.out x5_2 p456 q456; have hw456_1 := hx456_1; have hw456_0 := hx456_0; obtain rfl : ad455 = ad456 := (by injection e456); replace hx456_0 := zcl HB.out hx456_0; replace hx456_1 := zcl HB.out hx456_1; have HR456_0 := zk hi456_0; have HC456_0 := zk hl456_0; clear hi456_0 hl456_0; replace p456 := eq_true p456; replace q456 := eq_true q456; refine start_ (n := 13) (S := fun w' => w'.cell? ⟨gb453, 0, none⟩ = some (.slice (some ad455) l0_0.length c0_0) ∧ w'.cell? (ad455.add ((x4_1).toNat * 2)) = some (.slice A455_0 ((rd_T48 l0_0 x4_1).f0).length c455_0) ∧ w'.cell? ⟨(ad455.add ((x4_1).toNat * 2)).block, (ad455.add ((x4_1).toNat * 2)).off + 1, none⟩ = some (.int .i64 ((rd_T48 l0_0 x4_1).f1)) ∧ w'.cell? (ad455.add ((x5_2).toNat * 2)) = some (.slice A456_0 ((rd_T48 l0_0 x5_2).f0).length c456_0) ∧ w'.cell? ⟨(ad455.add ((x5_2).toNat * 2)).block, (ad455.add ((x5_2).toNat * 2)).off + 1, none⟩ = some (.int .i64 ((rd_T48 l0_0 x5_2).f1))) (ds := []) #[false, false, false, false, false, false, false, false, false, false, false, false, false] zz rfl rfl ⟨(blk_cell BK453.out 0).trans rfl, (zcl HB.out hw455_0), (zcl HB.out hw455_1), (zcl HB.out hw456_0), (zcl HB.out hw456_1)⟩ (fun hHeld => ?_); refine with_tabW leadtrailref12_Check.tab9 leadtrailref12_Check.bits9 (fun HT_ HW_ => ?_); generalize wr.drew = w29 at BK453 HB HR455_0 HR456_0 hx455_0 hx455_1 hx456_0 hx456_1 hHeld ⊢; refine zp 0 (some 27) (v := ?_) (a' := ?_) (bz 13 1) rfl rfl HT_.out zz zQ ?_ ?_ ?_; rotate_left
             ·intro w'; go_simp; with_reducible rfl
             rotate_left
             ·simp only [zy]; rfl
             refine zp 2 (some 29) (v := ?_) (a' := ?_) (bz 13 5) rfl rfl HT_.out zz zQ ?_ ?_ ?_; rotate_left
             ·intro w'; go_simp; with_reducible rfl
             rotate_left
             ·simp only [zy]; rfl
             refine zp 6 (some 33) (v := ?_) (a' := ?_) (bz 13 69) rfl rfl HT_.out zz zQ ?_ ?_ ?_; rotate_left
             ·intro w'; go_simp; with_reducible rfl
             rotate_left
             ·simp only [zy]; rfl
             refine zp 8 (some 35) (v := ?_) (a' := ?_) (bz 13 325) rfl rfl HT_.out zz zQ ?_ ?_ ?_; rotate_left
             ·intro w'; go_simp; with_reducible rfl
             rotate_left
             ·simp only [zy]; rfl
             refine take_ (i := 1) (N := some 28) (v := ?_) (a' := ?_) (bz 13 327) rfl rfl (take_ofW HT_.out HW_.out zz) zQ (Or.inl ⟨by rfl, ?_⟩) hHeld ?_ ?_; rotate_left
             ·rintro w' ⟨s0, s1, s2, s3, s4⟩; go_simp; with_reducible rfl
             rotate_left
             ·simp only [zy]; rfl
             refine zp 3 (some 30) (v := ?_) (a' := ?_) (bz 13 335) rfl rfl HT_.out zz zQ ?_ ?_ ?_; rotate_left
             ·intro w'; go_simp; with_reducible rfl
             rotate_left
             ·simp only [zy]; rfl
             refine zp 4 (some 31) (v := ?_) (a' := ?_) (bz 13 351) rfl rfl HT_.out zz zQ ?_ ?_ ?_; rotate_left
             ·intro w'; go_simp; with_reducible rfl
             rotate_left
             ·simp only [zy]; rfl
             refine take_ (i := 5) (N := some 32) (v := ?_) (a' := ?_) (bz 13 383) rfl rfl (take_ofW HT_.out HW_.out zz) zQ (Or.inl ⟨by rfl, ?_⟩) hHeld ?_ ?_; rotate_left
             ·rintro w' ⟨s0, s1, s2, s3, s4⟩; go_simp; with_reducible rfl
             rotate_left
             ·simp only [zy]; rfl
             refine take_ (i := 7) (N := some 34) (v := ?_) (a' := ?_) (bz 13 511) rfl rfl (take_ofW HT_.out HW_.out zz) zQ (Or.inl ⟨by rfl, ?_⟩) hHeld ?_ ?_; rotate_left
             ·rintro w' ⟨s0, s1, s2, s3, s4⟩; go_simp; with_reducible rfl
             rotate_left
             ·simp only [zy]; rfl
             refine zp 9 (some 36) (v := ?_) (a' := ?_) (bz 13 1023) rfl rfl HT_.out zz zQ ?_ ?_ ?_; rotate_left
             ·intro w'; go_simp; with_reducible rfl
             rotate_left
             ·simp only [zy]; rfl
             refine zp 10 (some 37) (v := ?_) (a' := ?_) (bz 13 2047) rfl rfl HT_.out zz zQ ?_ ?_ ?_; rotate_left
             ·intro w'; go_simp; with_reducible rfl
             rotate_left
             ·simp only [zy]; rfl
             refine take_ (i := 11) (N := some 38) (v := ?_) (a' := ?_) (bz 13 4095) rfl rfl (take_ofW HT_.out HW_.out zz) zQ (Or.inl ⟨by rfl, ?_⟩) hHeld ?_ ?_; rotate_left
             ·rintro w' ⟨s0, s1, s2, s3, s4⟩; go_simp; with_reducible rfl
             rotate_left
             ·simp only [zy]; rfl
             refine zp 12 (some 39) (v := ?_) (a' := ?_) (bz 13 8191) rfl rfl HT_.out zz zQ ?_ ?_ ?_; rotate_left
             ·intro w'; go_simp; with_reducible rfl
             rotate_left
             ·simp only [zy]; rfl
             refine done_ (done_of HT_.out zz) ?_; try go_wp2
             have n0_ := zk (blk_drew BK453.out); have n1_ := zk (below_drew1 HB.out); clear BK453; clear HB; have BK453 := n0_; have HB := n1_; clear n0_ n1_; have p457 : 0 ≤ (x4_1 : Int) := zT; have q457 : x4_1 < (l0_0.length : Int) := zT; obtain ⟨ad457, A457_0, c457_0, e457, hx457_0, hx457_1, hl457_0, hi457_0⟩ := at_T48 HR0_0.out x4_1 p457 q457; have hw457_1 := hx457_1; have hw457_0 := hx457_0; obtain rfl : ad455 = ad457 := (by injection e457); replace hx457_0 := zcl HB.out hx457_0; replace hx457_1 := zcl HB.out hx457_1; have HR457_0 := zk hi457_0; have HC457_0 := zk hl457_0; clear hi457_0 hl457_0; replace p457 := eq_true p457; replace q457 := eq_true q457; have p458 : 0 ≤ (x4_1 : Int) := zT; have q458 : x4_1 < (l0_0.length : Int) := zT; obtain ⟨ad458, A458_0, c458_0, e458, hx458_0, hx458_1, hl458_0, hi458_0⟩ := at_T48 HR0_0.out x4_1 p458 q458; have hw458_1 := hx458_1; have hw458_0 := hx458_0; obtain rfl : ad455 = ad458 := (by injection e458); replace hx458_0 := zcl HB.out hx458_0; replace hx458_1 := zcl HB.out hx458_1; have HR458_0 := zk hi458_0; have HC458_0 := zk hl458_0; clear hi458_0 hl458_0; replace p458 := eq_true p458; replace q458 := eq_true q458; have ea_ := Option.some.inj (hx457_0.symm.trans hx458_0); injection ea_ with ea_ en_ ec_
             subst ea_; subst ec_; clear en_; refine start_ (n := 18) (S := fun w' => w'.cell? ⟨gb453, 0, none⟩ = some (.slice (some ad455) l0_0.length c0_0) ∧ w'.cell? (ad455.add ((x4_1).toNat * 2)) = some (.slice A457_0 ((rd_T48 l0_0 x4_1).f0).length c457_0) ∧ w'.cell? ⟨(ad455.add ((x4_1).toNat * 2)).block, (ad455.add ((x4_1).toNat * 2)).off + 1, none⟩ = some (.int .i64 ((rd_T48 l0_0 x4_1).f1)) ∧ w'.cell? (ad455.add ((x4_1).toNat * 2)) = some (.slice A457_0 ((rd_T48 l0_0 x4_1).f0).length c457_0) ∧ w'.cell? ⟨(ad455.add ((x4_1).toNat * 2)).block, (ad455.add ((x4_1).toNat * 2)).off + 1, none⟩ = some (.int .i64 ((rd_T48 l0_0 x4_1).f1))) (ds := []) #[false, false, false, false, false, false, false, false, false, false, false, false, false, false, false, false, false, false] zz rfl rfl ⟨(blk_cell BK453.out 0).trans rfl, (zcl HB.out hw457_0), (zcl HB.out hw457_1), (zcl HB.out hw458_0), (zcl HB.out hw458_1)⟩ (fun hHeld => ?_); refine with_tabW leadtrailref12_Check.tab10 leadtrailref12_Check.bits10 (fun HT_ HW_ => ?_); generalize w29.drew = w30 at BK453 HB HR457_0 HR458_0 hx457_0 hx457_1 hx458_0 hx458_1 hHeld ⊢; refine zp 0 (some 41) (v := ?_) (a' := ?_) (bz 18 1) rfl rfl HT_.out zz zQ ?_ ?_ ?_; rotate_left
             ·intro w'; go_simp; with_reducible rfl
             rotate_left
             ·simp only [zy]; rfl
             refine zp 2 (some 43) (v := ?_) (a' := ?_) (bz 18 5) rfl rfl HT_.out zz zQ ?_ ?_ ?_; rotate_left
             ·intro w'; go_simp; with_reducible rfl
             rotate_left
             ·simp only [zy]; rfl
             refine zp 5 (some 46) (v := ?_) (a' := ?_) (bz 18 37) rfl rfl HT_.out zz zQ ?_ ?_ ?_; rotate_left
             ·intro w'; go_simp; with_reducible rfl
             rotate_left
             ·simp only [zy]; rfl
             refine zp 7 (some 48) (v := ?_) (a' := ?_) (bz 18 165) rfl rfl HT_.out zz zQ ?_ ?_ ?_; rotate_left
             ·intro w'; go_simp; with_reducible rfl
             rotate_left
             ·simp only [zy]; rfl
             refine take_ (i := 1) (N := some 42) (v := ?_) (a' := ?_) (bz 18 167) rfl rfl (take_ofW HT_.out HW_.out zz) zQ (Or.inl ⟨by rfl, ?_⟩) hHeld ?_ ?_; rotate_left
             ·rintro w' ⟨s0, s1, s2, s3, s4⟩; go_simp; with_reducible rfl
             rotate_left
             ·simp only [zy]; rfl
             refine zp 3 (some 44) (v := ?_) (a' := ?_) (bz 18 175) rfl rfl HT_.out zz zQ ?_ ?_ ?_; rotate_left
             ·intro w'; go_simp; with_reducible rfl
             rotate_left
             ·simp only [zy]; rfl
             refine take_ (i := 4) (N := some 45) (v := ?_) (a' := ?_) (bz 18 191) rfl rfl (take_ofW HT_.out HW_.out zz) zQ (Or.inl ⟨by rfl, ?_⟩) hHeld ?_ ?_; rotate_left
             ·rintro w' ⟨s0, s1, s2, s3, s4⟩; go_simp; with_reducible rfl
             rotate_left
             ·simp only [zy]; rfl
             refine take_ (i := 6) (N := some 47) (v := ?_) (a' := ?_) (bz 18 255) rfl rfl (take_ofW HT_.out HW_.out zz) zQ (Or.inl ⟨by rfl, ?_⟩) hHeld ?_ ?_; rotate_left
             ·rintro w' ⟨s0, s1, s2, s3, s4⟩; go_simp; with_reducible rfl
             rotate_left
             ·simp only [zy]; rfl
             refine zp 8 (some 49) (v := ?_) (a' := ?_) (bz 18 511) rfl rfl HT_.out zz zQ ?_ ?_ ?_; rotate_left
             ·intro w'; go_simp; with_reducible rfl
             rotate_left
             ·simp only [zy]; rfl
             refine take_ (i := 9) (N := some 50) (v := ?_) (a' := ?_) (bz 18 1023) rfl rfl (take_ofW HT_.out HW_.out zz) zQ (Or.inl ⟨by rfl, ?_⟩) hHeld ?_ ?_; rotate_left
             ·rintro w' ⟨s0, s1, s2, s3, s4⟩; go_simp; with_reducible rfl
             rotate_left
             ·simp only [zy]; rfl
             refine one_ (i := 10) (N := some 51) (bz 18 2047) rfl rfl (one_of HT_.out zz) (by decide) (fun K hK => ?_); refine goes_ Tryz.func24 zz rfl #[.agg #[.slice A457_0 ((rd_T48 l0_0 x4_1).f0).length c457_0, .int .i64 ((rd_T48 l0_0 x4_1).f1)]] (by rfl) rfl rfl zM ?_; with_reducible refine (leadtrailref08_Count.calls k2 _ _ ((rd_T48 l0_0 x4_1).f0) ((rd_T48 l0_0 x4_1).f1) t459 _ ?side1 ?side2 A14.out).mono ?_; (case side1 => exact zc (Kd.C_below HR458_0.out HB.out))
             (case side2 => exact HC458_0.out)
             rintro e w31 ⟨rfl, hb⟩; refine ⟨_, rfl, ?_⟩; have n0_ := zk (zbb BK453.out hb); have n1_ := zs HB hb; clear BK453; clear HB; have BK453 := n0_; have HB := n1_; clear n0_ n1_; (try clear hb); (try clear hb2); (try clear hk); (try clear hi); refine hK.out _ _ ⟨(blk_cell BK453.out 0).trans rfl, (zcl HB.out hw457_0), (zcl HB.out hw457_1), (zcl HB.out hw458_0), (zcl HB.out hw458_1)⟩ (fun hHeld => ?_); clear hK K; refine norm_ (a' := ?_) ?_ ?_; rotate_left
             ·show Act.put _ (some 51) _ = _; simp only [zy]; rfl
             refine zp 11 (some 52) (v := ?_) (a' := ?_) (bz 18 4095) rfl rfl HT_.out zz zQ ?_ ?_ ?_; rotate_left
             ·intro w'; go_simp; with_reducible rfl
             rotate_left
             ·simp only [zy]; rfl
             refine one_ (i := 12) (N := some 53) (bz 18 8191) rfl rfl (one_of HT_.out zz) (by decide) (fun K hK => ?_); refine goes_ Tryz.func23 zz rfl #[.agg #[.slice A457_0 ((rd_T48 l0_0 x4_1).f0).length c457_0, .int .i64 ((rd_T48 l0_0 x4_1).f1)], .int .i64 (wrap64 (t459 - 1))] (by rfl) rfl rfl zM ?_; with_reducible refine (leadtrailref09_Unrank.calls k2 _ _ ((rd_T48 l0_0 x4_1).f0) ((rd_T48 l0_0 x4_1).f1) (wrap64 (t459 - 1)) t460 t463 _ ?side1 ?side2 A15.out).mono ?_; (case side1 => exact zc (Kd.C_below HR457_0.out HB.out))
             (case side2 => exact HC457_0.out)
             rintro e w32 ⟨v461, rfl, ho0, hb⟩; refine ⟨_, rfl, ?_⟩; have n0_ := zk (Kd.R_lower ho0 (below_size (zU HB.out))); have n1_ := zk (zbb BK453.out hb); have n2_ := zs HB hb; clear BK453; clear HB; have HO462 := n0_; have BK453 := n1_; have HB := n2_; clear n0_ n1_ n2_; (try clear hb); (try clear hb2); (try clear hk); (try clear hi); (try clear ho0); refine hK.out _ _ ⟨(blk_cell BK453.out 0).trans rfl, (zcl HB.out hw457_0), (zcl HB.out hw457_1), (zcl HB.out hw458_0), (zcl HB.out hw458_1)⟩ (fun hHeld => ?_); clear hK K; refine norm_ (a' := ?_) ?_ ?_; rotate_left
             ·show Act.put _ (some 53) _ = _; simp only [zy]; rfl
             refine zp 13 (some 40) (v := ?_) (a' := ?_) (bz 18 16383) rfl rfl HT_.out zz zQ ?_ ?_ ?_; rotate_left
             ·intro w'; go_simp; with_reducible rfl
             rotate_left
             ·simp only [zy]; rfl
             refine zp 14 (some 54) (v := ?_) (a' := ?_) (bz 18 32767) rfl rfl HT_.out zz zQ ?_ ?_ ?_; rotate_left
             ·intro w'; go_simp; with_reducible rfl
             rotate_left
             ·simp only [zy]; rfl
             refine zp 15 (some 55) (v := ?_) (a' := ?_) (bz 18 65535) rfl rfl HT_.out zz zQ ?_ ?_ ?_; rotate_left
             ·intro w'; go_simp; with_reducible rfl
             rotate_left
             ·simp only [zy]; rfl
             refine zp 16 (some 6) (v := ?_) (a' := ?_) (bz 18 131071) rfl rfl HT_.out zz zQ ?_ ?_ ?_; rotate_left
             ·intro w'; go_simp; with_reducible rfl
             rotate_left
             ·simp only [zy]; rfl
             refine zp 17 (some 7) (v := ?_) (a' := ?_) (bz 18 262143) rfl rfl HT_.out zz zQ ?_ ?_ ?_; rotate_left
             ·intro w'; go_simp; with_reducible rfl
             rotate_left
             ·simp only [zy]; rfl
             refine done_ (done_of HT_.out zz) ?_; have hcz33_0 : w32.cell? ⟨gb453, 0, none⟩ = some (.slice (some ad455) l0_0.length c0_0) := zh BK453.out 0; have hfz33_0 := blk_frozen BK453.out 0; have p464 : 0 ≤ (x5_2 : Int) := zT; have q464 : x5_2 < (l0_0.length : Int) := zT; obtain ⟨ad464, A464_0, c464_0, e464, hx464_0, hx464_1, hl464_0, hi464_0⟩ := at_T48 HR0_0.out x5_2 p464 q464; obtain rfl : ad455 = ad464 := (by injection e464); replace hx464_0 := zcl HB.out hx464_0; replace hx464_1 := zcl HB.out hx464_1; have HR464_0 := zk hi464_0; have HC464_0 := zk hl464_0; clear hi464_0 hl464_0; replace p464 := eq_true p464; replace q464 := eq_true q464; try go_wp2_with (first | ((with_reducible refine gate_callee (f := 23) rfl ?_); refine goesL_ (some 62) rfl rfl Tryz.func23 zz rfl #[.agg #[.slice A464_0 ((rd_T48 l0_0 x5_2).f0).length c464_0, .int .i64 ((rd_T48 l0_0 x5_2).f1)], .int .i64 0] rfl zM ?_; (with_reducible refine (leadtrailref09_Unrank.calls k2 _ _ ((rd_T48 l0_0 x5_2).f0) ((rd_T48 l0_0 x5_2).f1) 0 t465 t468 _ ?side1 ?side2 A16.out).mono ?_); (case side1 => exact zc (Kd.C_below HR464_0.out HB.out)); (case side2 => exact HC464_0.out); rintro e w34 ⟨v466, rfl, ho0, hb⟩; refine ⟨_, rfl, ?_⟩; have HO467 := zk (Kd.R_lower (Kd.R_new' ho0 (Kd.R_lt (zr HO462.out))) (below_size (zU HB.out))); replace HO462 := zk (Kd.R_elder' (zr HO462.out) (Kd.R_base ho0) hb); replace BK453 := zk (zbb BK453.out hb); replace HB := zs HB hb;  (try clear hb); (try clear hb2); (try clear hk); (try clear hi); (try clear ho0); obtain ⟨Ao35, co35, eo35⟩ := Kd.R_slice HO462.out; subst eo35; obtain ⟨Ao36, co36, eo36⟩ := Kd.R_slice HO467.out; subst eo36) | ((with_reducible refine gate_callee (f := 10) rfl ?_); refine goesL_ (some 67) rfl rfl Tryz.func10 zz rfl #[.slice Ao35 t460.length co35, .slice Ao36 t465.length co36] rfl zM ?_; (with_reducible refine (leadtrailref12_Less.calls k2 _ _ t460 _ _ t465 false _ ?side1 ?side2 ?side3 ?side4 A17.out).mono ?_); (case side1 => exact zc (Kd.R_reads' HO462.out).2.2); (case side2 => exact (Kd.R_reads' HO462.out).2.1); (case side3 => exact zc (Kd.R_reads' HO467.out).2.2); (case side4 => exact (Kd.R_reads' HO467.out).2.1); rintro e w' ⟨rfl, ⟨nd, rfl⟩⟩; refine ⟨_, rfl, ?_⟩))
             go_ret2
             exact ⟨ze, zU HB.out⟩
           ·rw [if_neg c13] at H; have c13b0 : decide (((rd_T48 l0_0 x4_1).f1) < ((rd_T48 l0_0 x5_2).f1)) = false := decide_eq_false c13; clear c13; have H' := zk H; clear H; have hcz37_0 : wr.cell? ⟨gb453, 0, none⟩ = some (.slice A0_0 l0_0.length c0_0) := zh BK453.out 0; have hfz37_0 := blk_frozen BK453.out 0; try go_wp2
            have n0_ := zk (blk_drew BK453.out); have n1_ := zk (below_drew1 HB.out); clear BK453; clear HB; have BK453 := n0_; have HB := n1_; clear n0_ n1_; have p455 : 0 ≤ (x4_1 : Int) := zT; have q455 : x4_1 < (l0_0.length : Int) := zT; obtain ⟨ad455, A455_0, c455_0, e455, hx455_0, hx455_1, hl455_0, hi455_0⟩ := at_T48 HR0_0.out x4_1 p455 q455; have hw455_1 := hx455_1; have hw455_0 := hx455_0; cases e455; replace hx455_0 := zcl HB.out hx455_0; replace hx455_1 := zcl HB.out hx455_1; have HR455_0 := zk hi455_0; have HC455_0 := zk hl455_0; clear hi455_0 hl455_0; replace p455 := eq_true p455; replace q455 := eq_true q455; have p456 : 0 ≤ (x5_2 : Int) := zT; have q456 : x5_2 < (l0_0.length : Int) := zT; obtain ⟨ad456, A456_0, c456_0, e456, hx456_0, hx456_1, hl456_0, hi456_0⟩ := at_T48 HR0_0.out x5_2 p456 q456; have hw456_1 := hx456_1; have hw456_0 := hx456_0; obtain rfl : ad455 = ad456 := (by injection e456); replace hx456_0 := zcl HB.out hx456_0; replace hx456_1 := zcl HB.out hx456_1; have HR456_0 := zk hi456_0; have HC456_0 := zk hl456_0; clear hi456_0 hl456_0; replace p456 := eq_true p456; replace q456 := eq_true q456; refine start_ (n := 13) (S := fun w' => w'.cell? ⟨gb453, 0, none⟩ = some (.slice (some ad455) l0_0.length c0_0) ∧ w'.cell? (ad455.add ((x4_1).toNat * 2)) = some (.slice A455_0 ((rd_T48 l0_0 x4_1).f0).length c455_0) ∧ w'.cell? ⟨(ad455.add ((x4_1).toNat * 2)).block, (ad455.add ((x4_1).toNat * 2)).off + 1, none⟩ = some (.int .i64 ((rd_T48 l0_0 x4_1).f1)) ∧ w'.cell? (ad455.add ((x5_2).toNat * 2)) = some (.slice A456_0 ((rd_T48 l0_0 x5_2).f0).length c456_0) ∧ w'.cell? ⟨(ad455.add ((x5_2).toNat * 2)).block, (ad455.add ((x5_2).toNat * 2)).off + 1, none⟩ = some (.int .i64 ((rd_T48 l0_0 x5_2).f1))) (ds := []) #[false, false, false, false, false, false, false, false, false, false, false, false, false] zz rfl rfl ⟨(blk_cell BK453.out 0).trans rfl, (zcl HB.out hw455_0), (zcl HB.out hw455_1), (zcl HB.out hw456_0), (zcl HB.out hw456_1)⟩ (fun hHeld => ?_); refine with_tabW leadtrailref12_Check.tab9 leadtrailref12_Check.bits9 (fun HT_ HW_ => ?_); generalize wr.drew = w38 at BK453 HB HR455_0 HR456_0 hx455_0 hx455_1 hx456_0 hx456_1 hHeld ⊢; refine zp 0 (some 27) (v := ?_) (a' := ?_) (bz 13 1) rfl rfl HT_.out zz zQ ?_ ?_ ?_; rotate_left
            ·intro w'; go_simp; with_reducible rfl
            rotate_left
            ·simp only [zy]; rfl
            refine zp 2 (some 29) (v := ?_) (a' := ?_) (bz 13 5) rfl rfl HT_.out zz zQ ?_ ?_ ?_; rotate_left
            ·intro w'; go_simp; with_reducible rfl
            rotate_left
            ·simp only [zy]; rfl
            refine zp 6 (some 33) (v := ?_) (a' := ?_) (bz 13 69) rfl rfl HT_.out zz zQ ?_ ?_ ?_; rotate_left
            ·intro w'; go_simp; with_reducible rfl
            rotate_left
            ·simp only [zy]; rfl
            refine zp 8 (some 35) (v := ?_) (a' := ?_) (bz 13 325) rfl rfl HT_.out zz zQ ?_ ?_ ?_; rotate_left
            ·intro w'; go_simp; with_reducible rfl
            rotate_left
            ·simp only [zy]; rfl
            refine take_ (i := 1) (N := some 28) (v := ?_) (a' := ?_) (bz 13 327) rfl rfl (take_ofW HT_.out HW_.out zz) zQ (Or.inl ⟨by rfl, ?_⟩) hHeld ?_ ?_; rotate_left
            ·rintro w' ⟨s0, s1, s2, s3, s4⟩; go_simp; with_reducible rfl
            rotate_left
            ·simp only [zy]; rfl
            refine zp 3 (some 30) (v := ?_) (a' := ?_) (bz 13 335) rfl rfl HT_.out zz zQ ?_ ?_ ?_; rotate_left
            ·intro w'; go_simp; with_reducible rfl
            rotate_left
            ·simp only [zy]; rfl
            refine zp 4 (some 31) (v := ?_) (a' := ?_) (bz 13 351) rfl rfl HT_.out zz zQ ?_ ?_ ?_; rotate_left
            ·intro w'; go_simp; with_reducible rfl
            rotate_left
            ·simp only [zy]; rfl
            refine take_ (i := 5) (N := some 32) (v := ?_) (a' := ?_) (bz 13 383) rfl rfl (take_ofW HT_.out HW_.out zz) zQ (Or.inl ⟨by rfl, ?_⟩) hHeld ?_ ?_; rotate_left
            ·rintro w' ⟨s0, s1, s2, s3, s4⟩; go_simp; with_reducible rfl
            rotate_left
            ·simp only [zy]; rfl
            refine take_ (i := 7) (N := some 34) (v := ?_) (a' := ?_) (bz 13 511) rfl rfl (take_ofW HT_.out HW_.out zz) zQ (Or.inl ⟨by rfl, ?_⟩) hHeld ?_ ?_; rotate_left
            ·rintro w' ⟨s0, s1, s2, s3, s4⟩; go_simp; with_reducible rfl
            rotate_left
            ·simp only [zy]; rfl
            refine zp 9 (some 36) (v := ?_) (a' := ?_) (bz 13 1023) rfl rfl HT_.out zz zQ ?_ ?_ ?_; rotate_left
            ·intro w'; go_simp; with_reducible rfl
            rotate_left
            ·simp only [zy]; rfl
            refine zp 10 (some 37) (v := ?_) (a' := ?_) (bz 13 2047) rfl rfl HT_.out zz zQ ?_ ?_ ?_; rotate_left
            ·intro w'; go_simp; with_reducible rfl
            rotate_left
            ·simp only [zy]; rfl
            refine take_ (i := 11) (N := some 38) (v := ?_) (a' := ?_) (bz 13 4095) rfl rfl (take_ofW HT_.out HW_.out zz) zQ (Or.inl ⟨by rfl, ?_⟩) hHeld ?_ ?_; rotate_left
            ·rintro w' ⟨s0, s1, s2, s3, s4⟩; go_simp; with_reducible rfl
            rotate_left
            ·simp only [zy]; rfl
            refine zp 12 (some 39) (v := ?_) (a' := ?_) (bz 13 8191) rfl rfl HT_.out zz zQ ?_ ?_ ?_; rotate_left
            ·intro w'; go_simp; with_reducible rfl
            rotate_left
            ·simp only [zy]; rfl
            refine done_ (done_of HT_.out zz) ?_; try go_wp2
            go_roundg k2
            case measure => have := HK1.out; have := HK2.out; omega
            case rel => exact ⟨(wrap64 (x5_2 + 1)), zR, H', ⟨by have := HK1.out; have := HK2.out; omega⟩, ⟨zb BK453.out⟩, ⟨zU HB.out⟩⟩
          ·rw [if_neg c12] at H; cases H
         ·rw [if_neg c11] at H; cases H
        ·rw [if_neg c10] at H; cases H
       ·rw [if_neg c9] at H; have c9b0 : decide (x5_2 < (l0_0.length : Int)) = false := decide_eq_false c9; clear c9; have H' := zk H; clear H; have hcz39_0 : wr.cell? ⟨gb453, 0, none⟩ = some (.slice A0_0 l0_0.length c0_0) := zh BK453.out 0; have hfz39_0 := blk_frozen BK453.out 0; go_wp2
        go_roundg k2
        case measure => have := HK1.out; have := HK2.out; omega
        case rel => exact ⟨(wrap64 (x4_1 + 1)), zR, H', ⟨by have := HK1.out; have := HK2.out; omega⟩, ⟨zb BK453.out⟩, ⟨zU HB.out⟩⟩
    ·rw [if_neg c7] at H; have c7b0 : decide (x4_1 < (l0_0.length : Int)) = false := decide_eq_false c7; clear c7; simp only [Option.some.injEq, Prod.mk.injEq] at H; obtain ⟨rfl, rfl⟩ := H; have hcz40_0 : wr.cell? ⟨gb453, 0, none⟩ = some (.slice A0_0 l0_0.length c0_0) := zh BK453.out 0; have hfz40_0 := blk_frozen BK453.out 0; go_wp2
     go_ret2
     exact ⟨ze, zU HB.out⟩
 ·replace c3 := Bool.eq_false_iff.mpr c3; subst c3; have H1 : (some (false, 84)) = some (r1, r2) := by rw [if_neg (show ¬ (false = true) by decide)] at H; exact H
  clear H; have H := H1; clear H1; simp only [Option.some.injEq, Prod.mk.injEq] at H; obtain ⟨rfl, rfl⟩ := H; go_enter Tryz.func8, Tryz.ntmps8
  go_wp2_with (first | ((with_reducible refine gate_dst (N := 1) rfl ?_); refine box_event ?hg (N := 1) ?hd (cs := #[.slice A0_0 l0_0.length c0_0]) (t := 24) ?hr ?_; (case hd => rfl); (case hg => rfl); (case hr => first | (go_simp; done) | (go_simp; rfl)); intro gb453 hg w41 hbox hb; have BK453 := zk (hbox); have GE453 := zk ((zg hg HB.out : w.heap.size ≤ gb453)); replace HB := zs HB hb;  clear hb hbox hg; have hcz42_0 : w41.cell? ⟨gb453, 0, none⟩ = some (.slice A0_0 l0_0.length c0_0) := zh BK453.out 0; have hfz42_0 := blk_frozen BK453.out 0) | ((with_reducible refine gate_callee (f := 22) rfl ?_); refine goesL_ (some 11) rfl rfl Tryz.func22 zz rfl #[.agg #[.slice A0_0 l0_0.length c0_0]] rfl zM ?_; (with_reducible refine (leadtrailref08_Valid.calls k _ _ l0_0 false _ ?side1 ?side2 A2.out).mono ?_); (case side1 => exact zc (Kd.C_below HR0_0.out HB.out)); (case side2 => exact HC0_0.out); rintro e w43 ⟨rfl, hb⟩; refine ⟨_, rfl, ?_⟩; replace BK453 := zk (zbb BK453.out hb); replace HB := zs HB hb;  (try clear hb); (try clear hb2); (try clear hk); (try clear hi)))
  go_ret2
  exact ⟨ze, zU HB.out⟩
end Go.Proofs.YtobhclnenffkgaaGreat.B
