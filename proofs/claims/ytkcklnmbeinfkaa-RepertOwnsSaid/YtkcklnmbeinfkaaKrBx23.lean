/- Words and walks of this claim, of the text Bx23. -/
import Derived.Test.YtkcklnmbeinfkaaKrQW0
import Derived.Test.YtkcklnmbeinfkaaKrBx0
import Derived.Test.YtkcklnmbeinfkaaKrBx17
namespace Go.Proofs.Ytkcklnmbeinfkaa.B
open Go.RowKit Go.Proofs.YtkcklnmbeinfkaaW.PrintWords Go.Proofs.YtkcklnmbeinfkaaW.PrintLast Go.Proofs.YtkcklnmbeinfkaaW.PrintMore
attribute [local go_sem] max2_int min2_int max_two min_two max_three min_three max_four min_four
set_option linter.unusedVariables false
set_option linter.unusedSimpArgs false
def leadtrailref08_Same.l0 : Nat → Int → List (S50) → List (S50) → Option (Bool)
 | 0, _, _, _ => none
 | k + 1, x5, x531000, x532000 => if x5 < (x531000.length : Int) then (if 0 ≤ x5 then (if x5 < (x532000.length : Int) then ((leadtrailref08_SameShape.f k ((rd_T50 x531000 x5).f0) ((rd_T50 x531000 x5).f1) ((rd_T50 x532000 x5).f0) ((rd_T50 x532000 x5).f1)).bind fun t534 => (if t534 = true then (leadtrailref08_Same.l0 k (wrap64 (x5 + 1)) x531000 x532000) else (some false))) else (none)) else (none)) else (some true)
def leadtrailref08_Same.f (k : Nat) (l0_0 : List (S50)) (l1_0 : List (S50)) : Option (Bool) := if (l0_0.length : Int) = (l1_0.length : Int) then (leadtrailref08_Same.l0 k 0 l0_0 l1_0) else (some false)
def leadtrailref08_Same.T6 : Bool × List (List Nat × List Nat) := (true, [([], []), ([0], [0]), ([], []), ([1, 2], [1, 2]), ([3], [3]), ([], []), ([5], [5]), ([], []), ([6, 7], [6, 7]), ([8], [8]), ([4, 9], [4, 9]), ([10], [10])])
def leadtrailref08_Same.B6 : List Nat := [0, 1, 0, 7, 15, 0, 32, 0, 224, 480, 1023, 2047]
theorem leadtrailref08_Same.tab6 : rtab .any (opsOf Try.f31 6) = leadtrailref08_Same.T6 := by kernel_rfl
theorem leadtrailref08_Same.bits6 : waitsOk leadtrailref08_Same.T6.2 leadtrailref08_Same.B6 = true := by kernel_rfl
set_option maxHeartbeats 8000000 in
set_option maxRecDepth 100000 in
theorem leadtrailref08_Same.calls (k : Nat) (A0_0 : Option Addr) (c0_0 : Nat) (l0_0 : List (S50)) (A1_0 : Option Addr) (c1_0 : Nat) (l1_0 : List (S50)) (r : Bool) (w : World) (hr0_0 : Kd.C k50 w A0_0 l0_0.length l0_0) (hc0_0 : l0_0.length ≤ c0_0) (hr1_0 : Kd.C k50 w A1_0 l1_0.length l1_0) (hc1_0 : l1_0.length ≤ c1_0) (h : leadtrailref08_Same.f k l0_0 l1_0 = some r) :
 Calls Try.prog 31 #[.agg #[.slice A0_0 l0_0.length c0_0], .agg #[.slice A1_0 l1_0.length c1_0]] w fun e w' => e = .returned (.bool r) ∧ Below w.heap.size w w' := by
 have hu24 := Try.underlying24; have hu50 := Try.underlying50; have HR0_0 := zk hr0_0; have HC0_0 := zk hc0_0; clear hr0_0 hc0_0; have HR1_0 := zk hr1_0; have HC1_0 := zk hc1_0; clear hr1_0 hc1_0; have HB := zk (Below.refl w.heap.size w); have H : (if (l0_0.length : Int) = (l1_0.length : Int) then (leadtrailref08_Same.l0 k 0 l0_0 l1_0) else (some false)) = some r := h; clear h; by_cases c3 : (l0_0.length : Int) = (l1_0.length : Int)
 ·rw [if_pos c3] at H; have c3b0 : ((l0_0.length : Int) == (l1_0.length : Int)) = true := beq_iff_eq.mpr c3; have c3b1 : ((l0_0.length : Int) != (l1_0.length : Int)) = false := bne_eq_false_iff_eq.mpr c3; have c3b2 : (l0_0.length == l1_0.length) = true := by first | simpa using c3 | (simp at c3 ⊢; omega)
  clear c3; have H' := zk H; clear H; go_enter Try.func31, Try.ntmps31
  go_wp2_with (first | ((with_reducible refine gate_dst (N := 2) rfl ?_); refine box_event ?hg (N := 2) ?hd (cs := #[.slice A0_0 l0_0.length c0_0]) (t := 24) ?hr ?_; (case hd => rfl); (case hg => rfl); (case hr => first | (go_simp; done) | (go_simp; rfl)); intro gb530 hg w4 hbox hb; have BK530 := zk (hbox); have GE530 := zk ((zg hg HB.out : w.heap.size ≤ gb530)); replace HB := zk (below_step (zU HB.out) hb);  clear hb hbox hg) | ((with_reducible refine gate_dst (N := 3) rfl ?_); refine box_event ?hg (N := 3) ?hd (cs := #[.slice A1_0 l1_0.length c1_0]) (t := 24) ?hr ?_; (case hd => rfl); (case hg => rfl); (case hr => first | (go_simp; done) | (go_simp; rfl)); intro gb531 hg w5 hbox hb; have BK531 := zk (hbox); have GE531 := zk ((zg hg HB.out : w.heap.size ≤ gb531)); replace HB := zk (below_step (zU HB.out) hb); have NB530_531 := zk ((zlt hg BK530.out : gb530 ≠ gb531)); have NB531_530 := zk ((zgt hg BK530.out : gb531 ≠ gb530)); replace BK530 := zk (zbb BK530.out hb);  clear hb hbox hg; have hnb6 := NB530_531.out; have hnc6 := NB531_530.out; have hcz7_0 : w5.cell? ⟨gb530, 0, none⟩ = some (.slice A0_0 l0_0.length c0_0) := zh BK530.out 0; have hfz7_0 := blk_frozen BK530.out 0; have hcz8_0 : w5.cell? ⟨gb531, 0, none⟩ = some (.slice A1_0 l1_0.length c1_0) := zh BK531.out 0; have hfz8_0 := blk_frozen BK531.out 0))
  go_loopg [5] k (fun kq v5 w' => ∃ (x5_1 : Int), v5 = .int .i64 x5_1 ∧ Aside0 (leadtrailref08_Same.l0 kq x5_1 l0_0 l1_0 = some r) ∧ Aside0 (kq ≤ k) ∧ Aside0 (w'.heap[gb530]? = some (.cells #[(.slice A0_0 l0_0.length c0_0)] 24 (0, 0))) ∧ Aside0 (w'.heap[gb531]? = some (.cells #[(.slice A1_0 l1_0.length c1_0)] 24 (0, 0))) ∧ Aside0 (Below w.heap.size w w'))
  case atStart => exact ⟨(0), zR, H', ⟨Nat.le_refl _⟩, ⟨zb BK530.out⟩, ⟨zb BK531.out⟩, ⟨zU HB.out⟩⟩
  case round =>
   clear H'; (try clear c1); (try clear p2); (try clear c3); (try clear c3b0); (try clear c3b1); (try clear c3b2); (try clear c6); (try clear hcz7_0); (try clear hcz8_0); (try clear hfz7_0); (try clear hfz8_0); obtain ⟨x5_1, rfl, HA, HK1, BK530, BK531, HB⟩ := hrel
   cases gk with
   | zero => exact absurd HA.out (by simp [leadtrailref08_Same.l0])
   | succ k1 =>
    have H := HA.out; clear HA; simp only [leadtrailref08_Same.l0] at H; by_cases c9 : x5_1 < (l0_0.length : Int)
    ·rw [if_pos c9] at H; have c9b0 : decide (x5_1 < (l0_0.length : Int)) = true := decide_eq_true c9; clear c9; by_cases c10 : 0 ≤ x5_1
     ·rw [if_pos c10] at H; have c10b0 : decide (0 ≤ x5_1) = true := decide_eq_true c10; clear c10; by_cases c11 : x5_1 < (l1_0.length : Int)
      ·rw [if_pos c11] at H; have c11b0 : decide (x5_1 < (l1_0.length : Int)) = true := decide_eq_true c11; clear c11; replace H := Option.bind_eq_some_iff.mp H; obtain ⟨t534, A120, H⟩ := H; replace H : (if t534 = true then (leadtrailref08_Same.l0 k1 (wrap64 (x5_1 + 1)) l0_0 l1_0) else (some false)) = some r := H; have A12 := zk A120; clear A120; by_cases c13 : t534 = true
       ·subst c13; have H1 : (leadtrailref08_Same.l0 k1 (wrap64 (x5_1 + 1)) l0_0 l1_0) = some r := by rw [if_pos rfl] at H; exact H
        clear H; have H := H1; clear H1; have H' := zk H; clear H; have hnb14 := NB530_531.out; have hnc14 := NB531_530.out; have hcz15_0 : wr.cell? ⟨gb530, 0, none⟩ = some (.slice A0_0 l0_0.length c0_0) := zh BK530.out 0; have hfz15_0 := blk_frozen BK530.out 0; try go_wp2
        have n0_ := zk (blk_drew BK530.out); have n1_ := zk (blk_drew BK531.out); have n2_ := zk (below_drew1 HB.out); clear BK530; clear BK531; clear HB; have BK530 := n0_; have BK531 := n1_; have HB := n2_; clear n0_ n1_ n2_; have p532 : 0 ≤ (x5_1 : Int) := zT; have q532 : x5_1 < (l0_0.length : Int) := zT; obtain ⟨ad532, A532_0, c532_0, e532, hx532_0, hx532_1, hl532_0, hi532_0⟩ := at_T50 HR0_0.out x5_1 p532 q532; have hw532_1 := hx532_1; have hw532_0 := hx532_0; cases e532; replace hx532_0 := zcl HB.out hx532_0; replace hx532_1 := zcl HB.out hx532_1; have HR532_0 := zk hi532_0; have HC532_0 := zk hl532_0; clear hi532_0 hl532_0; replace p532 := eq_true p532; replace q532 := eq_true q532; have p533 : 0 ≤ (x5_1 : Int) := zT; have q533 : x5_1 < (l1_0.length : Int) := zT; obtain ⟨ad533, A533_0, c533_0, e533, hx533_0, hx533_1, hl533_0, hi533_0⟩ := at_T50 HR1_0.out x5_1 p533 q533; have hw533_1 := hx533_1; have hw533_0 := hx533_0; cases e533; replace hx533_0 := zcl HB.out hx533_0; replace hx533_1 := zcl HB.out hx533_1; have HR533_0 := zk hi533_0; have HC533_0 := zk hl533_0; clear hi533_0 hl533_0; replace p533 := eq_true p533; replace q533 := eq_true q533; refine start_ (n := 12) (S := fun w' => w'.cell? ⟨gb530, 0, none⟩ = some (.slice (some ad532) l0_0.length c0_0) ∧ w'.cell? ⟨gb531, 0, none⟩ = some (.slice (some ad533) l1_0.length c1_0) ∧ w'.cell? (ad532.add ((x5_1).toNat * 2)) = some (.slice A532_0 ((rd_T50 l0_0 x5_1).f0).length c532_0) ∧ w'.cell? ⟨(ad532.add ((x5_1).toNat * 2)).block, (ad532.add ((x5_1).toNat * 2)).off + 1, none⟩ = some (.int .i64 ((rd_T50 l0_0 x5_1).f1)) ∧ w'.cell? (ad533.add ((x5_1).toNat * 2)) = some (.slice A533_0 ((rd_T50 l1_0 x5_1).f0).length c533_0) ∧ w'.cell? ⟨(ad533.add ((x5_1).toNat * 2)).block, (ad533.add ((x5_1).toNat * 2)).off + 1, none⟩ = some (.int .i64 ((rd_T50 l1_0 x5_1).f1))) (ds := []) #[false, false, false, false, false, false, false, false, false, false, false, false] zz rfl rfl ⟨(blk_cell BK530.out 0).trans rfl, (blk_cell BK531.out 0).trans rfl, (zcl HB.out hw532_0), (zcl HB.out hw532_1), (zcl HB.out hw533_0), (zcl HB.out hw533_1)⟩ (fun hHeld => ?_); refine with_tabW leadtrailref08_Same.tab6 leadtrailref08_Same.bits6 (fun HT_ HW_ => ?_); generalize wr.drew = w16 at BK530 BK531 HB HR532_0 HR533_0 hx532_0 hx532_1 hx533_0 hx533_1 hHeld ⊢; refine zp 0 (some 20) (v := ?_) (a' := ?_) (bz 12 1) rfl rfl HT_.out zz zQ ?_ ?_ ?_; rotate_left
        ·intro w'; go_simp; with_reducible rfl
        rotate_left
        ·simp only [Act.put, zv, i64_w, i32_w]; rfl
        refine zp 2 (some 22) (v := ?_) (a' := ?_) (bz 12 5) rfl rfl HT_.out zz zQ ?_ ?_ ?_; rotate_left
        ·intro w'; go_simp; with_reducible rfl
        rotate_left
        ·simp only [Act.put, zv, i64_w, i32_w]; rfl
        refine zp 5 (some 25) (v := ?_) (a' := ?_) (bz 12 37) rfl rfl HT_.out zz zQ ?_ ?_ ?_; rotate_left
        ·intro w'; go_simp; with_reducible rfl
        rotate_left
        ·simp only [Act.put, zv, i64_w, i32_w]; rfl
        refine zp 7 (some 27) (v := ?_) (a' := ?_) (bz 12 165) rfl rfl HT_.out zz zQ ?_ ?_ ?_; rotate_left
        ·intro w'; go_simp; with_reducible rfl
        rotate_left
        ·simp only [Act.put, zv, i64_w, i32_w]; rfl
        refine take_ (i := 1) (N := some 21) (v := ?_) (a' := ?_) (bz 12 167) rfl rfl (take_ofW HT_.out HW_.out zz) zQ (Or.inl ⟨by rfl, ?_⟩) hHeld ?_ ?_; rotate_left
        ·rintro w' ⟨s0, s1, s2, s3, s4, s5⟩; go_simp; with_reducible rfl
        rotate_left
        ·simp only [Act.put, zv, i64_w, i32_w]; rfl
        refine zp 3 (some 23) (v := ?_) (a' := ?_) (bz 12 175) rfl rfl HT_.out zz zQ ?_ ?_ ?_; rotate_left
        ·intro w'; go_simp; with_reducible rfl
        rotate_left
        ·simp only [Act.put, zv, i64_w, i32_w]; rfl
        refine take_ (i := 4) (N := some 24) (v := ?_) (a' := ?_) (bz 12 191) rfl rfl (take_ofW HT_.out HW_.out zz) zQ (Or.inl ⟨by rfl, ?_⟩) hHeld ?_ ?_; rotate_left
        ·rintro w' ⟨s0, s1, s2, s3, s4, s5⟩; go_simp; with_reducible rfl
        rotate_left
        ·simp only [Act.put, zv, i64_w, i32_w]; rfl
        refine take_ (i := 6) (N := some 26) (v := ?_) (a' := ?_) (bz 12 255) rfl rfl (take_ofW HT_.out HW_.out zz) zQ (Or.inl ⟨by rfl, ?_⟩) hHeld ?_ ?_; rotate_left
        ·rintro w' ⟨s0, s1, s2, s3, s4, s5⟩; go_simp; with_reducible rfl
        rotate_left
        ·simp only [Act.put, zv, i64_w, i32_w]; rfl
        refine zp 8 (some 28) (v := ?_) (a' := ?_) (bz 12 511) rfl rfl HT_.out zz zQ ?_ ?_ ?_; rotate_left
        ·intro w'; go_simp; with_reducible rfl
        rotate_left
        ·simp only [Act.put, zv, i64_w, i32_w]; rfl
        refine take_ (i := 9) (N := some 29) (v := ?_) (a' := ?_) (bz 12 1023) rfl rfl (take_ofW HT_.out HW_.out zz) zQ (Or.inl ⟨by rfl, ?_⟩) hHeld ?_ ?_; rotate_left
        ·rintro w' ⟨s0, s1, s2, s3, s4, s5⟩; go_simp; with_reducible rfl
        rotate_left
        ·simp only [Act.put, zv, i64_w, i32_w]; rfl
        refine one_ (i := 10) (N := some 30) (bz 12 2047) rfl rfl (one_of HT_.out zz) (by decide) (fun K hK => ?_); refine goes_ Try.func56 zz rfl #[.agg #[.slice A532_0 ((rd_T50 l0_0 x5_1).f0).length c532_0, .int .i64 ((rd_T50 l0_0 x5_1).f1)], .agg #[.slice A533_0 ((rd_T50 l1_0 x5_1).f0).length c533_0, .int .i64 ((rd_T50 l1_0 x5_1).f1)]] (by rfl) rfl rfl zM ?_; with_reducible refine (leadtrailref08_SameShape.calls k1 _ _ ((rd_T50 l0_0 x5_1).f0) ((rd_T50 l0_0 x5_1).f1) _ _ ((rd_T50 l1_0 x5_1).f0) ((rd_T50 l1_0 x5_1).f1) true _ ?side1 ?side2 ?side3 ?side4 A12.out).mono ?_; (case side1 => exact zc (Kd.C_below HR532_0.out HB.out))
        (case side2 => exact HC532_0.out)
        (case side3 => exact zc (Kd.C_below HR533_0.out HB.out))
        (case side4 => exact HC533_0.out)
        rintro e w17 ⟨rfl, hb⟩; refine ⟨_, rfl, ?_⟩; have n0_ := zk (zbb BK530.out hb); have n1_ := zk (zbb BK531.out hb); have n2_ := zk (below_step (zU HB.out) hb); clear BK530; clear BK531; clear HB; have BK530 := n0_; have BK531 := n1_; have HB := n2_; clear n0_ n1_ n2_; (try clear hb); (try clear hb2); (try clear hk); (try clear hi); refine hK.out _ _ ⟨(blk_cell BK530.out 0).trans rfl, (blk_cell BK531.out 0).trans rfl, (zcl HB.out hw532_0), (zcl HB.out hw532_1), (zcl HB.out hw533_0), (zcl HB.out hw533_1)⟩ (fun hHeld => ?_); clear hK K; refine norm_ (a' := ?_) ?_ ?_; rotate_left
        ·show Act.put _ (some 30) _ = _; simp only [Act.put, zv, i64_w, i32_w]; rfl
        refine zp 11 (some 31) (v := ?_) (a' := ?_) (bz 12 4095) rfl rfl HT_.out zz zQ ?_ ?_ ?_; rotate_left
        ·intro w'; go_simp; with_reducible rfl
        rotate_left
        ·simp only [Act.put, zv, i64_w, i32_w]; rfl
        refine done_ (done_of HT_.out zz) ?_; try go_wp2
        go_roundg k1
        case measure => have := HK1.out; omega
        case rel => exact ⟨(wrap64 (x5_1 + 1)), zR, H', ⟨by have := HK1.out; omega⟩, ⟨zb BK530.out⟩, ⟨zb BK531.out⟩, ⟨zU HB.out⟩⟩
       ·replace c13 := Bool.eq_false_iff.mpr c13; subst c13; have H1 : (some false) = some r := by rw [if_neg (show ¬ (false = true) by decide)] at H; exact H
        clear H; have H := H1; clear H1; obtain rfl := Option.some.inj H; have hnb18 := NB530_531.out; have hnc18 := NB531_530.out; have hcz19_0 : wr.cell? ⟨gb530, 0, none⟩ = some (.slice A0_0 l0_0.length c0_0) := zh BK530.out 0; have hfz19_0 := blk_frozen BK530.out 0; try go_wp2
        have n0_ := zk (blk_drew BK530.out); have n1_ := zk (blk_drew BK531.out); have n2_ := zk (below_drew1 HB.out); clear BK530; clear BK531; clear HB; have BK530 := n0_; have BK531 := n1_; have HB := n2_; clear n0_ n1_ n2_; have p532 : 0 ≤ (x5_1 : Int) := zT; have q532 : x5_1 < (l0_0.length : Int) := zT; obtain ⟨ad532, A532_0, c532_0, e532, hx532_0, hx532_1, hl532_0, hi532_0⟩ := at_T50 HR0_0.out x5_1 p532 q532; have hw532_1 := hx532_1; have hw532_0 := hx532_0; cases e532; replace hx532_0 := zcl HB.out hx532_0; replace hx532_1 := zcl HB.out hx532_1; have HR532_0 := zk hi532_0; have HC532_0 := zk hl532_0; clear hi532_0 hl532_0; replace p532 := eq_true p532; replace q532 := eq_true q532; have p533 : 0 ≤ (x5_1 : Int) := zT; have q533 : x5_1 < (l1_0.length : Int) := zT; obtain ⟨ad533, A533_0, c533_0, e533, hx533_0, hx533_1, hl533_0, hi533_0⟩ := at_T50 HR1_0.out x5_1 p533 q533; have hw533_1 := hx533_1; have hw533_0 := hx533_0; cases e533; replace hx533_0 := zcl HB.out hx533_0; replace hx533_1 := zcl HB.out hx533_1; have HR533_0 := zk hi533_0; have HC533_0 := zk hl533_0; clear hi533_0 hl533_0; replace p533 := eq_true p533; replace q533 := eq_true q533; refine start_ (n := 12) (S := fun w' => w'.cell? ⟨gb530, 0, none⟩ = some (.slice (some ad532) l0_0.length c0_0) ∧ w'.cell? ⟨gb531, 0, none⟩ = some (.slice (some ad533) l1_0.length c1_0) ∧ w'.cell? (ad532.add ((x5_1).toNat * 2)) = some (.slice A532_0 ((rd_T50 l0_0 x5_1).f0).length c532_0) ∧ w'.cell? ⟨(ad532.add ((x5_1).toNat * 2)).block, (ad532.add ((x5_1).toNat * 2)).off + 1, none⟩ = some (.int .i64 ((rd_T50 l0_0 x5_1).f1)) ∧ w'.cell? (ad533.add ((x5_1).toNat * 2)) = some (.slice A533_0 ((rd_T50 l1_0 x5_1).f0).length c533_0) ∧ w'.cell? ⟨(ad533.add ((x5_1).toNat * 2)).block, (ad533.add ((x5_1).toNat * 2)).off + 1, none⟩ = some (.int .i64 ((rd_T50 l1_0 x5_1).f1))) (ds := []) #[false, false, false, false, false, false, false, false, false, false, false, false] zz rfl rfl ⟨(blk_cell BK530.out 0).trans rfl, (blk_cell BK531.out 0).trans rfl, (zcl HB.out hw532_0), (zcl HB.out hw532_1), (zcl HB.out hw533_0), (zcl HB.out hw533_1)⟩ (fun hHeld => ?_); refine with_tabW leadtrailref08_Same.tab6 leadtrailref08_Same.bits6 (fun HT_ HW_ => ?_); generalize wr.drew = w20 at BK530 BK531 HB HR532_0 HR533_0 hx532_0 hx532_1 hx533_0 hx533_1 hHeld ⊢; refine zp 0 (some 20) (v := ?_) (a' := ?_) (bz 12 1) rfl rfl HT_.out zz zQ ?_ ?_ ?_; rotate_left
        ·intro w'; go_simp; with_reducible rfl
        rotate_left
        ·simp only [Act.put, zv, i64_w, i32_w]; rfl
        refine zp 2 (some 22) (v := ?_) (a' := ?_) (bz 12 5) rfl rfl HT_.out zz zQ ?_ ?_ ?_; rotate_left
        ·intro w'; go_simp; with_reducible rfl
        rotate_left
        ·simp only [Act.put, zv, i64_w, i32_w]; rfl
        refine zp 5 (some 25) (v := ?_) (a' := ?_) (bz 12 37) rfl rfl HT_.out zz zQ ?_ ?_ ?_; rotate_left
        ·intro w'; go_simp; with_reducible rfl
        rotate_left
        ·simp only [Act.put, zv, i64_w, i32_w]; rfl
        refine zp 7 (some 27) (v := ?_) (a' := ?_) (bz 12 165) rfl rfl HT_.out zz zQ ?_ ?_ ?_; rotate_left
        ·intro w'; go_simp; with_reducible rfl
        rotate_left
        ·simp only [Act.put, zv, i64_w, i32_w]; rfl
        refine take_ (i := 1) (N := some 21) (v := ?_) (a' := ?_) (bz 12 167) rfl rfl (take_ofW HT_.out HW_.out zz) zQ (Or.inl ⟨by rfl, ?_⟩) hHeld ?_ ?_; rotate_left
        ·rintro w' ⟨s0, s1, s2, s3, s4, s5⟩; go_simp; with_reducible rfl
        rotate_left
        ·simp only [Act.put, zv, i64_w, i32_w]; rfl
        refine zp 3 (some 23) (v := ?_) (a' := ?_) (bz 12 175) rfl rfl HT_.out zz zQ ?_ ?_ ?_; rotate_left
        ·intro w'; go_simp; with_reducible rfl
        rotate_left
        ·simp only [Act.put, zv, i64_w, i32_w]; rfl
        refine take_ (i := 4) (N := some 24) (v := ?_) (a' := ?_) (bz 12 191) rfl rfl (take_ofW HT_.out HW_.out zz) zQ (Or.inl ⟨by rfl, ?_⟩) hHeld ?_ ?_; rotate_left
        ·rintro w' ⟨s0, s1, s2, s3, s4, s5⟩; go_simp; with_reducible rfl
        rotate_left
        ·simp only [Act.put, zv, i64_w, i32_w]; rfl
        refine take_ (i := 6) (N := some 26) (v := ?_) (a' := ?_) (bz 12 255) rfl rfl (take_ofW HT_.out HW_.out zz) zQ (Or.inl ⟨by rfl, ?_⟩) hHeld ?_ ?_; rotate_left
        ·rintro w' ⟨s0, s1, s2, s3, s4, s5⟩; go_simp; with_reducible rfl
        rotate_left
        ·simp only [Act.put, zv, i64_w, i32_w]; rfl
        refine zp 8 (some 28) (v := ?_) (a' := ?_) (bz 12 511) rfl rfl HT_.out zz zQ ?_ ?_ ?_; rotate_left
        ·intro w'; go_simp; with_reducible rfl
        rotate_left
        ·simp only [Act.put, zv, i64_w, i32_w]; rfl
        refine take_ (i := 9) (N := some 29) (v := ?_) (a' := ?_) (bz 12 1023) rfl rfl (take_ofW HT_.out HW_.out zz) zQ (Or.inl ⟨by rfl, ?_⟩) hHeld ?_ ?_; rotate_left
        ·rintro w' ⟨s0, s1, s2, s3, s4, s5⟩; go_simp; with_reducible rfl
        rotate_left
        ·simp only [Act.put, zv, i64_w, i32_w]; rfl
        refine one_ (i := 10) (N := some 30) (bz 12 2047) rfl rfl (one_of HT_.out zz) (by decide) (fun K hK => ?_); refine goes_ Try.func56 zz rfl #[.agg #[.slice A532_0 ((rd_T50 l0_0 x5_1).f0).length c532_0, .int .i64 ((rd_T50 l0_0 x5_1).f1)], .agg #[.slice A533_0 ((rd_T50 l1_0 x5_1).f0).length c533_0, .int .i64 ((rd_T50 l1_0 x5_1).f1)]] (by rfl) rfl rfl zM ?_; with_reducible refine (leadtrailref08_SameShape.calls k1 _ _ ((rd_T50 l0_0 x5_1).f0) ((rd_T50 l0_0 x5_1).f1) _ _ ((rd_T50 l1_0 x5_1).f0) ((rd_T50 l1_0 x5_1).f1) false _ ?side1 ?side2 ?side3 ?side4 A12.out).mono ?_; (case side1 => exact zc (Kd.C_below HR532_0.out HB.out))
        (case side2 => exact HC532_0.out)
        (case side3 => exact zc (Kd.C_below HR533_0.out HB.out))
        (case side4 => exact HC533_0.out)
        rintro e w21 ⟨rfl, hb⟩; refine ⟨_, rfl, ?_⟩; have n0_ := zk (zbb BK530.out hb); have n1_ := zk (zbb BK531.out hb); have n2_ := zk (below_step (zU HB.out) hb); clear BK530; clear BK531; clear HB; have BK530 := n0_; have BK531 := n1_; have HB := n2_; clear n0_ n1_ n2_; (try clear hb); (try clear hb2); (try clear hk); (try clear hi); refine hK.out _ _ ⟨(blk_cell BK530.out 0).trans rfl, (blk_cell BK531.out 0).trans rfl, (zcl HB.out hw532_0), (zcl HB.out hw532_1), (zcl HB.out hw533_0), (zcl HB.out hw533_1)⟩ (fun hHeld => ?_); clear hK K; refine norm_ (a' := ?_) ?_ ?_; rotate_left
        ·show Act.put _ (some 30) _ = _; simp only [Act.put, zv, i64_w, i32_w]; rfl
        refine zp 11 (some 31) (v := ?_) (a' := ?_) (bz 12 4095) rfl rfl HT_.out zz zQ ?_ ?_ ?_; rotate_left
        ·intro w'; go_simp; with_reducible rfl
        rotate_left
        ·simp only [Act.put, zv, i64_w, i32_w]; rfl
        refine done_ (done_of HT_.out zz) ?_; try go_wp2
        go_ret
        exact ⟨ze, zU HB.out⟩
      ·rw [if_neg c11] at H; exact absurd H (by simp)
     ·rw [if_neg c10] at H; exact absurd H (by simp)
    ·rw [if_neg c9] at H; have c9b0 : decide (x5_1 < (l0_0.length : Int)) = false := decide_eq_false c9; clear c9; obtain rfl := Option.some.inj H; have hnb22 := NB530_531.out; have hnc22 := NB531_530.out; have hcz23_0 : wr.cell? ⟨gb530, 0, none⟩ = some (.slice A0_0 l0_0.length c0_0) := zh BK530.out 0; have hfz23_0 := blk_frozen BK530.out 0; go_wp2
     go_ret
     exact ⟨ze, zU HB.out⟩
 ·rw [if_neg c3] at H; have c3b0 : ((l0_0.length : Int) == (l1_0.length : Int)) = false := beq_eq_false_iff_ne.mpr c3; have c3b1 : ((l0_0.length : Int) != (l1_0.length : Int)) = true := bne_iff_ne.mpr c3; have c3b2 : (l0_0.length == l1_0.length) = false := by first | simpa using c3 | (simp at c3 ⊢; omega)
  obtain rfl := Option.some.inj H; go_enter Try.func31, Try.ntmps31
  go_wp2_with (first | ((with_reducible refine gate_dst (N := 2) rfl ?_); refine box_event ?hg (N := 2) ?hd (cs := #[.slice A0_0 l0_0.length c0_0]) (t := 24) ?hr ?_; (case hd => rfl); (case hg => rfl); (case hr => first | (go_simp; done) | (go_simp; rfl)); intro gb530 hg w24 hbox hb; have BK530 := zk (hbox); have GE530 := zk ((zg hg HB.out : w.heap.size ≤ gb530)); replace HB := zk (below_step (zU HB.out) hb);  clear hb hbox hg) | ((with_reducible refine gate_dst (N := 3) rfl ?_); refine box_event ?hg (N := 3) ?hd (cs := #[.slice A1_0 l1_0.length c1_0]) (t := 24) ?hr ?_; (case hd => rfl); (case hg => rfl); (case hr => first | (go_simp; done) | (go_simp; rfl)); intro gb531 hg w25 hbox hb; have BK531 := zk (hbox); have GE531 := zk ((zg hg HB.out : w.heap.size ≤ gb531)); replace HB := zk (below_step (zU HB.out) hb); have NB530_531 := zk ((zlt hg BK530.out : gb530 ≠ gb531)); have NB531_530 := zk ((zgt hg BK530.out : gb531 ≠ gb530)); replace BK530 := zk (zbb BK530.out hb);  clear hb hbox hg; have hnb26 := NB530_531.out; have hnc26 := NB531_530.out; have hcz27_0 : w25.cell? ⟨gb530, 0, none⟩ = some (.slice A0_0 l0_0.length c0_0) := zh BK530.out 0; have hfz27_0 := blk_frozen BK530.out 0; have hcz28_0 : w25.cell? ⟨gb531, 0, none⟩ = some (.slice A1_0 l1_0.length c1_0) := zh BK531.out 0; have hfz28_0 := blk_frozen BK531.out 0))
  go_ret
  exact ⟨ze, zU HB.out⟩
theorem cloneShape.row {ad : Addr} {w : World} {ok : Nat → Prop} : ∀ (l0 : List S50) (o : Nat), (∀ j p, l0[j]? = some p → ∃ c : List Value, c.length = 2 ∧ Kd.FK k50 w ok p c ∧ ∀ i u, c[i]? = some u → w.cell? (ad.add ((o + j) * 2 + i)) = some u) →
 ∃ rows : List (List Value), rows.length = l0.length ∧ (∀ (j : Nat) (x : S50) (c : List Value), l0[j]? = some x → rows[j]? = some c → c.length = 2 ∧ Kd.FK k50 w ok x c) ∧ (∀ c ∈ rows, c.length = 2 ∧ ∀ u ∈ c, u.oneCell' = true) ∧ ∀ j u, rows.flatten[j]? = some u → w.cell? (ad.add (o * 2 + j)) = some u
 | [], o, _ => ⟨[], rfl, fun j x c h => (by simp at h), fun c h => (by cases h), fun j u h => (by simp at h)⟩
 | p :: t, o, h => by
  obtain ⟨c, c1, c2, c3⟩ := h 0 p rfl; obtain ⟨rows, q1, q2, q4, q3⟩ := cloneShape.row t (o + 1) (fun j x hj => by
   obtain ⟨c, a1, a2, a3⟩ := h (j + 1) x (by simpa using hj); exact ⟨c, a1, a2, fun i u hu => by have := a3 i u hu; rwa [show o + (j + 1) = o + 1 + j by omega] at this⟩)
  refine ⟨c :: rows, by simp [q1], fun j x c' hx hc => ?_, fun c' hc => ?_, fun j u hu => ?_⟩
  ·cases j with
   | zero =>
    obtain rfl := Option.some.inj hx; obtain rfl := Option.some.inj hc; exact ⟨c1, c2⟩
   | succ j => exact q2 j x c' (by simpa using hx) (by simpa using hc)
  ·rcases List.mem_cons.1 hc with rfl | hc
   ·exact ⟨c1, k50.K_one (Foot.now c2)⟩
   ·exact q4 c' hc
  ·rw [List.flatten_cons] at hu; by_cases hj : j < 2
   ·rw [List.getElem?_append_left (by omega)] at hu; have := c3 j u hu; rwa [show (o + 0) * 2 + j = o * 2 + j by omega] at this
   ·rw [List.getElem?_append_right (by omega), c1] at hu; have := q3 (j - 2) u hu; rwa [show (o + 1) * 2 + (j - 2) = o * 2 + j by omega] at this
section
open Go.Sort
abbrev SE := S50 × Option Addr × Nat
def sortShape.enc (x : SE) : List Value := [.slice x.2.1 x.1.f0.length x.2.2, .int .i64 x.1.f1]
instance : Inhabited SE := ⟨(z50, none, 0)⟩
def sortShape.ok (l0 : List S50) : Bool := decide (l0.length < 8796093022208) && decide (l0.Pairwise fun x y => x.f1 ≠ y.f1)
theorem sortShape.uniq : ∀ {a b : List S50}, a.Perm b → a.Pairwise (fun x y => x.f1 < y.f1) → b.Pairwise (fun x y => x.f1 < y.f1) → a = b
 | [], b, hp, _, _ => (List.nil_perm.1 hp).symm
 | x :: a, [], hp, _, _ => absurd hp.length_eq (by simp)
 | x :: a, y :: b, hp, ha, hb => by
  have ha' := List.pairwise_cons.1 ha; have hb' := List.pairwise_cons.1 hb; have e : x = y := by
   rcases List.mem_cons.1 (hp.subset List.mem_cons_self) with e | hx
   ·exact e
   ·rcases List.mem_cons.1 (hp.symm.subset List.mem_cons_self) with e | hy
    ·exact e.symm
    ·have h1 := hb'.1 x hx; have h2 := ha'.1 y hy; omega
  subst e; rw [sortShape.uniq (List.Perm.cons_inv hp) ha'.2 hb'.2]
theorem sortShape.lt_iff (x y : SE) : ltOf (fun x y : SE => Lib.compareInt x.1.f1 y.1.f1) x y = decide (x.1.f1 < y.1.f1) := by
 unfold ltOf Lib.compareInt; by_cases h1 : x.1.f1 < y.1.f1
 ·simp [h1]
 ·by_cases h2 : y.1.f1 < x.1.f1 <;> simp [h1, h2]
theorem sortShape.swo : Go.Sort.SWO (ltOf fun x y : SE => Lib.compareInt x.1.f1 y.1.f1) where
 irrefl x := by rw [sortShape.lt_iff]; simp
 trans x y z h1 h2 := by rw [sortShape.lt_iff] at *; simp at *; omega
 ntrans x y z h1 h2 := by rw [sortShape.lt_iff] at *; simp at *; omega
theorem sortShape.spec (l : List SE) : (Go.Sort.pdq (ltOf fun x y : SE => Lib.compareInt x.1.f1 y.1.f1) l.toArray 0 l.toArray.size (Lib.bitLen l.toArray.size) true true).toList.Perm l ∧ (Go.Sort.pdq (ltOf fun x y : SE => Lib.compareInt x.1.f1 y.1.f1) l.toArray 0 l.toArray.size (Lib.bitLen l.toArray.size) true true).toList.Pairwise (fun x y => x.1.f1 ≤ y.1.f1) := by
 have hs := Go.Sort.pdq_sorts _ sortShape.swo l.toArray 0 l.toArray.size (Lib.bitLen l.toArray.size) true true (Nat.zero_le _) (Nat.le_refl _) (Or.inl rfl); generalize Go.Sort.pdq (ltOf fun x y : SE => Lib.compareInt x.1.f1 y.1.f1) l.toArray 0 l.toArray.size (Lib.bitLen l.toArray.size) true true = d at hs ⊢; obtain ⟨⟨hsz, _, hperm⟩, hsorted⟩ := hs; refine ⟨?_, ?_⟩
 ·have e1 : d.extract 0 l.toArray.size = d := by rw [← hsz]; simp
  have e2 : l.toArray.extract 0 l.toArray.size = l.toArray := by simp
  rw [e1, e2] at hperm; simpa using hperm
 ·rw [List.pairwise_iff_getElem]; intro i j hi hj hij; have hj' : j < d.size := by simpa using hj
  have hi' : i < d.size := by simpa using hi
  have := hsorted i j (Nat.zero_le _) hij (by rw [← hsz]; exact hj'); rw [sortShape.lt_iff, getElem!_pos d i hi', getElem!_pos d j hj'] at this; simp at this; simpa using this
set_option maxHeartbeats 1000000 in
theorem sortShape.closure (x y : SE) (W : World) : Calls Try.prog 91 #[.agg (sortShape.enc x).toArray, .agg (sortShape.enc y).toArray] W fun e w' => e = .returned (.int .i64 (Lib.compareInt x.1.f1 y.1.f1)) ∧ ∃ q os', w' = Go.Sort.grow (W.drewN q) os' := by
 have hcon := fun W' => AnyG.cmp_Compare_int Try.cmpInt x.1.f1 y.1.f1 W'
 change ∀ W', Calls Try.prog 92 _ _ _ at hcon
 show Calls Try.prog 91 #[.agg #[.slice x.2.1 x.1.f0.length x.2.2, .int .i64 x.1.f1], .agg #[.slice y.2.1 y.1.f0.length y.2.2, .int .i64 y.1.f1]] W _; generalize Lib.compareInt x.1.f1 y.1.f1 = r at hcon ⊢; generalize x.1.f0.length = n1; generalize y.1.f0.length = n2; go_enter Try.func91, Try.ntmps91
 go_wp2_with (go_at_call 92; refine (hcon _).mono ?_; rintro e w' ⟨rfl, rfl⟩)
 go_ret
 exact ⟨rfl, 0, _, by rw [Go.Sort.alloc_eq_grow, Go.Sort.alloc_eq_grow, Go.Sort.grow_grow]; rfl⟩
end
theorem bytes_Compare.bytesOf (A0 : Option Addr) (c0 : Nat) (l0 : List Int) (w : World) (h : Kd.C (Kd.int .u8) w A0 l0.length l0) : (Extern.Bytes.bytesOf (.slice A0 l0.length c0)).run Try.prog w = .ok ⟨(Lib.bytesOf l0).toArray⟩ w := by
 obtain ⟨h1, h2, h3⟩ := Kd.reads_of_C (enc := Value.int .u8) (d := (0 : Int)) (h1 := fun _ => rfl) h; have hc : ∀ a, A0 = some a → ∀ j x, l0[j]? = some x → w.cell? (a.add j) = some (.int .u8 x) := fun a ha j x hj => by
  have hjl : j < l0.length := (List.getElem?_eq_some_iff.1 hj).1; obtain ⟨ad, e, hcell⟩ := h3 (by omega); rw [ha] at e; obtain rfl := Option.some.inj e; have := hcell j hjl; rw [this, List.getD_eq_getElem?_getD, hj]; rfl
 clear h h1 h2; cases A0 with
 | none =>
  have e : l0 = [] := by
   cases l0 with
   | nil => rfl
   | cons x t => obtain ⟨ad, e, _⟩ := h3 (by simp); exact absurd e (by simp)
  subst e; rfl
 | some a =>
  have hl := Lib.run_loadBytesX (P := Try.prog) w l0 a .empty (hc a rfl); have he : (⟨ByteArray.empty.data ++ (Lib.bytesOf l0).toArray⟩ : ByteArray) = ⟨(Lib.bytesOf l0).toArray⟩ := by
   apply ByteArray.ext; show (#[] : Array UInt8) ++ (Lib.bytesOf l0).toArray = (Lib.bytesOf l0).toArray; simp
  rw [he] at hl; exact hl
theorem bytes_Compare.run (A0 : Option Addr) (c0 : Nat) (l0 : List Int) (A1 : Option Addr) (c1 : Nat) (l1 : List Int) (w : World) (h0 : Kd.C (Kd.int .u8) w A0 l0.length l0) (h1 : Kd.C (Kd.int .u8) w A1 l1.length l1) :
 (Extern.BytealgCompare.compare #[.slice A0 l0.length c0, .slice A1 l1.length c1]).run Try.prog w = .ok (.int .i64 (Lib.compareBytes (Lib.bytesOf l0) (Lib.bytesOf l1))) w := by
 change Sem.run Try.prog (do pure (goInt (Extern.BytealgCompare.cmp (← Extern.Bytes.bytesOf (.slice A0 l0.length c0)) (← Extern.Bytes.bytesOf (.slice A1 l1.length c1))))) w = _
 simp only [Sem.run_bind, Sem.run_pure, bytes_Compare.bytesOf A0 c0 l0 w h0, bytes_Compare.bytesOf A1 c1 l1 w h1, Result.andThen]; rw [Lib.cmp_eq]; rfl
end Go.Proofs.Ytkcklnmbeinfkaa.B
