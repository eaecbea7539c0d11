/- Words and walks of this claim, of the text Ix30. -/
import Derived.Test.YtoljcfocgaonpaaKeQW0
import Derived.Test.YtoljcfocgaonpaaKeIx0
import Derived.Test.YtoljcfocgaonpaaKeIx18
import Derived.Test.YtoljcfocgaonpaaKeIx29
namespace Go.Proofs.Ytoljcfocgaonpaa.I
open Go.RowKit Go.Proofs.YtoljcfocgaonpaaW.PrintWords Go.Proofs.YtoljcfocgaonpaaW.PrintLast Go.Proofs.YtoljcfocgaonpaaW.PrintMore
attribute [local go_sem] max2_int min2_int max_two min_two max_three min_three max_four min_four
set_option linter.unusedVariables false
set_option linter.unusedSimpArgs false
def leadtrailref10_Next.l0 : Nat → Int → Int → Bool → Int → List (S47) → Option (Int × Bool)
 | 0, _, _, _, _, _ => none
 | k + 1, x1, x6, x7, x8, x720000 => if x8 < (x720000.length : Int) then (if 0 ≤ x8 then ((leadtrailref08_Count.f k ((rd_T47 x720000 x8).f0) ((rd_T47 x720000 x8).f1)).bind fun t723 => (if (mx x1 ((rd_T47 x720000 x8).f1)) ≤ (wrap64 ((wrap64 (((rd_T47 x720000 x8).f1) + t723)) - 1)) then (if x7 = true then (if (mx x1 ((rd_T47 x720000 x8).f1)) < x6 then (leadtrailref10_Next.l0 k x1 (mx x1 ((rd_T47 x720000 x8).f1)) true (wrap64 (x8 + 1)) x720000) else (leadtrailref10_Next.l0 k x1 x6 x7 (wrap64 (x8 + 1)) x720000)) else (leadtrailref10_Next.l0 k x1 (mx x1 ((rd_T47 x720000 x8).f1)) true (wrap64 (x8 + 1)) x720000)) else (leadtrailref10_Next.l0 k x1 x6 x7 (wrap64 (x8 + 1)) x720000))) else (none)) else (some (x6, x7))
def leadtrailref10_Next.f (k : Nat) (l0_0 : List (S47)) (a1 : Int) : Option (Int × Bool) := (leadtrailref08_Valid.f k l0_0).bind fun t720 => (if t720 = true then (leadtrailref10_Next.l0 k a1 0 false 0 l0_0) else (some (0, false)))
def leadtrailref10_Next.T9 : Bool × List (List Nat × List Nat) := (true, [([], []), ([], []), ([1], [1]), ([], []), ([3], [3]), ([2, 4], [2, 4]), ([5], [5]), ([0, 6], [0, 6]), ([7, 4], [7]), ([8], [8]), ([9, 8], [8, 9]), ([10, 8, 8], [8, 10]), ([11], [11]), ([11], [11]), ([12, 13, 11], [11, 12, 13]), ([11, 14, 8], [8, 11, 14]), ([8, 15], [8, 15])])
def leadtrailref10_Next.B9 : List Nat := [0, 0, 2, 0, 8, 30, 62, 127, 255, 511, 1023, 2047, 4095, 4095, 16383, 32767, 65535]
theorem leadtrailref10_Next.tab9 : rtab .any (opsOf Try.f48 9) = leadtrailref10_Next.T9 := by kernel_rfl
theorem leadtrailref10_Next.bits9 : waitsOk leadtrailref10_Next.T9.2 leadtrailref10_Next.B9 = true := by kernel_rfl
set_option maxHeartbeats 8000000 in
set_option maxRecDepth 100000 in
theorem leadtrailref10_Next.calls (k : Nat) (A0_0 : Option Addr) (c0_0 : Nat) (l0_0 : List (S47)) (a1 : Int) (r1 : Int) (r2 : Bool) (w : World) (hr0_0 : Kd.C k47 w A0_0 l0_0.length l0_0) (hc0_0 : l0_0.length ≤ c0_0) (h : leadtrailref10_Next.f k l0_0 a1 = some (r1, r2)) :
 Calls Try.prog 48 #[.agg #[.slice A0_0 l0_0.length c0_0], .int .i64 a1] w fun e w' => e = .returned (.tuple #[.int .i64 r1, .bool r2]) ∧ Below w.heap.size w w' := by
 have hu69 := Try.underlying69; have hu47 := Try.underlying47; have HR0_0 := zk hr0_0; have HC0_0 := zk hc0_0; clear hr0_0 hc0_0; have HB := zk (Below.refl w.heap.size w); have H : ((leadtrailref08_Valid.f k l0_0).bind fun t720 => (if t720 = true then (leadtrailref10_Next.l0 k a1 0 false 0 l0_0) else (some (0, false)))) = some (r1, r2) := h; clear h; replace H := Option.bind_eq_some_iff.mp H; obtain ⟨t720, A30, H⟩ := H; replace H : (if t720 = true then (leadtrailref10_Next.l0 k a1 0 false 0 l0_0) else (some (0, false))) = some (r1, r2) := H; have A3 := zk A30; clear A30; by_cases c4 : t720 = true
 ·subst c4; have H1 : (leadtrailref10_Next.l0 k a1 0 false 0 l0_0) = some (r1, r2) := by rw [if_pos rfl] at H; exact H
  clear H; have H := H1; clear H1; have H' := zk H; clear H; go_enter Try.func48, Try.ntmps48
  go_wp2_with (first | ((with_reducible refine gate_dst (N := 2) rfl ?_); refine box_event ?hg (N := 2) ?hd (cs := #[.slice A0_0 l0_0.length c0_0]) (t := 69) ?hr ?_; (case hd => rfl); (case hg => rfl); (case hr => first | (go_simp; done) | (go_simp; rfl)); intro gb719 hg w5 hbox hb; have BK719 := zk (hbox); have GE719 := zk ((zg hg HB.out : w.heap.size ≤ gb719)); replace HB := zk (below_step (zU HB.out) hb);  clear hb hbox hg; have hcz6_0 : w5.cell? ⟨gb719, 0, none⟩ = some (.slice A0_0 l0_0.length c0_0) := zh BK719.out 0; have hfz6_0 := blk_frozen BK719.out 0) | ((with_reducible refine gate_callee (f := 96) rfl ?_); refine goesL_ (some 12) rfl rfl Try.func96 zz rfl #[.agg #[.slice A0_0 l0_0.length c0_0]] rfl zM ?_; (with_reducible refine (leadtrailref08_Valid.calls k _ _ l0_0 true _ ?side1 ?side2 A3.out).mono ?_); (case side1 => exact zc (Kd.C_below HR0_0.out HB.out)); (case side2 => exact HC0_0.out); rintro e w7 ⟨rfl, hb⟩; refine ⟨_, rfl, ?_⟩; replace BK719 := zk (zbb BK719.out hb); replace HB := zk (below_step (zU HB.out) hb);  (try clear hb); (try clear hb2); (try clear hk); (try clear hi)))
  go_loopg [6, 7, 8] k (fun kq v6 v7 v8 w' => ∃ (x6_1 : Int) (x7_1 : Bool) (x8_1 : Int), v6 = .int .i64 x6_1 ∧ v7 = .bool x7_1 ∧ v8 = .int .i64 x8_1 ∧ Aside0 (leadtrailref10_Next.l0 kq a1 x6_1 x7_1 x8_1 l0_0 = some (r1, r2)) ∧ Aside0 (kq ≤ k) ∧ Aside0 (w'.heap[gb719]? = some (.cells #[(.slice A0_0 l0_0.length c0_0)] 69 (0, 0))) ∧ Aside0 (Below w.heap.size w w'))
  case atStart => exact ⟨(0), (false), (0), zR, zR, zR, H', ⟨Nat.le_refl _⟩, ⟨zb BK719.out⟩, ⟨zU HB.out⟩⟩
  case round =>
   clear H'; (try clear p2); (try clear c4); (try clear hcz6_0); (try clear hfz6_0); obtain ⟨x6_1, x7_1, x8_1, rfl, rfl, rfl, HA, HK1, BK719, HB⟩ := hrel
   cases gk with
   | zero => exact absurd HA.out (by simp [leadtrailref10_Next.l0])
   | succ k1 =>
    have H := HA.out; clear HA; simp only [leadtrailref10_Next.l0] at H; by_cases c8 : x8_1 < (l0_0.length : Int)
    ·rw [if_pos c8] at H; have c8b0 : decide (x8_1 < (l0_0.length : Int)) = true := decide_eq_true c8; clear c8; by_cases c9 : 0 ≤ x8_1
     ·rw [if_pos c9] at H; have c9b0 : decide (0 ≤ x8_1) = true := decide_eq_true c9; clear c9; obtain ⟨ji10, hji10⟩ : ∃ j_ : Int, (mx a1 ((rd_T47 l0_0 x8_1).f1)) = j_ := ⟨_, rfl⟩
      replace H : ((leadtrailref08_Count.f k1 ((rd_T47 l0_0 x8_1).f0) ((rd_T47 l0_0 x8_1).f1)).bind fun t723 => (if (ji10) ≤ (wrap64 ((wrap64 (((rd_T47 l0_0 x8_1).f1) + t723)) - 1)) then (if x7_1 = true then (if (ji10) < x6_1 then (leadtrailref10_Next.l0 k1 a1 ji10 true (wrap64 (x8_1 + 1)) l0_0) else (leadtrailref10_Next.l0 k1 a1 x6_1 x7_1 (wrap64 (x8_1 + 1)) l0_0)) else (leadtrailref10_Next.l0 k1 a1 ji10 true (wrap64 (x8_1 + 1)) l0_0)) else (leadtrailref10_Next.l0 k1 a1 x6_1 x7_1 (wrap64 (x8_1 + 1)) l0_0))) = some (r1, r2) := by first | (rw [hji10] at H; exact H) | (simp only [hji10] at H ⊢; exact H)
      have hji10_ : (if a1 < ((rd_T47 l0_0 x8_1).f1) then ((rd_T47 l0_0 x8_1).f1) else a1) = ji10 := hji10; replace H := Option.bind_eq_some_iff.mp H; obtain ⟨t723, A110, H⟩ := H; replace H : (if (ji10) ≤ (wrap64 ((wrap64 (((rd_T47 l0_0 x8_1).f1) + t723)) - 1)) then (if x7_1 = true then (if (ji10) < x6_1 then (leadtrailref10_Next.l0 k1 a1 ji10 true (wrap64 (x8_1 + 1)) l0_0) else (leadtrailref10_Next.l0 k1 a1 x6_1 x7_1 (wrap64 (x8_1 + 1)) l0_0)) else (leadtrailref10_Next.l0 k1 a1 ji10 true (wrap64 (x8_1 + 1)) l0_0)) else (leadtrailref10_Next.l0 k1 a1 x6_1 x7_1 (wrap64 (x8_1 + 1)) l0_0)) = some (r1, r2) := H; have A11 := zk A110; clear A110; by_cases c12 : (ji10) ≤ (wrap64 ((wrap64 (((rd_T47 l0_0 x8_1).f1) + t723)) - 1))
      ·rw [if_pos c12] at H; have c12b0 : decide ((ji10) ≤ (wrap64 ((wrap64 (((rd_T47 l0_0 x8_1).f1) + t723)) - 1))) = true := decide_eq_true c12; clear c12; by_cases c13 : x7_1 = true
       ·subst c13; have H1 : (if (ji10) < x6_1 then (leadtrailref10_Next.l0 k1 a1 ji10 true (wrap64 (x8_1 + 1)) l0_0) else (leadtrailref10_Next.l0 k1 a1 x6_1 true (wrap64 (x8_1 + 1)) l0_0)) = some (r1, r2) := by rw [if_pos rfl] at H; exact H
        clear H; have H := H1; clear H1; by_cases c14 : (ji10) < x6_1
        ·rw [if_pos c14] at H; have c14b0 : decide ((ji10) < x6_1) = true := decide_eq_true c14; clear c14; have H' := zk H; clear H; have hcz15_0 : wr.cell? ⟨gb719, 0, none⟩ = some (.slice A0_0 l0_0.length c0_0) := zh BK719.out 0; have hfz15_0 := blk_frozen BK719.out 0; have p721 : 0 ≤ (x8_1 : Int) := zT; have q721 : x8_1 < (l0_0.length : Int) := zT; obtain ⟨ad721, A721_0, c721_0, e721, hx721_0, hx721_1, hl721_0, hi721_0⟩ := at_T47 HR0_0.out x8_1 p721 q721; cases e721; replace hx721_0 := zcl HB.out hx721_0; replace hx721_1 := zcl HB.out hx721_1; have HR721_0 := zk hi721_0; have HC721_0 := zk hl721_0; clear hi721_0 hl721_0; replace p721 := eq_true p721; replace q721 := eq_true q721; try go_wp2_with (first | ((with_reducible refine gate_dst (N := 9) rfl ?_); refine box_event ?hg (N := 9) ?hd (cs := #[.slice none 0 0, .int .i64 0]) (t := 47) ?hr ?_; (case hd => rfl); (case hg => rfl); (case hr => first | (go_simp; done) | (go_simp; rfl)); intro gb722 hg w16 hbox hb; have BK722 := zk (hbox); have GE722 := zk ((zg hg HB.out : w.heap.size ≤ gb722)); replace HB := zk (below_step (zU HB.out) hb); have NB719_722 := zk ((zlt hg BK719.out : gb719 ≠ gb722)); have NB722_719 := zk ((zgt hg BK719.out : gb722 ≠ gb719)); replace BK719 := zk (zbb BK719.out hb);  clear hb hbox hg; have hnb17 := NB722_719.out; have hnc17 := NB719_722.out; have hcz18_0 : w16.cell? ⟨gb722, 0, none⟩ = some (.slice none 0 0) := zh BK722.out 0; have hcz18_1 : w16.cell? ⟨gb722, 1, none⟩ = some (.int .i64 0) := zh BK722.out 1; have hfz18_0 := blk_frozen BK722.out 0; have hfz18_1 := blk_frozen BK722.out 1))
         have n0_ : Aside0 (((w16.setCell ⟨gb722, 0, none⟩ (.slice A721_0 ((rd_T47 l0_0 x8_1).f0).length c721_0)).setCell ⟨gb722, 1, none⟩ (.int .i64 ((rd_T47 l0_0 x8_1).f1))).heap[gb719]? = some (.cells #[.slice (some ad721) l0_0.length c0_0] 69 (0, 0))) := ⟨zb BK719.out⟩; have n1_ : Aside0 (((w16.setCell ⟨gb722, 0, none⟩ (.slice A721_0 ((rd_T47 l0_0 x8_1).f0).length c721_0)).setCell ⟨gb722, 1, none⟩ (.int .i64 ((rd_T47 l0_0 x8_1).f1))).heap[gb722]? = some (.cells #[.slice A721_0 ((rd_T47 l0_0 x8_1).f0).length c721_0, .int .i64 ((rd_T47 l0_0 x8_1).f1)] 47 (0, 0))) := ⟨by (with_reducible repeat (first | refine blk_drewN ?_ _ | refine blk_drew ?_ | refine blk_alloc ?_ _)); refine blk_put (cs := #[.slice A721_0 ((rd_T47 l0_0 x8_1).f0).length c721_0, .int .i64 0]) ?_ 1 _ rfl; (with_reducible repeat (first | refine blk_drewN ?_ _ | refine blk_drew ?_ | refine blk_alloc ?_ _)); refine blk_put (cs := #[.slice none 0 0, .int .i64 0]) ?_ 0 _ rfl; exact zb BK722.out⟩; have n2_ : Aside0 (Below w.heap.size w ((w16.setCell ⟨gb722, 0, none⟩ (.slice A721_0 ((rd_T47 l0_0 x8_1).f0).length c721_0)).setCell ⟨gb722, 1, none⟩ (.int .i64 ((rd_T47 l0_0 x8_1).f1)))) := ⟨zU HB.out⟩; (try clear BK719); (try clear BK722); (try clear HB); generalize ((w16.setCell ⟨gb722, 0, none⟩ (.slice A721_0 ((rd_T47 l0_0 x8_1).f0).length c721_0)).setCell ⟨gb722, 1, none⟩ (.int .i64 ((rd_T47 l0_0 x8_1).f1))) = w19 at n0_ n1_ n2_ ⊢; have BK719 := n0_; have BK722 := n1_; have HB := n2_; clear n0_ n1_ n2_; have n0_ := zk (blk_drew BK719.out); have n1_ := zk (blk_drew BK722.out); have n2_ := zk (below_drew1 HB.out); clear BK719; clear BK722; clear HB; have BK719 := n0_; have BK722 := n1_; have HB := n2_; clear n0_ n1_ n2_; refine start_ (n := 17) (S := fun w' => w'.cell? ⟨gb722, 0, none⟩ = some (.slice A721_0 ((rd_T47 l0_0 x8_1).f0).length c721_0) ∧ w'.cell? ⟨gb722, 1, none⟩ = some (.int .i64 ((rd_T47 l0_0 x8_1).f1))) (ds := []) #[false, false, false, false, false, false, false, false, false, false, false, false, false, false, false, false, false] zz rfl rfl ⟨(blk_cell BK722.out 0).trans rfl, (blk_cell BK722.out 1).trans rfl⟩ (fun hHeld => ?_); refine with_tabW leadtrailref10_Next.tab9 leadtrailref10_Next.bits9 (fun HT_ HW_ => ?_); generalize w19.drew = w20 at BK719 BK722 HB hHeld ⊢; refine zp 0 (some 30) (v := ?_) (a' := ?_) (bz 17 1) rfl rfl HT_.out zz zQ ?_ ?_ ?_; rotate_left
         ·intro w'; go_simp; with_reducible rfl
         rotate_left
         ·simp only [Act.put, zv, i64_w, i32_w]; rfl
         refine zp 1 (some 31) (v := ?_) (a' := ?_) (bz 17 3) rfl rfl HT_.out zz zQ ?_ ?_ ?_; rotate_left
         ·intro w'; go_simp; with_reducible rfl
         rotate_left
         ·simp only [Act.put, zv, i64_w, i32_w]; rfl
         refine take_ (i := 2) (N := some 32) (v := ?_) (a' := ?_) (bz 17 7) rfl rfl (take_ofW HT_.out HW_.out zz) zQ (Or.inl ⟨by rfl, ?_⟩) hHeld ?_ ?_; rotate_left
         ·rintro w' ⟨s0, s1⟩; go_simp; with_reducible rfl
         rotate_left
         ·simp only [Act.put, zv, i64_w, i32_w]; rfl
         refine take_ (i := 3) (N := some 33) (v := ?_) (a' := ?_) (bz 17 15) rfl rfl (take_ofW HT_.out HW_.out zz) zQ (Or.inl ⟨by rfl, ?_⟩) hHeld ?_ ?_; rotate_left
         ·rintro w' ⟨s0, s1⟩; go_simp; with_reducible rfl
         rotate_left
         ·simp only [Act.put, zv, i64_w, i32_w]; rfl
         refine one_ (i := 4) (N := some 34) (bz 17 31) rfl rfl (one_of HT_.out zz) (by decide) (fun K hK => ?_); refine goes_ Try.func83 zz rfl #[.agg #[.slice A721_0 ((rd_T47 l0_0 x8_1).f0).length c721_0, .int .i64 ((rd_T47 l0_0 x8_1).f1)]] (by rfl) rfl rfl zM ?_; with_reducible refine (leadtrailref08_Count.calls k1 _ _ ((rd_T47 l0_0 x8_1).f0) ((rd_T47 l0_0 x8_1).f1) t723 _ ?side1 ?side2 A11.out).mono ?_; (case side1 => exact zc (Kd.C_below HR721_0.out HB.out))
         (case side2 => exact HC721_0.out)
         rintro e w21 ⟨rfl, hb⟩; refine ⟨_, rfl, ?_⟩; have n0_ := zk (zbb BK719.out hb); have n1_ := zk (zbb BK722.out hb); have n2_ := zk (below_step (zU HB.out) hb); clear BK719; clear BK722; clear HB; have BK719 := n0_; have BK722 := n1_; have HB := n2_; clear n0_ n1_ n2_; (try clear hb); (try clear hb2); (try clear hk); (try clear hi); refine hK.out _ _ ⟨(blk_cell BK722.out 0).trans rfl, (blk_cell BK722.out 1).trans rfl⟩ (fun hHeld => ?_); clear hK K; refine norm_ (a' := ?_) ?_ ?_; rotate_left
         ·show Act.put _ (some 34) _ = _; simp only [Act.put, zv, i64_w, i32_w]; rfl
         refine zp 5 (some 35) (v := ?_) (a' := ?_) (bz 17 63) rfl rfl HT_.out zz zQ ?_ ?_ ?_; rotate_left
         ·intro w'; go_simp; with_reducible rfl
         rotate_left
         ·simp only [Act.put, zv, i64_w, i32_w]; rfl
         refine zp 6 (some 36) (v := ?_) (a' := ?_) (bz 17 127) rfl rfl HT_.out zz zQ ?_ ?_ ?_; rotate_left
         ·intro w'; go_simp; with_reducible rfl
         rotate_left
         ·simp only [Act.put, zv, i64_w, i32_w]; rfl
         refine zp 7 (some 37) (v := ?_) (a' := ?_) (bz 17 255) rfl rfl HT_.out zz zQ ?_ ?_ ?_; rotate_left
         ·intro w'; go_simp; with_reducible rfl
         rotate_left
         ·simp only [Act.put, zv, i64_w, i32_w]; rfl
         refine zp 8 (some 38) (v := ?_) (a' := ?_) (bz 17 511) rfl rfl HT_.out zz zQ ?_ ?_ ?_; rotate_left
         ·intro w'; go_simp; with_reducible rfl
         rotate_left
         ·simp only [Act.put, zv, i64_w, i32_w]; rfl
         refine zp 9 (some 39) (v := ?_) (a' := ?_) (bz 17 1023) rfl rfl HT_.out zz zQ ?_ ?_ ?_; rotate_left
         ·intro w'; go_simp; with_reducible rfl
         rotate_left
         ·simp only [Act.put, zv, i64_w, i32_w]; rfl
         refine zp 10 (some 40) (v := ?_) (a' := ?_) (bz 17 2047) rfl rfl HT_.out zz zQ ?_ ?_ ?_; rotate_left
         ·intro w'; go_simp; with_reducible rfl
         rotate_left
         ·simp only [Act.put, zv, i64_w, i32_w]; rfl
         refine zp 11 (some 41) (v := ?_) (a' := ?_) (bz 17 4095) rfl rfl HT_.out zz zQ ?_ ?_ ?_; rotate_left
         ·intro w'; go_simp; with_reducible rfl
         rotate_left
         ·simp only [Act.put, zv, i64_w, i32_w]; rfl
         refine zp 12 (some 42) (v := ?_) (a' := ?_) (bz 17 8191) rfl rfl HT_.out zz zQ ?_ ?_ ?_; rotate_left
         ·intro w'; go_simp; with_reducible rfl
         rotate_left
         ·simp only [Act.put, zv, i64_w, i32_w]; rfl
         refine zp 13 (some 43) (v := ?_) (a' := ?_) (bz 17 16383) rfl rfl HT_.out zz zQ ?_ ?_ ?_; rotate_left
         ·intro w'; go_simp; with_reducible rfl
         rotate_left
         ·simp only [Act.put, zv, i64_w, i32_w]; rfl
         refine zp 14 (some 44) (v := ?_) (a' := ?_) (bz 17 32767) rfl rfl HT_.out zz zQ ?_ ?_ ?_; rotate_left
         ·intro w'; go_simp; with_reducible rfl
         rotate_left
         ·simp only [Act.put, zv, i64_w, i32_w]; rfl
         refine zp 15 (some 45) (v := ?_) (a' := ?_) (bz 17 65535) rfl rfl HT_.out zz zQ ?_ ?_ ?_; rotate_left
         ·intro w'; go_simp; with_reducible rfl
         rotate_left
         ·simp only [Act.put, zv, i64_w, i32_w]; rfl
         refine zp 16 (some 46) (v := ?_) (a' := ?_) (bz 17 131071) rfl rfl HT_.out zz zQ ?_ ?_ ?_; rotate_left
         ·intro w'; go_simp; with_reducible rfl
         rotate_left
         ·simp only [Act.put, zv, i64_w, i32_w]; rfl
         refine done_ (done_of HT_.out zz) ?_; try go_wp2
         go_roundg k1
         case measure => have := HK1.out; omega
         case rel => exact ⟨(ji10), (true), (wrap64 (x8_1 + 1)), (by first | rfl | (simp; done) | (rw [← hji10_, if_pos (by omega)]; first | done | rfl) | (rw [← hji10_, if_neg (by omega)]; first | done | rfl) | (simp only [← hji10] <;> (first | rfl | simp)) | (simp [*]; done)), zR, zR, H', ⟨by have := HK1.out; omega⟩, ⟨zb BK719.out⟩, ⟨zU HB.out⟩⟩
        ·rw [if_neg c14] at H; have c14b0 : decide ((ji10) < x6_1) = false := decide_eq_false c14; clear c14; have H' := zk H; clear H; have hcz22_0 : wr.cell? ⟨gb719, 0, none⟩ = some (.slice A0_0 l0_0.length c0_0) := zh BK719.out 0; have hfz22_0 := blk_frozen BK719.out 0; have p721 : 0 ≤ (x8_1 : Int) := zT; have q721 : x8_1 < (l0_0.length : Int) := zT; obtain ⟨ad721, A721_0, c721_0, e721, hx721_0, hx721_1, hl721_0, hi721_0⟩ := at_T47 HR0_0.out x8_1 p721 q721; cases e721; replace hx721_0 := zcl HB.out hx721_0; replace hx721_1 := zcl HB.out hx721_1; have HR721_0 := zk hi721_0; have HC721_0 := zk hl721_0; clear hi721_0 hl721_0; replace p721 := eq_true p721; replace q721 := eq_true q721; try go_wp2_with (first | ((with_reducible refine gate_dst (N := 9) rfl ?_); refine box_event ?hg (N := 9) ?hd (cs := #[.slice none 0 0, .int .i64 0]) (t := 47) ?hr ?_; (case hd => rfl); (case hg => rfl); (case hr => first | (go_simp; done) | (go_simp; rfl)); intro gb722 hg w23 hbox hb; have BK722 := zk (hbox); have GE722 := zk ((zg hg HB.out : w.heap.size ≤ gb722)); replace HB := zk (below_step (zU HB.out) hb); have NB719_722 := zk ((zlt hg BK719.out : gb719 ≠ gb722)); have NB722_719 := zk ((zgt hg BK719.out : gb722 ≠ gb719)); replace BK719 := zk (zbb BK719.out hb);  clear hb hbox hg; have hnb24 := NB722_719.out; have hnc24 := NB719_722.out; have hcz25_0 : w23.cell? ⟨gb722, 0, none⟩ = some (.slice none 0 0) := zh BK722.out 0; have hcz25_1 : w23.cell? ⟨gb722, 1, none⟩ = some (.int .i64 0) := zh BK722.out 1; have hfz25_0 := blk_frozen BK722.out 0; have hfz25_1 := blk_frozen BK722.out 1))
         have n0_ : Aside0 (((w23.setCell ⟨gb722, 0, none⟩ (.slice A721_0 ((rd_T47 l0_0 x8_1).f0).length c721_0)).setCell ⟨gb722, 1, none⟩ (.int .i64 ((rd_T47 l0_0 x8_1).f1))).heap[gb719]? = some (.cells #[.slice (some ad721) l0_0.length c0_0] 69 (0, 0))) := ⟨zb BK719.out⟩; have n1_ : Aside0 (((w23.setCell ⟨gb722, 0, none⟩ (.slice A721_0 ((rd_T47 l0_0 x8_1).f0).length c721_0)).setCell ⟨gb722, 1, none⟩ (.int .i64 ((rd_T47 l0_0 x8_1).f1))).heap[gb722]? = some (.cells #[.slice A721_0 ((rd_T47 l0_0 x8_1).f0).length c721_0, .int .i64 ((rd_T47 l0_0 x8_1).f1)] 47 (0, 0))) := ⟨by (with_reducible repeat (first | refine blk_drewN ?_ _ | refine blk_drew ?_ | refine blk_alloc ?_ _)); refine blk_put (cs := #[.slice A721_0 ((rd_T47 l0_0 x8_1).f0).length c721_0, .int .i64 0]) ?_ 1 _ rfl; (with_reducible repeat (first | refine blk_drewN ?_ _ | refine blk_drew ?_ | refine blk_alloc ?_ _)); refine blk_put (cs := #[.slice none 0 0, .int .i64 0]) ?_ 0 _ rfl; exact zb BK722.out⟩; have n2_ : Aside0 (Below w.heap.size w ((w23.setCell ⟨gb722, 0, none⟩ (.slice A721_0 ((rd_T47 l0_0 x8_1).f0).length c721_0)).setCell ⟨gb722, 1, none⟩ (.int .i64 ((rd_T47 l0_0 x8_1).f1)))) := ⟨zU HB.out⟩; (try clear BK719); (try clear BK722); (try clear HB); generalize ((w23.setCell ⟨gb722, 0, none⟩ (.slice A721_0 ((rd_T47 l0_0 x8_1).f0).length c721_0)).setCell ⟨gb722, 1, none⟩ (.int .i64 ((rd_T47 l0_0 x8_1).f1))) = w26 at n0_ n1_ n2_ ⊢; have BK719 := n0_; have BK722 := n1_; have HB := n2_; clear n0_ n1_ n2_; have n0_ := zk (blk_drew BK719.out); have n1_ := zk (blk_drew BK722.out); have n2_ := zk (below_drew1 HB.out); clear BK719; clear BK722; clear HB; have BK719 := n0_; have BK722 := n1_; have HB := n2_; clear n0_ n1_ n2_; refine start_ (n := 17) (S := fun w' => w'.cell? ⟨gb722, 0, none⟩ = some (.slice A721_0 ((rd_T47 l0_0 x8_1).f0).length c721_0) ∧ w'.cell? ⟨gb722, 1, none⟩ = some (.int .i64 ((rd_T47 l0_0 x8_1).f1))) (ds := []) #[false, false, false, false, false, false, false, false, false, false, false, false, false, false, false, false, false] zz rfl rfl ⟨(blk_cell BK722.out 0).trans rfl, (blk_cell BK722.out 1).trans rfl⟩ (fun hHeld => ?_); refine with_tabW leadtrailref10_Next.tab9 leadtrailref10_Next.bits9 (fun HT_ HW_ => ?_); generalize w26.drew = w27 at BK719 BK722 HB hHeld ⊢; refine zp 0 (some 30) (v := ?_) (a' := ?_) (bz 17 1) rfl rfl HT_.out zz zQ ?_ ?_ ?_; rotate_left
         ·intro w'; go_simp; with_reducible rfl
         rotate_left
         ·simp only [Act.put, zv, i64_w, i32_w]; rfl
         refine zp 1 (some 31) (v := ?_) (a' := ?_) (bz 17 3) rfl rfl HT_.out zz zQ ?_ ?_ ?_; rotate_left
         ·intro w'; go_simp; with_reducible rfl
         rotate_left
         ·simp only [Act.put, zv, i64_w, i32_w]; rfl
         refine take_ (i := 2) (N := some 32) (v := ?_) (a' := ?_) (bz 17 7) rfl rfl (take_ofW HT_.out HW_.out zz) zQ (Or.inl ⟨by rfl, ?_⟩) hHeld ?_ ?_; rotate_left
         ·rintro w' ⟨s0, s1⟩; go_simp; with_reducible rfl
         rotate_left
         ·simp only [Act.put, zv, i64_w, i32_w]; rfl
         refine take_ (i := 3) (N := some 33) (v := ?_) (a' := ?_) (bz 17 15) rfl rfl (take_ofW HT_.out HW_.out zz) zQ (Or.inl ⟨by rfl, ?_⟩) hHeld ?_ ?_; rotate_left
         ·rintro w' ⟨s0, s1⟩; go_simp; with_reducible rfl
         rotate_left
         ·simp only [Act.put, zv, i64_w, i32_w]; rfl
         refine one_ (i := 4) (N := some 34) (bz 17 31) rfl rfl (one_of HT_.out zz) (by decide) (fun K hK => ?_); refine goes_ Try.func83 zz rfl #[.agg #[.slice A721_0 ((rd_T47 l0_0 x8_1).f0).length c721_0, .int .i64 ((rd_T47 l0_0 x8_1).f1)]] (by rfl) rfl rfl zM ?_; with_reducible refine (leadtrailref08_Count.calls k1 _ _ ((rd_T47 l0_0 x8_1).f0) ((rd_T47 l0_0 x8_1).f1) t723 _ ?side1 ?side2 A11.out).mono ?_; (case side1 => exact zc (Kd.C_below HR721_0.out HB.out))
         (case side2 => exact HC721_0.out)
         rintro e w28 ⟨rfl, hb⟩; refine ⟨_, rfl, ?_⟩; have n0_ := zk (zbb BK719.out hb); have n1_ := zk (zbb BK722.out hb); have n2_ := zk (below_step (zU HB.out) hb); clear BK719; clear BK722; clear HB; have BK719 := n0_; have BK722 := n1_; have HB := n2_; clear n0_ n1_ n2_; (try clear hb); (try clear hb2); (try clear hk); (try clear hi); refine hK.out _ _ ⟨(blk_cell BK722.out 0).trans rfl, (blk_cell BK722.out 1).trans rfl⟩ (fun hHeld => ?_); clear hK K; refine norm_ (a' := ?_) ?_ ?_; rotate_left
         ·show Act.put _ (some 34) _ = _; simp only [Act.put, zv, i64_w, i32_w]; rfl
         refine zp 5 (some 35) (v := ?_) (a' := ?_) (bz 17 63) rfl rfl HT_.out zz zQ ?_ ?_ ?_; rotate_left
         ·intro w'; go_simp; with_reducible rfl
         rotate_left
         ·simp only [Act.put, zv, i64_w, i32_w]; rfl
         refine zp 6 (some 36) (v := ?_) (a' := ?_) (bz 17 127) rfl rfl HT_.out zz zQ ?_ ?_ ?_; rotate_left
         ·intro w'; go_simp; with_reducible rfl
         rotate_left
         ·simp only [Act.put, zv, i64_w, i32_w]; rfl
         refine zp 7 (some 37) (v := ?_) (a' := ?_) (bz 17 255) rfl rfl HT_.out zz zQ ?_ ?_ ?_; rotate_left
         ·intro w'; go_simp; with_reducible rfl
         rotate_left
         ·simp only [Act.put, zv, i64_w, i32_w]; rfl
         refine zp 8 (some 38) (v := ?_) (a' := ?_) (bz 17 511) rfl rfl HT_.out zz zQ ?_ ?_ ?_; rotate_left
         ·intro w'; go_simp; with_reducible rfl
         rotate_left
         ·simp only [Act.put, zv, i64_w, i32_w]; rfl
         refine zp 9 (some 39) (v := ?_) (a' := ?_) (bz 17 1023) rfl rfl HT_.out zz zQ ?_ ?_ ?_; rotate_left
         ·intro w'; go_simp; with_reducible rfl
         rotate_left
         ·simp only [Act.put, zv, i64_w, i32_w]; rfl
         refine zp 10 (some 40) (v := ?_) (a' := ?_) (bz 17 2047) rfl rfl HT_.out zz zQ ?_ ?_ ?_; rotate_left
         ·intro w'; go_simp; with_reducible rfl
         rotate_left
         ·simp only [Act.put, zv, i64_w, i32_w]; rfl
         refine zp 11 (some 41) (v := ?_) (a' := ?_) (bz 17 4095) rfl rfl HT_.out zz zQ ?_ ?_ ?_; rotate_left
         ·intro w'; go_simp; with_reducible rfl
         rotate_left
         ·simp only [Act.put, zv, i64_w, i32_w]; rfl
         refine zp 12 (some 42) (v := ?_) (a' := ?_) (bz 17 8191) rfl rfl HT_.out zz zQ ?_ ?_ ?_; rotate_left
         ·intro w'; go_simp; with_reducible rfl
         rotate_left
         ·simp only [Act.put, zv, i64_w, i32_w]; rfl
         refine zp 13 (some 43) (v := ?_) (a' := ?_) (bz 17 16383) rfl rfl HT_.out zz zQ ?_ ?_ ?_; rotate_left
         ·intro w'; go_simp; with_reducible rfl
         rotate_left
         ·simp only [Act.put, zv, i64_w, i32_w]; rfl
         refine zp 14 (some 44) (v := ?_) (a' := ?_) (bz 17 32767) rfl rfl HT_.out zz zQ ?_ ?_ ?_; rotate_left
         ·intro w'; go_simp; with_reducible rfl
         rotate_left
         ·simp only [Act.put, zv, i64_w, i32_w]; rfl
         refine zp 15 (some 45) (v := ?_) (a' := ?_) (bz 17 65535) rfl rfl HT_.out zz zQ ?_ ?_ ?_; rotate_left
         ·intro w'; go_simp; with_reducible rfl
         rotate_left
         ·simp only [Act.put, zv, i64_w, i32_w]; rfl
         refine zp 16 (some 46) (v := ?_) (a' := ?_) (bz 17 131071) rfl rfl HT_.out zz zQ ?_ ?_ ?_; rotate_left
         ·intro w'; go_simp; with_reducible rfl
         rotate_left
         ·simp only [Act.put, zv, i64_w, i32_w]; rfl
         refine done_ (done_of HT_.out zz) ?_; try go_wp2
         go_roundg k1
         case measure => have := HK1.out; omega
         case rel => exact ⟨(x6_1), (true), (wrap64 (x8_1 + 1)), zR, zR, zR, H', ⟨by have := HK1.out; omega⟩, ⟨zb BK719.out⟩, ⟨zU HB.out⟩⟩
       ·replace c13 := Bool.eq_false_iff.mpr c13; subst c13; have H1 : (leadtrailref10_Next.l0 k1 a1 ji10 true (wrap64 (x8_1 + 1)) l0_0) = some (r1, r2) := by rw [if_neg (show ¬ (false = true) by decide)] at H; exact H
        clear H; have H := H1; clear H1; have H' := zk H; clear H; have hcz29_0 : wr.cell? ⟨gb719, 0, none⟩ = some (.slice A0_0 l0_0.length c0_0) := zh BK719.out 0; have hfz29_0 := blk_frozen BK719.out 0; have p721 : 0 ≤ (x8_1 : Int) := zT; have q721 : x8_1 < (l0_0.length : Int) := zT; obtain ⟨ad721, A721_0, c721_0, e721, hx721_0, hx721_1, hl721_0, hi721_0⟩ := at_T47 HR0_0.out x8_1 p721 q721; cases e721; replace hx721_0 := zcl HB.out hx721_0; replace hx721_1 := zcl HB.out hx721_1; have HR721_0 := zk hi721_0; have HC721_0 := zk hl721_0; clear hi721_0 hl721_0; replace p721 := eq_true p721; replace q721 := eq_true q721; try go_wp2_with (first | ((with_reducible refine gate_dst (N := 9) rfl ?_); refine box_event ?hg (N := 9) ?hd (cs := #[.slice none 0 0, .int .i64 0]) (t := 47) ?hr ?_; (case hd => rfl); (case hg => rfl); (case hr => first | (go_simp; done) | (go_simp; rfl)); intro gb722 hg w30 hbox hb; have BK722 := zk (hbox); have GE722 := zk ((zg hg HB.out : w.heap.size ≤ gb722)); replace HB := zk (below_step (zU HB.out) hb); have NB719_722 := zk ((zlt hg BK719.out : gb719 ≠ gb722)); have NB722_719 := zk ((zgt hg BK719.out : gb722 ≠ gb719)); replace BK719 := zk (zbb BK719.out hb);  clear hb hbox hg; have hnb31 := NB722_719.out; have hnc31 := NB719_722.out; have hcz32_0 : w30.cell? ⟨gb722, 0, none⟩ = some (.slice none 0 0) := zh BK722.out 0; have hcz32_1 : w30.cell? ⟨gb722, 1, none⟩ = some (.int .i64 0) := zh BK722.out 1; have hfz32_0 := blk_frozen BK722.out 0; have hfz32_1 := blk_frozen BK722.out 1))
        have n0_ : Aside0 (((w30.setCell ⟨gb722, 0, none⟩ (.slice A721_0 ((rd_T47 l0_0 x8_1).f0).length c721_0)).setCell ⟨gb722, 1, none⟩ (.int .i64 ((rd_T47 l0_0 x8_1).f1))).heap[gb719]? = some (.cells #[.slice (some ad721) l0_0.length c0_0] 69 (0, 0))) := ⟨zb BK719.out⟩; have n1_ : Aside0 (((w30.setCell ⟨gb722, 0, none⟩ (.slice A721_0 ((rd_T47 l0_0 x8_1).f0).length c721_0)).setCell ⟨gb722, 1, none⟩ (.int .i64 ((rd_T47 l0_0 x8_1).f1))).heap[gb722]? = some (.cells #[.slice A721_0 ((rd_T47 l0_0 x8_1).f0).length c721_0, .int .i64 ((rd_T47 l0_0 x8_1).f1)] 47 (0, 0))) := ⟨by (with_reducible repeat (first | refine blk_drewN ?_ _ | refine blk_drew ?_ | refine blk_alloc ?_ _)); refine blk_put (cs := #[.slice A721_0 ((rd_T47 l0_0 x8_1).f0).length c721_0, .int .i64 0]) ?_ 1 _ rfl; (with_reducible repeat (first | refine blk_drewN ?_ _ | refine blk_drew ?_ | refine blk_alloc ?_ _)); refine blk_put (cs := #[.slice none 0 0, .int .i64 0]) ?_ 0 _ rfl; exact zb BK722.out⟩; have n2_ : Aside0 (Below w.heap.size w ((w30.setCell ⟨gb722, 0, none⟩ (.slice A721_0 ((rd_T47 l0_0 x8_1).f0).length c721_0)).setCell ⟨gb722, 1, none⟩ (.int .i64 ((rd_T47 l0_0 x8_1).f1)))) := ⟨zU HB.out⟩; (try clear BK719); (try clear BK722); (try clear HB); generalize ((w30.setCell ⟨gb722, 0, none⟩ (.slice A721_0 ((rd_T47 l0_0 x8_1).f0).length c721_0)).setCell ⟨gb722, 1, none⟩ (.int .i64 ((rd_T47 l0_0 x8_1).f1))) = w33 at n0_ n1_ n2_ ⊢; have BK719 := n0_; have BK722 := n1_; have HB := n2_; clear n0_ n1_ n2_; have n0_ := zk (blk_drew BK719.out); have n1_ := zk (blk_drew BK722.out); have n2_ := zk (below_drew1 HB.out); clear BK719; clear BK722; clear HB; have BK719 := n0_; have BK722 := n1_; have HB := n2_; clear n0_ n1_ n2_; refine start_ (n := 17) (S := fun w' => w'.cell? ⟨gb722, 0, none⟩ = some (.slice A721_0 ((rd_T47 l0_0 x8_1).f0).length c721_0) ∧ w'.cell? ⟨gb722, 1, none⟩ = some (.int .i64 ((rd_T47 l0_0 x8_1).f1))) (ds := []) #[false, false, false, false, false, false, false, false, false, false, false, false, false, false, false, false, false] zz rfl rfl ⟨(blk_cell BK722.out 0).trans rfl, (blk_cell BK722.out 1).trans rfl⟩ (fun hHeld => ?_); refine with_tabW leadtrailref10_Next.tab9 leadtrailref10_Next.bits9 (fun HT_ HW_ => ?_); generalize w33.drew = w34 at BK719 BK722 HB hHeld ⊢; refine zp 0 (some 30) (v := ?_) (a' := ?_) (bz 17 1) rfl rfl HT_.out zz zQ ?_ ?_ ?_; rotate_left
        ·intro w'; go_simp; with_reducible rfl
        rotate_left
        ·simp only [Act.put, zv, i64_w, i32_w]; rfl
        refine zp 1 (some 31) (v := ?_) (a' := ?_) (bz 17 3) rfl rfl HT_.out zz zQ ?_ ?_ ?_; rotate_left
        ·intro w'; go_simp; with_reducible rfl
        rotate_left
        ·simp only [Act.put, zv, i64_w, i32_w]; rfl
        refine take_ (i := 2) (N := some 32) (v := ?_) (a' := ?_) (bz 17 7) rfl rfl (take_ofW HT_.out HW_.out zz) zQ (Or.inl ⟨by rfl, ?_⟩) hHeld ?_ ?_; rotate_left
        ·rintro w' ⟨s0, s1⟩; go_simp; with_reducible rfl
        rotate_left
        ·simp only [Act.put, zv, i64_w, i32_w]; rfl
        refine take_ (i := 3) (N := some 33) (v := ?_) (a' := ?_) (bz 17 15) rfl rfl (take_ofW HT_.out HW_.out zz) zQ (Or.inl ⟨by rfl, ?_⟩) hHeld ?_ ?_; rotate_left
        ·rintro w' ⟨s0, s1⟩; go_simp; with_reducible rfl
        rotate_left
        ·simp only [Act.put, zv, i64_w, i32_w]; rfl
        refine one_ (i := 4) (N := some 34) (bz 17 31) rfl rfl (one_of HT_.out zz) (by decide) (fun K hK => ?_); refine goes_ Try.func83 zz rfl #[.agg #[.slice A721_0 ((rd_T47 l0_0 x8_1).f0).length c721_0, .int .i64 ((rd_T47 l0_0 x8_1).f1)]] (by rfl) rfl rfl zM ?_; with_reducible refine (leadtrailref08_Count.calls k1 _ _ ((rd_T47 l0_0 x8_1).f0) ((rd_T47 l0_0 x8_1).f1) t723 _ ?side1 ?side2 A11.out).mono ?_; (case side1 => exact zc (Kd.C_below HR721_0.out HB.out))
        (case side2 => exact HC721_0.out)
        rintro e w35 ⟨rfl, hb⟩; refine ⟨_, rfl, ?_⟩; have n0_ := zk (zbb BK719.out hb); have n1_ := zk (zbb BK722.out hb); have n2_ := zk (below_step (zU HB.out) hb); clear BK719; clear BK722; clear HB; have BK719 := n0_; have BK722 := n1_; have HB := n2_; clear n0_ n1_ n2_; (try clear hb); (try clear hb2); (try clear hk); (try clear hi); refine hK.out _ _ ⟨(blk_cell BK722.out 0).trans rfl, (blk_cell BK722.out 1).trans rfl⟩ (fun hHeld => ?_); clear hK K; refine norm_ (a' := ?_) ?_ ?_; rotate_left
        ·show Act.put _ (some 34) _ = _; simp only [Act.put, zv, i64_w, i32_w]; rfl
        refine zp 5 (some 35) (v := ?_) (a' := ?_) (bz 17 63) rfl rfl HT_.out zz zQ ?_ ?_ ?_; rotate_left
        ·intro w'; go_simp; with_reducible rfl
        rotate_left
        ·simp only [Act.put, zv, i64_w, i32_w]; rfl
        refine zp 6 (some 36) (v := ?_) (a' := ?_) (bz 17 127) rfl rfl HT_.out zz zQ ?_ ?_ ?_; rotate_left
        ·intro w'; go_simp; with_reducible rfl
        rotate_left
        ·simp only [Act.put, zv, i64_w, i32_w]; rfl
        refine zp 7 (some 37) (v := ?_) (a' := ?_) (bz 17 255) rfl rfl HT_.out zz zQ ?_ ?_ ?_; rotate_left
        ·intro w'; go_simp; with_reducible rfl
        rotate_left
        ·simp only [Act.put, zv, i64_w, i32_w]; rfl
        refine zp 8 (some 38) (v := ?_) (a' := ?_) (bz 17 511) rfl rfl HT_.out zz zQ ?_ ?_ ?_; rotate_left
        ·intro w'; go_simp; with_reducible rfl
        rotate_left
        ·simp only [Act.put, zv, i64_w, i32_w]; rfl
        refine zp 9 (some 39) (v := ?_) (a' := ?_) (bz 17 1023) rfl rfl HT_.out zz zQ ?_ ?_ ?_; rotate_left
        ·intro w'; go_simp; with_reducible rfl
        rotate_left
        ·simp only [Act.put, zv, i64_w, i32_w]; rfl
        refine zp 10 (some 40) (v := ?_) (a' := ?_) (bz 17 2047) rfl rfl HT_.out zz zQ ?_ ?_ ?_; rotate_left
        ·intro w'; go_simp; with_reducible rfl
        rotate_left
        ·simp only [Act.put, zv, i64_w, i32_w]; rfl
        refine zp 11 (some 41) (v := ?_) (a' := ?_) (bz 17 4095) rfl rfl HT_.out zz zQ ?_ ?_ ?_; rotate_left
        ·intro w'; go_simp; with_reducible rfl
        rotate_left
        ·simp only [Act.put, zv, i64_w, i32_w]; rfl
        refine pure_ (i := 12) (N := some 42) (v := undef) (a' := ?_) (bz 17 8191) rfl rfl (any_of HT_.out zz) zQ (Or.inr ⟨by rfl, rfl⟩) ?_ ?_; rotate_left
        ·simp only [Act.put, zv, i64_w, i32_w]; rfl
        refine pure_ (i := 13) (N := some 43) (v := undef) (a' := ?_) (bz 17 16383) rfl rfl (any_of HT_.out zz) zQ (Or.inr ⟨by rfl, rfl⟩) ?_ ?_; rotate_left
        ·simp only [Act.put, zv, i64_w, i32_w]; rfl
        refine pure_ (i := 14) (N := some 44) (v := undef) (a' := ?_) (bz 17 32767) rfl rfl (any_of HT_.out zz) zQ (Or.inr ⟨by rfl, rfl⟩) ?_ ?_; rotate_left
        ·simp only [Act.put, zv, i64_w, i32_w]; rfl
        refine zp 15 (some 45) (v := ?_) (a' := ?_) (bz 17 65535) rfl rfl HT_.out zz zQ ?_ ?_ ?_; rotate_left
        ·intro w'; go_simp; with_reducible rfl
        rotate_left
        ·simp only [Act.put, zv, i64_w, i32_w]; rfl
        refine zp 16 (some 46) (v := ?_) (a' := ?_) (bz 17 131071) rfl rfl HT_.out zz zQ ?_ ?_ ?_; rotate_left
        ·intro w'; go_simp; with_reducible rfl
        rotate_left
        ·simp only [Act.put, zv, i64_w, i32_w]; rfl
        refine done_ (done_of HT_.out zz) ?_; try go_wp2
        go_roundg k1
        case measure => have := HK1.out; omega
        case rel => exact ⟨(ji10), (true), (wrap64 (x8_1 + 1)), (by first | rfl | (simp; done) | (rw [← hji10_, if_pos (by omega)]; first | done | rfl) | (rw [← hji10_, if_neg (by omega)]; first | done | rfl) | (simp only [← hji10] <;> (first | rfl | simp)) | (simp [*]; done)), zR, zR, H', ⟨by have := HK1.out; omega⟩, ⟨zb BK719.out⟩, ⟨zU HB.out⟩⟩
      ·rw [if_neg c12] at H; have c12b0 : decide ((ji10) ≤ (wrap64 ((wrap64 (((rd_T47 l0_0 x8_1).f1) + t723)) - 1))) = false := decide_eq_false c12; clear c12; have H' := zk H; clear H; have hcz36_0 : wr.cell? ⟨gb719, 0, none⟩ = some (.slice A0_0 l0_0.length c0_0) := zh BK719.out 0; have hfz36_0 := blk_frozen BK719.out 0; have p721 : 0 ≤ (x8_1 : Int) := zT; have q721 : x8_1 < (l0_0.length : Int) := zT; obtain ⟨ad721, A721_0, c721_0, e721, hx721_0, hx721_1, hl721_0, hi721_0⟩ := at_T47 HR0_0.out x8_1 p721 q721; cases e721; replace hx721_0 := zcl HB.out hx721_0; replace hx721_1 := zcl HB.out hx721_1; have HR721_0 := zk hi721_0; have HC721_0 := zk hl721_0; clear hi721_0 hl721_0; replace p721 := eq_true p721; replace q721 := eq_true q721; try go_wp2_with (first | ((with_reducible refine gate_dst (N := 9) rfl ?_); refine box_event ?hg (N := 9) ?hd (cs := #[.slice none 0 0, .int .i64 0]) (t := 47) ?hr ?_; (case hd => rfl); (case hg => rfl); (case hr => first | (go_simp; done) | (go_simp; rfl)); intro gb722 hg w37 hbox hb; have BK722 := zk (hbox); have GE722 := zk ((zg hg HB.out : w.heap.size ≤ gb722)); replace HB := zk (below_step (zU HB.out) hb); have NB719_722 := zk ((zlt hg BK719.out : gb719 ≠ gb722)); have NB722_719 := zk ((zgt hg BK719.out : gb722 ≠ gb719)); replace BK719 := zk (zbb BK719.out hb);  clear hb hbox hg; have hnb38 := NB722_719.out; have hnc38 := NB719_722.out; have hcz39_0 : w37.cell? ⟨gb722, 0, none⟩ = some (.slice none 0 0) := zh BK722.out 0; have hcz39_1 : w37.cell? ⟨gb722, 1, none⟩ = some (.int .i64 0) := zh BK722.out 1; have hfz39_0 := blk_frozen BK722.out 0; have hfz39_1 := blk_frozen BK722.out 1))
       have n0_ : Aside0 (((w37.setCell ⟨gb722, 0, none⟩ (.slice A721_0 ((rd_T47 l0_0 x8_1).f0).length c721_0)).setCell ⟨gb722, 1, none⟩ (.int .i64 ((rd_T47 l0_0 x8_1).f1))).heap[gb719]? = some (.cells #[.slice (some ad721) l0_0.length c0_0] 69 (0, 0))) := ⟨zb BK719.out⟩; have n1_ : Aside0 (((w37.setCell ⟨gb722, 0, none⟩ (.slice A721_0 ((rd_T47 l0_0 x8_1).f0).length c721_0)).setCell ⟨gb722, 1, none⟩ (.int .i64 ((rd_T47 l0_0 x8_1).f1))).heap[gb722]? = some (.cells #[.slice A721_0 ((rd_T47 l0_0 x8_1).f0).length c721_0, .int .i64 ((rd_T47 l0_0 x8_1).f1)] 47 (0, 0))) := ⟨by (with_reducible repeat (first | refine blk_drewN ?_ _ | refine blk_drew ?_ | refine blk_alloc ?_ _)); refine blk_put (cs := #[.slice A721_0 ((rd_T47 l0_0 x8_1).f0).length c721_0, .int .i64 0]) ?_ 1 _ rfl; (with_reducible repeat (first | refine blk_drewN ?_ _ | refine blk_drew ?_ | refine blk_alloc ?_ _)); refine blk_put (cs := #[.slice none 0 0, .int .i64 0]) ?_ 0 _ rfl; exact zb BK722.out⟩; have n2_ : Aside0 (Below w.heap.size w ((w37.setCell ⟨gb722, 0, none⟩ (.slice A721_0 ((rd_T47 l0_0 x8_1).f0).length c721_0)).setCell ⟨gb722, 1, none⟩ (.int .i64 ((rd_T47 l0_0 x8_1).f1)))) := ⟨zU HB.out⟩; (try clear BK719); (try clear BK722); (try clear HB); generalize ((w37.setCell ⟨gb722, 0, none⟩ (.slice A721_0 ((rd_T47 l0_0 x8_1).f0).length c721_0)).setCell ⟨gb722, 1, none⟩ (.int .i64 ((rd_T47 l0_0 x8_1).f1))) = w40 at n0_ n1_ n2_ ⊢; have BK719 := n0_; have BK722 := n1_; have HB := n2_; clear n0_ n1_ n2_; have n0_ := zk (blk_drew BK719.out); have n1_ := zk (blk_drew BK722.out); have n2_ := zk (below_drew1 HB.out); clear BK719; clear BK722; clear HB; have BK719 := n0_; have BK722 := n1_; have HB := n2_; clear n0_ n1_ n2_; refine start_ (n := 17) (S := fun w' => w'.cell? ⟨gb722, 0, none⟩ = some (.slice A721_0 ((rd_T47 l0_0 x8_1).f0).length c721_0) ∧ w'.cell? ⟨gb722, 1, none⟩ = some (.int .i64 ((rd_T47 l0_0 x8_1).f1))) (ds := []) #[false, false, false, false, false, false, false, false, false, false, false, false, false, false, false, false, false] zz rfl rfl ⟨(blk_cell BK722.out 0).trans rfl, (blk_cell BK722.out 1).trans rfl⟩ (fun hHeld => ?_); refine with_tabW leadtrailref10_Next.tab9 leadtrailref10_Next.bits9 (fun HT_ HW_ => ?_); generalize w40.drew = w41 at BK719 BK722 HB hHeld ⊢; refine zp 0 (some 30) (v := ?_) (a' := ?_) (bz 17 1) rfl rfl HT_.out zz zQ ?_ ?_ ?_; rotate_left
       ·intro w'; go_simp; with_reducible rfl
       rotate_left
       ·simp only [Act.put, zv, i64_w, i32_w]; rfl
       refine zp 1 (some 31) (v := ?_) (a' := ?_) (bz 17 3) rfl rfl HT_.out zz zQ ?_ ?_ ?_; rotate_left
       ·intro w'; go_simp; with_reducible rfl
       rotate_left
       ·simp only [Act.put, zv, i64_w, i32_w]; rfl
       refine take_ (i := 2) (N := some 32) (v := ?_) (a' := ?_) (bz 17 7) rfl rfl (take_ofW HT_.out HW_.out zz) zQ (Or.inl ⟨by rfl, ?_⟩) hHeld ?_ ?_; rotate_left
       ·rintro w' ⟨s0, s1⟩; go_simp; with_reducible rfl
       rotate_left
       ·simp only [Act.put, zv, i64_w, i32_w]; rfl
       refine take_ (i := 3) (N := some 33) (v := ?_) (a' := ?_) (bz 17 15) rfl rfl (take_ofW HT_.out HW_.out zz) zQ (Or.inl ⟨by rfl, ?_⟩) hHeld ?_ ?_; rotate_left
       ·rintro w' ⟨s0, s1⟩; go_simp; with_reducible rfl
       rotate_left
       ·simp only [Act.put, zv, i64_w, i32_w]; rfl
       refine one_ (i := 4) (N := some 34) (bz 17 31) rfl rfl (one_of HT_.out zz) (by decide) (fun K hK => ?_); refine goes_ Try.func83 zz rfl #[.agg #[.slice A721_0 ((rd_T47 l0_0 x8_1).f0).length c721_0, .int .i64 ((rd_T47 l0_0 x8_1).f1)]] (by rfl) rfl rfl zM ?_; with_reducible refine (leadtrailref08_Count.calls k1 _ _ ((rd_T47 l0_0 x8_1).f0) ((rd_T47 l0_0 x8_1).f1) t723 _ ?side1 ?side2 A11.out).mono ?_; (case side1 => exact zc (Kd.C_below HR721_0.out HB.out))
       (case side2 => exact HC721_0.out)
       rintro e w42 ⟨rfl, hb⟩; refine ⟨_, rfl, ?_⟩; have n0_ := zk (zbb BK719.out hb); have n1_ := zk (zbb BK722.out hb); have n2_ := zk (below_step (zU HB.out) hb); clear BK719; clear BK722; clear HB; have BK719 := n0_; have BK722 := n1_; have HB := n2_; clear n0_ n1_ n2_; (try clear hb); (try clear hb2); (try clear hk); (try clear hi); refine hK.out _ _ ⟨(blk_cell BK722.out 0).trans rfl, (blk_cell BK722.out 1).trans rfl⟩ (fun hHeld => ?_); clear hK K; refine norm_ (a' := ?_) ?_ ?_; rotate_left
       ·show Act.put _ (some 34) _ = _; simp only [Act.put, zv, i64_w, i32_w]; rfl
       refine zp 5 (some 35) (v := ?_) (a' := ?_) (bz 17 63) rfl rfl HT_.out zz zQ ?_ ?_ ?_; rotate_left
       ·intro w'; go_simp; with_reducible rfl
       rotate_left
       ·simp only [Act.put, zv, i64_w, i32_w]; rfl
       refine zp 6 (some 36) (v := ?_) (a' := ?_) (bz 17 127) rfl rfl HT_.out zz zQ ?_ ?_ ?_; rotate_left
       ·intro w'; go_simp; with_reducible rfl
       rotate_left
       ·simp only [Act.put, zv, i64_w, i32_w]; rfl
       refine zp 7 (some 37) (v := ?_) (a' := ?_) (bz 17 255) rfl rfl HT_.out zz zQ ?_ ?_ ?_; rotate_left
       ·intro w'; go_simp; with_reducible rfl
       rotate_left
       ·simp only [Act.put, zv, i64_w, i32_w]; rfl
       refine zp 8 (some 38) (v := ?_) (a' := ?_) (bz 17 511) rfl rfl HT_.out zz zQ ?_ ?_ ?_; rotate_left
       ·intro w'; go_simp; with_reducible rfl
       rotate_left
       ·simp only [Act.put, zv, i64_w, i32_w]; rfl
       refine pure_ (i := 9) (N := some 39) (v := undef) (a' := ?_) (bz 17 1023) rfl rfl (any_of HT_.out zz) zQ (Or.inr ⟨by rfl, rfl⟩) ?_ ?_; rotate_left
       ·simp only [Act.put, zv, i64_w, i32_w]; rfl
       refine pure_ (i := 10) (N := some 40) (v := undef) (a' := ?_) (bz 17 2047) rfl rfl (any_of HT_.out zz) zQ (Or.inr ⟨by rfl, rfl⟩) ?_ ?_; rotate_left
       ·simp only [Act.put, zv, i64_w, i32_w]; rfl
       refine pure_ (i := 11) (N := some 41) (v := undef) (a' := ?_) (bz 17 4095) rfl rfl (any_of HT_.out zz) zQ (Or.inr ⟨by rfl, rfl⟩) ?_ ?_; rotate_left
       ·simp only [Act.put, zv, i64_w, i32_w]; rfl
       refine pure_ (i := 12) (N := some 42) (v := undef) (a' := ?_) (bz 17 8191) rfl rfl (any_of HT_.out zz) zQ (Or.inr ⟨by rfl, rfl⟩) ?_ ?_; rotate_left
       ·simp only [Act.put, zv, i64_w, i32_w]; rfl
       refine pure_ (i := 13) (N := some 43) (v := undef) (a' := ?_) (bz 17 16383) rfl rfl (any_of HT_.out zz) zQ (Or.inr ⟨by rfl, rfl⟩) ?_ ?_; rotate_left
       ·simp only [Act.put, zv, i64_w, i32_w]; rfl
       refine pure_ (i := 14) (N := some 44) (v := undef) (a' := ?_) (bz 17 32767) rfl rfl (any_of HT_.out zz) zQ (Or.inr ⟨by rfl, rfl⟩) ?_ ?_; rotate_left
       ·simp only [Act.put, zv, i64_w, i32_w]; rfl
       refine pure_ (i := 15) (N := some 45) (v := undef) (a' := ?_) (bz 17 65535) rfl rfl (any_of HT_.out zz) zQ (Or.inr ⟨by rfl, rfl⟩) ?_ ?_; rotate_left
       ·simp only [Act.put, zv, i64_w, i32_w]; rfl
       refine zp 16 (some 46) (v := ?_) (a' := ?_) (bz 17 131071) rfl rfl HT_.out zz zQ ?_ ?_ ?_; rotate_left
       ·intro w'; go_simp; with_reducible rfl
       rotate_left
       ·simp only [Act.put, zv, i64_w, i32_w]; rfl
       refine done_ (done_of HT_.out zz) ?_; try go_wp2
       go_roundg k1
       case measure => have := HK1.out; omega
       case rel => exact ⟨(x6_1), (x7_1), (wrap64 (x8_1 + 1)), zR, zR, zR, H', ⟨by have := HK1.out; omega⟩, ⟨zb BK719.out⟩, ⟨zU HB.out⟩⟩
     ·rw [if_neg c9] at H; exact absurd H (by simp)
    ·rw [if_neg c8] at H; have c8b0 : decide (x8_1 < (l0_0.length : Int)) = false := decide_eq_false c8; clear c8; simp only [Option.some.injEq, Prod.mk.injEq] at H; obtain ⟨rfl, rfl⟩ := H; have hcz43_0 : wr.cell? ⟨gb719, 0, none⟩ = some (.slice A0_0 l0_0.length c0_0) := zh BK719.out 0; have hfz43_0 := blk_frozen BK719.out 0; go_wp2
     go_ret2
     exact ⟨ze, zU HB.out⟩
 ·replace c4 := Bool.eq_false_iff.mpr c4; subst c4; have H1 : (some (0, false)) = some (r1, r2) := by rw [if_neg (show ¬ (false = true) by decide)] at H; exact H
  clear H; have H := H1; clear H1; simp only [Option.some.injEq, Prod.mk.injEq] at H; obtain ⟨rfl, rfl⟩ := H; go_enter Try.func48, Try.ntmps48
  go_wp2_with (first | ((with_reducible refine gate_dst (N := 2) rfl ?_); refine box_event ?hg (N := 2) ?hd (cs := #[.slice A0_0 l0_0.length c0_0]) (t := 69) ?hr ?_; (case hd => rfl); (case hg => rfl); (case hr => first | (go_simp; done) | (go_simp; rfl)); intro gb719 hg w44 hbox hb; have BK719 := zk (hbox); have GE719 := zk ((zg hg HB.out : w.heap.size ≤ gb719)); replace HB := zk (below_step (zU HB.out) hb);  clear hb hbox hg; have hcz45_0 : w44.cell? ⟨gb719, 0, none⟩ = some (.slice A0_0 l0_0.length c0_0) := zh BK719.out 0; have hfz45_0 := blk_frozen BK719.out 0) | ((with_reducible refine gate_callee (f := 96) rfl ?_); refine goesL_ (some 12) rfl rfl Try.func96 zz rfl #[.agg #[.slice A0_0 l0_0.length c0_0]] rfl zM ?_; (with_reducible refine (leadtrailref08_Valid.calls k _ _ l0_0 false _ ?side1 ?side2 A3.out).mono ?_); (case side1 => exact zc (Kd.C_below HR0_0.out HB.out)); (case side2 => exact HC0_0.out); rintro e w46 ⟨rfl, hb⟩; refine ⟨_, rfl, ?_⟩; replace BK719 := zk (zbb BK719.out hb); replace HB := zk (below_step (zU HB.out) hb);  (try clear hb); (try clear hb2); (try clear hk); (try clear hi)))
  go_ret2
  exact ⟨ze, zU HB.out⟩
end Go.Proofs.Ytoljcfocgaonpaa.I
