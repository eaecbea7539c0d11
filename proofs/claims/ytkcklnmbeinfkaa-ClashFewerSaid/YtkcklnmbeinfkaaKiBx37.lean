/- Words and walks of this claim, of the text Bx37. -/
import Derived.Test.YtkcklnmbeinfkaaKiQW0
import Derived.Test.YtkcklnmbeinfkaaKiBx0
import Derived.Test.YtkcklnmbeinfkaaKiBx22
import Derived.Test.YtkcklnmbeinfkaaKiBx31
import Derived.Test.YtkcklnmbeinfkaaKiBx32
import Derived.Test.YtkcklnmbeinfkaaKiBx34
namespace Go.Proofs.Ytkcklnmbeinfkaa.B
open Go.RowKit Go.Proofs.YtkcklnmbeinfkaaW.PrintWords Go.Proofs.YtkcklnmbeinfkaaW.PrintLast Go.Proofs.YtkcklnmbeinfkaaW.PrintMore
attribute [local go_sem] max2_int min2_int max_two min_two max_three min_three max_four min_four
set_option linter.unusedVariables false
set_option linter.unusedSimpArgs false
def leadtraillaw11_ClashFewer.j0 : Nat → Int → Bool → List (S50) → Bool → Int → Int → Bool → Int → Int → Option (Bool)
 | 0, _, _, _, _, _, _, _, _, _ => none
 | k + 1, x1, x33, x903000, x909000, x909001, x909002, x914000, x914001, x914002 => if x33 = true then (some true) else (if (x903000.length : Int) = 0 then (none) else ((leadtrailref08_Copy.f k x903000).bind fun t914 => (if 0 ≤ (Int.tmod (wrap64 ((Int.tmod x1 (x903000.length : Int)) + (x903000.length : Int))) (x903000.length : Int)) then (if (Int.tmod (wrap64 ((Int.tmod x1 (x903000.length : Int)) + (x903000.length : Int))) (x903000.length : Int)) ≤ (t914.length : Int) then (if 0 ≤ (wrap64 ((Int.tmod (wrap64 ((Int.tmod x1 (x903000.length : Int)) + (x903000.length : Int))) (x903000.length : Int)) + 1)) then (if (wrap64 ((Int.tmod (wrap64 ((Int.tmod x1 (x903000.length : Int)) + (x903000.length : Int))) (x903000.length : Int)) + 1)) ≤ (t914.length : Int) then ((some (t914.eraseIdx ((Int.tmod (wrap64 ((Int.tmod x1 (x903000.length : Int)) + (x903000.length : Int))) (x903000.length : Int)) : Int).toNat : List (S50))).bind fun y926 => ((clash_Prefix.f k y926).bind fun bt929 => ((clash_Inject.f k y926).bind fun bt934 => (if bt929.2.2.2 = 0 then (if bt934.2.2.2 = 0 then (if x909000 = true then (if bt929.1 = true then (if x914000 = true then (some bt934.1) else (some true)) else (none)) else (if x914000 = true then (some bt934.1) else (some true))) else (none)) else (none))))) else (none)) else (none)) else (none)) else (none))))
def leadtraillaw11_ClashFewer.f (k : Nat) (l0_0 : List (S50)) (a1 : Int) : Option (Bool) := (leadtraillaw11_fixed.f k).bind fun t903 => (if t903 = true then ((clash_Prefix.f k l0_0).bind fun bt904 => ((clash_Inject.f k l0_0).bind fun bt909 => (if bt904.2.2.2 = 0 then (leadtraillaw11_ClashFewer.j0 k a1 ((l0_0.length : Int) == 0) l0_0 bt904.1 bt904.2.1 bt904.2.2.1 bt909.1 bt909.2.1 bt909.2.2.1) else (leadtraillaw11_ClashFewer.j0 k a1 true l0_0 bt904.1 bt904.2.1 bt904.2.2.1 bt909.1 bt909.2.1 bt909.2.2.1)))) else (none))
def leadtraillaw11_ClashFewer.T7 : Bool × List (List Nat × List Nat) := (true, [([], []), ([], []), ([1], [1]), ([2], [2]), ([0, 3], [0, 3]), ([], []), ([5], [5]), ([6], [6]), ([4, 7], [4, 7]), ([], []), ([9], [9]), ([10], [10]), ([8, 11], [8, 11]), ([12, 0, 1, 2, 3, 4, 5, 6, 7, 8, 9, 10, 11, 12], [0, 12])])
def leadtraillaw11_ClashFewer.B7 : List Nat := [0, 0, 2, 6, 15, 0, 32, 96, 255, 0, 512, 1536, 4095, 8191]
theorem leadtraillaw11_ClashFewer.tab7 : rtab .any (opsOf Try.f11 7) = leadtraillaw11_ClashFewer.T7 := by kernel_rfl
theorem leadtraillaw11_ClashFewer.bits7 : waitsOk leadtraillaw11_ClashFewer.T7.2 leadtraillaw11_ClashFewer.B7 = true := by kernel_rfl
def leadtraillaw11_ClashFewer.T9 : Bool × List (List Nat × List Nat) := (true, [([], []), ([0], [0]), ([], []), ([1, 2], [1, 2]), ([], []), ([4], [4]), ([], []), ([6], [6]), ([5, 7], [5, 7]), ([3, 8], [3, 8]), ([0, 1, 2, 3, 4, 5, 6, 7, 8, 9], []), ([10, 9, 9, 0, 1, 2, 3, 4, 5, 6, 7, 8, 9], [9, 10])])
def leadtraillaw11_ClashFewer.B9 : List Nat := [0, 1, 0, 7, 0, 16, 0, 64, 240, 511, 1023, 2047]
theorem leadtraillaw11_ClashFewer.tab9 : rtab .any (opsOf Try.f11 9) = leadtraillaw11_ClashFewer.T9 := by kernel_rfl
theorem leadtraillaw11_ClashFewer.bits9 : waitsOk leadtraillaw11_ClashFewer.T9.2 leadtraillaw11_ClashFewer.B9 = true := by kernel_rfl
set_option maxHeartbeats 8000000 in
set_option maxRecDepth 100000 in
theorem leadtraillaw11_ClashFewer.calls (k : Nat) (A0_0 : Option Addr) (c0_0 : Nat) (l0_0 : List (S50)) (a1 : Int) (r : Bool) (w : World) (hr0_0 : Kd.C k50 w A0_0 l0_0.length l0_0) (hc0_0 : l0_0.length ≤ c0_0) (h : leadtraillaw11_ClashFewer.f k l0_0 a1 = some r) :
 Calls Try.prog 11 #[.agg #[.slice A0_0 l0_0.length c0_0], .int .i64 a1] w fun e w' => e = .returned (.bool r) ∧ Below w.heap.size w w' := by
 have hu24 := Try.underlying24; have hu59 := Try.underlying59; have HR0_0 := zk hr0_0; have HC0_0 := zk hc0_0; clear hr0_0 hc0_0; have HB := zk (Below.refl w.heap.size w); have H : ((leadtraillaw11_fixed.f k).bind fun t903 => (if t903 = true then ((clash_Prefix.f k l0_0).bind fun bt904 => ((clash_Inject.f k l0_0).bind fun bt909 => (if bt904.2.2.2 = 0 then (leadtraillaw11_ClashFewer.j0 k a1 ((l0_0.length : Int) == 0) l0_0 bt904.1 bt904.2.1 bt904.2.2.1 bt909.1 bt909.2.1 bt909.2.2.1) else (leadtraillaw11_ClashFewer.j0 k a1 true l0_0 bt904.1 bt904.2.1 bt904.2.2.1 bt909.1 bt909.2.1 bt909.2.2.1)))) else (none))) = some r := h
 clear h; replace H := Option.bind_eq_some_iff.mp H; obtain ⟨t903, A30, H⟩ := H; replace H : (if t903 = true then ((clash_Prefix.f k l0_0).bind fun bt904 => ((clash_Inject.f k l0_0).bind fun bt909 => (if bt904.2.2.2 = 0 then (leadtraillaw11_ClashFewer.j0 k a1 ((l0_0.length : Int) == 0) l0_0 bt904.1 bt904.2.1 bt904.2.2.1 bt909.1 bt909.2.1 bt909.2.2.1) else (leadtraillaw11_ClashFewer.j0 k a1 true l0_0 bt904.1 bt904.2.1 bt904.2.2.1 bt909.1 bt909.2.1 bt909.2.2.1)))) else (none)) = some r := H
 have A3 := zk A30; clear A30
 by_cases c4 : t903 = true
 ·subst c4
  have H1 : ((clash_Prefix.f k l0_0).bind fun bt904 => ((clash_Inject.f k l0_0).bind fun bt909 => (if bt904.2.2.2 = 0 then (leadtraillaw11_ClashFewer.j0 k a1 ((l0_0.length : Int) == 0) l0_0 bt904.1 bt904.2.1 bt904.2.2.1 bt909.1 bt909.2.1 bt909.2.2.1) else (leadtraillaw11_ClashFewer.j0 k a1 true l0_0 bt904.1 bt904.2.1 bt904.2.2.1 bt909.1 bt909.2.1 bt909.2.2.1)))) = some r := by rw [if_pos rfl] at H; exact H
  clear H; have H := H1; clear H1; replace H := Option.bind_eq_some_iff.mp H; obtain ⟨⟨t904, t905, t906, t907⟩, A50, H⟩ := H; replace H : ((clash_Inject.f k l0_0).bind fun bt909 => (if t907 = 0 then (leadtraillaw11_ClashFewer.j0 k a1 ((l0_0.length : Int) == 0) l0_0 t904 t905 t906 bt909.1 bt909.2.1 bt909.2.2.1) else (leadtraillaw11_ClashFewer.j0 k a1 true l0_0 t904 t905 t906 bt909.1 bt909.2.1 bt909.2.2.1))) = some r := H
  have A5 := zk A50; clear A50; replace H := Option.bind_eq_some_iff.mp H; obtain ⟨⟨t909, t910, t911, t912⟩, A60, H⟩ := H; replace H : (if t907 = 0 then (leadtraillaw11_ClashFewer.j0 k a1 ((l0_0.length : Int) == 0) l0_0 t904 t905 t906 t909 t910 t911) else (leadtraillaw11_ClashFewer.j0 k a1 true l0_0 t904 t905 t906 t909 t910 t911)) = some r := H
  have A6 := zk A60; clear A60; have HC7 := zk H; clear H
  go_enter Try.func11, Try.ntmps11
  go_upto_region 5 with (first | ((with_reducible refine gate_dst (N := 2) rfl ?_); (try (refine gate_guard (by rfl) ?_; dsimp only)); refine box_event ?hg (N := 2) ?hd (cs := #[.slice A0_0 l0_0.length c0_0]) (t := 24) ?hr ?_; (case hd => rfl); (case hg => rfl); (case hr => first | (go_simp; done) | (go_simp; rfl)); intro gb902 hg w8 hbox hb; have BK902 := zk (hbox); have GW902 := zk ((zg hg HB.out : w.heap.size ≤ gb902)); have GE902 := zk ((zg hg HB.out : w.heap.size ≤ gb902)); replace HB := zk (below_step (zU HB.out) hb);  clear hb hbox hg) | ((with_reducible refine gate_callee (f := 59) rfl ?_); refine goesL_ (some 14) rfl rfl Try.func59 zz rfl #[] rfl zM ?_; (with_reducible refine (leadtraillaw11_fixed.calls k  true _ A3.out rfl).mono ?_); rintro e w9 ⟨rfl, hb⟩; refine ⟨_, rfl, ?_⟩; replace BK902 := zk (zbb BK902.out hb); replace HB := zk (below_step (zU HB.out) hb);  (try clear hb); (try clear hb2); (try clear hk); (try clear hi); have hcz10_0 : w9.cell? ⟨gb902, 0, none⟩ = some (.slice A0_0 l0_0.length c0_0) := zh BK902.out 0; have hfz10_0 := blk_frozen BK902.out 0) | ((with_reducible refine gate_callee (f := 62) rfl ?_); refine goesL_ (some 18) rfl rfl Try.func62 zz rfl #[.agg #[.slice A0_0 l0_0.length c0_0]] rfl zM ?_; (with_reducible refine (clash_Prefix.calls k _ _ l0_0 t904 t905 t906 t907 _ ?side1 ?side2 A5.out).mono ?_); (case side1 => exact zc (Kd.C_below HR0_0.out HB.out)); (case side2 => exact HC0_0.out); rintro e w11 ⟨rfl, hb⟩; refine ⟨_, rfl, ?_⟩; replace BK902 := zk (zbb BK902.out hb); replace HB := zk (below_step (zU HB.out) hb);  (try clear hb); (try clear hb2); (try clear hk); (try clear hi)) | ((with_reducible refine gate_dst (N := 5) rfl ?_); (try (refine gate_guard (by rfl) ?_; dsimp only)); refine box_event ?hg (N := 5) ?hd (cs := #[.bool false, .int .i64 0, .int .i64 0]) (t := 59) ?hr ?_; (case hd => rfl); (case hg => rfl); (case hr => first | (go_simp; done) | (go_simp; rfl)); intro gb908 hg w12 hbox hb; have BK908 := zk (hbox); have GW908 := zk ((zg hg HB.out : w.heap.size ≤ gb908)); have GE908 := zk ((zg hg HB.out : w.heap.size ≤ gb908)); replace HB := zk (below_step (zU HB.out) hb); have NB902_908 := zk ((zlt hg BK902.out : gb902 ≠ gb908)); have NB908_902 := zk ((zgt hg BK902.out : gb908 ≠ gb902)); replace BK902 := zk (zbb BK902.out hb);  clear hb hbox hg; have hnb13 := NB908_902.out; have hnc13 := NB902_908.out; have hcz14_0 : w12.cell? ⟨gb908, 0, none⟩ = some (.bool false) := zh BK908.out 0; have hcz14_1 : w12.cell? ⟨gb908, 1, none⟩ = some (.int .i64 0) := zh BK908.out 1; have hcz14_2 : w12.cell? ⟨gb908, 2, none⟩ = some (.int .i64 0) := zh BK908.out 2; have hfz14_0 := blk_frozen BK908.out 0; have hfz14_1 := blk_frozen BK908.out 1; have hfz14_2 := blk_frozen BK908.out 2; have hcz15_0 : w12.cell? ⟨gb902, 0, none⟩ = some (.slice A0_0 l0_0.length c0_0) := zh BK902.out 0; have hfz15_0 := blk_frozen BK902.out 0) | ((with_reducible refine gate_callee (f := 60) rfl ?_); refine goesL_ (some 23) rfl rfl Try.func60 zz rfl #[.agg #[.slice A0_0 l0_0.length c0_0]] rfl zM ?_; (with_reducible refine (clash_Inject.calls k _ _ l0_0 t909 t910 t911 t912 _ ?side1 ?side2 A6.out).mono ?_); (case side1 => exact Kd.C_below HR0_0.out (zU HB.out)); (case side2 => exact HC0_0.out); rintro e w16 ⟨rfl, hb⟩; refine ⟨_, rfl, ?_⟩; replace BK902 := zk (zbb BK902.out hb); replace BK908 := zk (blk_below (g := gb908) (o := .cells #[.bool t904, .int .i64 t905, .int .i64 t906] 59 (0, 0)) (by (with_reducible repeat (first | refine blk_drewN ?_ _ | refine blk_drew ?_ | refine blk_alloc ?_ _)); refine blk_put (cs := #[.bool t904, .int .i64 t905, .int .i64 0]) ?_ 2 _ rfl; (with_reducible repeat (first | refine blk_drewN ?_ _ | refine blk_drew ?_ | refine blk_alloc ?_ _)); refine blk_put (cs := #[.bool t904, .int .i64 0, .int .i64 0]) ?_ 1 _ rfl; (with_reducible repeat (first | refine blk_drewN ?_ _ | refine blk_drew ?_ | refine blk_alloc ?_ _)); refine blk_put (cs := #[.bool false, .int .i64 0, .int .i64 0]) ?_ 0 _ rfl; exact zb BK908.out) hb); replace HB := zk (below_step (zU HB.out) hb);  (try clear hb); (try clear hb2); (try clear hk); (try clear hi)) | ((with_reducible refine gate_dst (N := 7) rfl ?_); (try (refine gate_guard (by rfl) ?_; dsimp only)); refine box_event ?hg (N := 7) ?hd (cs := #[.bool false, .int .i64 0, .int .i64 0]) (t := 59) ?hr ?_; (case hd => rfl); (case hg => rfl); (case hr => first | (go_simp; done) | (go_simp; rfl)); intro gb913 hg w17 hbox hb; have BK913 := zk (hbox); have GW913 := zk ((zg hg HB.out : w.heap.size ≤ gb913)); have GE913 := zk ((zg hg HB.out : w.heap.size ≤ gb913)); replace HB := zk (below_step (zU HB.out) hb); have NB902_913 := zk ((zlt hg BK902.out : gb902 ≠ gb913)); have NB913_902 := zk ((zgt hg BK902.out : gb913 ≠ gb902)); replace BK902 := zk (zbb BK902.out hb); have NB908_913 := zk ((zlt hg BK908.out : gb908 ≠ gb913)); have NB913_908 := zk ((zgt hg BK908.out : gb913 ≠ gb908)); replace BK908 := zk (zbb BK908.out hb);  clear hb hbox hg; have hnb18 := NB913_902.out; have hnc18 := NB902_913.out; have hnb19 := NB913_908.out; have hnc19 := NB908_913.out; have hcz20_0 : w17.cell? ⟨gb913, 0, none⟩ = some (.bool false) := zh BK913.out 0; have hcz20_1 : w17.cell? ⟨gb913, 1, none⟩ = some (.int .i64 0) := zh BK913.out 1; have hcz20_2 : w17.cell? ⟨gb913, 2, none⟩ = some (.int .i64 0) := zh BK913.out 2; have hfz20_0 := blk_frozen BK913.out 0; have hfz20_1 := blk_frozen BK913.out 1; have hfz20_2 := blk_frozen BK913.out 2))
  (try simp only [Act.put, List.setIfInBounds_toArray, List.set_cons_zero, List.set_cons_succ])
  go_cut [33] (fun v33 wc => ∃ (kq : Nat) (x33_6 : Bool), v33 = .bool x33_6 ∧ Aside0 (leadtraillaw11_ClashFewer.j0 kq a1 x33_6 l0_0 t904 t905 t906 t909 t910 t911 = some r) ∧ Aside0 (kq ≤ k) ∧ Aside0 (wc.heap[gb902]? = some (.cells #[(.slice A0_0 l0_0.length c0_0)] 24 (0, 0))) ∧ Aside0 (wc.heap[gb908]? = some (.cells #[.bool t904, .int .i64 t905, .int .i64 t906] 59 (0, 0))) ∧ Aside0 (wc.heap[gb913]? = some (.cells #[.bool t909, .int .i64 t910, .int .i64 t911] 59 (0, 0))) ∧ Aside0 (Below w.heap.size w wc))
  case first =>
   have H := HC7.out; clear HC7
   by_cases c21 : t907 = 0
   ·rw [if_pos c21] at H; have c21b0 : (t907 == 0) = true := beq_iff_eq.mpr c21
    have c21b1 : (t907 != 0) = false := bne_eq_false_iff_eq.mpr c21
    clear c21; (first | rw [c21b0] | (simp only [i64_w, i32_w]; rw [c21b0]) | skip)
    have H' := zk H
    clear H; have hnb22 := NB902_908.out; have hnc22 := NB908_902.out; have hnb23 := NB902_913.out; have hnc23 := NB913_902.out; have hcz24_0 : w17.cell? ⟨gb902, 0, none⟩ = some (.slice A0_0 l0_0.length c0_0) := zh BK902.out 0
    have hfz24_0 := blk_frozen BK902.out 0
    go_wp2
    go_meet
    case rel => exact ⟨_, (((l0_0.length : Int) == 0)), zR, H', ⟨by first | omega | exact Nat.le_refl _⟩, ⟨zb BK902.out⟩, ⟨zb BK908.out⟩, ⟨by (with_reducible repeat (first | refine blk_drewN ?_ _ | refine blk_drew ?_ | refine blk_alloc ?_ _)); refine blk_put (cs := #[.bool t909, .int .i64 t910, .int .i64 0]) ?_ 2 _ rfl; (with_reducible repeat (first | refine blk_drewN ?_ _ | refine blk_drew ?_ | refine blk_alloc ?_ _)); refine blk_put (cs := #[.bool t909, .int .i64 0, .int .i64 0]) ?_ 1 _ rfl; (with_reducible repeat (first | refine blk_drewN ?_ _ | refine blk_drew ?_ | refine blk_alloc ?_ _)); refine blk_put (cs := #[.bool false, .int .i64 0, .int .i64 0]) ?_ 0 _ rfl; exact zb BK913.out⟩, ⟨zU HB.out⟩⟩
   ·rw [if_neg c21] at H; have c21b0 : (t907 == 0) = false := beq_eq_false_iff_ne.mpr c21
    have c21b1 : (t907 != 0) = true := bne_iff_ne.mpr c21
    (first | rw [c21b0] | (simp only [i64_w, i32_w]; rw [c21b0]) | skip)
    have H' := zk H
    clear H
    go_wp2
    go_meet
    case rel => exact ⟨_, (true), zR, H', ⟨by first | omega | exact Nat.le_refl _⟩, ⟨zb BK902.out⟩, ⟨zb BK908.out⟩, ⟨by (with_reducible repeat (first | refine blk_drewN ?_ _ | refine blk_drew ?_ | refine blk_alloc ?_ _)); refine blk_put (cs := #[.bool t909, .int .i64 t910, .int .i64 0]) ?_ 2 _ rfl; (with_reducible repeat (first | refine blk_drewN ?_ _ | refine blk_drew ?_ | refine blk_alloc ?_ _)); refine blk_put (cs := #[.bool t909, .int .i64 0, .int .i64 0]) ?_ 1 _ rfl; (with_reducible repeat (first | refine blk_drewN ?_ _ | refine blk_drew ?_ | refine blk_alloc ?_ _)); refine blk_put (cs := #[.bool false, .int .i64 0, .int .i64 0]) ?_ 0 _ rfl; exact zb BK913.out⟩, ⟨zU HB.out⟩⟩
  case rest =>
   clear HC7; (try clear c1); (try clear c2); (try clear p2); (try clear c4); (try clear c5); (try clear c6); (try clear c11); (try clear c13); (try clear c18); (try clear c19); (try clear c21); (try clear c21b0); (try clear c21b1); (try clear c22); (try clear c23); (try clear hcz10_0); (try clear hcz14_0); (try clear hcz14_1); (try clear hcz14_2); (try clear hcz15_0); (try clear hcz20_0); (try clear hcz20_1); (try clear hcz20_2); (try clear hcz24_0); (try clear hfz10_0); (try clear hfz14_0); (try clear hfz14_1); (try clear hfz14_2); (try clear hfz15_0); (try clear hfz20_0); (try clear hfz20_1); (try clear hfz20_2); (try clear hfz24_0); obtain ⟨kq, x33_6, rfl, HA, HJ6, BK902, BK908, BK913, HB⟩ := hcut; cases kq with
   | zero => exact absurd HA.out (by simp [leadtraillaw11_ClashFewer.j0])
   | succ kj6 =>
    have H := HA.out; clear HA; simp only [leadtraillaw11_ClashFewer.j0] at H
    by_cases c25 : x33_6 = true
    ·subst c25
     have H1 : (some true) = some r := by rw [if_pos rfl] at H; exact H
     clear H; have H := H1; clear H1; obtain rfl := Option.some.inj H
     go_wp2
     go_ret
     exact ⟨ze, zU HB.out⟩
    ·replace c25 := Bool.eq_false_iff.mpr c25; subst c25
     have H1 : (if (l0_0.length : Int) = 0 then (none) else ((leadtrailref08_Copy.f kj6 l0_0).bind fun t914 => (if 0 ≤ (Int.tmod (wrap64 ((Int.tmod a1 (l0_0.length : Int)) + (l0_0.length : Int))) (l0_0.length : Int)) then (if (Int.tmod (wrap64 ((Int.tmod a1 (l0_0.length : Int)) + (l0_0.length : Int))) (l0_0.length : Int)) ≤ (t914.length : Int) then (if 0 ≤ (wrap64 ((Int.tmod (wrap64 ((Int.tmod a1 (l0_0.length : Int)) + (l0_0.length : Int))) (l0_0.length : Int)) + 1)) then (if (wrap64 ((Int.tmod (wrap64 ((Int.tmod a1 (l0_0.length : Int)) + (l0_0.length : Int))) (l0_0.length : Int)) + 1)) ≤ (t914.length : Int) then ((some (t914.eraseIdx ((Int.tmod (wrap64 ((Int.tmod a1 (l0_0.length : Int)) + (l0_0.length : Int))) (l0_0.length : Int)) : Int).toNat : List (S50))).bind fun y926 => ((clash_Prefix.f kj6 y926).bind fun bt929 => ((clash_Inject.f kj6 y926).bind fun bt934 => (if bt929.2.2.2 = 0 then (if bt934.2.2.2 = 0 then (if t904 = true then (if bt929.1 = true then (if t909 = true then (some bt934.1) else (some true)) else (none)) else (if t909 = true then (some bt934.1) else (some true))) else (none)) else (none))))) else (none)) else (none)) else (none)) else (none)))) = some r := by rw [if_neg (show ¬ (false = true) by decide)] at H; exact H
     clear H; have H := H1; clear H1
     by_cases c26 : (l0_0.length : Int) = 0
     ·rw [if_pos c26] at H
      exact absurd H (by simp)
     ·rw [if_neg c26] at H; have c26b0 : ((l0_0.length : Int) == 0) = false := beq_eq_false_iff_ne.mpr c26
      have c26b1 : ((l0_0.length : Int) != 0) = true := bne_iff_ne.mpr c26
      have c26b2 : ¬ (l0_0 = []) := fun h_ => c26 (by rw [h_]; rfl)
      replace H := Option.bind_eq_some_iff.mp H; obtain ⟨t914, A270, H⟩ := H; replace H : (if 0 ≤ (Int.tmod (wrap64 ((Int.tmod a1 (l0_0.length : Int)) + (l0_0.length : Int))) (l0_0.length : Int)) then (if (Int.tmod (wrap64 ((Int.tmod a1 (l0_0.length : Int)) + (l0_0.length : Int))) (l0_0.length : Int)) ≤ (t914.length : Int) then (if 0 ≤ (wrap64 ((Int.tmod (wrap64 ((Int.tmod a1 (l0_0.length : Int)) + (l0_0.length : Int))) (l0_0.length : Int)) + 1)) then (if (wrap64 ((Int.tmod (wrap64 ((Int.tmod a1 (l0_0.length : Int)) + (l0_0.length : Int))) (l0_0.length : Int)) + 1)) ≤ (t914.length : Int) then ((some (t914.eraseIdx ((Int.tmod (wrap64 ((Int.tmod a1 (l0_0.length : Int)) + (l0_0.length : Int))) (l0_0.length : Int)) : Int).toNat : List (S50))).bind fun y926 => ((clash_Prefix.f kj6 y926).bind fun bt929 => ((clash_Inject.f kj6 y926).bind fun bt934 => (if bt929.2.2.2 = 0 then (if bt934.2.2.2 = 0 then (if t904 = true then (if bt929.1 = true then (if t909 = true then (some bt934.1) else (some true)) else (none)) else (if t909 = true then (some bt934.1) else (some true))) else (none)) else (none))))) else (none)) else (none)) else (none)) else (none)) = some r := H
      have A27 := zk A270; clear A270; obtain ⟨ji28, hji28⟩ : ∃ j_ : Int, (Int.tmod (wrap64 ((Int.tmod a1 (l0_0.length : Int)) + (l0_0.length : Int))) (l0_0.length : Int)) = j_ := ⟨_, rfl⟩; replace H : (if 0 ≤ (ji28) then (if (ji28) ≤ (t914.length : Int) then (if 0 ≤ (wrap64 ((ji28) + 1)) then (if (wrap64 ((ji28) + 1)) ≤ (t914.length : Int) then ((some (t914.eraseIdx ((ji28) : Int).toNat : List (S50))).bind fun y926 => ((clash_Prefix.f kj6 y926).bind fun bt929 => ((clash_Inject.f kj6 y926).bind fun bt934 => (if bt929.2.2.2 = 0 then (if bt934.2.2.2 = 0 then (if t904 = true then (if bt929.1 = true then (if t909 = true then (some bt934.1) else (some true)) else (none)) else (if t909 = true then (some bt934.1) else (some true))) else (none)) else (none))))) else (none)) else (none)) else (none)) else (none)) = some r := by first | (rw [hji28] at H; exact H) | (simp only [hji28] at H ⊢; exact H)
      (try rw [hji28] at A27)
      by_cases c29 : 0 ≤ (ji28)
      ·rw [if_pos c29] at H; have c29b0 := eq_true c29; have c29b1 : decide (0 ≤ (ji28)) = true := decide_eq_true c29
       clear c29
       by_cases c30 : (ji28) ≤ (t914.length : Int)
       ·rw [if_pos c30] at H; have c30b0 := eq_true c30; have c30b1 : decide ((ji28) ≤ (t914.length : Int)) = true := decide_eq_true c30
        clear c30; obtain ⟨y918, hy918⟩ : ∃ y_ : List (S50), y_ = (t914.take ((ji28) : Int).toNat) := ⟨_, rfl⟩; replace H : (if 0 ≤ (wrap64 ((ji28) + 1)) then (if (wrap64 ((ji28) + 1)) ≤ (t914.length : Int) then ((some (t914.eraseIdx ((ji28) : Int).toNat : List (S50))).bind fun y926 => ((clash_Prefix.f kj6 y926).bind fun bt929 => ((clash_Inject.f kj6 y926).bind fun bt934 => (if bt929.2.2.2 = 0 then (if bt934.2.2.2 = 0 then (if t904 = true then (if bt929.1 = true then (if t909 = true then (some bt934.1) else (some true)) else (none)) else (if t909 = true then (some bt934.1) else (some true))) else (none)) else (none))))) else (none)) else (none)) = some r := by first | (rw [hy918]; with_reducible exact H) | (have H2_ := (Option.bind_some _ _).symm.trans H; rw [hy918]; with_reducible exact H2_) | (have H2_ := (Option.bind_some _ _).symm.trans H; with_reducible exact H2_) | with_reducible exact H | (rw [hy918]; exact H) | exact H
        have Ny918 := zk hy918; clear hy918; obtain ⟨ji31, hji31⟩ : ∃ j_ : Int, (wrap64 ((ji28) + 1)) = j_ := ⟨_, rfl⟩; replace H : (if 0 ≤ (ji31) then (if (ji31) ≤ (t914.length : Int) then ((some (t914.eraseIdx ((ji28) : Int).toNat : List (S50))).bind fun y926 => ((clash_Prefix.f kj6 y926).bind fun bt929 => ((clash_Inject.f kj6 y926).bind fun bt934 => (if bt929.2.2.2 = 0 then (if bt934.2.2.2 = 0 then (if t904 = true then (if bt929.1 = true then (if t909 = true then (some bt934.1) else (some true)) else (none)) else (if t909 = true then (some bt934.1) else (some true))) else (none)) else (none))))) else (none)) else (none)) = some r := by first | (rw [hji31] at H; exact H) | (simp only [hji31] at H ⊢; exact H)
        (try rw [hji31] at A27)
        have hji31w : (IntKind.i64.wrap ((ji28) + 1)) = ji31 := (i64_w _).trans hji31
        by_cases c32 : 0 ≤ (ji31)
        ·rw [if_pos c32] at H; have c32b0 := eq_true c32; have c32b1 : decide (0 ≤ (ji31)) = true := decide_eq_true c32
         clear c32
         by_cases c33 : (ji31) ≤ (t914.length : Int)
         ·rw [if_pos c33] at H; have c33b0 := eq_true c33; have c33b1 : decide ((ji31) ≤ (t914.length : Int)) = true := decide_eq_true c33
          clear c33; obtain ⟨y922, hy922⟩ : ∃ y_ : List (S50), y_ = (t914.drop ((ji31) : Int).toNat) := ⟨_, rfl⟩; replace H : ((some (t914.eraseIdx ((ji28) : Int).toNat : List (S50))).bind fun y926 => ((clash_Prefix.f kj6 y926).bind fun bt929 => ((clash_Inject.f kj6 y926).bind fun bt934 => (if bt929.2.2.2 = 0 then (if bt934.2.2.2 = 0 then (if t904 = true then (if bt929.1 = true then (if t909 = true then (some bt934.1) else (some true)) else (none)) else (if t909 = true then (some bt934.1) else (some true))) else (none)) else (none))))) = some r := by first | (rw [hy922]; with_reducible exact H) | (have H2_ := (Option.bind_some _ _).symm.trans H; rw [hy922]; with_reducible exact H2_) | (have H2_ := (Option.bind_some _ _).symm.trans H; with_reducible exact H2_) | with_reducible exact H | (rw [hy922]; exact H) | exact H
          have Ny922 := zk hy922; clear hy922; obtain ⟨y926, hy926⟩ : ∃ y_ : List (S50), y_ = (t914.eraseIdx ((ji28) : Int).toNat) := ⟨_, rfl⟩; replace H : ((clash_Prefix.f kj6 y926).bind fun bt929 => ((clash_Inject.f kj6 y926).bind fun bt934 => (if bt929.2.2.2 = 0 then (if bt934.2.2.2 = 0 then (if t904 = true then (if bt929.1 = true then (if t909 = true then (some bt934.1) else (some true)) else (none)) else (if t909 = true then (some bt934.1) else (some true))) else (none)) else (none)))) = some r := by first | (rw [hy926]; with_reducible exact H) | (have H2_ := (Option.bind_some _ _).symm.trans H; rw [hy926]; with_reducible exact H2_) | (have H2_ := (Option.bind_some _ _).symm.trans H; with_reducible exact H2_) | with_reducible exact H | (rw [hy926]; exact H) | exact H
          have Ny926 := zk hy926; clear hy926; replace H := Option.bind_eq_some_iff.mp H; obtain ⟨⟨t929, t930, t931, t932⟩, A340, H⟩ := H; replace H : ((clash_Inject.f kj6 y926).bind fun bt934 => (if t932 = 0 then (if bt934.2.2.2 = 0 then (if t904 = true then (if t929 = true then (if t909 = true then (some bt934.1) else (some true)) else (none)) else (if t909 = true then (some bt934.1) else (some true))) else (none)) else (none))) = some r := H
          have A34 := zk A340; clear A340; replace H := Option.bind_eq_some_iff.mp H; obtain ⟨⟨t934, t935, t936, t937⟩, A350, H⟩ := H; replace H : (if t932 = 0 then (if t937 = 0 then (if t904 = true then (if t929 = true then (if t909 = true then (some t934) else (some true)) else (none)) else (if t909 = true then (some t934) else (some true))) else (none)) else (none)) = some r := H
          have A35 := zk A350; clear A350
          by_cases c36 : t932 = 0
          ·rw [if_pos c36] at H; have c36b0 : (t932 == 0) = true := beq_iff_eq.mpr c36
           have c36b1 : (t932 != 0) = false := bne_eq_false_iff_eq.mpr c36
           clear c36
           by_cases c37 : t937 = 0
           ·rw [if_pos c37] at H; have c37b0 : (t937 == 0) = true := beq_iff_eq.mpr c37
            have c37b1 : (t937 != 0) = false := bne_eq_false_iff_eq.mpr c37
            clear c37
            by_cases c38 : t904 = true
            ·subst c38
             have H1 : (if t929 = true then (if t909 = true then (some t934) else (some true)) else (none)) = some r := by rw [if_pos rfl] at H; exact H
             clear H; have H := H1; clear H1
             by_cases c39 : t929 = true
             ·subst c39
              have H1 : (if t909 = true then (some t934) else (some true)) = some r := by rw [if_pos rfl] at H; exact H
              clear H; have H := H1; clear H1
              by_cases c40 : t909 = true
              ·subst c40
               have H1 : (some t934) = some r := by rw [if_pos rfl] at H; exact H
               clear H; have H := H1; clear H1; obtain rfl := Option.some.inj H
               try go_wp2
               have n0_ := zk (blk_drew BK902.out); have n1_ := zk (blk_drew BK908.out); have n2_ := zk (blk_drew BK913.out); have n3_ := zk (below_drew1 HB.out); clear BK902; clear BK908; clear BK913; clear HB; have BK902 := n0_; have BK908 := n1_; have BK913 := n2_; have HB := n3_; clear n0_ n1_ n2_ n3_
               refine start_ (n := 14) (S := fun w' => w'.cell? ⟨gb902, 0, none⟩ = some (.slice A0_0 l0_0.length c0_0)) (ds := []) #[false, false, false, false, false, false, false, false, false, false, false, false, false, false] zz rfl rfl (zh BK902.out 0) (fun hHeld => ?_); refine with_tabW leadtraillaw11_ClashFewer.tab7 leadtraillaw11_ClashFewer.bits7 (fun HT_ HW_ => ?_)
               generalize wc.drew = w41 at BK902 BK908 BK913 HB hHeld ⊢
               refine pure_ (i := 0) (N := some 34) (v := ?_) (a' := ?_) (bz 14 1) rfl rfl (any_of HT_.out zz) zQ (Or.inl ⟨by rfl, ?_⟩) ?_ ?_
               rotate_left
               ·intro w'
                go_simp
                with_reducible rfl
               rotate_left
               ·simp only [Act.put, zv, i64_w, i32_w]
                rfl
               refine pure_ (i := 1) (N := some 35) (v := ?_) (a' := ?_) (bz 14 3) rfl rfl (any_of HT_.out zz) zQ (Or.inl ⟨by rfl, ?_⟩) ?_ ?_
               rotate_left
               ·intro w'
                go_simp
                with_reducible rfl
               rotate_left
               ·simp only [Act.put, zv, i64_w, i32_w]
                rfl
               refine pure_ (i := 5) (N := some 39) (v := ?_) (a' := ?_) (bz 14 35) rfl rfl (any_of HT_.out zz) zQ (Or.inl ⟨by rfl, ?_⟩) ?_ ?_
               rotate_left
               ·intro w'
                go_simp
                with_reducible rfl
               rotate_left
               ·simp only [Act.put, zv, i64_w, i32_w]
                rfl
               refine pure_ (i := 9) (N := some 43) (v := ?_) (a' := ?_) (bz 14 547) rfl rfl (any_of HT_.out zz) zQ (Or.inl ⟨by rfl, ?_⟩) ?_ ?_
               rotate_left
               ·intro w'
                go_simp
                with_reducible rfl
               rotate_left
               ·simp only [Act.put, zv, i64_w, i32_w]
                rfl
               refine take_ (i := 2) (N := some 36) (v := ?_) (a' := ?_) (bz 14 551) rfl rfl (take_ofW HT_.out HW_.out zz) zQ (Or.inl ⟨by rfl, ?_⟩) hHeld ?_ ?_
               rotate_left
               ·intro w' s0
                go_simp
                with_reducible rfl
               rotate_left
               ·simp only [Act.put, zv, i64_w, i32_w]
                rfl
               refine pure_ (i := 3) (N := some 37) (v := ?_) (a' := ?_) (bz 14 559) rfl rfl (any_of HT_.out zz) zQ (Or.inl ⟨by rfl, ?_⟩) ?_ ?_
               rotate_left
               ·intro w'
                go_simp
                with_reducible rfl
               rotate_left
               ·simp only [Act.put, zv, i64_w, i32_w]
                rfl
               refine pure_ (i := 4) (N := some 38) (v := ?_) (a' := ?_) (bz 14 575) rfl rfl (any_of HT_.out zz) zQ (Or.inl ⟨by rfl, ?_⟩) ?_ ?_
               rotate_left
               ·intro w'
                go_simp
                with_reducible rfl
               rotate_left
               ·simp only [Act.put, zv, i64_w, i32_w]
                rfl
               refine take_ (i := 6) (N := some 40) (v := ?_) (a' := ?_) (bz 14 639) rfl rfl (take_ofW HT_.out HW_.out zz) zQ (Or.inl ⟨by rfl, ?_⟩) hHeld ?_ ?_
               rotate_left
               ·intro w' s0
                go_simp
                with_reducible rfl
               rotate_left
               ·simp only [Act.put, zv, i64_w, i32_w]
                rfl
               refine pure_ (i := 7) (N := some 41) (v := ?_) (a' := ?_) (bz 14 767) rfl rfl (any_of HT_.out zz) zQ (Or.inl ⟨by rfl, ?_⟩) ?_ ?_
               rotate_left
               ·intro w'
                go_simp
                with_reducible rfl
               rotate_left
               ·simp only [Act.put, zv, i64_w, i32_w]
                rfl
               refine pure_ (i := 8) (N := some 42) (v := ?_) (a' := ?_) (bz 14 1023) rfl rfl (any_of HT_.out zz) zQ (Or.inl ⟨by rfl, ?_⟩) ?_ ?_
               rotate_left
               ·intro w'
                go_simp
                with_reducible rfl
               rotate_left
               ·simp only [Act.put, zv, i64_w, i32_w]
                rfl
               refine take_ (i := 10) (N := some 44) (v := ?_) (a' := ?_) (bz 14 2047) rfl rfl (take_ofW HT_.out HW_.out zz) zQ (Or.inl ⟨by rfl, ?_⟩) hHeld ?_ ?_
               rotate_left
               ·intro w' s0
                go_simp
                with_reducible rfl
               rotate_left
               ·simp only [Act.put, zv, i64_w, i32_w]
                rfl
               refine pure_ (i := 11) (N := some 45) (v := ?_) (a' := ?_) (bz 14 4095) rfl rfl (any_of HT_.out zz) zQ (Or.inl ⟨by rfl, ?_⟩) ?_ ?_
               rotate_left
               ·intro w'
                go_simp
                with_reducible rfl
               rotate_left
               ·simp only [Act.put, zv, i64_w, i32_w]
                rfl
               refine pure_ (i := 12) (N := some 46) (v := ?_) (a' := ?_) (bz 14 8191) rfl rfl (any_of HT_.out zz) zQ (Or.inl ⟨by rfl, ?_⟩) ?_ ?_
               rotate_left
               ·intro w'
                go_simp
                with_reducible rfl
               rotate_left
               ·simp only [Act.put, zv, i64_w, i32_w]
                rfl
               refine pure_ (i := 13) (N := some 1) (v := ?_) (a' := ?_) (bz 14 16383) rfl rfl (any_of HT_.out zz) zQ (Or.inl ⟨by rfl, ?_⟩) ?_ ?_
               rotate_left
               ·intro w'
                go_simp
                with_reducible rfl
               rotate_left
               ·simp only [Act.put, zv, i64_w, i32_w]
                rfl
               refine done_ (done_of HT_.out zz) ?_
               have hnb42 := NB902_908.out; have hnc42 := NB908_902.out; have hnb43 := NB902_913.out; have hnc43 := NB913_902.out; have hcz44_0 : w41.cell? ⟨gb902, 0, none⟩ = some (.slice A0_0 l0_0.length c0_0) := zh BK902.out 0
               have hfz44_0 := blk_frozen BK902.out 0
               try go_wp2_with (first | ((with_reducible refine gate_callee (f := 20) rfl ?_); refine goesL_ (some 48) rfl rfl Try.func20 zz rfl #[.agg #[.slice A0_0 l0_0.length c0_0]] rfl zM ?_; (with_reducible refine (leadtrailref08_Copy.calls kj6 _ _ l0_0 t914 _ ?side1 ?side2 A27.out).mono ?_); (case side1 => exact zc (Kd.C_below HR0_0.out HB.out)); (case side2 => exact HC0_0.out); rintro e w45 ⟨v915, rfl, ho0, hb⟩; refine ⟨_, rfl, ?_⟩; have HO916 := zk (Kd.R_lower ho0 (below_size (zU HB.out))); replace BK902 := zk (zbb BK902.out hb); replace BK908 := zk (zbb BK908.out hb); replace BK913 := zk (zbb BK913.out hb); replace HB := zk (below_step (zU HB.out) hb);  (try clear hb); (try clear hb2); (try clear hk); (try clear hi); (try clear ho0)) | ((with_reducible refine gate_dst (N := 9) rfl ?_); (try (refine gate_guard (by rfl) ?_; dsimp only)); refine box_event ?hg (N := 9) ?hd (cs := #[.slice none 0 0]) (t := 24) ?hr ?_; (case hd => rfl); (case hg => rfl); (case hr => first | (go_simp; done) | (go_simp; rfl)); intro gb917 hg w46 hbox hb; replace HO916 := zk (Kd.R_below (zr HO916.out) hb); have BK917 := zk (hbox); have GW917 := zk ((zg hg HB.out : w.heap.size ≤ gb917)); have GE917 := zk ((zg hg HB.out : w.heap.size ≤ gb917)); replace HB := zk (below_step (zU HB.out) hb); have NB902_917 := zk ((zlt hg BK902.out : gb902 ≠ gb917)); have NB917_902 := zk ((zgt hg BK902.out : gb917 ≠ gb902)); replace BK902 := zk (zbb BK902.out hb); have NB908_917 := zk ((zlt hg BK908.out : gb908 ≠ gb917)); have NB917_908 := zk ((zgt hg BK908.out : gb917 ≠ gb908)); replace BK908 := zk (zbb BK908.out hb); have NB913_917 := zk ((zlt hg BK913.out : gb913 ≠ gb917)); have NB917_913 := zk ((zgt hg BK913.out : gb917 ≠ gb913)); replace BK913 := zk (zbb BK913.out hb);  clear hb hbox hg; obtain ⟨Ao47, co47, eo47⟩ := Kd.R_slice HO916.out; subst eo47; have hnb48 := NB917_902.out; have hnc48 := NB902_917.out; have hnb49 := NB917_908.out; have hnc49 := NB908_917.out; have hnb50 := NB917_913.out; have hnc50 := NB913_917.out; have hcz51_0 : w46.cell? ⟨gb917, 0, none⟩ = some (.slice none 0 0) := zh BK917.out 0; have hfz51_0 := blk_frozen BK917.out 0))
               have n0_ : Aside0 (Kd.R k50 50 (w46.setCell ⟨gb917, 0, none⟩ (.slice Ao47 t914.length co47)) w.heap.size (fun _ => True) (.slice Ao47 t914.length co47) t914) := ⟨by (with_reducible repeat (first | apply zA | apply zB | apply zC)); exact Kd.R_mono (Kd.R_far (p := ⟨gb917, 0, none⟩) (Kd.R_types HO916.out BK917.out (by decide)) (fun _ hk => hk.2) (.slice Ao47 t914.length co47)) (fun _ hk => trivial)⟩
               have n1_ : Aside0 ((w46.setCell ⟨gb917, 0, none⟩ (.slice Ao47 t914.length co47)).heap[gb902]? = some (.cells #[.slice A0_0 l0_0.length c0_0] 24 (0, 0))) := ⟨zb BK902.out⟩
               have n2_ : Aside0 ((w46.setCell ⟨gb917, 0, none⟩ (.slice Ao47 t914.length co47)).heap[gb908]? = some (.cells #[.bool true, .int .i64 t905, .int .i64 t906] 59 (0, 0))) := ⟨zb BK908.out⟩
               have n3_ : Aside0 ((w46.setCell ⟨gb917, 0, none⟩ (.slice Ao47 t914.length co47)).heap[gb913]? = some (.cells #[.bool true, .int .i64 t910, .int .i64 t911] 59 (0, 0))) := ⟨zb BK913.out⟩
               have n4_ : Aside0 ((w46.setCell ⟨gb917, 0, none⟩ (.slice Ao47 t914.length co47)).heap[gb917]? = some (.cells #[.slice Ao47 t914.length co47] 24 (0, 0))) := ⟨by (with_reducible repeat (first | refine blk_drewN ?_ _ | refine blk_drew ?_ | refine blk_alloc ?_ _)); refine blk_put (cs := #[.slice none 0 0]) ?_ 0 _ rfl; exact zb BK917.out⟩
               have n5_ : Aside0 (Below w.heap.size w (w46.setCell ⟨gb917, 0, none⟩ (.slice Ao47 t914.length co47))) := ⟨zU HB.out⟩
               (try clear HO916); (try clear BK902); (try clear BK908); (try clear BK913); (try clear BK917); (try clear HB); generalize (w46.setCell ⟨gb917, 0, none⟩ (.slice Ao47 t914.length co47)) = w52 at n0_ n1_ n2_ n3_ n4_ n5_ ⊢
               have HO916 := n0_; have BK902 := n1_; have BK908 := n2_; have BK913 := n3_; have BK917 := n4_; have HB := n5_; clear n0_ n1_ n2_ n3_ n4_ n5_; have n0_ := zk (Kd.R_drew HO916.out); have n1_ := zk (blk_drew BK902.out); have n2_ := zk (blk_drew BK908.out); have n3_ := zk (blk_drew BK913.out); have n4_ := zk (blk_drew BK917.out); have n5_ := zk (below_drew1 HB.out); clear HO916; clear BK902; clear BK908; clear BK913; clear BK917; clear HB; have HO916 := n0_; have BK902 := n1_; have BK908 := n2_; have BK913 := n3_; have BK917 := n4_; have HB := n5_; clear n0_ n1_ n2_ n3_ n4_ n5_; have q54 : ((ji28) : Int) ≤ ((t914.length : Int) : Int) := zT
               obtain ⟨i054, hi054, _, hsz54, _⟩ := info_parts info50; have hroom54 : t914.length ≤ co47 := (Kd.R_reads' HO916.out).2.1
               have hC54 : Kd.C k50 _ Ao47 t914.length t914 := (Kd.R_reads' HO916.out).2.2
               have hcut54 := cut_to (P := Try.prog) 22 50 .i64 Try.underlying22 hi054 Ao47 t914.length co47 (ji28) zT q54 hroom54; have hr54 := Kd.C_take (m := ((ji28) : Int).toNat) hC54 (by omega)
               have hy54 : y918.length = ((ji28) : Int).toNat := (by rw [Ny918.out, List.length_take]; omega)
               rw [← Ny918.out] at hr54
               rw [← hy54] at hcut54
               have HR921 := zk hr54; have HC921 := zk (show y918.length ≤ co47 from by omega)
               clear hr54 hC54 hroom54 hi054 hsz54; have KY54 := zk hy54; clear hy54; have KL54 := zk (show ((ji28) : Int).toNat ≤ t914.length from by omega)
               replace q54 := eq_true q54; have q55 : ((ji31) : Int) ≤ ((t914.length : Int) : Int) := zT
               obtain ⟨i055, hi055, _, hsz55, _⟩ := info_parts info50; have hroom55 : t914.length ≤ co47 := (Kd.R_reads' HO916.out).2.1
               have hC55 : Kd.C k50 _ Ao47 t914.length t914 := (Kd.R_reads' HO916.out).2.2
               have q055 : (0 : Int) ≤ ((ji31) : Int) := zT
               have hcut55 := cut_from (P := Try.prog) 22 50 .i64 Try.underlying22 hi055 2 hsz55 Ao47 t914.length co47 (ji31) q055 q55; have hr55 := Kd.C_drop (m := ((ji31) : Int).toNat) (c := co47) hC55 (by omega) hroom55
               obtain ⟨A55, hA55⟩ : ∃ A1, A1 = (if co47 = ((ji31) : Int).toNat then Ao47 else (Ao47 : Option Addr).map (·.add (((ji31) : Int).toNat * 2))) := ⟨_, rfl⟩; obtain ⟨c55, hc55⟩ : ∃ c1, c1 = co47 - ((ji31) : Int).toNat := ⟨_, rfl⟩; have hy55 : y922.length = t914.length - ((ji31) : Int).toNat := (by rw [Ny922.out, List.length_drop] <;> omega)
               rw [show (t914).drop ((ji31) : Int).toNat = y922 from Ny922.out.symm] at hr55
               replace hr55 : Kd.C k50 _ A55 y922.length y922 := (by rw [hA55]; exact hr55)
               rw [← hy55, ← hA55, ← hc55] at hcut55
               have HR925 := zk hr55; have HC925 := zk (show y922.length ≤ c55 from by rw [hy55, hc55]; exact Nat.sub_le_sub_right hroom55 _)
               clear hr55 hC55 hroom55 hi055 hsz55 hc55; have KY55 := zk hy55; have KA55 := zk hA55; clear hy55 hA55; have KL55 := zk (show ((ji31) : Int).toNat ≤ t914.length from by omega)
               replace q55 := eq_true q55; obtain ⟨go57, co57, eo57, gb57, gl57, cl57, HG57⟩ := Kd.R_form HO916.out (by have hj_ : 0 ≤ ((ji28) : Int) := zT; have hl_ : (ji31 : Int) ≤ (t914.length : Int) := zT; have hh_ : ((ji28) : Int) ≤ (t914.length : Int) := zT; rw [← hji31] at hl_; unfold wrap64 at hl_; omega)
               (first | cases eo57 | (injection eo57 with ea_ en_ ec_; (first | subst ea_ | (injection ea_ with ea_; subst ea_)); subst ec_; clear en_))
               have GB57 := zk gb57; have GG57 := zk HG57; clear gb57 gl57 HG57
               refine start_ (n := 12) (S := fun w' => w'.cell? ⟨gb917, 0, none⟩ = some (.slice (some ⟨go57, 0, none⟩) t914.length co47)) (ds := [11]) #[false, false, false, false, false, false, false, false, false, false, false, false] zz rfl rfl (zh BK917.out 0) (fun hHeld => ?_); refine with_tabW leadtraillaw11_ClashFewer.tab9 leadtraillaw11_ClashFewer.bits9 (fun HT_ HW_ => ?_)
               generalize w52.drew = w53 at HO916 BK902 BK908 BK913 BK917 HB GG57 HR921 HR925 hHeld ⊢
               refine pure_ (i := 0) (N := some 49) (v := ?_) (a' := ?_) (bz 12 1) rfl rfl (any_of HT_.out zz) zQ (Or.inl ⟨by rfl, ?_⟩) ?_ ?_
               rotate_left
               ·intro w'
                go_simp
                with_reducible rfl
               rotate_left
               ·simp only [Act.put, zv, i64_w, i32_w]
                rfl
               refine pure_ (i := 2) (N := some 51) (v := ?_) (a' := ?_) (bz 12 5) rfl rfl (any_of HT_.out zz) zQ (Or.inl ⟨by rfl, ?_⟩) ?_ ?_
               rotate_left
               ·intro w'
                go_simp
                with_reducible rfl
               rotate_left
               ·simp only [Act.put, zv, i64_w, i32_w]
                rfl
               refine pure_ (i := 4) (N := some 53) (v := ?_) (a' := ?_) (bz 12 21) rfl rfl (any_of HT_.out zz) zQ (Or.inl ⟨by rfl, ?_⟩) ?_ ?_
               rotate_left
               ·intro w'
                go_simp
                with_reducible rfl
               rotate_left
               ·simp only [Act.put, zv, i64_w, i32_w]
                rfl
               refine pure_ (i := 6) (N := some 55) (v := ?_) (a' := ?_) (bz 12 85) rfl rfl (any_of HT_.out zz) zQ (Or.inl ⟨by rfl, ?_⟩) ?_ ?_
               rotate_left
               ·intro w'
                go_simp
                with_reducible rfl
               rotate_left
               ·simp only [Act.put, zv, i64_w, i32_w]
                rfl
               refine pure_ (i := 7) (N := some 56) (v := ?_) (a' := ?_) (bz 12 213) rfl rfl (any_of HT_.out zz) zQ (Or.inl ⟨by rfl, ?_⟩) ?_ ?_
               rotate_left
               ·intro w'
                go_simp
                with_reducible rfl
               rotate_left
               ·simp only [Act.put, zv, i64_w, i32_w]
                rfl
               refine take_ (i := 1) (N := some 50) (v := ?_) (a' := ?_) (bz 12 215) rfl rfl (take_ofW HT_.out HW_.out zz) zQ (Or.inl ⟨by rfl, ?_⟩) hHeld ?_ ?_
               rotate_left
               ·intro w' s0
                go_simp
                with_reducible rfl
               rotate_left
               ·simp only [Act.put, zv, i64_w, i32_w]
                rfl
               refine pure_ (i := 3) (N := some 52) (v := ?_) (a' := ?_) (bz 12 223) rfl rfl (any_of HT_.out zz) zQ (Or.inl ⟨by rfl, ?_⟩) ?_ ?_
               rotate_left
               ·intro w'
                go_simp
                with_reducible rfl
               rotate_left
               ·simp only [Act.put, zv, i64_w, i32_w]
                rfl
               refine take_ (i := 5) (N := some 54) (v := ?_) (a' := ?_) (bz 12 255) rfl rfl (take_ofW HT_.out HW_.out zz) zQ (Or.inl ⟨by rfl, ?_⟩) hHeld ?_ ?_
               rotate_left
               ·intro w' s0
                go_simp
                with_reducible rfl
               rotate_left
               ·simp only [Act.put, zv, i64_w, i32_w]
                rfl
               refine pure_ (i := 8) (N := some 57) (v := ?_) (a' := ?_) (bz 12 511) rfl rfl (any_of HT_.out zz) zQ (Or.inl ⟨by rfl, ?_⟩) ?_ ?_
               rotate_left
               ·intro w'
                go_simp
                with_reducible rfl
               rotate_left
               ·simp only [Act.put, zv, i64_w, i32_w]
                rfl
               refine one_ (i := 9) (N := some 58) (bz 12 1023) rfl rfl (one_of HT_.out zz) (by decide) (fun K hK => ?_)
               have hj_ : 0 ≤ ((ji28) : Int) := zT
               have hl_ : (ji31 : Int) ≤ (t914.length : Int) := zT
               have hh_ : ((ji28) : Int) ≤ (t914.length : Int) := zT
               have hb_ := (Kd.R_reads' HO916.out).2.2.2.1; have h0_ : (0 : Int) ≤ (ji31 : Int) := zT
               have hy1_ := KY54.out; have hk_ : (ji31 : Int).toNat = y918.length + 1 := (by have hw_ : (ji31 : Int) = (ji28) + 1 := (by have h00_ := h0_; rw [← hji31] at h00_ ⊢; unfold wrap64 at h00_ ⊢; omega); rw [hw_]; omega)
               refine Kd.R_delete_step k50 (w0 := w) w.heap.size (by rfl) (.tmp 52) (.tmp 57) 22 50 rfl Try.underlying22 zz (g := go57) (n := t914.length) (c := co47) (k := y918.length) rfl rfl ?hA ?hm (zr HO916.out) ?hk (zU HB.out) (below_size (zU HB.out)) ?_
               (case hA => have ha_ := KA55.out; rw [hk_] at ha_; exact ha_)
               (case hm => have ha_ := KY55.out; omega)
               (case hk => omega)
               intro w56 ho hb hg
               clear hj_ hl_ hh_ hb_ hk_ h0_; rw [hy1_, ← Ny926.out] at ho
               clear hy1_; have hn_ : t914.length - 1 = y926.length := (by have := (Kd.R_reads' ho).1; omega)
               rw [hn_] at ho ⊢
               clear hn_; have n0_ := zk (blk_grown (g := gb902) (o := .cells #[.slice A0_0 l0_0.length c0_0] 24 (0, 0)) (zb BK902.out) hg (Kd.R_ne HO916.out BK902.out (by decide)))
               have n1_ := zk (blk_grown (g := gb908) (o := .cells #[.bool true, .int .i64 t905, .int .i64 t906] 59 (0, 0)) (zb BK908.out) hg (Kd.R_ne HO916.out BK908.out (by decide)))
               have n2_ := zk (blk_grown (g := gb913) (o := .cells #[.bool true, .int .i64 t910, .int .i64 t911] 59 (0, 0)) (zb BK913.out) hg (Kd.R_ne HO916.out BK913.out (by decide)))
               have n3_ := zk (ho); have n4_ := zk (blk_grown (g := gb917) (o := .cells #[.slice (some ⟨go57, 0, none⟩) t914.length co47] 24 (0, 0)) (zb BK917.out) hg (Kd.R_ne HO916.out BK917.out (by decide)))
               have n5_ := zk (hb); clear BK902; clear BK908; clear BK913; clear HO916; clear BK917; clear HB; have BK902 := n0_; have BK908 := n1_; have BK913 := n2_; have HO916 := n3_; have BK917 := n4_; have HB := n5_; clear n0_ n1_ n2_ n3_ n4_ n5_; clear ho hb hg
               refine hK.out _ _ (zh BK917.out 0) (fun hHeld => ?_)
               clear hK K
               refine norm_ (a' := ?_) ?_ ?_
               rotate_left
               ·show Act.put _ (some 58) _ = _
                simp only [Act.put, zv, i64_w, i32_w]
                rfl
               refine pure_ (i := 10) (N := some 59) (v := ?_) (a' := ?_) (bz 12 2047) rfl rfl (any_of HT_.out zz) zQ (Or.inl ⟨by rfl, ?_⟩) ?_ ?_
               rotate_left
               ·intro w'
                go_simp
                with_reducible rfl
               rotate_left
               ·simp only [Act.put, zv, i64_w, i32_w]
                rfl
               refine last_ (i := 11) (N := none) (bz 12 4095) rfl rfl (one_of HT_.out zz) (by decide) (fun K hK => ?_)
               have hs58 : w56.cell? ⟨gb917, 0, none⟩ = some (.slice (some ⟨go57, 0, none⟩) t914.length co47) := zh BK917.out 0
               have hfs58 := blk_frozen BK917.out 0; have hns58_0 := NB902_917.out; have hns58_1 := NB908_917.out; have hns58_2 := NB913_917.out; have hms58_0 := NB917_902.out; have hms58_1 := NB917_908.out; have hms58_2 := NB917_913.out
               refine skip_ (w1 := ?_) (by rfl) rfl ?_ ?_
               rotate_left
               ·go_simp
                rfl
               refine hK.out _ _ ?_
               clear hK K
               refine done_ (done_of HT_.out zz) ?_
               have hcz59_0 : w56.cell? ⟨gb917, 0, none⟩ = some (.slice (some ⟨go57, 0, none⟩) t914.length co47) := zh BK917.out 0
               have hfz59_0 := blk_frozen BK917.out 0
               try go_wp2_with (first | ((with_reducible refine gate_callee (f := 62) rfl ?_); refine goesL_ (some 62) rfl rfl Try.func62 zz rfl #[.agg #[.slice (some ⟨go57, 0, none⟩) y926.length co47]] rfl zM ?_; (with_reducible refine (clash_Prefix.calls kj6 _ _ y926 true t930 t931 t932 _ ?side1 ?side2 A34.out).mono ?_); (case side1 => refine (Kd.R_reads' (e := 50) (base := w.heap.size) (ok := fun k_ => True) (n := y926.length) (c := co47) ?_).2.2; exact (by (with_reducible repeat (first | apply zA | apply zB | apply zC)); exact (Kd.R_mono (Kd.R_far (p := ⟨gb917, 0, none⟩) (Kd.R_types HO916.out BK917.out (by decide)) (fun _ hk => hk.2) (.slice (some ⟨go57, 0, none⟩) y926.length co47)) (fun _ h_ => h_.1)))); (case side2 => exact (Kd.R_reads' HO916.out).2.1); rintro e w60 ⟨rfl, hb⟩; refine ⟨_, rfl, ?_⟩; replace HO916 := zk (Kd.R_below (by (with_reducible repeat (first | apply zA | apply zB | apply zC)); exact (Kd.R_mono (Kd.R_far (p := ⟨gb917, 0, none⟩) (Kd.R_types HO916.out BK917.out (by decide)) (fun _ hk => hk.2) (.slice (some ⟨go57, 0, none⟩) y926.length co47)) (fun _ h_ => h_.1))) hb); replace BK902 := zk (zbb BK902.out hb); replace BK908 := zk (zbb BK908.out hb); replace BK913 := zk (zbb BK913.out hb); replace BK917 := zk (blk_below (g := gb917) (o := .cells #[.slice (some ⟨go57, 0, none⟩) y926.length co47] 24 (0, 0)) (by (with_reducible repeat (first | refine blk_drewN ?_ _ | refine blk_drew ?_ | refine blk_alloc ?_ _)); refine blk_put (cs := #[.slice (some ⟨go57, 0, none⟩) t914.length co47]) ?_ 0 _ rfl; exact zb BK917.out) hb); replace HB := zk (below_step (zU HB.out) hb);  (try clear hb); (try clear hb2); (try clear hk); (try clear hi)) | ((with_reducible refine gate_dst (N := 10) rfl ?_); (try (refine gate_guard (by rfl) ?_; dsimp only)); refine box_event ?hg (N := 10) ?hd (cs := #[.bool false, .int .i64 0, .int .i64 0]) (t := 59) ?hr ?_; (case hd => rfl); (case hg => rfl); (case hr => first | (go_simp; done) | (go_simp; rfl)); intro gb933 hg w61 hbox hb; replace HO916 := zk (Kd.R_below (zr HO916.out) hb); have BK933 := zk (hbox); have GW933 := zk ((zg hg HB.out : w.heap.size ≤ gb933)); have GE933 := zk ((zg hg HB.out : w.heap.size ≤ gb933)); replace HB := zk (below_step (zU HB.out) hb); have NB902_933 := zk ((zlt hg BK902.out : gb902 ≠ gb933)); have NB933_902 := zk ((zgt hg BK902.out : gb933 ≠ gb902)); replace BK902 := zk (zbb BK902.out hb); have NB908_933 := zk ((zlt hg BK908.out : gb908 ≠ gb933)); have NB933_908 := zk ((zgt hg BK908.out : gb933 ≠ gb908)); replace BK908 := zk (zbb BK908.out hb); have NB913_933 := zk ((zlt hg BK913.out : gb913 ≠ gb933)); have NB933_913 := zk ((zgt hg BK913.out : gb933 ≠ gb913)); replace BK913 := zk (zbb BK913.out hb); have NB917_933 := zk ((zlt hg BK917.out : gb917 ≠ gb933)); have NB933_917 := zk ((zgt hg BK917.out : gb933 ≠ gb917)); replace BK917 := zk (zbb BK917.out hb);  clear hb hbox hg; have hnb62 := NB933_902.out; have hnc62 := NB902_933.out; have hnb63 := NB933_908.out; have hnc63 := NB908_933.out; have hnb64 := NB933_913.out; have hnc64 := NB913_933.out; have hnb65 := NB933_917.out; have hnc65 := NB917_933.out; have hcz66_0 : w61.cell? ⟨gb933, 0, none⟩ = some (.bool false) := zh BK933.out 0; have hcz66_1 : w61.cell? ⟨gb933, 1, none⟩ = some (.int .i64 0) := zh BK933.out 1; have hcz66_2 : w61.cell? ⟨gb933, 2, none⟩ = some (.int .i64 0) := zh BK933.out 2; have hfz66_0 := blk_frozen BK933.out 0; have hfz66_1 := blk_frozen BK933.out 1; have hfz66_2 := blk_frozen BK933.out 2; have hcz67_0 : w61.cell? ⟨gb917, 0, none⟩ = some (.slice (some ⟨go57, 0, none⟩) y926.length co47) := zh BK917.out 0; have hfz67_0 := blk_frozen BK917.out 0) | ((with_reducible refine gate_callee (f := 60) rfl ?_); refine goesL_ (some 67) rfl rfl Try.func60 zz rfl #[.agg #[.slice (some ⟨go57, 0, none⟩) y926.length co47]] rfl zM ?_; (with_reducible refine (clash_Inject.calls kj6 _ _ y926 t934 t935 t936 t937 _ ?side1 ?side2 A35.out).mono ?_); (case side1 => refine (Kd.R_reads' (e := 50) (base := w.heap.size) (ok := fun k_ => True) (n := y926.length) (c := co47) ?_).2.2; exact (by (with_reducible repeat (first | apply zA | apply zB | apply zC)); exact (Kd.R_mono (Kd.R_far (p := ⟨gb933, 2, none⟩) (Kd.R_far (p := ⟨gb933, 1, none⟩) (Kd.R_far (p := ⟨gb933, 0, none⟩) (Kd.R_types HO916.out BK933.out (by decide)) (fun _ hk => hk.2) (.bool true)) (fun _ hk => hk.2) (.int .i64 t930)) (fun _ hk => hk.2) (.int .i64 t931)) (fun _ h_ => h_.1)))); (case side2 => exact (Kd.R_reads' HO916.out).2.1); rintro e w68 ⟨rfl, hb⟩; refine ⟨_, rfl, ?_⟩; replace HO916 := zk (Kd.R_below (by (with_reducible repeat (first | apply zA | apply zB | apply zC)); exact (Kd.R_mono (Kd.R_far (p := ⟨gb933, 2, none⟩) (Kd.R_far (p := ⟨gb933, 1, none⟩) (Kd.R_far (p := ⟨gb933, 0, none⟩) (Kd.R_types HO916.out BK933.out (by decide)) (fun _ hk => hk.2) (.bool true)) (fun _ hk => hk.2) (.int .i64 t930)) (fun _ hk => hk.2) (.int .i64 t931)) (fun _ h_ => h_.1))) hb); replace BK902 := zk (zbb BK902.out hb); replace BK908 := zk (zbb BK908.out hb); replace BK913 := zk (zbb BK913.out hb); replace BK917 := zk (zbb BK917.out hb); replace BK933 := zk (blk_below (g := gb933) (o := .cells #[.bool true, .int .i64 t930, .int .i64 t931] 59 (0, 0)) (by (with_reducible repeat (first | refine blk_drewN ?_ _ | refine blk_drew ?_ | refine blk_alloc ?_ _)); refine blk_put (cs := #[.bool true, .int .i64 t930, .int .i64 0]) ?_ 2 _ rfl; (with_reducible repeat (first | refine blk_drewN ?_ _ | refine blk_drew ?_ | refine blk_alloc ?_ _)); refine blk_put (cs := #[.bool true, .int .i64 0, .int .i64 0]) ?_ 1 _ rfl; (with_reducible repeat (first | refine blk_drewN ?_ _ | refine blk_drew ?_ | refine blk_alloc ?_ _)); refine blk_put (cs := #[.bool false, .int .i64 0, .int .i64 0]) ?_ 0 _ rfl; exact zb BK933.out) hb); replace HB := zk (below_step (zU HB.out) hb);  (try clear hb); (try clear hb2); (try clear hk); (try clear hi)) | ((with_reducible refine gate_dst (N := 12) rfl ?_); (try (refine gate_guard (by rfl) ?_; dsimp only)); refine box_event ?hg (N := 12) ?hd (cs := #[.bool false, .int .i64 0, .int .i64 0]) (t := 59) ?hr ?_; (case hd => rfl); (case hg => rfl); (case hr => first | (go_simp; done) | (go_simp; rfl)); intro gb938 hg w69 hbox hb; replace HO916 := zk (Kd.R_below (zr HO916.out) hb); have BK938 := zk (hbox); have GW938 := zk ((zg hg HB.out : w.heap.size ≤ gb938)); have GE938 := zk ((zg hg HB.out : w.heap.size ≤ gb938)); replace HB := zk (below_step (zU HB.out) hb); have NB902_938 := zk ((zlt hg BK902.out : gb902 ≠ gb938)); have NB938_902 := zk ((zgt hg BK902.out : gb938 ≠ gb902)); replace BK902 := zk (zbb BK902.out hb); have NB908_938 := zk ((zlt hg BK908.out : gb908 ≠ gb938)); have NB938_908 := zk ((zgt hg BK908.out : gb938 ≠ gb908)); replace BK908 := zk (zbb BK908.out hb); have NB913_938 := zk ((zlt hg BK913.out : gb913 ≠ gb938)); have NB938_913 := zk ((zgt hg BK913.out : gb938 ≠ gb913)); replace BK913 := zk (zbb BK913.out hb); have NB917_938 := zk ((zlt hg BK917.out : gb917 ≠ gb938)); have NB938_917 := zk ((zgt hg BK917.out : gb938 ≠ gb917)); replace BK917 := zk (zbb BK917.out hb); have NB933_938 := zk ((zlt hg BK933.out : gb933 ≠ gb938)); have NB938_933 := zk ((zgt hg BK933.out : gb938 ≠ gb933)); replace BK933 := zk (zbb BK933.out hb);  clear hb hbox hg; have hnb70 := NB938_902.out; have hnc70 := NB902_938.out; have hnb71 := NB938_908.out; have hnc71 := NB908_938.out; have hnb72 := NB938_913.out; have hnc72 := NB913_938.out; have hnb73 := NB938_917.out; have hnc73 := NB917_938.out; have hnb74 := NB938_933.out; have hnc74 := NB933_938.out; have hcz75_0 : w69.cell? ⟨gb938, 0, none⟩ = some (.bool false) := zh BK938.out 0; have hcz75_1 : w69.cell? ⟨gb938, 1, none⟩ = some (.int .i64 0) := zh BK938.out 1; have hcz75_2 : w69.cell? ⟨gb938, 2, none⟩ = some (.int .i64 0) := zh BK938.out 2; have hfz75_0 := blk_frozen BK938.out 0; have hfz75_1 := blk_frozen BK938.out 1; have hfz75_2 := blk_frozen BK938.out 2; have hnb76 := NB908_913.out; have hnc76 := NB913_908.out; have hcz77_0 : w69.cell? ⟨gb908, 0, none⟩ = some (.bool true) := zh BK908.out 0; have hcz77_1 : w69.cell? ⟨gb908, 1, none⟩ = some (.int .i64 t905) := zh BK908.out 1; have hcz77_2 : w69.cell? ⟨gb908, 2, none⟩ = some (.int .i64 t906) := zh BK908.out 2; have hfz77_0 := blk_frozen BK908.out 0; have hfz77_1 := blk_frozen BK908.out 1; have hfz77_2 := blk_frozen BK908.out 2; have hcz78_0 : w69.cell? ⟨gb933, 0, none⟩ = some (.bool true) := zh BK933.out 0; have hcz78_1 : w69.cell? ⟨gb933, 1, none⟩ = some (.int .i64 t930) := zh BK933.out 1; have hcz78_2 : w69.cell? ⟨gb933, 2, none⟩ = some (.int .i64 t931) := zh BK933.out 2; have hfz78_0 := blk_frozen BK933.out 0; have hfz78_1 := blk_frozen BK933.out 1; have hfz78_2 := blk_frozen BK933.out 2; have hcz79_0 : w69.cell? ⟨gb913, 0, none⟩ = some (.bool true) := zh BK913.out 0; have hcz79_1 : w69.cell? ⟨gb913, 1, none⟩ = some (.int .i64 t910) := zh BK913.out 1; have hcz79_2 : w69.cell? ⟨gb913, 2, none⟩ = some (.int .i64 t911) := zh BK913.out 2; have hfz79_0 := blk_frozen BK913.out 0; have hfz79_1 := blk_frozen BK913.out 1; have hfz79_2 := blk_frozen BK913.out 2))
               go_ret
               exact ⟨by first | rfl | (simp [errW_none, errW_some] <;> rfl) | (simp only [← hji28, ← hji31]; first | rfl | (simp [errW_none, errW_some] <;> rfl)) | (simp [*, errW_none, errW_some] <;> rfl), zU HB.out⟩
              ·replace c40 := Bool.eq_false_iff.mpr c40; subst c40
               have H1 : (some true) = some r := by rw [if_neg (show ¬ (false = true) by decide)] at H; exact H
               clear H; have H := H1; clear H1; obtain rfl := Option.some.inj H
               try go_wp2
               have n0_ := zk (blk_drew BK902.out); have n1_ := zk (blk_drew BK908.out); have n2_ := zk (blk_drew BK913.out); have n3_ := zk (below_drew1 HB.out); clear BK902; clear BK908; clear BK913; clear HB; have BK902 := n0_; have BK908 := n1_; have BK913 := n2_; have HB := n3_; clear n0_ n1_ n2_ n3_
               refine start_ (n := 14) (S := fun w' => w'.cell? ⟨gb902, 0, none⟩ = some (.slice A0_0 l0_0.length c0_0)) (ds := []) #[false, false, false, false, false, false, false, false, false, false, false, false, false, false] zz rfl rfl (zh BK902.out 0) (fun hHeld => ?_); refine with_tabW leadtraillaw11_ClashFewer.tab7 leadtraillaw11_ClashFewer.bits7 (fun HT_ HW_ => ?_)
               generalize wc.drew = w80 at BK902 BK908 BK913 HB hHeld ⊢
               refine pure_ (i := 0) (N := some 34) (v := ?_) (a' := ?_) (bz 14 1) rfl rfl (any_of HT_.out zz) zQ (Or.inl ⟨by rfl, ?_⟩) ?_ ?_
               rotate_left
               ·intro w'
                go_simp
                with_reducible rfl
               rotate_left
               ·simp only [Act.put, zv, i64_w, i32_w]
                rfl
               refine pure_ (i := 1) (N := some 35) (v := ?_) (a' := ?_) (bz 14 3) rfl rfl (any_of HT_.out zz) zQ (Or.inl ⟨by rfl, ?_⟩) ?_ ?_
               rotate_left
               ·intro w'
                go_simp
                with_reducible rfl
               rotate_left
               ·simp only [Act.put, zv, i64_w, i32_w]
                rfl
               refine pure_ (i := 5) (N := some 39) (v := ?_) (a' := ?_) (bz 14 35) rfl rfl (any_of HT_.out zz) zQ (Or.inl ⟨by rfl, ?_⟩) ?_ ?_
               rotate_left
               ·intro w'
                go_simp
                with_reducible rfl
               rotate_left
               ·simp only [Act.put, zv, i64_w, i32_w]
                rfl
               refine pure_ (i := 9) (N := some 43) (v := ?_) (a' := ?_) (bz 14 547) rfl rfl (any_of HT_.out zz) zQ (Or.inl ⟨by rfl, ?_⟩) ?_ ?_
               rotate_left
               ·intro w'
                go_simp
                with_reducible rfl
               rotate_left
               ·simp only [Act.put, zv, i64_w, i32_w]
                rfl
               refine take_ (i := 2) (N := some 36) (v := ?_) (a' := ?_) (bz 14 551) rfl rfl (take_ofW HT_.out HW_.out zz) zQ (Or.inl ⟨by rfl, ?_⟩) hHeld ?_ ?_
               rotate_left
               ·intro w' s0
                go_simp
                with_reducible rfl
               rotate_left
               ·simp only [Act.put, zv, i64_w, i32_w]
                rfl
               refine pure_ (i := 3) (N := some 37) (v := ?_) (a' := ?_) (bz 14 559) rfl rfl (any_of HT_.out zz) zQ (Or.inl ⟨by rfl, ?_⟩) ?_ ?_
               rotate_left
               ·intro w'
                go_simp
                with_reducible rfl
               rotate_left
               ·simp only [Act.put, zv, i64_w, i32_w]
                rfl
               refine pure_ (i := 4) (N := some 38) (v := ?_) (a' := ?_) (bz 14 575) rfl rfl (any_of HT_.out zz) zQ (Or.inl ⟨by rfl, ?_⟩) ?_ ?_
               rotate_left
               ·intro w'
                go_simp
                with_reducible rfl
               rotate_left
               ·simp only [Act.put, zv, i64_w, i32_w]
                rfl
               refine take_ (i := 6) (N := some 40) (v := ?_) (a' := ?_) (bz 14 639) rfl rfl (take_ofW HT_.out HW_.out zz) zQ (Or.inl ⟨by rfl, ?_⟩) hHeld ?_ ?_
               rotate_left
               ·intro w' s0
                go_simp
                with_reducible rfl
               rotate_left
               ·simp only [Act.put, zv, i64_w, i32_w]
                rfl
               refine pure_ (i := 7) (N := some 41) (v := ?_) (a' := ?_) (bz 14 767) rfl rfl (any_of HT_.out zz) zQ (Or.inl ⟨by rfl, ?_⟩) ?_ ?_
               rotate_left
               ·intro w'
                go_simp
                with_reducible rfl
               rotate_left
               ·simp only [Act.put, zv, i64_w, i32_w]
                rfl
               refine pure_ (i := 8) (N := some 42) (v := ?_) (a' := ?_) (bz 14 1023) rfl rfl (any_of HT_.out zz) zQ (Or.inl ⟨by rfl, ?_⟩) ?_ ?_
               rotate_left
               ·intro w'
                go_simp
                with_reducible rfl
               rotate_left
               ·simp only [Act.put, zv, i64_w, i32_w]
                rfl
               refine take_ (i := 10) (N := some 44) (v := ?_) (a' := ?_) (bz 14 2047) rfl rfl (take_ofW HT_.out HW_.out zz) zQ (Or.inl ⟨by rfl, ?_⟩) hHeld ?_ ?_
               rotate_left
               ·intro w' s0
                go_simp
                with_reducible rfl
               rotate_left
               ·simp only [Act.put, zv, i64_w, i32_w]
                rfl
               refine pure_ (i := 11) (N := some 45) (v := ?_) (a' := ?_) (bz 14 4095) rfl rfl (any_of HT_.out zz) zQ (Or.inl ⟨by rfl, ?_⟩) ?_ ?_
               rotate_left
               ·intro w'
                go_simp
                with_reducible rfl
               rotate_left
               ·simp only [Act.put, zv, i64_w, i32_w]
                rfl
               refine pure_ (i := 12) (N := some 46) (v := ?_) (a' := ?_) (bz 14 8191) rfl rfl (any_of HT_.out zz) zQ (Or.inl ⟨by rfl, ?_⟩) ?_ ?_
               rotate_left
               ·intro w'
                go_simp
                with_reducible rfl
               rotate_left
               ·simp only [Act.put, zv, i64_w, i32_w]
                rfl
               refine pure_ (i := 13) (N := some 1) (v := ?_) (a' := ?_) (bz 14 16383) rfl rfl (any_of HT_.out zz) zQ (Or.inl ⟨by rfl, ?_⟩) ?_ ?_
               rotate_left
               ·intro w'
                go_simp
                with_reducible rfl
               rotate_left
               ·simp only [Act.put, zv, i64_w, i32_w]
                rfl
               refine done_ (done_of HT_.out zz) ?_
               have hnb81 := NB902_908.out; have hnc81 := NB908_902.out; have hnb82 := NB902_913.out; have hnc82 := NB913_902.out; have hcz83_0 : w80.cell? ⟨gb902, 0, none⟩ = some (.slice A0_0 l0_0.length c0_0) := zh BK902.out 0
               have hfz83_0 := blk_frozen BK902.out 0
               try go_wp2_with (first | ((with_reducible refine gate_callee (f := 20) rfl ?_); refine goesL_ (some 48) rfl rfl Try.func20 zz rfl #[.agg #[.slice A0_0 l0_0.length c0_0]] rfl zM ?_; (with_reducible refine (leadtrailref08_Copy.calls kj6 _ _ l0_0 t914 _ ?side1 ?side2 A27.out).mono ?_); (case side1 => exact zc (Kd.C_below HR0_0.out HB.out)); (case side2 => exact HC0_0.out); rintro e w84 ⟨v915, rfl, ho0, hb⟩; refine ⟨_, rfl, ?_⟩; have HO916 := zk (Kd.R_lower ho0 (below_size (zU HB.out))); replace BK902 := zk (zbb BK902.out hb); replace BK908 := zk (zbb BK908.out hb); replace BK913 := zk (zbb BK913.out hb); replace HB := zk (below_step (zU HB.out) hb);  (try clear hb); (try clear hb2); (try clear hk); (try clear hi); (try clear ho0)) | ((with_reducible refine gate_dst (N := 9) rfl ?_); (try (refine gate_guard (by rfl) ?_; dsimp only)); refine box_event ?hg (N := 9) ?hd (cs := #[.slice none 0 0]) (t := 24) ?hr ?_; (case hd => rfl); (case hg => rfl); (case hr => first | (go_simp; done) | (go_simp; rfl)); intro gb917 hg w85 hbox hb; replace HO916 := zk (Kd.R_below (zr HO916.out) hb); have BK917 := zk (hbox); have GW917 := zk ((zg hg HB.out : w.heap.size ≤ gb917)); have GE917 := zk ((zg hg HB.out : w.heap.size ≤ gb917)); replace HB := zk (below_step (zU HB.out) hb); have NB902_917 := zk ((zlt hg BK902.out : gb902 ≠ gb917)); have NB917_902 := zk ((zgt hg BK902.out : gb917 ≠ gb902)); replace BK902 := zk (zbb BK902.out hb); have NB908_917 := zk ((zlt hg BK908.out : gb908 ≠ gb917)); have NB917_908 := zk ((zgt hg BK908.out : gb917 ≠ gb908)); replace BK908 := zk (zbb BK908.out hb); have NB913_917 := zk ((zlt hg BK913.out : gb913 ≠ gb917)); have NB917_913 := zk ((zgt hg BK913.out : gb917 ≠ gb913)); replace BK913 := zk (zbb BK913.out hb);  clear hb hbox hg; obtain ⟨Ao86, co86, eo86⟩ := Kd.R_slice HO916.out; subst eo86; have hnb87 := NB917_902.out; have hnc87 := NB902_917.out; have hnb88 := NB917_908.out; have hnc88 := NB908_917.out; have hnb89 := NB917_913.out; have hnc89 := NB913_917.out; have hcz90_0 : w85.cell? ⟨gb917, 0, none⟩ = some (.slice none 0 0) := zh BK917.out 0; have hfz90_0 := blk_frozen BK917.out 0))
               have n0_ : Aside0 (Kd.R k50 50 (w85.setCell ⟨gb917, 0, none⟩ (.slice Ao86 t914.length co86)) w.heap.size (fun _ => True) (.slice Ao86 t914.length co86) t914) := ⟨by (with_reducible repeat (first | apply zA | apply zB | apply zC)); exact Kd.R_mono (Kd.R_far (p := ⟨gb917, 0, none⟩) (Kd.R_types HO916.out BK917.out (by decide)) (fun _ hk => hk.2) (.slice Ao86 t914.length co86)) (fun _ hk => trivial)⟩
               have n1_ : Aside0 ((w85.setCell ⟨gb917, 0, none⟩ (.slice Ao86 t914.length co86)).heap[gb902]? = some (.cells #[.slice A0_0 l0_0.length c0_0] 24 (0, 0))) := ⟨zb BK902.out⟩
               have n2_ : Aside0 ((w85.setCell ⟨gb917, 0, none⟩ (.slice Ao86 t914.length co86)).heap[gb908]? = some (.cells #[.bool true, .int .i64 t905, .int .i64 t906] 59 (0, 0))) := ⟨zb BK908.out⟩
               have n3_ : Aside0 ((w85.setCell ⟨gb917, 0, none⟩ (.slice Ao86 t914.length co86)).heap[gb913]? = some (.cells #[.bool false, .int .i64 t910, .int .i64 t911] 59 (0, 0))) := ⟨zb BK913.out⟩
               have n4_ : Aside0 ((w85.setCell ⟨gb917, 0, none⟩ (.slice Ao86 t914.length co86)).heap[gb917]? = some (.cells #[.slice Ao86 t914.length co86] 24 (0, 0))) := ⟨by (with_reducible repeat (first | refine blk_drewN ?_ _ | refine blk_drew ?_ | refine blk_alloc ?_ _)); refine blk_put (cs := #[.slice none 0 0]) ?_ 0 _ rfl; exact zb BK917.out⟩
               have n5_ : Aside0 (Below w.heap.size w (w85.setCell ⟨gb917, 0, none⟩ (.slice Ao86 t914.length co86))) := ⟨zU HB.out⟩
               (try clear HO916); (try clear BK902); (try clear BK908); (try clear BK913); (try clear BK917); (try clear HB); generalize (w85.setCell ⟨gb917, 0, none⟩ (.slice Ao86 t914.length co86)) = w91 at n0_ n1_ n2_ n3_ n4_ n5_ ⊢
               have HO916 := n0_; have BK902 := n1_; have BK908 := n2_; have BK913 := n3_; have BK917 := n4_; have HB := n5_; clear n0_ n1_ n2_ n3_ n4_ n5_; have n0_ := zk (Kd.R_drew HO916.out); have n1_ := zk (blk_drew BK902.out); have n2_ := zk (blk_drew BK908.out); have n3_ := zk (blk_drew BK913.out); have n4_ := zk (blk_drew BK917.out); have n5_ := zk (below_drew1 HB.out); clear HO916; clear BK902; clear BK908; clear BK913; clear BK917; clear HB; have HO916 := n0_; have BK902 := n1_; have BK908 := n2_; have BK913 := n3_; have BK917 := n4_; have HB := n5_; clear n0_ n1_ n2_ n3_ n4_ n5_; have q93 : ((ji28) : Int) ≤ ((t914.length : Int) : Int) := zT
               obtain ⟨i093, hi093, _, hsz93, _⟩ := info_parts info50; have hroom93 : t914.length ≤ co86 := (Kd.R_reads' HO916.out).2.1
               have hC93 : Kd.C k50 _ Ao86 t914.length t914 := (Kd.R_reads' HO916.out).2.2
               have hcut93 := cut_to (P := Try.prog) 22 50 .i64 Try.underlying22 hi093 Ao86 t914.length co86 (ji28) zT q93 hroom93; have hr93 := Kd.C_take (m := ((ji28) : Int).toNat) hC93 (by omega)
               have hy93 : y918.length = ((ji28) : Int).toNat := (by rw [Ny918.out, List.length_take]; omega)
               rw [← Ny918.out] at hr93
               rw [← hy93] at hcut93
               have HR921 := zk hr93; have HC921 := zk (show y918.length ≤ co86 from by omega)
               clear hr93 hC93 hroom93 hi093 hsz93; have KY93 := zk hy93; clear hy93; have KL93 := zk (show ((ji28) : Int).toNat ≤ t914.length from by omega)
               replace q93 := eq_true q93; have q94 : ((ji31) : Int) ≤ ((t914.length : Int) : Int) := zT
               obtain ⟨i094, hi094, _, hsz94, _⟩ := info_parts info50; have hroom94 : t914.length ≤ co86 := (Kd.R_reads' HO916.out).2.1
               have hC94 : Kd.C k50 _ Ao86 t914.length t914 := (Kd.R_reads' HO916.out).2.2
               have q094 : (0 : Int) ≤ ((ji31) : Int) := zT
               have hcut94 := cut_from (P := Try.prog) 22 50 .i64 Try.underlying22 hi094 2 hsz94 Ao86 t914.length co86 (ji31) q094 q94; have hr94 := Kd.C_drop (m := ((ji31) : Int).toNat) (c := co86) hC94 (by omega) hroom94
               obtain ⟨A94, hA94⟩ : ∃ A1, A1 = (if co86 = ((ji31) : Int).toNat then Ao86 else (Ao86 : Option Addr).map (·.add (((ji31) : Int).toNat * 2))) := ⟨_, rfl⟩; obtain ⟨c94, hc94⟩ : ∃ c1, c1 = co86 - ((ji31) : Int).toNat := ⟨_, rfl⟩; have hy94 : y922.length = t914.length - ((ji31) : Int).toNat := (by rw [Ny922.out, List.length_drop] <;> omega)
               rw [show (t914).drop ((ji31) : Int).toNat = y922 from Ny922.out.symm] at hr94
               replace hr94 : Kd.C k50 _ A94 y922.length y922 := (by rw [hA94]; exact hr94)
               rw [← hy94, ← hA94, ← hc94] at hcut94
               have HR925 := zk hr94; have HC925 := zk (show y922.length ≤ c94 from by rw [hy94, hc94]; exact Nat.sub_le_sub_right hroom94 _)
               clear hr94 hC94 hroom94 hi094 hsz94 hc94; have KY94 := zk hy94; have KA94 := zk hA94; clear hy94 hA94; have KL94 := zk (show ((ji31) : Int).toNat ≤ t914.length from by omega)
               replace q94 := eq_true q94; obtain ⟨go96, co96, eo96, gb96, gl96, cl96, HG96⟩ := Kd.R_form HO916.out (by have hj_ : 0 ≤ ((ji28) : Int) := zT; have hl_ : (ji31 : Int) ≤ (t914.length : Int) := zT; have hh_ : ((ji28) : Int) ≤ (t914.length : Int) := zT; rw [← hji31] at hl_; unfold wrap64 at hl_; omega)
               (first | cases eo96 | (injection eo96 with ea_ en_ ec_; (first | subst ea_ | (injection ea_ with ea_; subst ea_)); subst ec_; clear en_))
               have GB96 := zk gb96; have GG96 := zk HG96; clear gb96 gl96 HG96
               refine start_ (n := 12) (S := fun w' => w'.cell? ⟨gb917, 0, none⟩ = some (.slice (some ⟨go96, 0, none⟩) t914.length co86)) (ds := [11]) #[false, false, false, false, false, false, false, false, false, false, false, false] zz rfl rfl (zh BK917.out 0) (fun hHeld => ?_); refine with_tabW leadtraillaw11_ClashFewer.tab9 leadtraillaw11_ClashFewer.bits9 (fun HT_ HW_ => ?_)
               generalize w91.drew = w92 at HO916 BK902 BK908 BK913 BK917 HB GG96 HR921 HR925 hHeld ⊢
               refine pure_ (i := 0) (N := some 49) (v := ?_) (a' := ?_) (bz 12 1) rfl rfl (any_of HT_.out zz) zQ (Or.inl ⟨by rfl, ?_⟩) ?_ ?_
               rotate_left
               ·intro w'
                go_simp
                with_reducible rfl
               rotate_left
               ·simp only [Act.put, zv, i64_w, i32_w]
                rfl
               refine pure_ (i := 2) (N := some 51) (v := ?_) (a' := ?_) (bz 12 5) rfl rfl (any_of HT_.out zz) zQ (Or.inl ⟨by rfl, ?_⟩) ?_ ?_
               rotate_left
               ·intro w'
                go_simp
                with_reducible rfl
               rotate_left
               ·simp only [Act.put, zv, i64_w, i32_w]
                rfl
               refine pure_ (i := 4) (N := some 53) (v := ?_) (a' := ?_) (bz 12 21) rfl rfl (any_of HT_.out zz) zQ (Or.inl ⟨by rfl, ?_⟩) ?_ ?_
               rotate_left
               ·intro w'
                go_simp
                with_reducible rfl
               rotate_left
               ·simp only [Act.put, zv, i64_w, i32_w]
                rfl
               refine pure_ (i := 6) (N := some 55) (v := ?_) (a' := ?_) (bz 12 85) rfl rfl (any_of HT_.out zz) zQ (Or.inl ⟨by rfl, ?_⟩) ?_ ?_
               rotate_left
               ·intro w'
                go_simp
                with_reducible rfl
               rotate_left
               ·simp only [Act.put, zv, i64_w, i32_w]
                rfl
               refine pure_ (i := 7) (N := some 56) (v := ?_) (a' := ?_) (bz 12 213) rfl rfl (any_of HT_.out zz) zQ (Or.inl ⟨by rfl, ?_⟩) ?_ ?_
               rotate_left
               ·intro w'
                go_simp
                with_reducible rfl
               rotate_left
               ·simp only [Act.put, zv, i64_w, i32_w]
                rfl
               refine take_ (i := 1) (N := some 50) (v := ?_) (a' := ?_) (bz 12 215) rfl rfl (take_ofW HT_.out HW_.out zz) zQ (Or.inl ⟨by rfl, ?_⟩) hHeld ?_ ?_
               rotate_left
               ·intro w' s0
                go_simp
                with_reducible rfl
               rotate_left
               ·simp only [Act.put, zv, i64_w, i32_w]
                rfl
               refine pure_ (i := 3) (N := some 52) (v := ?_) (a' := ?_) (bz 12 223) rfl rfl (any_of HT_.out zz) zQ (Or.inl ⟨by rfl, ?_⟩) ?_ ?_
               rotate_left
               ·intro w'
                go_simp
                with_reducible rfl
               rotate_left
               ·simp only [Act.put, zv, i64_w, i32_w]
                rfl
               refine take_ (i := 5) (N := some 54) (v := ?_) (a' := ?_) (bz 12 255) rfl rfl (take_ofW HT_.out HW_.out zz) zQ (Or.inl ⟨by rfl, ?_⟩) hHeld ?_ ?_
               rotate_left
               ·intro w' s0
                go_simp
                with_reducible rfl
               rotate_left
               ·simp only [Act.put, zv, i64_w, i32_w]
                rfl
               refine pure_ (i := 8) (N := some 57) (v := ?_) (a' := ?_) (bz 12 511) rfl rfl (any_of HT_.out zz) zQ (Or.inl ⟨by rfl, ?_⟩) ?_ ?_
               rotate_left
               ·intro w'
                go_simp
                with_reducible rfl
               rotate_left
               ·simp only [Act.put, zv, i64_w, i32_w]
                rfl
               refine one_ (i := 9) (N := some 58) (bz 12 1023) rfl rfl (one_of HT_.out zz) (by decide) (fun K hK => ?_)
               have hj_ : 0 ≤ ((ji28) : Int) := zT
               have hl_ : (ji31 : Int) ≤ (t914.length : Int) := zT
               have hh_ : ((ji28) : Int) ≤ (t914.length : Int) := zT
               have hb_ := (Kd.R_reads' HO916.out).2.2.2.1; have h0_ : (0 : Int) ≤ (ji31 : Int) := zT
               have hy1_ := KY93.out; have hk_ : (ji31 : Int).toNat = y918.length + 1 := (by have hw_ : (ji31 : Int) = (ji28) + 1 := (by have h00_ := h0_; rw [← hji31] at h00_ ⊢; unfold wrap64 at h00_ ⊢; omega); rw [hw_]; omega)
               refine Kd.R_delete_step k50 (w0 := w) w.heap.size (by rfl) (.tmp 52) (.tmp 57) 22 50 rfl Try.underlying22 zz (g := go96) (n := t914.length) (c := co86) (k := y918.length) rfl rfl ?hA ?hm (zr HO916.out) ?hk (zU HB.out) (below_size (zU HB.out)) ?_
               (case hA => have ha_ := KA94.out; rw [hk_] at ha_; exact ha_)
               (case hm => have ha_ := KY94.out; omega)
               (case hk => omega)
               intro w95 ho hb hg
               clear hj_ hl_ hh_ hb_ hk_ h0_; rw [hy1_, ← Ny926.out] at ho
               clear hy1_; have hn_ : t914.length - 1 = y926.length := (by have := (Kd.R_reads' ho).1; omega)
               rw [hn_] at ho ⊢
               clear hn_; have n0_ := zk (blk_grown (g := gb902) (o := .cells #[.slice A0_0 l0_0.length c0_0] 24 (0, 0)) (zb BK902.out) hg (Kd.R_ne HO916.out BK902.out (by decide)))
               have n1_ := zk (blk_grown (g := gb908) (o := .cells #[.bool true, .int .i64 t905, .int .i64 t906] 59 (0, 0)) (zb BK908.out) hg (Kd.R_ne HO916.out BK908.out (by decide)))
               have n2_ := zk (blk_grown (g := gb913) (o := .cells #[.bool false, .int .i64 t910, .int .i64 t911] 59 (0, 0)) (zb BK913.out) hg (Kd.R_ne HO916.out BK913.out (by decide)))
               have n3_ := zk (ho); have n4_ := zk (blk_grown (g := gb917) (o := .cells #[.slice (some ⟨go96, 0, none⟩) t914.length co86] 24 (0, 0)) (zb BK917.out) hg (Kd.R_ne HO916.out BK917.out (by decide)))
               have n5_ := zk (hb); clear BK902; clear BK908; clear BK913; clear HO916; clear BK917; clear HB; have BK902 := n0_; have BK908 := n1_; have BK913 := n2_; have HO916 := n3_; have BK917 := n4_; have HB := n5_; clear n0_ n1_ n2_ n3_ n4_ n5_; clear ho hb hg
               refine hK.out _ _ (zh BK917.out 0) (fun hHeld => ?_)
               clear hK K
               refine norm_ (a' := ?_) ?_ ?_
               rotate_left
               ·show Act.put _ (some 58) _ = _
                simp only [Act.put, zv, i64_w, i32_w]
                rfl
               refine pure_ (i := 10) (N := some 59) (v := ?_) (a' := ?_) (bz 12 2047) rfl rfl (any_of HT_.out zz) zQ (Or.inl ⟨by rfl, ?_⟩) ?_ ?_
               rotate_left
               ·intro w'
                go_simp
                with_reducible rfl
               rotate_left
               ·simp only [Act.put, zv, i64_w, i32_w]
                rfl
               refine last_ (i := 11) (N := none) (bz 12 4095) rfl rfl (one_of HT_.out zz) (by decide) (fun K hK => ?_)
               have hs97 : w95.cell? ⟨gb917, 0, none⟩ = some (.slice (some ⟨go96, 0, none⟩) t914.length co86) := zh BK917.out 0
               have hfs97 := blk_frozen BK917.out 0; have hns97_0 := NB902_917.out; have hns97_1 := NB908_917.out; have hns97_2 := NB913_917.out; have hms97_0 := NB917_902.out; have hms97_1 := NB917_908.out; have hms97_2 := NB917_913.out
               refine skip_ (w1 := ?_) (by rfl) rfl ?_ ?_
               rotate_left
               ·go_simp
                rfl
               refine hK.out _ _ ?_
               clear hK K
               refine done_ (done_of HT_.out zz) ?_
               have hcz98_0 : w95.cell? ⟨gb917, 0, none⟩ = some (.slice (some ⟨go96, 0, none⟩) t914.length co86) := zh BK917.out 0
               have hfz98_0 := blk_frozen BK917.out 0
               try go_wp2_with (first | ((with_reducible refine gate_callee (f := 62) rfl ?_); refine goesL_ (some 62) rfl rfl Try.func62 zz rfl #[.agg #[.slice (some ⟨go96, 0, none⟩) y926.length co86]] rfl zM ?_; (with_reducible refine (clash_Prefix.calls kj6 _ _ y926 true t930 t931 t932 _ ?side1 ?side2 A34.out).mono ?_); (case side1 => refine (Kd.R_reads' (e := 50) (base := w.heap.size) (ok := fun k_ => True) (n := y926.length) (c := co86) ?_).2.2; exact (by (with_reducible repeat (first | apply zA | apply zB | apply zC)); exact (Kd.R_mono (Kd.R_far (p := ⟨gb917, 0, none⟩) (Kd.R_types HO916.out BK917.out (by decide)) (fun _ hk => hk.2) (.slice (some ⟨go96, 0, none⟩) y926.length co86)) (fun _ h_ => h_.1)))); (case side2 => exact (Kd.R_reads' HO916.out).2.1); rintro e w99 ⟨rfl, hb⟩; refine ⟨_, rfl, ?_⟩; replace HO916 := zk (Kd.R_below (by (with_reducible repeat (first | apply zA | apply zB | apply zC)); exact (Kd.R_mono (Kd.R_far (p := ⟨gb917, 0, none⟩) (Kd.R_types HO916.out BK917.out (by decide)) (fun _ hk => hk.2) (.slice (some ⟨go96, 0, none⟩) y926.length co86)) (fun _ h_ => h_.1))) hb); replace BK902 := zk (zbb BK902.out hb); replace BK908 := zk (zbb BK908.out hb); replace BK913 := zk (zbb BK913.out hb); replace BK917 := zk (blk_below (g := gb917) (o := .cells #[.slice (some ⟨go96, 0, none⟩) y926.length co86] 24 (0, 0)) (by (with_reducible repeat (first | refine blk_drewN ?_ _ | refine blk_drew ?_ | refine blk_alloc ?_ _)); refine blk_put (cs := #[.slice (some ⟨go96, 0, none⟩) t914.length co86]) ?_ 0 _ rfl; exact zb BK917.out) hb); replace HB := zk (below_step (zU HB.out) hb);  (try clear hb); (try clear hb2); (try clear hk); (try clear hi)) | ((with_reducible refine gate_dst (N := 10) rfl ?_); (try (refine gate_guard (by rfl) ?_; dsimp only)); refine box_event ?hg (N := 10) ?hd (cs := #[.bool false, .int .i64 0, .int .i64 0]) (t := 59) ?hr ?_; (case hd => rfl); (case hg => rfl); (case hr => first | (go_simp; done) | (go_simp; rfl)); intro gb933 hg w100 hbox hb; replace HO916 := zk (Kd.R_below (zr HO916.out) hb); have BK933 := zk (hbox); have GW933 := zk ((zg hg HB.out : w.heap.size ≤ gb933)); have GE933 := zk ((zg hg HB.out : w.heap.size ≤ gb933)); replace HB := zk (below_step (zU HB.out) hb); have NB902_933 := zk ((zlt hg BK902.out : gb902 ≠ gb933)); have NB933_902 := zk ((zgt hg BK902.out : gb933 ≠ gb902)); replace BK902 := zk (zbb BK902.out hb); have NB908_933 := zk ((zlt hg BK908.out : gb908 ≠ gb933)); have NB933_908 := zk ((zgt hg BK908.out : gb933 ≠ gb908)); replace BK908 := zk (zbb BK908.out hb); have NB913_933 := zk ((zlt hg BK913.out : gb913 ≠ gb933)); have NB933_913 := zk ((zgt hg BK913.out : gb933 ≠ gb913)); replace BK913 := zk (zbb BK913.out hb); have NB917_933 := zk ((zlt hg BK917.out : gb917 ≠ gb933)); have NB933_917 := zk ((zgt hg BK917.out : gb933 ≠ gb917)); replace BK917 := zk (zbb BK917.out hb);  clear hb hbox hg; have hnb101 := NB933_902.out; have hnc101 := NB902_933.out; have hnb102 := NB933_908.out; have hnc102 := NB908_933.out; have hnb103 := NB933_913.out; have hnc103 := NB913_933.out; have hnb104 := NB933_917.out; have hnc104 := NB917_933.out; have hcz105_0 : w100.cell? ⟨gb933, 0, none⟩ = some (.bool false) := zh BK933.out 0; have hcz105_1 : w100.cell? ⟨gb933, 1, none⟩ = some (.int .i64 0) := zh BK933.out 1; have hcz105_2 : w100.cell? ⟨gb933, 2, none⟩ = some (.int .i64 0) := zh BK933.out 2; have hfz105_0 := blk_frozen BK933.out 0; have hfz105_1 := blk_frozen BK933.out 1; have hfz105_2 := blk_frozen BK933.out 2; have hcz106_0 : w100.cell? ⟨gb917, 0, none⟩ = some (.slice (some ⟨go96, 0, none⟩) y926.length co86) := zh BK917.out 0; have hfz106_0 := blk_frozen BK917.out 0) | ((with_reducible refine gate_callee (f := 60) rfl ?_); refine goesL_ (some 67) rfl rfl Try.func60 zz rfl #[.agg #[.slice (some ⟨go96, 0, none⟩) y926.length co86]] rfl zM ?_; (with_reducible refine (clash_Inject.calls kj6 _ _ y926 t934 t935 t936 t937 _ ?side1 ?side2 A35.out).mono ?_); (case side1 => refine (Kd.R_reads' (e := 50) (base := w.heap.size) (ok := fun k_ => True) (n := y926.length) (c := co86) ?_).2.2; exact (by (with_reducible repeat (first | apply zA | apply zB | apply zC)); exact (Kd.R_mono (Kd.R_far (p := ⟨gb933, 2, none⟩) (Kd.R_far (p := ⟨gb933, 1, none⟩) (Kd.R_far (p := ⟨gb933, 0, none⟩) (Kd.R_types HO916.out BK933.out (by decide)) (fun _ hk => hk.2) (.bool true)) (fun _ hk => hk.2) (.int .i64 t930)) (fun _ hk => hk.2) (.int .i64 t931)) (fun _ h_ => h_.1)))); (case side2 => exact (Kd.R_reads' HO916.out).2.1); rintro e w107 ⟨rfl, hb⟩; refine ⟨_, rfl, ?_⟩; replace HO916 := zk (Kd.R_below (by (with_reducible repeat (first | apply zA | apply zB | apply zC)); exact (Kd.R_mono (Kd.R_far (p := ⟨gb933, 2, none⟩) (Kd.R_far (p := ⟨gb933, 1, none⟩) (Kd.R_far (p := ⟨gb933, 0, none⟩) (Kd.R_types HO916.out BK933.out (by decide)) (fun _ hk => hk.2) (.bool true)) (fun _ hk => hk.2) (.int .i64 t930)) (fun _ hk => hk.2) (.int .i64 t931)) (fun _ h_ => h_.1))) hb); replace BK902 := zk (zbb BK902.out hb); replace BK908 := zk (zbb BK908.out hb); replace BK913 := zk (zbb BK913.out hb); replace BK917 := zk (zbb BK917.out hb); replace BK933 := zk (blk_below (g := gb933) (o := .cells #[.bool true, .int .i64 t930, .int .i64 t931] 59 (0, 0)) (by (with_reducible repeat (first | refine blk_drewN ?_ _ | refine blk_drew ?_ | refine blk_alloc ?_ _)); refine blk_put (cs := #[.bool true, .int .i64 t930, .int .i64 0]) ?_ 2 _ rfl; (with_reducible repeat (first | refine blk_drewN ?_ _ | refine blk_drew ?_ | refine blk_alloc ?_ _)); refine blk_put (cs := #[.bool true, .int .i64 0, .int .i64 0]) ?_ 1 _ rfl; (with_reducible repeat (first | refine blk_drewN ?_ _ | refine blk_drew ?_ | refine blk_alloc ?_ _)); refine blk_put (cs := #[.bool false, .int .i64 0, .int .i64 0]) ?_ 0 _ rfl; exact zb BK933.out) hb); replace HB := zk (below_step (zU HB.out) hb);  (try clear hb); (try clear hb2); (try clear hk); (try clear hi)) | ((with_reducible refine gate_dst (N := 12) rfl ?_); (try (refine gate_guard (by rfl) ?_; dsimp only)); refine box_event ?hg (N := 12) ?hd (cs := #[.bool false, .int .i64 0, .int .i64 0]) (t := 59) ?hr ?_; (case hd => rfl); (case hg => rfl); (case hr => first | (go_simp; done) | (go_simp; rfl)); intro gb938 hg w108 hbox hb; replace HO916 := zk (Kd.R_below (zr HO916.out) hb); have BK938 := zk (hbox); have GW938 := zk ((zg hg HB.out : w.heap.size ≤ gb938)); have GE938 := zk ((zg hg HB.out : w.heap.size ≤ gb938)); replace HB := zk (below_step (zU HB.out) hb); have NB902_938 := zk ((zlt hg BK902.out : gb902 ≠ gb938)); have NB938_902 := zk ((zgt hg BK902.out : gb938 ≠ gb902)); replace BK902 := zk (zbb BK902.out hb); have NB908_938 := zk ((zlt hg BK908.out : gb908 ≠ gb938)); have NB938_908 := zk ((zgt hg BK908.out : gb938 ≠ gb908)); replace BK908 := zk (zbb BK908.out hb); have NB913_938 := zk ((zlt hg BK913.out : gb913 ≠ gb938)); have NB938_913 := zk ((zgt hg BK913.out : gb938 ≠ gb913)); replace BK913 := zk (zbb BK913.out hb); have NB917_938 := zk ((zlt hg BK917.out : gb917 ≠ gb938)); have NB938_917 := zk ((zgt hg BK917.out : gb938 ≠ gb917)); replace BK917 := zk (zbb BK917.out hb); have NB933_938 := zk ((zlt hg BK933.out : gb933 ≠ gb938)); have NB938_933 := zk ((zgt hg BK933.out : gb938 ≠ gb933)); replace BK933 := zk (zbb BK933.out hb);  clear hb hbox hg; have hnb109 := NB938_902.out; have hnc109 := NB902_938.out; have hnb110 := NB938_908.out; have hnc110 := NB908_938.out; have hnb111 := NB938_913.out; have hnc111 := NB913_938.out; have hnb112 := NB938_917.out; have hnc112 := NB917_938.out; have hnb113 := NB938_933.out; have hnc113 := NB933_938.out; have hcz114_0 : w108.cell? ⟨gb938, 0, none⟩ = some (.bool false) := zh BK938.out 0; have hcz114_1 : w108.cell? ⟨gb938, 1, none⟩ = some (.int .i64 0) := zh BK938.out 1; have hcz114_2 : w108.cell? ⟨gb938, 2, none⟩ = some (.int .i64 0) := zh BK938.out 2; have hfz114_0 := blk_frozen BK938.out 0; have hfz114_1 := blk_frozen BK938.out 1; have hfz114_2 := blk_frozen BK938.out 2; have hnb115 := NB908_913.out; have hnc115 := NB913_908.out; have hcz116_0 : w108.cell? ⟨gb908, 0, none⟩ = some (.bool true) := zh BK908.out 0; have hcz116_1 : w108.cell? ⟨gb908, 1, none⟩ = some (.int .i64 t905) := zh BK908.out 1; have hcz116_2 : w108.cell? ⟨gb908, 2, none⟩ = some (.int .i64 t906) := zh BK908.out 2; have hfz116_0 := blk_frozen BK908.out 0; have hfz116_1 := blk_frozen BK908.out 1; have hfz116_2 := blk_frozen BK908.out 2; have hcz117_0 : w108.cell? ⟨gb933, 0, none⟩ = some (.bool true) := zh BK933.out 0; have hcz117_1 : w108.cell? ⟨gb933, 1, none⟩ = some (.int .i64 t930) := zh BK933.out 1; have hcz117_2 : w108.cell? ⟨gb933, 2, none⟩ = some (.int .i64 t931) := zh BK933.out 2; have hfz117_0 := blk_frozen BK933.out 0; have hfz117_1 := blk_frozen BK933.out 1; have hfz117_2 := blk_frozen BK933.out 2; have hcz118_0 : w108.cell? ⟨gb913, 0, none⟩ = some (.bool false) := zh BK913.out 0; have hcz118_1 : w108.cell? ⟨gb913, 1, none⟩ = some (.int .i64 t910) := zh BK913.out 1; have hcz118_2 : w108.cell? ⟨gb913, 2, none⟩ = some (.int .i64 t911) := zh BK913.out 2; have hfz118_0 := blk_frozen BK913.out 0; have hfz118_1 := blk_frozen BK913.out 1; have hfz118_2 := blk_frozen BK913.out 2))
               go_ret
               exact ⟨by first | rfl | (simp [errW_none, errW_some] <;> rfl) | (simp only [← hji28, ← hji31]; first | rfl | (simp [errW_none, errW_some] <;> rfl)) | (simp [*, errW_none, errW_some] <;> rfl), zU HB.out⟩
             ·replace c39 := Bool.eq_false_iff.mpr c39; subst c39
              have H1 : (none) = some r := by rw [if_neg (show ¬ (false = true) by decide)] at H; exact H
              clear H; have H := H1; clear H1
              exact absurd H (by simp)
            ·replace c38 := Bool.eq_false_iff.mpr c38; subst c38
             have H1 : (if t909 = true then (some t934) else (some true)) = some r := by rw [if_neg (show ¬ (false = true) by decide)] at H; exact H
             clear H; have H := H1; clear H1
             by_cases c119 : t909 = true
             ·subst c119
              have H1 : (some t934) = some r := by rw [if_pos rfl] at H; exact H
              clear H; have H := H1; clear H1; obtain rfl := Option.some.inj H
              try go_wp2
              have n0_ := zk (blk_drew BK902.out); have n1_ := zk (blk_drew BK908.out); have n2_ := zk (blk_drew BK913.out); have n3_ := zk (below_drew1 HB.out); clear BK902; clear BK908; clear BK913; clear HB; have BK902 := n0_; have BK908 := n1_; have BK913 := n2_; have HB := n3_; clear n0_ n1_ n2_ n3_
              refine start_ (n := 14) (S := fun w' => w'.cell? ⟨gb902, 0, none⟩ = some (.slice A0_0 l0_0.length c0_0)) (ds := []) #[false, false, false, false, false, false, false, false, false, false, false, false, false, false] zz rfl rfl (zh BK902.out 0) (fun hHeld => ?_); refine with_tabW leadtraillaw11_ClashFewer.tab7 leadtraillaw11_ClashFewer.bits7 (fun HT_ HW_ => ?_)
              generalize wc.drew = w120 at BK902 BK908 BK913 HB hHeld ⊢
              refine pure_ (i := 0) (N := some 34) (v := ?_) (a' := ?_) (bz 14 1) rfl rfl (any_of HT_.out zz) zQ (Or.inl ⟨by rfl, ?_⟩) ?_ ?_
              rotate_left
              ·intro w'
               go_simp
               with_reducible rfl
              rotate_left
              ·simp only [Act.put, zv, i64_w, i32_w]
               rfl
              refine pure_ (i := 1) (N := some 35) (v := ?_) (a' := ?_) (bz 14 3) rfl rfl (any_of HT_.out zz) zQ (Or.inl ⟨by rfl, ?_⟩) ?_ ?_
              rotate_left
              ·intro w'
               go_simp
               with_reducible rfl
              rotate_left
              ·simp only [Act.put, zv, i64_w, i32_w]
               rfl
              refine pure_ (i := 5) (N := some 39) (v := ?_) (a' := ?_) (bz 14 35) rfl rfl (any_of HT_.out zz) zQ (Or.inl ⟨by rfl, ?_⟩) ?_ ?_
              rotate_left
              ·intro w'
               go_simp
               with_reducible rfl
              rotate_left
              ·simp only [Act.put, zv, i64_w, i32_w]
               rfl
              refine pure_ (i := 9) (N := some 43) (v := ?_) (a' := ?_) (bz 14 547) rfl rfl (any_of HT_.out zz) zQ (Or.inl ⟨by rfl, ?_⟩) ?_ ?_
              rotate_left
              ·intro w'
               go_simp
               with_reducible rfl
              rotate_left
              ·simp only [Act.put, zv, i64_w, i32_w]
               rfl
              refine take_ (i := 2) (N := some 36) (v := ?_) (a' := ?_) (bz 14 551) rfl rfl (take_ofW HT_.out HW_.out zz) zQ (Or.inl ⟨by rfl, ?_⟩) hHeld ?_ ?_
              rotate_left
              ·intro w' s0
               go_simp
               with_reducible rfl
              rotate_left
              ·simp only [Act.put, zv, i64_w, i32_w]
               rfl
              refine pure_ (i := 3) (N := some 37) (v := ?_) (a' := ?_) (bz 14 559) rfl rfl (any_of HT_.out zz) zQ (Or.inl ⟨by rfl, ?_⟩) ?_ ?_
              rotate_left
              ·intro w'
               go_simp
               with_reducible rfl
              rotate_left
              ·simp only [Act.put, zv, i64_w, i32_w]
               rfl
              refine pure_ (i := 4) (N := some 38) (v := ?_) (a' := ?_) (bz 14 575) rfl rfl (any_of HT_.out zz) zQ (Or.inl ⟨by rfl, ?_⟩) ?_ ?_
              rotate_left
              ·intro w'
               go_simp
               with_reducible rfl
              rotate_left
              ·simp only [Act.put, zv, i64_w, i32_w]
               rfl
              refine take_ (i := 6) (N := some 40) (v := ?_) (a' := ?_) (bz 14 639) rfl rfl (take_ofW HT_.out HW_.out zz) zQ (Or.inl ⟨by rfl, ?_⟩) hHeld ?_ ?_
              rotate_left
              ·intro w' s0
               go_simp
               with_reducible rfl
              rotate_left
              ·simp only [Act.put, zv, i64_w, i32_w]
               rfl
              refine pure_ (i := 7) (N := some 41) (v := ?_) (a' := ?_) (bz 14 767) rfl rfl (any_of HT_.out zz) zQ (Or.inl ⟨by rfl, ?_⟩) ?_ ?_
              rotate_left
              ·intro w'
               go_simp
               with_reducible rfl
              rotate_left
              ·simp only [Act.put, zv, i64_w, i32_w]
               rfl
              refine pure_ (i := 8) (N := some 42) (v := ?_) (a' := ?_) (bz 14 1023) rfl rfl (any_of HT_.out zz) zQ (Or.inl ⟨by rfl, ?_⟩) ?_ ?_
              rotate_left
              ·intro w'
               go_simp
               with_reducible rfl
              rotate_left
              ·simp only [Act.put, zv, i64_w, i32_w]
               rfl
              refine take_ (i := 10) (N := some 44) (v := ?_) (a' := ?_) (bz 14 2047) rfl rfl (take_ofW HT_.out HW_.out zz) zQ (Or.inl ⟨by rfl, ?_⟩) hHeld ?_ ?_
              rotate_left
              ·intro w' s0
               go_simp
               with_reducible rfl
              rotate_left
              ·simp only [Act.put, zv, i64_w, i32_w]
               rfl
              refine pure_ (i := 11) (N := some 45) (v := ?_) (a' := ?_) (bz 14 4095) rfl rfl (any_of HT_.out zz) zQ (Or.inl ⟨by rfl, ?_⟩) ?_ ?_
              rotate_left
              ·intro w'
               go_simp
               with_reducible rfl
              rotate_left
              ·simp only [Act.put, zv, i64_w, i32_w]
               rfl
              refine pure_ (i := 12) (N := some 46) (v := ?_) (a' := ?_) (bz 14 8191) rfl rfl (any_of HT_.out zz) zQ (Or.inl ⟨by rfl, ?_⟩) ?_ ?_
              rotate_left
              ·intro w'
               go_simp
               with_reducible rfl
              rotate_left
              ·simp only [Act.put, zv, i64_w, i32_w]
               rfl
              refine pure_ (i := 13) (N := some 1) (v := ?_) (a' := ?_) (bz 14 16383) rfl rfl (any_of HT_.out zz) zQ (Or.inl ⟨by rfl, ?_⟩) ?_ ?_
              rotate_left
              ·intro w'
               go_simp
               with_reducible rfl
              rotate_left
              ·simp only [Act.put, zv, i64_w, i32_w]
               rfl
              refine done_ (done_of HT_.out zz) ?_
              have hnb121 := NB902_908.out; have hnc121 := NB908_902.out; have hnb122 := NB902_913.out; have hnc122 := NB913_902.out; have hcz123_0 : w120.cell? ⟨gb902, 0, none⟩ = some (.slice A0_0 l0_0.length c0_0) := zh BK902.out 0
              have hfz123_0 := blk_frozen BK902.out 0
              try go_wp2_with (first | ((with_reducible refine gate_callee (f := 20) rfl ?_); refine goesL_ (some 48) rfl rfl Try.func20 zz rfl #[.agg #[.slice A0_0 l0_0.length c0_0]] rfl zM ?_; (with_reducible refine (leadtrailref08_Copy.calls kj6 _ _ l0_0 t914 _ ?side1 ?side2 A27.out).mono ?_); (case side1 => exact zc (Kd.C_below HR0_0.out HB.out)); (case side2 => exact HC0_0.out); rintro e w124 ⟨v915, rfl, ho0, hb⟩; refine ⟨_, rfl, ?_⟩; have HO916 := zk (Kd.R_lower ho0 (below_size (zU HB.out))); replace BK902 := zk (zbb BK902.out hb); replace BK908 := zk (zbb BK908.out hb); replace BK913 := zk (zbb BK913.out hb); replace HB := zk (below_step (zU HB.out) hb);  (try clear hb); (try clear hb2); (try clear hk); (try clear hi); (try clear ho0)) | ((with_reducible refine gate_dst (N := 9) rfl ?_); (try (refine gate_guard (by rfl) ?_; dsimp only)); refine box_event ?hg (N := 9) ?hd (cs := #[.slice none 0 0]) (t := 24) ?hr ?_; (case hd => rfl); (case hg => rfl); (case hr => first | (go_simp; done) | (go_simp; rfl)); intro gb917 hg w125 hbox hb; replace HO916 := zk (Kd.R_below (zr HO916.out) hb); have BK917 := zk (hbox); have GW917 := zk ((zg hg HB.out : w.heap.size ≤ gb917)); have GE917 := zk ((zg hg HB.out : w.heap.size ≤ gb917)); replace HB := zk (below_step (zU HB.out) hb); have NB902_917 := zk ((zlt hg BK902.out : gb902 ≠ gb917)); have NB917_902 := zk ((zgt hg BK902.out : gb917 ≠ gb902)); replace BK902 := zk (zbb BK902.out hb); have NB908_917 := zk ((zlt hg BK908.out : gb908 ≠ gb917)); have NB917_908 := zk ((zgt hg BK908.out : gb917 ≠ gb908)); replace BK908 := zk (zbb BK908.out hb); have NB913_917 := zk ((zlt hg BK913.out : gb913 ≠ gb917)); have NB917_913 := zk ((zgt hg BK913.out : gb917 ≠ gb913)); replace BK913 := zk (zbb BK913.out hb);  clear hb hbox hg; obtain ⟨Ao126, co126, eo126⟩ := Kd.R_slice HO916.out; subst eo126; have hnb127 := NB917_902.out; have hnc127 := NB902_917.out; have hnb128 := NB917_908.out; have hnc128 := NB908_917.out; have hnb129 := NB917_913.out; have hnc129 := NB913_917.out; have hcz130_0 : w125.cell? ⟨gb917, 0, none⟩ = some (.slice none 0 0) := zh BK917.out 0; have hfz130_0 := blk_frozen BK917.out 0))
              have n0_ : Aside0 (Kd.R k50 50 (w125.setCell ⟨gb917, 0, none⟩ (.slice Ao126 t914.length co126)) w.heap.size (fun _ => True) (.slice Ao126 t914.length co126) t914) := ⟨by (with_reducible repeat (first | apply zA | apply zB | apply zC)); exact Kd.R_mono (Kd.R_far (p := ⟨gb917, 0, none⟩) (Kd.R_types HO916.out BK917.out (by decide)) (fun _ hk => hk.2) (.slice Ao126 t914.length co126)) (fun _ hk => trivial)⟩
              have n1_ : Aside0 ((w125.setCell ⟨gb917, 0, none⟩ (.slice Ao126 t914.length co126)).heap[gb902]? = some (.cells #[.slice A0_0 l0_0.length c0_0] 24 (0, 0))) := ⟨zb BK902.out⟩
              have n2_ : Aside0 ((w125.setCell ⟨gb917, 0, none⟩ (.slice Ao126 t914.length co126)).heap[gb908]? = some (.cells #[.bool false, .int .i64 t905, .int .i64 t906] 59 (0, 0))) := ⟨zb BK908.out⟩
              have n3_ : Aside0 ((w125.setCell ⟨gb917, 0, none⟩ (.slice Ao126 t914.length co126)).heap[gb913]? = some (.cells #[.bool true, .int .i64 t910, .int .i64 t911] 59 (0, 0))) := ⟨zb BK913.out⟩
              have n4_ : Aside0 ((w125.setCell ⟨gb917, 0, none⟩ (.slice Ao126 t914.length co126)).heap[gb917]? = some (.cells #[.slice Ao126 t914.length co126] 24 (0, 0))) := ⟨by (with_reducible repeat (first | refine blk_drewN ?_ _ | refine blk_drew ?_ | refine blk_alloc ?_ _)); refine blk_put (cs := #[.slice none 0 0]) ?_ 0 _ rfl; exact zb BK917.out⟩
              have n5_ : Aside0 (Below w.heap.size w (w125.setCell ⟨gb917, 0, none⟩ (.slice Ao126 t914.length co126))) := ⟨zU HB.out⟩
              (try clear HO916); (try clear BK902); (try clear BK908); (try clear BK913); (try clear BK917); (try clear HB); generalize (w125.setCell ⟨gb917, 0, none⟩ (.slice Ao126 t914.length co126)) = w131 at n0_ n1_ n2_ n3_ n4_ n5_ ⊢
              have HO916 := n0_; have BK902 := n1_; have BK908 := n2_; have BK913 := n3_; have BK917 := n4_; have HB := n5_; clear n0_ n1_ n2_ n3_ n4_ n5_; have n0_ := zk (Kd.R_drew HO916.out); have n1_ := zk (blk_drew BK902.out); have n2_ := zk (blk_drew BK908.out); have n3_ := zk (blk_drew BK913.out); have n4_ := zk (blk_drew BK917.out); have n5_ := zk (below_drew1 HB.out); clear HO916; clear BK902; clear BK908; clear BK913; clear BK917; clear HB; have HO916 := n0_; have BK902 := n1_; have BK908 := n2_; have BK913 := n3_; have BK917 := n4_; have HB := n5_; clear n0_ n1_ n2_ n3_ n4_ n5_; have q133 : ((ji28) : Int) ≤ ((t914.length : Int) : Int) := zT
              obtain ⟨i0133, hi0133, _, hsz133, _⟩ := info_parts info50; have hroom133 : t914.length ≤ co126 := (Kd.R_reads' HO916.out).2.1
              have hC133 : Kd.C k50 _ Ao126 t914.length t914 := (Kd.R_reads' HO916.out).2.2
              have hcut133 := cut_to (P := Try.prog) 22 50 .i64 Try.underlying22 hi0133 Ao126 t914.length co126 (ji28) zT q133 hroom133; have hr133 := Kd.C_take (m := ((ji28) : Int).toNat) hC133 (by omega)
              have hy133 : y918.length = ((ji28) : Int).toNat := (by rw [Ny918.out, List.length_take]; omega)
              rw [← Ny918.out] at hr133
              rw [← hy133] at hcut133
              have HR921 := zk hr133; have HC921 := zk (show y918.length ≤ co126 from by omega)
              clear hr133 hC133 hroom133 hi0133 hsz133; have KY133 := zk hy133; clear hy133; have KL133 := zk (show ((ji28) : Int).toNat ≤ t914.length from by omega)
              replace q133 := eq_true q133; have q134 : ((ji31) : Int) ≤ ((t914.length : Int) : Int) := zT
              obtain ⟨i0134, hi0134, _, hsz134, _⟩ := info_parts info50; have hroom134 : t914.length ≤ co126 := (Kd.R_reads' HO916.out).2.1
              have hC134 : Kd.C k50 _ Ao126 t914.length t914 := (Kd.R_reads' HO916.out).2.2
              have q0134 : (0 : Int) ≤ ((ji31) : Int) := zT
              have hcut134 := cut_from (P := Try.prog) 22 50 .i64 Try.underlying22 hi0134 2 hsz134 Ao126 t914.length co126 (ji31) q0134 q134; have hr134 := Kd.C_drop (m := ((ji31) : Int).toNat) (c := co126) hC134 (by omega) hroom134
              obtain ⟨A134, hA134⟩ : ∃ A1, A1 = (if co126 = ((ji31) : Int).toNat then Ao126 else (Ao126 : Option Addr).map (·.add (((ji31) : Int).toNat * 2))) := ⟨_, rfl⟩; obtain ⟨c134, hc134⟩ : ∃ c1, c1 = co126 - ((ji31) : Int).toNat := ⟨_, rfl⟩; have hy134 : y922.length = t914.length - ((ji31) : Int).toNat := (by rw [Ny922.out, List.length_drop] <;> omega)
              rw [show (t914).drop ((ji31) : Int).toNat = y922 from Ny922.out.symm] at hr134
              replace hr134 : Kd.C k50 _ A134 y922.length y922 := (by rw [hA134]; exact hr134)
              rw [← hy134, ← hA134, ← hc134] at hcut134
              have HR925 := zk hr134; have HC925 := zk (show y922.length ≤ c134 from by rw [hy134, hc134]; exact Nat.sub_le_sub_right hroom134 _)
              clear hr134 hC134 hroom134 hi0134 hsz134 hc134; have KY134 := zk hy134; have KA134 := zk hA134; clear hy134 hA134; have KL134 := zk (show ((ji31) : Int).toNat ≤ t914.length from by omega)
              replace q134 := eq_true q134; obtain ⟨go136, co136, eo136, gb136, gl136, cl136, HG136⟩ := Kd.R_form HO916.out (by have hj_ : 0 ≤ ((ji28) : Int) := zT; have hl_ : (ji31 : Int) ≤ (t914.length : Int) := zT; have hh_ : ((ji28) : Int) ≤ (t914.length : Int) := zT; rw [← hji31] at hl_; unfold wrap64 at hl_; omega)
              (first | cases eo136 | (injection eo136 with ea_ en_ ec_; (first | subst ea_ | (injection ea_ with ea_; subst ea_)); subst ec_; clear en_))
              have GB136 := zk gb136; have GG136 := zk HG136; clear gb136 gl136 HG136
              refine start_ (n := 12) (S := fun w' => w'.cell? ⟨gb917, 0, none⟩ = some (.slice (some ⟨go136, 0, none⟩) t914.length co126)) (ds := [11]) #[false, false, false, false, false, false, false, false, false, false, false, false] zz rfl rfl (zh BK917.out 0) (fun hHeld => ?_); refine with_tabW leadtraillaw11_ClashFewer.tab9 leadtraillaw11_ClashFewer.bits9 (fun HT_ HW_ => ?_)
              generalize w131.drew = w132 at HO916 BK902 BK908 BK913 BK917 HB GG136 HR921 HR925 hHeld ⊢
              refine pure_ (i := 0) (N := some 49) (v := ?_) (a' := ?_) (bz 12 1) rfl rfl (any_of HT_.out zz) zQ (Or.inl ⟨by rfl, ?_⟩) ?_ ?_
              rotate_left
              ·intro w'
               go_simp
               with_reducible rfl
              rotate_left
              ·simp only [Act.put, zv, i64_w, i32_w]
               rfl
              refine pure_ (i := 2) (N := some 51) (v := ?_) (a' := ?_) (bz 12 5) rfl rfl (any_of HT_.out zz) zQ (Or.inl ⟨by rfl, ?_⟩) ?_ ?_
              rotate_left
              ·intro w'
               go_simp
               with_reducible rfl
              rotate_left
              ·simp only [Act.put, zv, i64_w, i32_w]
               rfl
              refine pure_ (i := 4) (N := some 53) (v := ?_) (a' := ?_) (bz 12 21) rfl rfl (any_of HT_.out zz) zQ (Or.inl ⟨by rfl, ?_⟩) ?_ ?_
              rotate_left
              ·intro w'
               go_simp
               with_reducible rfl
              rotate_left
              ·simp only [Act.put, zv, i64_w, i32_w]
               rfl
              refine pure_ (i := 6) (N := some 55) (v := ?_) (a' := ?_) (bz 12 85) rfl rfl (any_of HT_.out zz) zQ (Or.inl ⟨by rfl, ?_⟩) ?_ ?_
              rotate_left
              ·intro w'
               go_simp
               with_reducible rfl
              rotate_left
              ·simp only [Act.put, zv, i64_w, i32_w]
               rfl
              refine pure_ (i := 7) (N := some 56) (v := ?_) (a' := ?_) (bz 12 213) rfl rfl (any_of HT_.out zz) zQ (Or.inl ⟨by rfl, ?_⟩) ?_ ?_
              rotate_left
              ·intro w'
               go_simp
               with_reducible rfl
              rotate_left
              ·simp only [Act.put, zv, i64_w, i32_w]
               rfl
              refine take_ (i := 1) (N := some 50) (v := ?_) (a' := ?_) (bz 12 215) rfl rfl (take_ofW HT_.out HW_.out zz) zQ (Or.inl ⟨by rfl, ?_⟩) hHeld ?_ ?_
              rotate_left
              ·intro w' s0
               go_simp
               with_reducible rfl
              rotate_left
              ·simp only [Act.put, zv, i64_w, i32_w]
               rfl
              refine pure_ (i := 3) (N := some 52) (v := ?_) (a' := ?_) (bz 12 223) rfl rfl (any_of HT_.out zz) zQ (Or.inl ⟨by rfl, ?_⟩) ?_ ?_
              rotate_left
              ·intro w'
               go_simp
               with_reducible rfl
              rotate_left
              ·simp only [Act.put, zv, i64_w, i32_w]
               rfl
              refine take_ (i := 5) (N := some 54) (v := ?_) (a' := ?_) (bz 12 255) rfl rfl (take_ofW HT_.out HW_.out zz) zQ (Or.inl ⟨by rfl, ?_⟩) hHeld ?_ ?_
              rotate_left
              ·intro w' s0
               go_simp
               with_reducible rfl
              rotate_left
              ·simp only [Act.put, zv, i64_w, i32_w]
               rfl
              refine pure_ (i := 8) (N := some 57) (v := ?_) (a' := ?_) (bz 12 511) rfl rfl (any_of HT_.out zz) zQ (Or.inl ⟨by rfl, ?_⟩) ?_ ?_
              rotate_left
              ·intro w'
               go_simp
               with_reducible rfl
              rotate_left
              ·simp only [Act.put, zv, i64_w, i32_w]
               rfl
              refine one_ (i := 9) (N := some 58) (bz 12 1023) rfl rfl (one_of HT_.out zz) (by decide) (fun K hK => ?_)
              have hj_ : 0 ≤ ((ji28) : Int) := zT
              have hl_ : (ji31 : Int) ≤ (t914.length : Int) := zT
              have hh_ : ((ji28) : Int) ≤ (t914.length : Int) := zT
              have hb_ := (Kd.R_reads' HO916.out).2.2.2.1; have h0_ : (0 : Int) ≤ (ji31 : Int) := zT
              have hy1_ := KY133.out; have hk_ : (ji31 : Int).toNat = y918.length + 1 := (by have hw_ : (ji31 : Int) = (ji28) + 1 := (by have h00_ := h0_; rw [← hji31] at h00_ ⊢; unfold wrap64 at h00_ ⊢; omega); rw [hw_]; omega)
              refine Kd.R_delete_step k50 (w0 := w) w.heap.size (by rfl) (.tmp 52) (.tmp 57) 22 50 rfl Try.underlying22 zz (g := go136) (n := t914.length) (c := co126) (k := y918.length) rfl rfl ?hA ?hm (zr HO916.out) ?hk (zU HB.out) (below_size (zU HB.out)) ?_
              (case hA => have ha_ := KA134.out; rw [hk_] at ha_; exact ha_)
              (case hm => have ha_ := KY134.out; omega)
              (case hk => omega)
              intro w135 ho hb hg
              clear hj_ hl_ hh_ hb_ hk_ h0_; rw [hy1_, ← Ny926.out] at ho
              clear hy1_; have hn_ : t914.length - 1 = y926.length := (by have := (Kd.R_reads' ho).1; omega)
              rw [hn_] at ho ⊢
              clear hn_; have n0_ := zk (blk_grown (g := gb902) (o := .cells #[.slice A0_0 l0_0.length c0_0] 24 (0, 0)) (zb BK902.out) hg (Kd.R_ne HO916.out BK902.out (by decide)))
              have n1_ := zk (blk_grown (g := gb908) (o := .cells #[.bool false, .int .i64 t905, .int .i64 t906] 59 (0, 0)) (zb BK908.out) hg (Kd.R_ne HO916.out BK908.out (by decide)))
              have n2_ := zk (blk_grown (g := gb913) (o := .cells #[.bool true, .int .i64 t910, .int .i64 t911] 59 (0, 0)) (zb BK913.out) hg (Kd.R_ne HO916.out BK913.out (by decide)))
              have n3_ := zk (ho); have n4_ := zk (blk_grown (g := gb917) (o := .cells #[.slice (some ⟨go136, 0, none⟩) t914.length co126] 24 (0, 0)) (zb BK917.out) hg (Kd.R_ne HO916.out BK917.out (by decide)))
              have n5_ := zk (hb); clear BK902; clear BK908; clear BK913; clear HO916; clear BK917; clear HB; have BK902 := n0_; have BK908 := n1_; have BK913 := n2_; have HO916 := n3_; have BK917 := n4_; have HB := n5_; clear n0_ n1_ n2_ n3_ n4_ n5_; clear ho hb hg
              refine hK.out _ _ (zh BK917.out 0) (fun hHeld => ?_)
              clear hK K
              refine norm_ (a' := ?_) ?_ ?_
              rotate_left
              ·show Act.put _ (some 58) _ = _
               simp only [Act.put, zv, i64_w, i32_w]
               rfl
              refine pure_ (i := 10) (N := some 59) (v := ?_) (a' := ?_) (bz 12 2047) rfl rfl (any_of HT_.out zz) zQ (Or.inl ⟨by rfl, ?_⟩) ?_ ?_
              rotate_left
              ·intro w'
               go_simp
               with_reducible rfl
              rotate_left
              ·simp only [Act.put, zv, i64_w, i32_w]
               rfl
              refine last_ (i := 11) (N := none) (bz 12 4095) rfl rfl (one_of HT_.out zz) (by decide) (fun K hK => ?_)
              have hs137 : w135.cell? ⟨gb917, 0, none⟩ = some (.slice (some ⟨go136, 0, none⟩) t914.length co126) := zh BK917.out 0
              have hfs137 := blk_frozen BK917.out 0; have hns137_0 := NB902_917.out; have hns137_1 := NB908_917.out; have hns137_2 := NB913_917.out; have hms137_0 := NB917_902.out; have hms137_1 := NB917_908.out; have hms137_2 := NB917_913.out
              refine skip_ (w1 := ?_) (by rfl) rfl ?_ ?_
              rotate_left
              ·go_simp
               rfl
              refine hK.out _ _ ?_
              clear hK K
              refine done_ (done_of HT_.out zz) ?_
              have hcz138_0 : w135.cell? ⟨gb917, 0, none⟩ = some (.slice (some ⟨go136, 0, none⟩) t914.length co126) := zh BK917.out 0
              have hfz138_0 := blk_frozen BK917.out 0
              try go_wp2_with (first | ((with_reducible refine gate_callee (f := 62) rfl ?_); refine goesL_ (some 62) rfl rfl Try.func62 zz rfl #[.agg #[.slice (some ⟨go136, 0, none⟩) y926.length co126]] rfl zM ?_; (with_reducible refine (clash_Prefix.calls kj6 _ _ y926 t929 t930 t931 t932 _ ?side1 ?side2 A34.out).mono ?_); (case side1 => refine (Kd.R_reads' (e := 50) (base := w.heap.size) (ok := fun k_ => True) (n := y926.length) (c := co126) ?_).2.2; exact (by (with_reducible repeat (first | apply zA | apply zB | apply zC)); exact (Kd.R_mono (Kd.R_far (p := ⟨gb917, 0, none⟩) (Kd.R_types HO916.out BK917.out (by decide)) (fun _ hk => hk.2) (.slice (some ⟨go136, 0, none⟩) y926.length co126)) (fun _ h_ => h_.1)))); (case side2 => exact (Kd.R_reads' HO916.out).2.1); rintro e w139 ⟨rfl, hb⟩; refine ⟨_, rfl, ?_⟩; replace HO916 := zk (Kd.R_below (by (with_reducible repeat (first | apply zA | apply zB | apply zC)); exact (Kd.R_mono (Kd.R_far (p := ⟨gb917, 0, none⟩) (Kd.R_types HO916.out BK917.out (by decide)) (fun _ hk => hk.2) (.slice (some ⟨go136, 0, none⟩) y926.length co126)) (fun _ h_ => h_.1))) hb); replace BK902 := zk (zbb BK902.out hb); replace BK908 := zk (zbb BK908.out hb); replace BK913 := zk (zbb BK913.out hb); replace BK917 := zk (blk_below (g := gb917) (o := .cells #[.slice (some ⟨go136, 0, none⟩) y926.length co126] 24 (0, 0)) (by (with_reducible repeat (first | refine blk_drewN ?_ _ | refine blk_drew ?_ | refine blk_alloc ?_ _)); refine blk_put (cs := #[.slice (some ⟨go136, 0, none⟩) t914.length co126]) ?_ 0 _ rfl; exact zb BK917.out) hb); replace HB := zk (below_step (zU HB.out) hb);  (try clear hb); (try clear hb2); (try clear hk); (try clear hi)) | ((with_reducible refine gate_dst (N := 10) rfl ?_); (try (refine gate_guard (by rfl) ?_; dsimp only)); refine box_event ?hg (N := 10) ?hd (cs := #[.bool false, .int .i64 0, .int .i64 0]) (t := 59) ?hr ?_; (case hd => rfl); (case hg => rfl); (case hr => first | (go_simp; done) | (go_simp; rfl)); intro gb933 hg w140 hbox hb; replace HO916 := zk (Kd.R_below (zr HO916.out) hb); have BK933 := zk (hbox); have GW933 := zk ((zg hg HB.out : w.heap.size ≤ gb933)); have GE933 := zk ((zg hg HB.out : w.heap.size ≤ gb933)); replace HB := zk (below_step (zU HB.out) hb); have NB902_933 := zk ((zlt hg BK902.out : gb902 ≠ gb933)); have NB933_902 := zk ((zgt hg BK902.out : gb933 ≠ gb902)); replace BK902 := zk (zbb BK902.out hb); have NB908_933 := zk ((zlt hg BK908.out : gb908 ≠ gb933)); have NB933_908 := zk ((zgt hg BK908.out : gb933 ≠ gb908)); replace BK908 := zk (zbb BK908.out hb); have NB913_933 := zk ((zlt hg BK913.out : gb913 ≠ gb933)); have NB933_913 := zk ((zgt hg BK913.out : gb933 ≠ gb913)); replace BK913 := zk (zbb BK913.out hb); have NB917_933 := zk ((zlt hg BK917.out : gb917 ≠ gb933)); have NB933_917 := zk ((zgt hg BK917.out : gb933 ≠ gb917)); replace BK917 := zk (zbb BK917.out hb);  clear hb hbox hg; have hnb141 := NB933_902.out; have hnc141 := NB902_933.out; have hnb142 := NB933_908.out; have hnc142 := NB908_933.out; have hnb143 := NB933_913.out; have hnc143 := NB913_933.out; have hnb144 := NB933_917.out; have hnc144 := NB917_933.out; have hcz145_0 : w140.cell? ⟨gb933, 0, none⟩ = some (.bool false) := zh BK933.out 0; have hcz145_1 : w140.cell? ⟨gb933, 1, none⟩ = some (.int .i64 0) := zh BK933.out 1; have hcz145_2 : w140.cell? ⟨gb933, 2, none⟩ = some (.int .i64 0) := zh BK933.out 2; have hfz145_0 := blk_frozen BK933.out 0; have hfz145_1 := blk_frozen BK933.out 1; have hfz145_2 := blk_frozen BK933.out 2; have hcz146_0 : w140.cell? ⟨gb917, 0, none⟩ = some (.slice (some ⟨go136, 0, none⟩) y926.length co126) := zh BK917.out 0; have hfz146_0 := blk_frozen BK917.out 0) | ((with_reducible refine gate_callee (f := 60) rfl ?_); refine goesL_ (some 67) rfl rfl Try.func60 zz rfl #[.agg #[.slice (some ⟨go136, 0, none⟩) y926.length co126]] rfl zM ?_; (with_reducible refine (clash_Inject.calls kj6 _ _ y926 t934 t935 t936 t937 _ ?side1 ?side2 A35.out).mono ?_); (case side1 => refine (Kd.R_reads' (e := 50) (base := w.heap.size) (ok := fun k_ => True) (n := y926.length) (c := co126) ?_).2.2; exact (by (with_reducible repeat (first | apply zA | apply zB | apply zC)); exact (Kd.R_mono (Kd.R_far (p := ⟨gb933, 2, none⟩) (Kd.R_far (p := ⟨gb933, 1, none⟩) (Kd.R_far (p := ⟨gb933, 0, none⟩) (Kd.R_types HO916.out BK933.out (by decide)) (fun _ hk => hk.2) (.bool t929)) (fun _ hk => hk.2) (.int .i64 t930)) (fun _ hk => hk.2) (.int .i64 t931)) (fun _ h_ => h_.1)))); (case side2 => exact (Kd.R_reads' HO916.out).2.1); rintro e w147 ⟨rfl, hb⟩; refine ⟨_, rfl, ?_⟩; replace HO916 := zk (Kd.R_below (by (with_reducible repeat (first | apply zA | apply zB | apply zC)); exact (Kd.R_mono (Kd.R_far (p := ⟨gb933, 2, none⟩) (Kd.R_far (p := ⟨gb933, 1, none⟩) (Kd.R_far (p := ⟨gb933, 0, none⟩) (Kd.R_types HO916.out BK933.out (by decide)) (fun _ hk => hk.2) (.bool t929)) (fun _ hk => hk.2) (.int .i64 t930)) (fun _ hk => hk.2) (.int .i64 t931)) (fun _ h_ => h_.1))) hb); replace BK902 := zk (zbb BK902.out hb); replace BK908 := zk (zbb BK908.out hb); replace BK913 := zk (zbb BK913.out hb); replace BK917 := zk (zbb BK917.out hb); replace BK933 := zk (blk_below (g := gb933) (o := .cells #[.bool t929, .int .i64 t930, .int .i64 t931] 59 (0, 0)) (by (with_reducible repeat (first | refine blk_drewN ?_ _ | refine blk_drew ?_ | refine blk_alloc ?_ _)); refine blk_put (cs := #[.bool t929, .int .i64 t930, .int .i64 0]) ?_ 2 _ rfl; (with_reducible repeat (first | refine blk_drewN ?_ _ | refine blk_drew ?_ | refine blk_alloc ?_ _)); refine blk_put (cs := #[.bool t929, .int .i64 0, .int .i64 0]) ?_ 1 _ rfl; (with_reducible repeat (first | refine blk_drewN ?_ _ | refine blk_drew ?_ | refine blk_alloc ?_ _)); refine blk_put (cs := #[.bool false, .int .i64 0, .int .i64 0]) ?_ 0 _ rfl; exact zb BK933.out) hb); replace HB := zk (below_step (zU HB.out) hb);  (try clear hb); (try clear hb2); (try clear hk); (try clear hi)) | ((with_reducible refine gate_dst (N := 12) rfl ?_); (try (refine gate_guard (by rfl) ?_; dsimp only)); refine box_event ?hg (N := 12) ?hd (cs := #[.bool false, .int .i64 0, .int .i64 0]) (t := 59) ?hr ?_; (case hd => rfl); (case hg => rfl); (case hr => first | (go_simp; done) | (go_simp; rfl)); intro gb938 hg w148 hbox hb; replace HO916 := zk (Kd.R_below (zr HO916.out) hb); have BK938 := zk (hbox); have GW938 := zk ((zg hg HB.out : w.heap.size ≤ gb938)); have GE938 := zk ((zg hg HB.out : w.heap.size ≤ gb938)); replace HB := zk (below_step (zU HB.out) hb); have NB902_938 := zk ((zlt hg BK902.out : gb902 ≠ gb938)); have NB938_902 := zk ((zgt hg BK902.out : gb938 ≠ gb902)); replace BK902 := zk (zbb BK902.out hb); have NB908_938 := zk ((zlt hg BK908.out : gb908 ≠ gb938)); have NB938_908 := zk ((zgt hg BK908.out : gb938 ≠ gb908)); replace BK908 := zk (zbb BK908.out hb); have NB913_938 := zk ((zlt hg BK913.out : gb913 ≠ gb938)); have NB938_913 := zk ((zgt hg BK913.out : gb938 ≠ gb913)); replace BK913 := zk (zbb BK913.out hb); have NB917_938 := zk ((zlt hg BK917.out : gb917 ≠ gb938)); have NB938_917 := zk ((zgt hg BK917.out : gb938 ≠ gb917)); replace BK917 := zk (zbb BK917.out hb); have NB933_938 := zk ((zlt hg BK933.out : gb933 ≠ gb938)); have NB938_933 := zk ((zgt hg BK933.out : gb938 ≠ gb933)); replace BK933 := zk (zbb BK933.out hb);  clear hb hbox hg; have hnb149 := NB938_902.out; have hnc149 := NB902_938.out; have hnb150 := NB938_908.out; have hnc150 := NB908_938.out; have hnb151 := NB938_913.out; have hnc151 := NB913_938.out; have hnb152 := NB938_917.out; have hnc152 := NB917_938.out; have hnb153 := NB938_933.out; have hnc153 := NB933_938.out; have hcz154_0 : w148.cell? ⟨gb938, 0, none⟩ = some (.bool false) := zh BK938.out 0; have hcz154_1 : w148.cell? ⟨gb938, 1, none⟩ = some (.int .i64 0) := zh BK938.out 1; have hcz154_2 : w148.cell? ⟨gb938, 2, none⟩ = some (.int .i64 0) := zh BK938.out 2; have hfz154_0 := blk_frozen BK938.out 0; have hfz154_1 := blk_frozen BK938.out 1; have hfz154_2 := blk_frozen BK938.out 2; have hnb155 := NB908_913.out; have hnc155 := NB913_908.out; have hcz156_0 : w148.cell? ⟨gb908, 0, none⟩ = some (.bool false) := zh BK908.out 0; have hcz156_1 : w148.cell? ⟨gb908, 1, none⟩ = some (.int .i64 t905) := zh BK908.out 1; have hcz156_2 : w148.cell? ⟨gb908, 2, none⟩ = some (.int .i64 t906) := zh BK908.out 2; have hfz156_0 := blk_frozen BK908.out 0; have hfz156_1 := blk_frozen BK908.out 1; have hfz156_2 := blk_frozen BK908.out 2; have hcz157_0 : w148.cell? ⟨gb913, 0, none⟩ = some (.bool true) := zh BK913.out 0; have hcz157_1 : w148.cell? ⟨gb913, 1, none⟩ = some (.int .i64 t910) := zh BK913.out 1; have hcz157_2 : w148.cell? ⟨gb913, 2, none⟩ = some (.int .i64 t911) := zh BK913.out 2; have hfz157_0 := blk_frozen BK913.out 0; have hfz157_1 := blk_frozen BK913.out 1; have hfz157_2 := blk_frozen BK913.out 2))
              go_ret
              exact ⟨by first | rfl | (simp [errW_none, errW_some] <;> rfl) | (simp only [← hji28, ← hji31]; first | rfl | (simp [errW_none, errW_some] <;> rfl)) | (simp [*, errW_none, errW_some] <;> rfl), zU HB.out⟩
             ·replace c119 := Bool.eq_false_iff.mpr c119; subst c119
              have H1 : (some true) = some r := by rw [if_neg (show ¬ (false = true) by decide)] at H; exact H
              clear H; have H := H1; clear H1; obtain rfl := Option.some.inj H
              try go_wp2
              have n0_ := zk (blk_drew BK902.out); have n1_ := zk (blk_drew BK908.out); have n2_ := zk (blk_drew BK913.out); have n3_ := zk (below_drew1 HB.out); clear BK902; clear BK908; clear BK913; clear HB; have BK902 := n0_; have BK908 := n1_; have BK913 := n2_; have HB := n3_; clear n0_ n1_ n2_ n3_
              refine start_ (n := 14) (S := fun w' => w'.cell? ⟨gb902, 0, none⟩ = some (.slice A0_0 l0_0.length c0_0)) (ds := []) #[false, false, false, false, false, false, false, false, false, false, false, false, false, false] zz rfl rfl (zh BK902.out 0) (fun hHeld => ?_); refine with_tabW leadtraillaw11_ClashFewer.tab7 leadtraillaw11_ClashFewer.bits7 (fun HT_ HW_ => ?_)
              generalize wc.drew = w158 at BK902 BK908 BK913 HB hHeld ⊢
              refine pure_ (i := 0) (N := some 34) (v := ?_) (a' := ?_) (bz 14 1) rfl rfl (any_of HT_.out zz) zQ (Or.inl ⟨by rfl, ?_⟩) ?_ ?_
              rotate_left
              ·intro w'
               go_simp
               with_reducible rfl
              rotate_left
              ·simp only [Act.put, zv, i64_w, i32_w]
               rfl
              refine pure_ (i := 1) (N := some 35) (v := ?_) (a' := ?_) (bz 14 3) rfl rfl (any_of HT_.out zz) zQ (Or.inl ⟨by rfl, ?_⟩) ?_ ?_
              rotate_left
              ·intro w'
               go_simp
               with_reducible rfl
              rotate_left
              ·simp only [Act.put, zv, i64_w, i32_w]
               rfl
              refine pure_ (i := 5) (N := some 39) (v := ?_) (a' := ?_) (bz 14 35) rfl rfl (any_of HT_.out zz) zQ (Or.inl ⟨by rfl, ?_⟩) ?_ ?_
              rotate_left
              ·intro w'
               go_simp
               with_reducible rfl
              rotate_left
              ·simp only [Act.put, zv, i64_w, i32_w]
               rfl
              refine pure_ (i := 9) (N := some 43) (v := ?_) (a' := ?_) (bz 14 547) rfl rfl (any_of HT_.out zz) zQ (Or.inl ⟨by rfl, ?_⟩) ?_ ?_
              rotate_left
              ·intro w'
               go_simp
               with_reducible rfl
              rotate_left
              ·simp only [Act.put, zv, i64_w, i32_w]
               rfl
              refine take_ (i := 2) (N := some 36) (v := ?_) (a' := ?_) (bz 14 551) rfl rfl (take_ofW HT_.out HW_.out zz) zQ (Or.inl ⟨by rfl, ?_⟩) hHeld ?_ ?_
              rotate_left
              ·intro w' s0
               go_simp
               with_reducible rfl
              rotate_left
              ·simp only [Act.put, zv, i64_w, i32_w]
               rfl
              refine pure_ (i := 3) (N := some 37) (v := ?_) (a' := ?_) (bz 14 559) rfl rfl (any_of HT_.out zz) zQ (Or.inl ⟨by rfl, ?_⟩) ?_ ?_
              rotate_left
              ·intro w'
               go_simp
               with_reducible rfl
              rotate_left
              ·simp only [Act.put, zv, i64_w, i32_w]
               rfl
              refine pure_ (i := 4) (N := some 38) (v := ?_) (a' := ?_) (bz 14 575) rfl rfl (any_of HT_.out zz) zQ (Or.inl ⟨by rfl, ?_⟩) ?_ ?_
              rotate_left
              ·intro w'
               go_simp
               with_reducible rfl
              rotate_left
              ·simp only [Act.put, zv, i64_w, i32_w]
               rfl
              refine take_ (i := 6) (N := some 40) (v := ?_) (a' := ?_) (bz 14 639) rfl rfl (take_ofW HT_.out HW_.out zz) zQ (Or.inl ⟨by rfl, ?_⟩) hHeld ?_ ?_
              rotate_left
              ·intro w' s0
               go_simp
               with_reducible rfl
              rotate_left
              ·simp only [Act.put, zv, i64_w, i32_w]
               rfl
              refine pure_ (i := 7) (N := some 41) (v := ?_) (a' := ?_) (bz 14 767) rfl rfl (any_of HT_.out zz) zQ (Or.inl ⟨by rfl, ?_⟩) ?_ ?_
              rotate_left
              ·intro w'
               go_simp
               with_reducible rfl
              rotate_left
              ·simp only [Act.put, zv, i64_w, i32_w]
               rfl
              refine pure_ (i := 8) (N := some 42) (v := ?_) (a' := ?_) (bz 14 1023) rfl rfl (any_of HT_.out zz) zQ (Or.inl ⟨by rfl, ?_⟩) ?_ ?_
              rotate_left
              ·intro w'
               go_simp
               with_reducible rfl
              rotate_left
              ·simp only [Act.put, zv, i64_w, i32_w]
               rfl
              refine take_ (i := 10) (N := some 44) (v := ?_) (a' := ?_) (bz 14 2047) rfl rfl (take_ofW HT_.out HW_.out zz) zQ (Or.inl ⟨by rfl, ?_⟩) hHeld ?_ ?_
              rotate_left
              ·intro w' s0
               go_simp
               with_reducible rfl
              rotate_left
              ·simp only [Act.put, zv, i64_w, i32_w]
               rfl
              refine pure_ (i := 11) (N := some 45) (v := ?_) (a' := ?_) (bz 14 4095) rfl rfl (any_of HT_.out zz) zQ (Or.inl ⟨by rfl, ?_⟩) ?_ ?_
              rotate_left
              ·intro w'
               go_simp
               with_reducible rfl
              rotate_left
              ·simp only [Act.put, zv, i64_w, i32_w]
               rfl
              refine pure_ (i := 12) (N := some 46) (v := ?_) (a' := ?_) (bz 14 8191) rfl rfl (any_of HT_.out zz) zQ (Or.inl ⟨by rfl, ?_⟩) ?_ ?_
              rotate_left
              ·intro w'
               go_simp
               with_reducible rfl
              rotate_left
              ·simp only [Act.put, zv, i64_w, i32_w]
               rfl
              refine pure_ (i := 13) (N := some 1) (v := ?_) (a' := ?_) (bz 14 16383) rfl rfl (any_of HT_.out zz) zQ (Or.inl ⟨by rfl, ?_⟩) ?_ ?_
              rotate_left
              ·intro w'
               go_simp
               with_reducible rfl
              rotate_left
              ·simp only [Act.put, zv, i64_w, i32_w]
               rfl
              refine done_ (done_of HT_.out zz) ?_
              have hnb159 := NB902_908.out; have hnc159 := NB908_902.out; have hnb160 := NB902_913.out; have hnc160 := NB913_902.out; have hcz161_0 : w158.cell? ⟨gb902, 0, none⟩ = some (.slice A0_0 l0_0.length c0_0) := zh BK902.out 0
              have hfz161_0 := blk_frozen BK902.out 0
              try go_wp2_with (first | ((with_reducible refine gate_callee (f := 20) rfl ?_); refine goesL_ (some 48) rfl rfl Try.func20 zz rfl #[.agg #[.slice A0_0 l0_0.length c0_0]] rfl zM ?_; (with_reducible refine (leadtrailref08_Copy.calls kj6 _ _ l0_0 t914 _ ?side1 ?side2 A27.out).mono ?_); (case side1 => exact zc (Kd.C_below HR0_0.out HB.out)); (case side2 => exact HC0_0.out); rintro e w162 ⟨v915, rfl, ho0, hb⟩; refine ⟨_, rfl, ?_⟩; have HO916 := zk (Kd.R_lower ho0 (below_size (zU HB.out))); replace BK902 := zk (zbb BK902.out hb); replace BK908 := zk (zbb BK908.out hb); replace BK913 := zk (zbb BK913.out hb); replace HB := zk (below_step (zU HB.out) hb);  (try clear hb); (try clear hb2); (try clear hk); (try clear hi); (try clear ho0)) | ((with_reducible refine gate_dst (N := 9) rfl ?_); (try (refine gate_guard (by rfl) ?_; dsimp only)); refine box_event ?hg (N := 9) ?hd (cs := #[.slice none 0 0]) (t := 24) ?hr ?_; (case hd => rfl); (case hg => rfl); (case hr => first | (go_simp; done) | (go_simp; rfl)); intro gb917 hg w163 hbox hb; replace HO916 := zk (Kd.R_below (zr HO916.out) hb); have BK917 := zk (hbox); have GW917 := zk ((zg hg HB.out : w.heap.size ≤ gb917)); have GE917 := zk ((zg hg HB.out : w.heap.size ≤ gb917)); replace HB := zk (below_step (zU HB.out) hb); have NB902_917 := zk ((zlt hg BK902.out : gb902 ≠ gb917)); have NB917_902 := zk ((zgt hg BK902.out : gb917 ≠ gb902)); replace BK902 := zk (zbb BK902.out hb); have NB908_917 := zk ((zlt hg BK908.out : gb908 ≠ gb917)); have NB917_908 := zk ((zgt hg BK908.out : gb917 ≠ gb908)); replace BK908 := zk (zbb BK908.out hb); have NB913_917 := zk ((zlt hg BK913.out : gb913 ≠ gb917)); have NB917_913 := zk ((zgt hg BK913.out : gb917 ≠ gb913)); replace BK913 := zk (zbb BK913.out hb);  clear hb hbox hg; obtain ⟨Ao164, co164, eo164⟩ := Kd.R_slice HO916.out; subst eo164; have hnb165 := NB917_902.out; have hnc165 := NB902_917.out; have hnb166 := NB917_908.out; have hnc166 := NB908_917.out; have hnb167 := NB917_913.out; have hnc167 := NB913_917.out; have hcz168_0 : w163.cell? ⟨gb917, 0, none⟩ = some (.slice none 0 0) := zh BK917.out 0; have hfz168_0 := blk_frozen BK917.out 0))
              have n0_ : Aside0 (Kd.R k50 50 (w163.setCell ⟨gb917, 0, none⟩ (.slice Ao164 t914.length co164)) w.heap.size (fun _ => True) (.slice Ao164 t914.length co164) t914) := ⟨by (with_reducible repeat (first | apply zA | apply zB | apply zC)); exact Kd.R_mono (Kd.R_far (p := ⟨gb917, 0, none⟩) (Kd.R_types HO916.out BK917.out (by decide)) (fun _ hk => hk.2) (.slice Ao164 t914.length co164)) (fun _ hk => trivial)⟩
              have n1_ : Aside0 ((w163.setCell ⟨gb917, 0, none⟩ (.slice Ao164 t914.length co164)).heap[gb902]? = some (.cells #[.slice A0_0 l0_0.length c0_0] 24 (0, 0))) := ⟨zb BK902.out⟩
              have n2_ : Aside0 ((w163.setCell ⟨gb917, 0, none⟩ (.slice Ao164 t914.length co164)).heap[gb908]? = some (.cells #[.bool false, .int .i64 t905, .int .i64 t906] 59 (0, 0))) := ⟨zb BK908.out⟩
              have n3_ : Aside0 ((w163.setCell ⟨gb917, 0, none⟩ (.slice Ao164 t914.length co164)).heap[gb913]? = some (.cells #[.bool false, .int .i64 t910, .int .i64 t911] 59 (0, 0))) := ⟨zb BK913.out⟩
              have n4_ : Aside0 ((w163.setCell ⟨gb917, 0, none⟩ (.slice Ao164 t914.length co164)).heap[gb917]? = some (.cells #[.slice Ao164 t914.length co164] 24 (0, 0))) := ⟨by (with_reducible repeat (first | refine blk_drewN ?_ _ | refine blk_drew ?_ | refine blk_alloc ?_ _)); refine blk_put (cs := #[.slice none 0 0]) ?_ 0 _ rfl; exact zb BK917.out⟩
              have n5_ : Aside0 (Below w.heap.size w (w163.setCell ⟨gb917, 0, none⟩ (.slice Ao164 t914.length co164))) := ⟨zU HB.out⟩
              (try clear HO916); (try clear BK902); (try clear BK908); (try clear BK913); (try clear BK917); (try clear HB); generalize (w163.setCell ⟨gb917, 0, none⟩ (.slice Ao164 t914.length co164)) = w169 at n0_ n1_ n2_ n3_ n4_ n5_ ⊢
              have HO916 := n0_; have BK902 := n1_; have BK908 := n2_; have BK913 := n3_; have BK917 := n4_; have HB := n5_; clear n0_ n1_ n2_ n3_ n4_ n5_; have n0_ := zk (Kd.R_drew HO916.out); have n1_ := zk (blk_drew BK902.out); have n2_ := zk (blk_drew BK908.out); have n3_ := zk (blk_drew BK913.out); have n4_ := zk (blk_drew BK917.out); have n5_ := zk (below_drew1 HB.out); clear HO916; clear BK902; clear BK908; clear BK913; clear BK917; clear HB; have HO916 := n0_; have BK902 := n1_; have BK908 := n2_; have BK913 := n3_; have BK917 := n4_; have HB := n5_; clear n0_ n1_ n2_ n3_ n4_ n5_; have q171 : ((ji28) : Int) ≤ ((t914.length : Int) : Int) := zT
              obtain ⟨i0171, hi0171, _, hsz171, _⟩ := info_parts info50; have hroom171 : t914.length ≤ co164 := (Kd.R_reads' HO916.out).2.1
              have hC171 : Kd.C k50 _ Ao164 t914.length t914 := (Kd.R_reads' HO916.out).2.2
              have hcut171 := cut_to (P := Try.prog) 22 50 .i64 Try.underlying22 hi0171 Ao164 t914.length co164 (ji28) zT q171 hroom171; have hr171 := Kd.C_take (m := ((ji28) : Int).toNat) hC171 (by omega)
              have hy171 : y918.length = ((ji28) : Int).toNat := (by rw [Ny918.out, List.length_take]; omega)
              rw [← Ny918.out] at hr171
              rw [← hy171] at hcut171
              have HR921 := zk hr171; have HC921 := zk (show y918.length ≤ co164 from by omega)
              clear hr171 hC171 hroom171 hi0171 hsz171; have KY171 := zk hy171; clear hy171; have KL171 := zk (show ((ji28) : Int).toNat ≤ t914.length from by omega)
              replace q171 := eq_true q171; have q172 : ((ji31) : Int) ≤ ((t914.length : Int) : Int) := zT
              obtain ⟨i0172, hi0172, _, hsz172, _⟩ := info_parts info50; have hroom172 : t914.length ≤ co164 := (Kd.R_reads' HO916.out).2.1
              have hC172 : Kd.C k50 _ Ao164 t914.length t914 := (Kd.R_reads' HO916.out).2.2
              have q0172 : (0 : Int) ≤ ((ji31) : Int) := zT
              have hcut172 := cut_from (P := Try.prog) 22 50 .i64 Try.underlying22 hi0172 2 hsz172 Ao164 t914.length co164 (ji31) q0172 q172; have hr172 := Kd.C_drop (m := ((ji31) : Int).toNat) (c := co164) hC172 (by omega) hroom172
              obtain ⟨A172, hA172⟩ : ∃ A1, A1 = (if co164 = ((ji31) : Int).toNat then Ao164 else (Ao164 : Option Addr).map (·.add (((ji31) : Int).toNat * 2))) := ⟨_, rfl⟩; obtain ⟨c172, hc172⟩ : ∃ c1, c1 = co164 - ((ji31) : Int).toNat := ⟨_, rfl⟩; have hy172 : y922.length = t914.length - ((ji31) : Int).toNat := (by rw [Ny922.out, List.length_drop] <;> omega)
              rw [show (t914).drop ((ji31) : Int).toNat = y922 from Ny922.out.symm] at hr172
              replace hr172 : Kd.C k50 _ A172 y922.length y922 := (by rw [hA172]; exact hr172)
              rw [← hy172, ← hA172, ← hc172] at hcut172
              have HR925 := zk hr172; have HC925 := zk (show y922.length ≤ c172 from by rw [hy172, hc172]; exact Nat.sub_le_sub_right hroom172 _)
              clear hr172 hC172 hroom172 hi0172 hsz172 hc172; have KY172 := zk hy172; have KA172 := zk hA172; clear hy172 hA172; have KL172 := zk (show ((ji31) : Int).toNat ≤ t914.length from by omega)
              replace q172 := eq_true q172; obtain ⟨go174, co174, eo174, gb174, gl174, cl174, HG174⟩ := Kd.R_form HO916.out (by have hj_ : 0 ≤ ((ji28) : Int) := zT; have hl_ : (ji31 : Int) ≤ (t914.length : Int) := zT; have hh_ : ((ji28) : Int) ≤ (t914.length : Int) := zT; rw [← hji31] at hl_; unfold wrap64 at hl_; omega)
              (first | cases eo174 | (injection eo174 with ea_ en_ ec_; (first | subst ea_ | (injection ea_ with ea_; subst ea_)); subst ec_; clear en_))
              have GB174 := zk gb174; have GG174 := zk HG174; clear gb174 gl174 HG174
              refine start_ (n := 12) (S := fun w' => w'.cell? ⟨gb917, 0, none⟩ = some (.slice (some ⟨go174, 0, none⟩) t914.length co164)) (ds := [11]) #[false, false, false, false, false, false, false, false, false, false, false, false] zz rfl rfl (zh BK917.out 0) (fun hHeld => ?_); refine with_tabW leadtraillaw11_ClashFewer.tab9 leadtraillaw11_ClashFewer.bits9 (fun HT_ HW_ => ?_)
              generalize w169.drew = w170 at HO916 BK902 BK908 BK913 BK917 HB GG174 HR921 HR925 hHeld ⊢
              refine pure_ (i := 0) (N := some 49) (v := ?_) (a' := ?_) (bz 12 1) rfl rfl (any_of HT_.out zz) zQ (Or.inl ⟨by rfl, ?_⟩) ?_ ?_
              rotate_left
              ·intro w'
               go_simp
               with_reducible rfl
              rotate_left
              ·simp only [Act.put, zv, i64_w, i32_w]
               rfl
              refine pure_ (i := 2) (N := some 51) (v := ?_) (a' := ?_) (bz 12 5) rfl rfl (any_of HT_.out zz) zQ (Or.inl ⟨by rfl, ?_⟩) ?_ ?_
              rotate_left
              ·intro w'
               go_simp
               with_reducible rfl
              rotate_left
              ·simp only [Act.put, zv, i64_w, i32_w]
               rfl
              refine pure_ (i := 4) (N := some 53) (v := ?_) (a' := ?_) (bz 12 21) rfl rfl (any_of HT_.out zz) zQ (Or.inl ⟨by rfl, ?_⟩) ?_ ?_
              rotate_left
              ·intro w'
               go_simp
               with_reducible rfl
              rotate_left
              ·simp only [Act.put, zv, i64_w, i32_w]
               rfl
              refine pure_ (i := 6) (N := some 55) (v := ?_) (a' := ?_) (bz 12 85) rfl rfl (any_of HT_.out zz) zQ (Or.inl ⟨by rfl, ?_⟩) ?_ ?_
              rotate_left
              ·intro w'
               go_simp
               with_reducible rfl
              rotate_left
              ·simp only [Act.put, zv, i64_w, i32_w]
               rfl
              refine pure_ (i := 7) (N := some 56) (v := ?_) (a' := ?_) (bz 12 213) rfl rfl (any_of HT_.out zz) zQ (Or.inl ⟨by rfl, ?_⟩) ?_ ?_
              rotate_left
              ·intro w'
               go_simp
               with_reducible rfl
              rotate_left
              ·simp only [Act.put, zv, i64_w, i32_w]
               rfl
              refine take_ (i := 1) (N := some 50) (v := ?_) (a' := ?_) (bz 12 215) rfl rfl (take_ofW HT_.out HW_.out zz) zQ (Or.inl ⟨by rfl, ?_⟩) hHeld ?_ ?_
              rotate_left
              ·intro w' s0
               go_simp
               with_reducible rfl
              rotate_left
              ·simp only [Act.put, zv, i64_w, i32_w]
               rfl
              refine pure_ (i := 3) (N := some 52) (v := ?_) (a' := ?_) (bz 12 223) rfl rfl (any_of HT_.out zz) zQ (Or.inl ⟨by rfl, ?_⟩) ?_ ?_
              rotate_left
              ·intro w'
               go_simp
               with_reducible rfl
              rotate_left
              ·simp only [Act.put, zv, i64_w, i32_w]
               rfl
              refine take_ (i := 5) (N := some 54) (v := ?_) (a' := ?_) (bz 12 255) rfl rfl (take_ofW HT_.out HW_.out zz) zQ (Or.inl ⟨by rfl, ?_⟩) hHeld ?_ ?_
              rotate_left
              ·intro w' s0
               go_simp
               with_reducible rfl
              rotate_left
              ·simp only [Act.put, zv, i64_w, i32_w]
               rfl
              refine pure_ (i := 8) (N := some 57) (v := ?_) (a' := ?_) (bz 12 511) rfl rfl (any_of HT_.out zz) zQ (Or.inl ⟨by rfl, ?_⟩) ?_ ?_
              rotate_left
              ·intro w'
               go_simp
               with_reducible rfl
              rotate_left
              ·simp only [Act.put, zv, i64_w, i32_w]
               rfl
              refine one_ (i := 9) (N := some 58) (bz 12 1023) rfl rfl (one_of HT_.out zz) (by decide) (fun K hK => ?_)
              have hj_ : 0 ≤ ((ji28) : Int) := zT
              have hl_ : (ji31 : Int) ≤ (t914.length : Int) := zT
              have hh_ : ((ji28) : Int) ≤ (t914.length : Int) := zT
              have hb_ := (Kd.R_reads' HO916.out).2.2.2.1; have h0_ : (0 : Int) ≤ (ji31 : Int) := zT
              have hy1_ := KY171.out; have hk_ : (ji31 : Int).toNat = y918.length + 1 := (by have hw_ : (ji31 : Int) = (ji28) + 1 := (by have h00_ := h0_; rw [← hji31] at h00_ ⊢; unfold wrap64 at h00_ ⊢; omega); rw [hw_]; omega)
              refine Kd.R_delete_step k50 (w0 := w) w.heap.size (by rfl) (.tmp 52) (.tmp 57) 22 50 rfl Try.underlying22 zz (g := go174) (n := t914.length) (c := co164) (k := y918.length) rfl rfl ?hA ?hm (zr HO916.out) ?hk (zU HB.out) (below_size (zU HB.out)) ?_
              (case hA => have ha_ := KA172.out; rw [hk_] at ha_; exact ha_)
              (case hm => have ha_ := KY172.out; omega)
              (case hk => omega)
              intro w173 ho hb hg
              clear hj_ hl_ hh_ hb_ hk_ h0_; rw [hy1_, ← Ny926.out] at ho
              clear hy1_; have hn_ : t914.length - 1 = y926.length := (by have := (Kd.R_reads' ho).1; omega)
              rw [hn_] at ho ⊢
              clear hn_; have n0_ := zk (blk_grown (g := gb902) (o := .cells #[.slice A0_0 l0_0.length c0_0] 24 (0, 0)) (zb BK902.out) hg (Kd.R_ne HO916.out BK902.out (by decide)))
              have n1_ := zk (blk_grown (g := gb908) (o := .cells #[.bool false, .int .i64 t905, .int .i64 t906] 59 (0, 0)) (zb BK908.out) hg (Kd.R_ne HO916.out BK908.out (by decide)))
              have n2_ := zk (blk_grown (g := gb913) (o := .cells #[.bool false, .int .i64 t910, .int .i64 t911] 59 (0, 0)) (zb BK913.out) hg (Kd.R_ne HO916.out BK913.out (by decide)))
              have n3_ := zk (ho); have n4_ := zk (blk_grown (g := gb917) (o := .cells #[.slice (some ⟨go174, 0, none⟩) t914.length co164] 24 (0, 0)) (zb BK917.out) hg (Kd.R_ne HO916.out BK917.out (by decide)))
              have n5_ := zk (hb); clear BK902; clear BK908; clear BK913; clear HO916; clear BK917; clear HB; have BK902 := n0_; have BK908 := n1_; have BK913 := n2_; have HO916 := n3_; have BK917 := n4_; have HB := n5_; clear n0_ n1_ n2_ n3_ n4_ n5_; clear ho hb hg
              refine hK.out _ _ (zh BK917.out 0) (fun hHeld => ?_)
              clear hK K
              refine norm_ (a' := ?_) ?_ ?_
              rotate_left
              ·show Act.put _ (some 58) _ = _
               simp only [Act.put, zv, i64_w, i32_w]
               rfl
              refine pure_ (i := 10) (N := some 59) (v := ?_) (a' := ?_) (bz 12 2047) rfl rfl (any_of HT_.out zz) zQ (Or.inl ⟨by rfl, ?_⟩) ?_ ?_
              rotate_left
              ·intro w'
               go_simp
               with_reducible rfl
              rotate_left
              ·simp only [Act.put, zv, i64_w, i32_w]
               rfl
              refine last_ (i := 11) (N := none) (bz 12 4095) rfl rfl (one_of HT_.out zz) (by decide) (fun K hK => ?_)
              have hs175 : w173.cell? ⟨gb917, 0, none⟩ = some (.slice (some ⟨go174, 0, none⟩) t914.length co164) := zh BK917.out 0
              have hfs175 := blk_frozen BK917.out 0; have hns175_0 := NB902_917.out; have hns175_1 := NB908_917.out; have hns175_2 := NB913_917.out; have hms175_0 := NB917_902.out; have hms175_1 := NB917_908.out; have hms175_2 := NB917_913.out
              refine skip_ (w1 := ?_) (by rfl) rfl ?_ ?_
              rotate_left
              ·go_simp
               rfl
              refine hK.out _ _ ?_
              clear hK K
              refine done_ (done_of HT_.out zz) ?_
              have hcz176_0 : w173.cell? ⟨gb917, 0, none⟩ = some (.slice (some ⟨go174, 0, none⟩) t914.length co164) := zh BK917.out 0
              have hfz176_0 := blk_frozen BK917.out 0
              try go_wp2_with (first | ((with_reducible refine gate_callee (f := 62) rfl ?_); refine goesL_ (some 62) rfl rfl Try.func62 zz rfl #[.agg #[.slice (some ⟨go174, 0, none⟩) y926.length co164]] rfl zM ?_; (with_reducible refine (clash_Prefix.calls kj6 _ _ y926 t929 t930 t931 t932 _ ?side1 ?side2 A34.out).mono ?_); (case side1 => refine (Kd.R_reads' (e := 50) (base := w.heap.size) (ok := fun k_ => True) (n := y926.length) (c := co164) ?_).2.2; exact (by (with_reducible repeat (first | apply zA | apply zB | apply zC)); exact (Kd.R_mono (Kd.R_far (p := ⟨gb917, 0, none⟩) (Kd.R_types HO916.out BK917.out (by decide)) (fun _ hk => hk.2) (.slice (some ⟨go174, 0, none⟩) y926.length co164)) (fun _ h_ => h_.1)))); (case side2 => exact (Kd.R_reads' HO916.out).2.1); rintro e w177 ⟨rfl, hb⟩; refine ⟨_, rfl, ?_⟩; replace HO916 := zk (Kd.R_below (by (with_reducible repeat (first | apply zA | apply zB | apply zC)); exact (Kd.R_mono (Kd.R_far (p := ⟨gb917, 0, none⟩) (Kd.R_types HO916.out BK917.out (by decide)) (fun _ hk => hk.2) (.slice (some ⟨go174, 0, none⟩) y926.length co164)) (fun _ h_ => h_.1))) hb); replace BK902 := zk (zbb BK902.out hb); replace BK908 := zk (zbb BK908.out hb); replace BK913 := zk (zbb BK913.out hb); replace BK917 := zk (blk_below (g := gb917) (o := .cells #[.slice (some ⟨go174, 0, none⟩) y926.length co164] 24 (0, 0)) (by (with_reducible repeat (first | refine blk_drewN ?_ _ | refine blk_drew ?_ | refine blk_alloc ?_ _)); refine blk_put (cs := #[.slice (some ⟨go174, 0, none⟩) t914.length co164]) ?_ 0 _ rfl; exact zb BK917.out) hb); replace HB := zk (below_step (zU HB.out) hb);  (try clear hb); (try clear hb2); (try clear hk); (try clear hi)) | ((with_reducible refine gate_dst (N := 10) rfl ?_); (try (refine gate_guard (by rfl) ?_; dsimp only)); refine box_event ?hg (N := 10) ?hd (cs := #[.bool false, .int .i64 0, .int .i64 0]) (t := 59) ?hr ?_; (case hd => rfl); (case hg => rfl); (case hr => first | (go_simp; done) | (go_simp; rfl)); intro gb933 hg w178 hbox hb; replace HO916 := zk (Kd.R_below (zr HO916.out) hb); have BK933 := zk (hbox); have GW933 := zk ((zg hg HB.out : w.heap.size ≤ gb933)); have GE933 := zk ((zg hg HB.out : w.heap.size ≤ gb933)); replace HB := zk (below_step (zU HB.out) hb); have NB902_933 := zk ((zlt hg BK902.out : gb902 ≠ gb933)); have NB933_902 := zk ((zgt hg BK902.out : gb933 ≠ gb902)); replace BK902 := zk (zbb BK902.out hb); have NB908_933 := zk ((zlt hg BK908.out : gb908 ≠ gb933)); have NB933_908 := zk ((zgt hg BK908.out : gb933 ≠ gb908)); replace BK908 := zk (zbb BK908.out hb); have NB913_933 := zk ((zlt hg BK913.out : gb913 ≠ gb933)); have NB933_913 := zk ((zgt hg BK913.out : gb933 ≠ gb913)); replace BK913 := zk (zbb BK913.out hb); have NB917_933 := zk ((zlt hg BK917.out : gb917 ≠ gb933)); have NB933_917 := zk ((zgt hg BK917.out : gb933 ≠ gb917)); replace BK917 := zk (zbb BK917.out hb);  clear hb hbox hg; have hnb179 := NB933_902.out; have hnc179 := NB902_933.out; have hnb180 := NB933_908.out; have hnc180 := NB908_933.out; have hnb181 := NB933_913.out; have hnc181 := NB913_933.out; have hnb182 := NB933_917.out; have hnc182 := NB917_933.out; have hcz183_0 : w178.cell? ⟨gb933, 0, none⟩ = some (.bool false) := zh BK933.out 0; have hcz183_1 : w178.cell? ⟨gb933, 1, none⟩ = some (.int .i64 0) := zh BK933.out 1; have hcz183_2 : w178.cell? ⟨gb933, 2, none⟩ = some (.int .i64 0) := zh BK933.out 2; have hfz183_0 := blk_frozen BK933.out 0; have hfz183_1 := blk_frozen BK933.out 1; have hfz183_2 := blk_frozen BK933.out 2; have hcz184_0 : w178.cell? ⟨gb917, 0, none⟩ = some (.slice (some ⟨go174, 0, none⟩) y926.length co164) := zh BK917.out 0; have hfz184_0 := blk_frozen BK917.out 0) | ((with_reducible refine gate_callee (f := 60) rfl ?_); refine goesL_ (some 67) rfl rfl Try.func60 zz rfl #[.agg #[.slice (some ⟨go174, 0, none⟩) y926.length co164]] rfl zM ?_; (with_reducible refine (clash_Inject.calls kj6 _ _ y926 t934 t935 t936 t937 _ ?side1 ?side2 A35.out).mono ?_); (case side1 => refine (Kd.R_reads' (e := 50) (base := w.heap.size) (ok := fun k_ => True) (n := y926.length) (c := co164) ?_).2.2; exact (by (with_reducible repeat (first | apply zA | apply zB | apply zC)); exact (Kd.R_mono (Kd.R_far (p := ⟨gb933, 2, none⟩) (Kd.R_far (p := ⟨gb933, 1, none⟩) (Kd.R_far (p := ⟨gb933, 0, none⟩) (Kd.R_types HO916.out BK933.out (by decide)) (fun _ hk => hk.2) (.bool t929)) (fun _ hk => hk.2) (.int .i64 t930)) (fun _ hk => hk.2) (.int .i64 t931)) (fun _ h_ => h_.1)))); (case side2 => exact (Kd.R_reads' HO916.out).2.1); rintro e w185 ⟨rfl, hb⟩; refine ⟨_, rfl, ?_⟩; replace HO916 := zk (Kd.R_below (by (with_reducible repeat (first | apply zA | apply zB | apply zC)); exact (Kd.R_mono (Kd.R_far (p := ⟨gb933, 2, none⟩) (Kd.R_far (p := ⟨gb933, 1, none⟩) (Kd.R_far (p := ⟨gb933, 0, none⟩) (Kd.R_types HO916.out BK933.out (by decide)) (fun _ hk => hk.2) (.bool t929)) (fun _ hk => hk.2) (.int .i64 t930)) (fun _ hk => hk.2) (.int .i64 t931)) (fun _ h_ => h_.1))) hb); replace BK902 := zk (zbb BK902.out hb); replace BK908 := zk (zbb BK908.out hb); replace BK913 := zk (zbb BK913.out hb); replace BK917 := zk (zbb BK917.out hb); replace BK933 := zk (blk_below (g := gb933) (o := .cells #[.bool t929, .int .i64 t930, .int .i64 t931] 59 (0, 0)) (by (with_reducible repeat (first | refine blk_drewN ?_ _ | refine blk_drew ?_ | refine blk_alloc ?_ _)); refine blk_put (cs := #[.bool t929, .int .i64 t930, .int .i64 0]) ?_ 2 _ rfl; (with_reducible repeat (first | refine blk_drewN ?_ _ | refine blk_drew ?_ | refine blk_alloc ?_ _)); refine blk_put (cs := #[.bool t929, .int .i64 0, .int .i64 0]) ?_ 1 _ rfl; (with_reducible repeat (first | refine blk_drewN ?_ _ | refine blk_drew ?_ | refine blk_alloc ?_ _)); refine blk_put (cs := #[.bool false, .int .i64 0, .int .i64 0]) ?_ 0 _ rfl; exact zb BK933.out) hb); replace HB := zk (below_step (zU HB.out) hb);  (try clear hb); (try clear hb2); (try clear hk); (try clear hi)) | ((with_reducible refine gate_dst (N := 12) rfl ?_); (try (refine gate_guard (by rfl) ?_; dsimp only)); refine box_event ?hg (N := 12) ?hd (cs := #[.bool false, .int .i64 0, .int .i64 0]) (t := 59) ?hr ?_; (case hd => rfl); (case hg => rfl); (case hr => first | (go_simp; done) | (go_simp; rfl)); intro gb938 hg w186 hbox hb; replace HO916 := zk (Kd.R_below (zr HO916.out) hb); have BK938 := zk (hbox); have GW938 := zk ((zg hg HB.out : w.heap.size ≤ gb938)); have GE938 := zk ((zg hg HB.out : w.heap.size ≤ gb938)); replace HB := zk (below_step (zU HB.out) hb); have NB902_938 := zk ((zlt hg BK902.out : gb902 ≠ gb938)); have NB938_902 := zk ((zgt hg BK902.out : gb938 ≠ gb902)); replace BK902 := zk (zbb BK902.out hb); have NB908_938 := zk ((zlt hg BK908.out : gb908 ≠ gb938)); have NB938_908 := zk ((zgt hg BK908.out : gb938 ≠ gb908)); replace BK908 := zk (zbb BK908.out hb); have NB913_938 := zk ((zlt hg BK913.out : gb913 ≠ gb938)); have NB938_913 := zk ((zgt hg BK913.out : gb938 ≠ gb913)); replace BK913 := zk (zbb BK913.out hb); have NB917_938 := zk ((zlt hg BK917.out : gb917 ≠ gb938)); have NB938_917 := zk ((zgt hg BK917.out : gb938 ≠ gb917)); replace BK917 := zk (zbb BK917.out hb); have NB933_938 := zk ((zlt hg BK933.out : gb933 ≠ gb938)); have NB938_933 := zk ((zgt hg BK933.out : gb938 ≠ gb933)); replace BK933 := zk (zbb BK933.out hb);  clear hb hbox hg; have hnb187 := NB938_902.out; have hnc187 := NB902_938.out; have hnb188 := NB938_908.out; have hnc188 := NB908_938.out; have hnb189 := NB938_913.out; have hnc189 := NB913_938.out; have hnb190 := NB938_917.out; have hnc190 := NB917_938.out; have hnb191 := NB938_933.out; have hnc191 := NB933_938.out; have hcz192_0 : w186.cell? ⟨gb938, 0, none⟩ = some (.bool false) := zh BK938.out 0; have hcz192_1 : w186.cell? ⟨gb938, 1, none⟩ = some (.int .i64 0) := zh BK938.out 1; have hcz192_2 : w186.cell? ⟨gb938, 2, none⟩ = some (.int .i64 0) := zh BK938.out 2; have hfz192_0 := blk_frozen BK938.out 0; have hfz192_1 := blk_frozen BK938.out 1; have hfz192_2 := blk_frozen BK938.out 2; have hnb193 := NB908_913.out; have hnc193 := NB913_908.out; have hcz194_0 : w186.cell? ⟨gb908, 0, none⟩ = some (.bool false) := zh BK908.out 0; have hcz194_1 : w186.cell? ⟨gb908, 1, none⟩ = some (.int .i64 t905) := zh BK908.out 1; have hcz194_2 : w186.cell? ⟨gb908, 2, none⟩ = some (.int .i64 t906) := zh BK908.out 2; have hfz194_0 := blk_frozen BK908.out 0; have hfz194_1 := blk_frozen BK908.out 1; have hfz194_2 := blk_frozen BK908.out 2; have hcz195_0 : w186.cell? ⟨gb913, 0, none⟩ = some (.bool false) := zh BK913.out 0; have hcz195_1 : w186.cell? ⟨gb913, 1, none⟩ = some (.int .i64 t910) := zh BK913.out 1; have hcz195_2 : w186.cell? ⟨gb913, 2, none⟩ = some (.int .i64 t911) := zh BK913.out 2; have hfz195_0 := blk_frozen BK913.out 0; have hfz195_1 := blk_frozen BK913.out 1; have hfz195_2 := blk_frozen BK913.out 2))
              go_ret
              exact ⟨by first | rfl | (simp [errW_none, errW_some] <;> rfl) | (simp only [← hji28, ← hji31]; first | rfl | (simp [errW_none, errW_some] <;> rfl)) | (simp [*, errW_none, errW_some] <;> rfl), zU HB.out⟩
           ·rw [if_neg c37] at H
            exact absurd H (by simp)
          ·rw [if_neg c36] at H
           exact absurd H (by simp)
         ·rw [if_neg c33] at H
          exact absurd H (by simp)
        ·rw [if_neg c32] at H
         exact absurd H (by simp)
       ·rw [if_neg c30] at H
        exact absurd H (by simp)
      ·rw [if_neg c29] at H
       exact absurd H (by simp)
 ·replace c4 := Bool.eq_false_iff.mpr c4; subst c4
  have H1 : (none) = some r := by rw [if_neg (show ¬ (false = true) by decide)] at H; exact H
  clear H; have H := H1; clear H1
  exact absurd H (by simp)
end Go.Proofs.Ytkcklnmbeinfkaa.B
