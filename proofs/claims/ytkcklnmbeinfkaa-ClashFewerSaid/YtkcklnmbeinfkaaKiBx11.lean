/- Words and walks of this claim, of the text Bx11. -/
import Derived.Test.YtkcklnmbeinfkaaKiQW0
import Derived.Test.YtkcklnmbeinfkaaKiBx0
import Derived.Test.YtkcklnmbeinfkaaKiBx9
import Derived.Test.YtkcklnmbeinfkaaKiBx10
namespace Go.Proofs.Ytkcklnmbeinfkaa.B
open Go.RowKit Go.Proofs.YtkcklnmbeinfkaaW.PrintWords Go.Proofs.YtkcklnmbeinfkaaW.PrintLast Go.Proofs.YtkcklnmbeinfkaaW.PrintMore
attribute [local go_sem] max2_int min2_int max_two min_two max_three min_three max_four min_four
set_option linter.unusedVariables false
set_option linter.unusedSimpArgs false
def leadtrailref08_CopyShape.l0 : Nat → Int → List (List (S113)) → Int → List (List (S113)) → Int → Option ((List (List (S113))) × Int)
 | 0, _, _, _, _, _ => none
 | k + 1, x4, x345000, x345001, x347000, x347001 => if x4 < (x345000.length : Int) then ((some (([] : List (S113)) : List (S113))).bind fun y347 => (if 0 ≤ x4 then (if y347.length + (rd_L4 x345000 x4).length < 8796093022208 then (if x347000.length < 5864062014805 then (leadtrailref08_CopyShape.l0 k (wrap64 (x4 + 1)) x345000 x345001 (x347000 ++ [(y347 ++ (rd_L4 x345000 x4))]) x347001) else (none)) else (none)) else (none))) else (some (x347000, x347001))
def leadtrailref08_CopyShape.f (k : Nat) (l0_0 : List (List (S113))) (a0_1 : Int) : Option ((List (List (S113))) × Int) := leadtrailref08_CopyShape.l0 k 0 l0_0 a0_1 ([] : List (List (S113))) a0_1
def leadtrailref08_CopyShape.T5 : Bool × List (List Nat × List Nat) := (true, [([], []), ([0], [0]), ([], []), ([], []), ([3], [3]), ([], []), ([4, 5], [4, 5]), ([6], [6]), ([2, 7], [2, 7]), ([8], [8]), ([1, 9, 8], [1, 9]), ([0, 1, 2, 3, 4, 5, 6, 7, 8, 9, 10], []), ([11, 10, 10, 0, 1, 2, 3, 4, 5, 6, 7, 8, 9, 10], [10, 11])])
def leadtrailref08_CopyShape.B5 : List Nat := [0, 1, 0, 0, 8, 0, 56, 120, 252, 508, 1023, 2047, 4095]
theorem leadtrailref08_CopyShape.tab5 : rtab .any (opsOf Try.f48 5) = leadtrailref08_CopyShape.T5 := by kernel_rfl
theorem leadtrailref08_CopyShape.bits5 : waitsOk leadtrailref08_CopyShape.T5.2 leadtrailref08_CopyShape.B5 = true := by kernel_rfl
set_option maxHeartbeats 8000000 in
set_option maxRecDepth 100000 in
theorem leadtrailref08_CopyShape.calls (k : Nat) (A0_0 : Option Addr) (c0_0 : Nat) (l0_0 : List (List (S113))) (a0_1 : Int) (r1 : List (List (S113))) (r2 : Int) (w : World) (hr0_0 : Kd.C (Kd.slice 113 k113) w A0_0 l0_0.length l0_0) (hc0_0 : l0_0.length ≤ c0_0) (h : leadtrailref08_CopyShape.f k l0_0 a0_1 = some (r1, r2)) :
 Calls Try.prog 48 #[.agg #[.slice A0_0 l0_0.length c0_0, .int .i64 a0_1]] w fun e w' => ∃ v0_ : Value, e = .returned (.agg #[v0_, .int .i64 r2]) ∧ Kd.S (Kd.slice 113 k113) 34 w' w.heap.size (fun _ => True) v0_ r1 ∧ Below w.heap.size w w' := by
 have hu50 := Try.underlying50; have HR0_0 := zk hr0_0; have HC0_0 := zk hc0_0; clear hr0_0 hc0_0; have HB := zk (Below.refl w.heap.size w); have H : (leadtrailref08_CopyShape.l0 k 0 l0_0 a0_1 ([] : List (List (S113))) a0_1) = some (r1, r2) := h
 clear h; have H' := zk H
 clear H
 go_enter Try.func48, Try.ntmps48
 go_wp2_with (first | ((with_reducible refine gate_dst (N := 1) rfl ?_); refine box_event ?hg (N := 1) ?hd (cs := #[.slice A0_0 l0_0.length c0_0, .int .i64 a0_1]) (t := 50) ?hr ?_; (case hd => rfl); (case hg => rfl); (case hr => first | (go_simp; done) | (go_simp; rfl)); intro gb344 hg w2 hbox hb; have BK344 := zk (hbox); have GW344 := zk ((zg hg HB.out : w.heap.size ≤ gb344)); have GE344 := zk ((zg hg HB.out : w.heap.size ≤ gb344)); replace HB := zk (below_step (zU HB.out) hb);  clear hb hbox hg) | ((with_reducible refine gate_dst (N := 2) rfl ?_); refine box_event ?hg (N := 2) ?hd (cs := #[.slice none 0 0, .int .i64 0]) (t := 50) ?hr ?_; (case hd => rfl); (case hg => rfl); (case hr => first | (go_simp; done) | (go_simp; rfl)); intro gb345 hg w3 hbox hb; have BK345 := zk (hbox); have GW345 := zk ((zg hg HB.out : w.heap.size ≤ gb345)); have GE345 := zk ((zg hg HB.out : w.heap.size ≤ gb345)); replace HB := zk (below_step (zU HB.out) hb); have NB344_345 := zk ((zlt hg BK344.out : gb344 ≠ gb345)); have NB345_344 := zk ((zgt hg BK344.out : gb345 ≠ gb344)); replace BK344 := zk (zbb BK344.out hb);  clear hb hbox hg; have hnb4 := NB344_345.out; have hnc4 := NB345_344.out; have hcz5_0 : w3.cell? ⟨gb344, 0, none⟩ = some (.slice A0_0 l0_0.length c0_0) := zh BK344.out 0; have hcz5_1 : w3.cell? ⟨gb344, 1, none⟩ = some (.int .i64 a0_1) := zh BK344.out 1; have hfz5_0 := blk_frozen BK344.out 0; have hfz5_1 := blk_frozen BK344.out 1) | ((with_reducible refine gate_dst (N := 3) rfl ?_); refine box_event ?hg (N := 3) ?hd (cs := #[.slice none 0 0, .int .i64 0]) (t := 50) ?hr ?_; (case hd => rfl); (case hg => rfl); (case hr => first | (go_simp; done) | (go_simp; rfl)); intro gb346 hg w6 hbox hb; have BK346 := zk (hbox); have GW346 := zk ((zg hg HB.out : w.heap.size ≤ gb346)); have GE346 := zk ((zg hg HB.out : w.heap.size ≤ gb346)); replace HB := zk (below_step (zU HB.out) hb); have NB344_346 := zk ((zlt hg BK344.out : gb344 ≠ gb346)); have NB346_344 := zk ((zgt hg BK344.out : gb346 ≠ gb344)); replace BK344 := zk (zbb BK344.out hb); have NB345_346 := zk ((zlt hg BK345.out : gb345 ≠ gb346)); have NB346_345 := zk ((zgt hg BK345.out : gb346 ≠ gb345)); replace BK345 := zk (zbb BK345.out hb);  clear hb hbox hg; have hnb7 := NB346_344.out; have hnc7 := NB344_346.out; have hnb8 := NB346_345.out; have hnc8 := NB345_346.out; have hcz9_0 : w6.cell? ⟨gb346, 0, none⟩ = some (.slice none 0 0) := zh BK346.out 0; have hcz9_1 : w6.cell? ⟨gb346, 1, none⟩ = some (.int .i64 0) := zh BK346.out 1; have hfz9_0 := blk_frozen BK346.out 0; have hfz9_1 := blk_frozen BK346.out 1))
 go_loopg [4] k (fun kq v4 w' => ∃ (x4_1 : Int) (x347000_1 : List (List (S113))) (u347000 : Value), v4 = .int .i64 x4_1 ∧ Aside0 (leadtrailref08_CopyShape.l0 kq x4_1 l0_0 a0_1 x347000_1 a0_1 = some (r1, r2)) ∧ Aside0 (kq ≤ k) ∧ Aside0 (Kd.S (Kd.slice 113 k113) 34 w' w.heap.size (fun _ => True) u347000 x347000_1) ∧ Aside0 (w'.heap[gb344]? = some (.cells #[(.slice A0_0 l0_0.length c0_0), .int .i64 a0_1] 50 (0, 0))) ∧ Aside0 (w'.heap[gb345]? = some (.cells #[(.slice none 0 0), .int .i64 0] 50 (0, 0))) ∧ Aside0 (w'.heap[gb346]? = some (.cells #[u347000, .int .i64 a0_1] 50 (0, 0))) ∧ Aside0 (Below w.heap.size w w'))
 case atStart => exact ⟨(0), (([] : List (List (S113)))), (.slice none 0 0), zR, H', ⟨Nat.le_refl _⟩, ⟨by first | exact Kd.S_nil _ _ _ _ _ | exact Kd.N_nil _ _ _ _ _ | exact Kd.V_nil _ _ _ _ _ | exact Kd.Q_nil _ _ _ _ _ | exact Kd.R_nil _ _ _ _ _⟩, ⟨zb BK344.out⟩, ⟨zb BK345.out⟩, ⟨by (with_reducible repeat (first | refine blk_drewN ?_ _ | refine blk_drew ?_ | refine blk_alloc ?_ _)); refine blk_put (cs := #[.slice none 0 0, .int .i64 0]) ?_ 1 _ rfl; (with_reducible repeat (first | refine blk_drewN ?_ _ | refine blk_drew ?_ | refine blk_alloc ?_ _)); refine blk_put (cs := #[.slice none 0 0, .int .i64 0]) ?_ 0 _ rfl; exact zb BK346.out⟩, ⟨zU HB.out⟩⟩
 case round =>
  clear H'; (try clear p2); (try clear c4); (try clear c7); (try clear c8); (try clear hcz5_0); (try clear hcz5_1); (try clear hcz9_0); (try clear hcz9_1); (try clear hfz5_0); (try clear hfz5_1); (try clear hfz9_0); (try clear hfz9_1); obtain ⟨x4_1, x347000_1, u347000, rfl, HA, HK1, HO_347000, BK344, BK345, BK346, HB⟩ := hrel
  cases gk with
  | zero => exact absurd HA.out (by simp [leadtrailref08_CopyShape.l0])
  | succ k1 =>
   have H := HA.out; clear HA; simp only [leadtrailref08_CopyShape.l0] at H
   by_cases c10 : x4_1 < (l0_0.length : Int)
   ·rw [if_pos c10] at H; have c10b0 : decide (x4_1 < (l0_0.length : Int)) = true := decide_eq_true c10
    clear c10; obtain ⟨y347, hy347⟩ : ∃ y_ : List (S113), y_ = (([] : List (S113))) := ⟨_, rfl⟩; replace H : (if 0 ≤ x4_1 then (if y347.length + (rd_L4 l0_0 x4_1).length < 8796093022208 then (if x347000_1.length < 5864062014805 then (leadtrailref08_CopyShape.l0 k1 (wrap64 (x4_1 + 1)) l0_0 a0_1 (x347000_1 ++ [(y347 ++ (rd_L4 l0_0 x4_1))]) a0_1) else (none)) else (none)) else (none)) = some (r1, r2) := by first | (rw [hy347]; with_reducible exact H) | (have H2_ := (Option.bind_some _ _).symm.trans H; rw [hy347]; with_reducible exact H2_) | (have H2_ := (Option.bind_some _ _).symm.trans H; with_reducible exact H2_) | with_reducible exact H | (rw [hy347]; exact H) | exact H
    have Ny347 := zk hy347; clear hy347
    by_cases c11 : 0 ≤ x4_1
    ·rw [if_pos c11] at H; have c11b0 : decide (0 ≤ x4_1) = true := decide_eq_true c11
     clear c11
     by_cases c12 : y347.length + (rd_L4 l0_0 x4_1).length < 8796093022208
     ·rw [if_pos c12] at H; have LMc12 := zk c12; clear c12; obtain ⟨y351, hy351⟩ : ∃ y_ : List (S113), y_ = (y347 ++ (rd_L4 l0_0 x4_1)) := ⟨_, rfl⟩; replace H : (if x347000_1.length < 5864062014805 then (leadtrailref08_CopyShape.l0 k1 (wrap64 (x4_1 + 1)) l0_0 a0_1 (x347000_1 ++ [y351]) a0_1) else (none)) = some (r1, r2) := by first | (rw [hy351]; with_reducible exact H) | (have H2_ := (Option.bind_some _ _).symm.trans H; rw [hy351]; with_reducible exact H2_) | (have H2_ := (Option.bind_some _ _).symm.trans H; with_reducible exact H2_) | with_reducible exact H | (rw [hy351]; exact H) | exact H
      have Ny351 := zk hy351; clear hy351
      by_cases c13 : x347000_1.length < 5864062014805
      ·rw [if_pos c13] at H; have LMc13 := zk c13; clear c13; obtain ⟨y354, hy354⟩ : ∃ y_ : List (List (S113)), y_ = (x347000_1 ++ [y351]) := ⟨_, rfl⟩; replace H : (leadtrailref08_CopyShape.l0 k1 (wrap64 (x4_1 + 1)) l0_0 a0_1 y354 a0_1) = some (r1, r2) := by first | (rw [hy354]; with_reducible exact H) | (have H2_ := (Option.bind_some _ _).symm.trans H; rw [hy354]; with_reducible exact H2_) | (have H2_ := (Option.bind_some _ _).symm.trans H; with_reducible exact H2_) | with_reducible exact H | (rw [hy354]; exact H) | exact H
       have Ny354 := zk hy354; clear hy354; have H' := zk H
       clear H; have hnb14 := NB344_345.out; have hnc14 := NB345_344.out; have hnb15 := NB344_346.out; have hnc15 := NB346_344.out; have hcz16_0 : wr.cell? ⟨gb344, 0, none⟩ = some (.slice A0_0 l0_0.length c0_0) := zh BK344.out 0
       have hcz16_1 : wr.cell? ⟨gb344, 1, none⟩ = some (.int .i64 a0_1) := zh BK344.out 1
       have hfz16_0 := blk_frozen BK344.out 0; have hfz16_1 := blk_frozen BK344.out 1
       try go_wp2
       have n0_ := zk (Kd.S_drew HO_347000.out); have n1_ := zk (blk_drew BK344.out); have n2_ := zk (blk_drew BK345.out); have n3_ := zk (blk_drew BK346.out); have n4_ := zk (below_drew1 HB.out); clear HO_347000; clear BK344; clear BK345; clear BK346; clear HB; have HO_347000 := n0_; have BK344 := n1_; have BK345 := n2_; have BK346 := n3_; have HB := n4_; clear n0_ n1_ n2_ n3_ n4_; have p350 : 0 ≤ (x4_1 : Int) := zT
       have q350 : x4_1 < (l0_0.length : Int) := zT
       obtain ⟨ad350, A350_0, c350_0, e350, hx350_0, hl350_0, hi350_0⟩ := at_L4 HR0_0.out x4_1 p350 q350; have hw350_0 := hx350_0; cases e350; replace hx350_0 := zcl HB.out hx350_0; have HR350_0 := zk hi350_0; have HC350_0 := zk hl350_0; clear hi350_0 hl350_0; replace p350 := eq_true p350; replace q350 := eq_true q350
       refine start_ (n := 13) (S := fun w' => w'.cell? ⟨gb346, 0, none⟩ = some (u347000) ∧ w'.cell? ⟨gb346, 1, none⟩ = some (.int .i64 a0_1) ∧ w'.cell? ⟨gb344, 0, none⟩ = some (.slice (some ad350) l0_0.length c0_0) ∧ w'.cell? ⟨gb344, 1, none⟩ = some (.int .i64 a0_1) ∧ w'.cell? (ad350.add (x4_1).toNat) = some (.slice A350_0 (rd_L4 l0_0 x4_1).length c350_0)) (ds := [12]) #[false, false, false, false, false, false, false, false, false, false, false, false, false] zz rfl rfl ⟨zh BK346.out 0, zh BK346.out 1, zh BK344.out 0, zh BK344.out 1, (zcl HB.out hw350_0)⟩ (fun hHeld => ?_); refine with_tabW leadtrailref08_CopyShape.tab5 leadtrailref08_CopyShape.bits5 (fun HT_ HW_ => ?_)
       generalize wr.drew = w17 at HO_347000 BK344 BK345 BK346 HB HR350_0 hx350_0 hHeld ⊢
       refine pure_ (i := 0) (N := some 15) (v := ?_) (a' := ?_) (bz 13 1) rfl rfl (any_of HT_.out zz) zQ (Or.inl ⟨by rfl, ?_⟩) ?_ ?_
       rotate_left
       ·intro w'
        go_simp
        with_reducible rfl
       rotate_left
       ·simp only [Act.put, zv, i64_w, i32_w]
        rfl
       refine pure_ (i := 3) (N := some 18) (v := ?_) (a' := ?_) (bz 13 9) rfl rfl (any_of HT_.out zz) zQ (Or.inl ⟨by rfl, ?_⟩) ?_ ?_
       rotate_left
       ·intro w'
        go_simp
        with_reducible rfl
       rotate_left
       ·simp only [Act.put, zv, i64_w, i32_w]
        rfl
       refine pure_ (i := 5) (N := some 20) (v := ?_) (a' := ?_) (bz 13 41) rfl rfl (any_of HT_.out zz) zQ (Or.inl ⟨by rfl, ?_⟩) ?_ ?_
       rotate_left
       ·intro w'
        go_simp
        with_reducible rfl
       rotate_left
       ·simp only [Act.put, zv, i64_w, i32_w]
        rfl
       refine take_ (i := 1) (N := some 16) (v := ?_) (a' := ?_) (bz 13 43) rfl rfl (take_ofW HT_.out HW_.out zz) zQ (Or.inl ⟨by rfl, ?_⟩) hHeld ?_ ?_
       rotate_left
       ·rintro w' ⟨s0, s1, s2, s3, s4⟩
        go_simp
        with_reducible rfl
       rotate_left
       ·simp only [Act.put, zv, i64_w, i32_w]
        rfl
       refine take_ (i := 4) (N := some 19) (v := ?_) (a' := ?_) (bz 13 59) rfl rfl (take_ofW HT_.out HW_.out zz) zQ (Or.inl ⟨by rfl, ?_⟩) hHeld ?_ ?_
       rotate_left
       ·rintro w' ⟨s0, s1, s2, s3, s4⟩
        go_simp
        with_reducible rfl
       rotate_left
       ·simp only [Act.put, zv, i64_w, i32_w]
        rfl
       refine pure_ (i := 6) (N := some 21) (v := ?_) (a' := ?_) (bz 13 123) rfl rfl (any_of HT_.out zz) zQ (Or.inl ⟨by rfl, ?_⟩) ?_ ?_
       rotate_left
       ·intro w'
        go_simp
        with_reducible rfl
       rotate_left
       ·simp only [Act.put, zv, i64_w, i32_w]
        rfl
       refine take_ (i := 7) (N := some 22) (v := ?_) (a' := ?_) (bz 13 251) rfl rfl (take_ofW HT_.out HW_.out zz) zQ (Or.inl ⟨by rfl, ?_⟩) hHeld ?_ ?_
       rotate_left
       ·rintro w' ⟨s0, s1, s2, s3, s4⟩
        go_simp
        with_reducible rfl
       rotate_left
       ·simp only [Act.put, zv, i64_w, i32_w]
        rfl
       refine one_ (i := 2) (N := some 17) (bz 13 255) rfl rfl (one_of HT_.out zz) (by decide) (fun K hK => ?_)
       refine Kd.R_lit_step k113 _ 113 ?hg (N := 17) ?hd (xs := ([] : List (S113))) (inner := []) (ok := fun _ => True) (okp := fun _ => True) ?hr ?hp (fun _ hk => hk) trivial (Below.refl _ _) (Nat.le_refl _) (by simp) ?_; (case hd => rfl); (case hg => rfl); (case hr => first | (go_simp; done) | (go_simp; rfl)); (case hp => exact (Reps.none _ _))
       intro v348 w18 ho19 hb hg_ hnew_
       clear hg_ hnew_; (first | rw [← Ny347.out] at ho19 | (simp only [Int.reduceToNat] at ho19; rw [← Ny347.out] at ho19))
       have n0_ := zk (Kd.S_elder' (by (with_reducible repeat (first | apply Kd.S_alloc | apply Kd.S_drewN | apply Kd.S_drew)); exact HO_347000.out) (Kd.R_base ho19) hb)
       have n1_ := zk (Kd.R_lower ho19 (below_size (zU HB.out))); have n2_ := zk (zbb BK344.out hb); have n3_ := zk (zbb BK345.out hb); have n4_ := zk (zbb BK346.out hb); have n5_ := zk (below_step (zU HB.out) hb); clear HO_347000; clear BK344; clear BK345; clear BK346; clear HB; have HO_347000 := n0_; have HO349 := n1_; have BK344 := n2_; have BK345 := n3_; have BK346 := n4_; have HB := n5_; clear n0_ n1_ n2_ n3_ n4_ n5_; clear hb ho19
       refine hK.out _ _ ⟨zh BK346.out 0, zh BK346.out 1, zh BK344.out 0, zh BK344.out 1, (zcl HB.out hw350_0)⟩ (fun hHeld => ?_)
       clear hK K
       refine norm_ (a' := ?_) ?_ ?_
       rotate_left
       ·show Act.put _ (some 17) _ = _
        simp only [Act.put, zv, i64_w, i32_w]
        rfl
       refine one_ (i := 8) (N := some 23) (bz 13 511) rfl rfl (one_of HT_.out zz) (by decide) (fun K hK => ?_)
       refine Kd.R_append_rows_step k113 (w0 := w) w.heap.size (by rfl) (.tmp 17) (.tmp 22) 34 113 (.agg #[(.int .i64 0), (.int .i64 0)]) 16 rfl Try.underlying34 info113 rfl (by decide) (by omega) v348 y347 (rd_L4 l0_0 x4_1) _ _ _ (fun _ => True) (fun _ => False) rfl rfl ?aO ?aR (fun _ _ h => h) (fun _ h => h.elim) ?aF ?aB ?aS ?aL ?_
       (case aR => exact zc (Kd.C_below HR350_0.out HB.out))
       (case aB => exact (zU HB.out))
       (case aF => exact (fun _ _ => trivial))
       (case aO => exact (zr HO349.out))
       (case aS => exact (below_size (zU HB.out)))
       (case aL => have := LMc12.out; omega)
       intro v352 w20 ho hb hg hat
       rw [← Ny351.out] at ho
       have n0_ := zk (Kd.S_after (ok := (fun _ => True)) (by (with_reducible repeat (first | apply Kd.S_alloc | apply Kd.S_drewN | apply Kd.S_drew)); exact HO_347000.out) hg hat)
       have n1_ := zk (blk_grown (g := gb344) (o := .cells #[.slice (some ad350) l0_0.length c0_0, .int .i64 a0_1] 50 (0, 0)) (zb BK344.out) hg (Kd.R_ne HO349.out BK344.out (by decide)))
       have n2_ := zk (blk_grown (g := gb345) (o := .cells #[.slice none 0 0, .int .i64 0] 50 (0, 0)) (zb BK345.out) hg (Kd.R_ne HO349.out BK345.out (by decide)))
       have n3_ := zk (blk_grown (g := gb346) (o := .cells #[u347000, .int .i64 a0_1] 50 (0, 0)) (zb BK346.out) hg (Kd.R_ne HO349.out BK346.out (by decide)))
       have n4_ := zk (hb); have n5_ := zk (ho); clear HO_347000; clear BK344; clear BK345; clear BK346; clear HB; clear HO349; have HO_347000 := n0_; have BK344 := n1_; have BK345 := n2_; have BK346 := n3_; have HB := n4_; have HO353 := n5_; clear n0_ n1_ n2_ n3_ n4_ n5_; clear ho hb hg hat; obtain ⟨Ao22, co22, eo22⟩ := Kd.R_slice HO353.out; (first | subst eo22 | (injection eo22 with f1_ f2_ f3_; have f4_ := f1_.symm; have f5_ := f3_.symm; clear f1_ f2_ f3_; subst f4_; subst f5_))
       refine hK.out _ _ ⟨zh BK346.out 0, zh BK346.out 1, zh BK344.out 0, zh BK344.out 1, (zcl HB.out hw350_0)⟩ (fun hHeld => ?_)
       clear hK K
       refine norm_ (a' := ?_) ?_ ?_
       rotate_left
       ·show Act.put _ (some 23) _ = _
        simp only [Act.put, zv, i64_w, i32_w]
        rfl
       refine one_ (i := 9) (N := some 24) (bz 13 1023) rfl rfl (one_of HT_.out zz) (by decide) (fun K hK => ?_)
       refine value_ (w1 := ?_) (v := ?_) (by rfl) rfl ?_ ?_
       rotate_left 2
       ·go_simp
        constructor
        ·rfl
        ·rfl
       refine hK.out _ _ ⟨(blk_cell (blk_alloc BK346.out _) 0).trans rfl, (blk_cell (blk_alloc BK346.out _) 1).trans rfl, (blk_cell (blk_alloc BK344.out _) 0).trans rfl, (blk_cell (blk_alloc BK344.out _) 1).trans rfl, (World.cell?_alloc_lt _ _ _ (World.block_lt_of_cell? _ _ ((zcl HB.out hw350_0)))).trans ((zcl HB.out hw350_0))⟩ (fun hHeld => ?_)
       clear hK K
       refine norm_ (a' := ?_) ?_ ?_
       rotate_left
       ·show Act.put _ (some 24) _ = _
        simp only [Act.put, zv, i64_w, i32_w]
        rfl
       refine one_ (i := 10) (N := some 25) (bz 13 2047) rfl rfl (one_of HT_.out zz) (by decide) (fun K hK => ?_)
       refine Kd.S_append_step (Kd.slice 113 k113) (w0 := w) w.heap.size (by rfl) (.tmp 16) (.tmp 24) 48 34 (.slice none 0 0) 24 rfl Try.underlying48 info34 rfl (by decide) (by omega) u347000 x347000_1 y351 [.slice Ao22 y351.length co22] (fun _ => True) (fun k_ => some k_ = (.slice Ao22 y351.length co22 : Value).ownBlock) rfl rfl ?aP (fun k_ hk_ => ((Kd.R_mono (ok' := fun k_ => ((fun _ => True)) k_ ∧ some k_ ≠ (u347000 : Value).ownBlock) (Kd.R_apart' (HO353.out) (Kd.S_typed HO_347000.out) (by decide)) (fun k_ hk => ⟨trivial, hk.2⟩))).1 k_ hk_.symm) ?aF ?aO ?aB ?aS ?aL ?_
       (case aP => exact Kd.M_row (Kd.R_mono (Kd.R_tight rfl (Kd.R_mono (ok' := fun k_ => ((fun _ => True)) k_ ∧ some k_ ≠ (u347000 : Value).ownBlock) (Kd.R_apart' (HO353.out) (Kd.S_typed HO_347000.out) (by decide)) (fun k_ hk => ⟨trivial, hk.2⟩))) (fun _ h_ => h_)))
       (case aB => exact (zU HB.out))
       (case aF => exact (fun _ _ => trivial))
       (case aO => exact (by (with_reducible repeat (first | apply Kd.S_alloc | apply Kd.S_drewN | apply Kd.S_drew)); exact Kd.S_mono HO_347000.out (fun k_ hk => ⟨trivial, fun e_ => hk.2 e_⟩)))
       (case aS => exact (below_size (zU HB.out)))
       (case aL => have := LMc13.out; omega)
       intro v355 w21 ho hb hg hat
       rw [← Ny354.out] at ho
       have n0_ := zk (blk_grown (g := gb344) (o := .cells #[.slice (some ad350) l0_0.length c0_0, .int .i64 a0_1] 50 (0, 0)) (zb BK344.out) hg (Kd.S_ne HO_347000.out BK344.out (by decide)))
       have n1_ := zk (blk_grown (g := gb345) (o := .cells #[.slice none 0 0, .int .i64 0] 50 (0, 0)) (zb BK345.out) hg (Kd.S_ne HO_347000.out BK345.out (by decide)))
       have n2_ := zk (blk_grown (g := gb346) (o := .cells #[u347000, .int .i64 a0_1] 50 (0, 0)) (zb BK346.out) hg (Kd.S_ne HO_347000.out BK346.out (by decide)))
       have n3_ := zk (hb); have n4_ := zk (ho); clear BK344; clear BK345; clear BK346; clear HB; clear HO_347000; clear HO353; have BK344 := n0_; have BK345 := n1_; have BK346 := n2_; have HB := n3_; have HO356 := n4_; clear n0_ n1_ n2_ n3_ n4_; clear ho hb hg hat; obtain ⟨Ao23, co23, eo23⟩ := Kd.S_slice HO356.out; (first | subst eo23 | (injection eo23 with f1_ f2_ f3_; have f4_ := f1_.symm; have f5_ := f3_.symm; clear f1_ f2_ f3_; subst f4_; subst f5_))
       refine hK.out _ _ ⟨zh BK346.out 0, zh BK346.out 1, zh BK344.out 0, zh BK344.out 1, (zcl HB.out hw350_0)⟩ (fun hHeld => ?_)
       clear hK K
       refine norm_ (a' := ?_) ?_ ?_
       rotate_left
       ·show Act.put _ (some 25) _ = _
        simp only [Act.put, zv, i64_w, i32_w]
        rfl
       refine pure_ (i := 11) (N := some 26) (v := ?_) (a' := ?_) (bz 13 4095) rfl rfl (any_of HT_.out zz) zQ (Or.inl ⟨by rfl, ?_⟩) ?_ ?_
       rotate_left
       ·intro w'
        go_simp
        with_reducible rfl
       rotate_left
       ·simp only [Act.put, zv, i64_w, i32_w]
        rfl
       refine last_ (i := 12) (N := none) (bz 13 8191) rfl rfl (one_of HT_.out zz) (by decide) (fun K hK => ?_)
       have hs24 : w21.cell? ⟨gb346, 0, none⟩ = some (u347000) := zh BK346.out 0
       have hfs24 := blk_frozen BK346.out 0; have hns24_0 := NB344_346.out; have hns24_1 := NB345_346.out; have hms24_0 := NB346_344.out; have hms24_1 := NB346_345.out
       refine skip_ (w1 := ?_) (by rfl) rfl ?_ ?_
       rotate_left
       ·go_simp
        rfl
       refine hK.out _ _ ?_
       clear hK K
       refine done_ (done_of HT_.out zz) ?_
       try go_wp2
       go_roundg k1
       case measure => have := HK1.out; omega
       case rel => exact ⟨(wrap64 (x4_1 + 1)), (y354), (.slice Ao23 y354.length co23), zR, H', ⟨by have := HK1.out; omega⟩, ⟨by (with_reducible repeat (first | apply Kd.S_alloc | apply Kd.S_drewN | apply Kd.S_drew)); exact Kd.S_mono (Kd.S_far (p := ⟨gb346, 0, none⟩) (Kd.S_types HO356.out BK346.out (by decide)) (fun _ hk => hk.2) (.slice Ao23 y354.length co23)) (fun _ hk => trivial)⟩, ⟨zb BK344.out⟩, ⟨zb BK345.out⟩, ⟨by (with_reducible repeat (first | refine blk_drewN ?_ _ | refine blk_drew ?_ | refine blk_alloc ?_ _)); refine blk_put (cs := #[u347000, .int .i64 a0_1]) ?_ 0 _ rfl; exact zb BK346.out⟩, ⟨zU HB.out⟩⟩
      ·rw [if_neg c13] at H
       exact absurd H (by simp)
     ·rw [if_neg c12] at H
      exact absurd H (by simp)
    ·rw [if_neg c11] at H
     exact absurd H (by simp)
   ·rw [if_neg c10] at H; have c10b0 : decide (x4_1 < (l0_0.length : Int)) = false := decide_eq_false c10
    clear c10; simp only [Option.some.injEq, Prod.mk.injEq] at H; obtain ⟨rfl, rfl⟩ := H; have hnb25 := NB344_345.out; have hnc25 := NB345_344.out; have hnb26 := NB344_346.out; have hnc26 := NB346_344.out; have hcz27_0 : wr.cell? ⟨gb344, 0, none⟩ = some (.slice A0_0 l0_0.length c0_0) := zh BK344.out 0
    have hcz27_1 : wr.cell? ⟨gb344, 1, none⟩ = some (.int .i64 a0_1) := zh BK344.out 1
    have hfz27_0 := blk_frozen BK344.out 0; have hfz27_1 := blk_frozen BK344.out 1; have hnb28 := NB346_345.out; have hnc28 := NB345_346.out; have hcz29_0 : wr.cell? ⟨gb346, 0, none⟩ = some (u347000) := zh BK346.out 0
    have hcz29_1 : wr.cell? ⟨gb346, 1, none⟩ = some (.int .i64 a0_1) := zh BK346.out 1
    have hfz29_0 := blk_frozen BK346.out 0; have hfz29_1 := blk_frozen BK346.out 1; obtain ⟨Ao30, co30, eo30⟩ := Kd.S_slice HO_347000.out; subst eo30; have hcz31_0 : wr.cell? ⟨gb345, 0, none⟩ = some (.slice none 0 0) := zh BK345.out 0
    have hcz31_1 : wr.cell? ⟨gb345, 1, none⟩ = some (.int .i64 0) := zh BK345.out 1
    have hfz31_0 := blk_frozen BK345.out 0; have hfz31_1 := blk_frozen BK345.out 1
    go_wp2
    refine bodyPost_ret (results_cell_row rfl _ _ gb345 50 #[.slice Ao30 x347000_1.length co30, .int .i64 a0_1] (0, 0) _ rfl (by (with_reducible repeat (first | refine blk_drewN ?_ _ | refine blk_drew ?_ | refine blk_alloc ?_ _)); refine blk_put (cs := #[.slice Ao30 x347000_1.length co30, .int .i64 0]) ?_ 1 _ rfl; (with_reducible repeat (first | refine blk_drewN ?_ _ | refine blk_drew ?_ | refine blk_alloc ?_ _)); refine blk_put (cs := #[.slice none 0 0, .int .i64 0]) ?_ 0 _ rfl; exact zb BK345.out) Try.underlying50 rfl zz) rfl ?_
    exact ⟨_, ze, by (with_reducible repeat (first | apply Kd.S_alloc | apply Kd.S_drewN | apply Kd.S_drew)); exact Kd.S_mono (Kd.S_far (p := ⟨gb345, 1, none⟩) (Kd.S_far (p := ⟨gb345, 0, none⟩) (Kd.S_types HO_347000.out BK345.out (by decide)) (fun _ hk => hk.2) (.slice Ao30 x347000_1.length co30)) (fun _ hk => hk.2) (.int .i64 a0_1)) (fun _ hk => trivial), zU HB.out⟩
end Go.Proofs.Ytkcklnmbeinfkaa.B
