/- Words and walks of this claim, of the text Bx32. -/
import Derived.Test.YtkcklnmbeinfkaaKiQW0
import Derived.Test.YtkcklnmbeinfkaaKiBx0
import Derived.Test.YtkcklnmbeinfkaaKiBx1
import Derived.Test.YtkcklnmbeinfkaaKiBx31
namespace Go.Proofs.Ytkcklnmbeinfkaa.B
open Go.RowKit Go.Proofs.YtkcklnmbeinfkaaW.PrintWords Go.Proofs.YtkcklnmbeinfkaaW.PrintLast Go.Proofs.YtkcklnmbeinfkaaW.PrintMore
attribute [local go_sem] max2_int min2_int max_two min_two max_three min_three max_four min_four
set_option linter.unusedVariables false
set_option linter.unusedSimpArgs false
attribute [local go_sem high] eqA59
def leadtraillaw11_shapeOf.l0 : Nat → List Int → Int → List (List (S113)) → Int → Option ((List (List (S113))) × Int)
 | 0, _, _, _, _ => none
 | k + 1, x1, x6, x778000, x778001 => if (wrap64 (x6 + 1)) < (x1.length : Int) then (if 0 ≤ x6 then (if x6 < (x1.length : Int) then (if 0 ≤ (wrap64 (x6 + 1)) then (if x778000.length < 5864062014805 then (leadtraillaw11_shapeOf.l0 k x1 (wrap64 (x6 + 2)) (x778000 ++ [(([(⟨rd x1 x6, rd x1 (wrap64 (x6 + 1))⟩ : S113)] : List (S113)))]) x778001) else (none)) else (none)) else (none)) else (none)) else (some (x778000, x778001))
def leadtraillaw11_shapeOf.f (k : Nat) (a0 : Int) (l1 : List Int) : Option ((List (List (S113))) × Int) := leadtraillaw11_shapeOf.l0 k l1 0 ([] : List (List (S113))) a0
def leadtraillaw11_shapeOf.T5 : Bool × List (List Nat × List Nat) := (true, [([], []), ([0], [0]), ([], []), ([], []), ([2, 3], [2, 3]), ([4], [4]), ([], []), ([], []), ([7], [7]), ([6, 8], [6, 8]), ([9], [9]), ([5, 10], [5, 10]), ([11], [11]), ([12], [12]), ([1, 13], [1, 13]), ([0, 1, 2, 3, 4, 5, 6, 7, 8, 9, 10, 11, 12, 13, 14], []), ([15, 14, 14, 0, 1, 2, 3, 4, 5, 6, 7, 8, 9, 10, 11, 12, 13, 14], [14, 15])])
def leadtraillaw11_shapeOf.B5 : List Nat := [0, 1, 0, 0, 12, 28, 0, 0, 128, 448, 960, 2044, 4092, 8188, 16383, 32767, 65535]
theorem leadtraillaw11_shapeOf.tab5 : rtab .any (opsOf Try.f106 5) = leadtraillaw11_shapeOf.T5 := by kernel_rfl
theorem leadtraillaw11_shapeOf.bits5 : waitsOk leadtraillaw11_shapeOf.T5.2 leadtraillaw11_shapeOf.B5 = true := by kernel_rfl
set_option maxHeartbeats 8000000 in
set_option maxRecDepth 100000 in
theorem leadtraillaw11_shapeOf.calls (k : Nat) (a0 : Int) (A1 : Option Addr) (c1 : Nat) (l1 : List Int) (r1 : List (List (S113))) (r2 : Int) (w : World) (hr1 : Kd.C (Kd.int .i64) w A1 l1.length l1) (hc1 : l1.length ≤ c1) (h : leadtraillaw11_shapeOf.f k a0 l1 = some (r1, r2)) :
 Calls Try.prog 106 #[.int .i64 a0, .slice A1 l1.length c1] w fun e w' => ∃ v0_ : Value, e = .returned (.agg #[v0_, .int .i64 r2]) ∧ Kd.S (Kd.slice 113 k113) 34 w' w.heap.size (fun _ => True) v0_ r1 ∧ Below w.heap.size w w' := by
 have hu50 := Try.underlying50
 have hu113 := Try.underlying113
 have HR1 := zk hr1
 have HC1 := zk hc1
 clear hr1 hc1
 have HB := zk (Below.refl w.heap.size w)
 have H : (leadtraillaw11_shapeOf.l0 k l1 0 ([] : List (List (S113))) a0) = some (r1, r2) := h
 clear h
 have H' := zk H
 clear H
 go_enter Try.func106, Try.ntmps106
 go_wp2_with (first | ((with_reducible refine gate_dst (N := 4) rfl ?_); refine box_event ?hg (N := 4) ?hd (cs := #[.slice none 0 0, .int .i64 0]) (t := 50) ?hr ?_; (case hd => rfl); (case hg => rfl); (case hr => first | (go_simp; done) | (go_simp; rfl)); intro gb776 hg w3 hbox hb; have n0_ := zk (below_step (zU HB.out) hb); have n1_ := zk (hbox); have n2_ := zk ((by rw [hg]; exact (below_size (zU HB.out)) : w.heap.size ≤ gb776)); have n3_ := zk ((by rw [hg]; exact (below_size (zU HB.out)) : w.heap.size ≤ gb776)); clear HB; have HB := n0_; have BK776 := n1_; have GW776 := n2_; have GE776 := n3_; clear n0_ n1_ n2_ n3_; clear hb hbox hg) | ((with_reducible refine gate_dst (N := 5) rfl ?_); refine box_event ?hg (N := 5) ?hd (cs := #[.slice none 0 0, .int .i64 0]) (t := 50) ?hr ?_; (case hd => rfl); (case hg => rfl); (case hr => first | (go_simp; done) | (go_simp; rfl)); intro gb777 hg w4 hbox hb; have n0_ := zk (zbb BK776.out hb); have n1_ := zk (below_step (zU HB.out) hb); have n2_ := zk (hbox); have n3_ := zk ((by rw [hg]; exact (below_size (zU HB.out)) : w.heap.size ≤ gb777)); have n4_ := zk ((by rw [hg]; exact (below_size (zU HB.out)) : w.heap.size ≤ gb777)); have n5_ := zk ((zlt hg BK776.out : gb776 ≠ gb777)); have n6_ := zk ((zgt hg BK776.out : gb777 ≠ gb776)); clear BK776; clear HB; have BK776 := n0_; have HB := n1_; have BK777 := n2_; have GW777 := n3_; have GE777 := n4_; have NB776_777 := n5_; have NB777_776 := n6_; clear n0_ n1_ n2_ n3_ n4_ n5_ n6_; clear hb hbox hg; have hnb5 := NB777_776.out; have hnc5 := NB776_777.out; have hcz6_0 : w4.cell? ⟨gb777, 0, none⟩ = some (.slice none 0 0) := (blk_cell BK777.out 0).trans rfl; have hcz6_1 : w4.cell? ⟨gb777, 1, none⟩ = some (.int .i64 0) := (blk_cell BK777.out 1).trans rfl; have hfz6_0 := blk_frozen BK777.out 0; have hfz6_1 := blk_frozen BK777.out 1))
 go_loopg [6] k (fun kq v6 w' => ∃ (x6_1 : Int) (x778000_1 : List (List (S113))) (u778000 : Value), v6 = .int .i64 x6_1 ∧ Aside0 (leadtraillaw11_shapeOf.l0 kq l1 x6_1 x778000_1 a0 = some (r1, r2)) ∧ Aside0 (kq ≤ k) ∧ Aside0 (Kd.S (Kd.slice 113 k113) 34 w' w.heap.size (fun _ => True) u778000 x778000_1) ∧ Aside0 (w'.heap[gb776]? = some (.cells #[(.slice none 0 0), .int .i64 0] 50 (0, 0))) ∧ Aside0 (w'.heap[gb777]? = some (.cells #[u778000, .int .i64 a0] 50 (0, 0))) ∧ Aside0 (Below w.heap.size w w'))
 case atStart => exact ⟨(0), (([] : List (List (S113)))), (.slice none 0 0), zR, H', ⟨Nat.le_refl _⟩, ⟨by first | exact Kd.S_nil _ _ _ _ _ | exact Kd.N_nil _ _ _ _ _ | exact Kd.V_nil _ _ _ _ _ | exact Kd.Q_nil _ _ _ _ _ | exact Kd.R_nil _ _ _ _ _⟩, ⟨by exact zb BK776.out⟩, ⟨by (with_reducible repeat (first | refine blk_drewN ?_ _ | refine blk_drew ?_ | refine blk_alloc ?_ _)); refine blk_put (cs := #[.slice none 0 0, .int .i64 0]) ?_ 1 _ rfl; (with_reducible repeat (first | refine blk_drewN ?_ _ | refine blk_drew ?_ | refine blk_alloc ?_ _)); refine blk_put (cs := #[.slice none 0 0, .int .i64 0]) ?_ 0 _ rfl; exact zb BK777.out⟩, ⟨zU HB.out⟩⟩
 case round =>
 clear H'
 try clear c1
 try clear p2
 try clear c5
 try clear hcz6_0
 try clear hcz6_1
 try clear hfz6_0
 try clear hfz6_1
 obtain ⟨x6_1, x778000_1, u778000, rfl, HA, HK1, HO_778000, BK776, BK777, HB⟩ := hrel
 cases gk with
 | zero => exact absurd HA.out (by simp [leadtraillaw11_shapeOf.l0])
 | succ k1 =>
  have H := HA.out
  clear HA
  simp only [leadtraillaw11_shapeOf.l0] at H
  by_cases c7 : (wrap64 (x6_1 + 1)) < (l1.length : Int)
  ·rw [if_pos c7] at H
  have c7b0 : decide ((wrap64 (x6_1 + 1)) < (l1.length : Int)) = true := decide_eq_true c7
  clear c7
  by_cases c8 : 0 ≤ x6_1
  ·rw [if_pos c8] at H
   have c8b0 : decide (0 ≤ x6_1) = true := decide_eq_true c8
   clear c8
   by_cases c9 : x6_1 < (l1.length : Int)
   ·rw [if_pos c9] at H
   have c9b0 : decide (x6_1 < (l1.length : Int)) = true := decide_eq_true c9
   clear c9
   obtain ⟨ji10, hji10⟩ : ∃ j_ : Int, (wrap64 (x6_1 + 1)) = j_ := ⟨_, rfl⟩
   replace H : (if 0 ≤ (ji10) then (if x778000_1.length < 5864062014805 then (leadtraillaw11_shapeOf.l0 k1 l1 (wrap64 (x6_1 + 2)) (x778000_1 ++ [(([(⟨rd l1 x6_1, rd l1 (ji10)⟩ : S113)] : List (S113)))]) a0) else (none)) else (none)) = some (r1, r2) := by first | (rw [hji10] at H; exact H) | (simp only [hji10] at H ⊢; exact H)
   (try rw [hji10] at c7b0)
   have hji10w : (IntKind.i64.wrap (x6_1 + 1)) = ji10 := (i64_w _).trans hji10
   by_cases c11 : 0 ≤ (ji10)
   ·rw [if_pos c11] at H
    have c11b0 : decide (0 ≤ (ji10)) = true := decide_eq_true c11
    clear c11
    obtain ⟨y780, hy780⟩ : ∃ y_ : List (S113), y_ = (([(⟨rd l1 x6_1, rd l1 (ji10)⟩ : S113)] : List (S113))) := ⟨_, rfl⟩
    replace H : (if x778000_1.length < 5864062014805 then (leadtraillaw11_shapeOf.l0 k1 l1 (wrap64 (x6_1 + 2)) (x778000_1 ++ [y780]) a0) else (none)) = some (r1, r2) := by first | (rw [hy780]; with_reducible exact H) | (have H2_ := (Option.bind_some _ _).symm.trans H; rw [hy780]; with_reducible exact H2_) | (have H2_ := (Option.bind_some _ _).symm.trans H; with_reducible exact H2_) | with_reducible exact H | (rw [hy780]; exact H) | exact H
    have Ny780 := zk hy780
    clear hy780
    by_cases c12 : x778000_1.length < 5864062014805
    ·rw [if_pos c12] at H
    have LMc12 := zk c12
    clear c12
    obtain ⟨y783, hy783⟩ : ∃ y_ : List (List (S113)), y_ = (x778000_1 ++ [y780]) := ⟨_, rfl⟩
    replace H : (leadtraillaw11_shapeOf.l0 k1 l1 (wrap64 (x6_1 + 2)) y783 a0) = some (r1, r2) := by first | (rw [hy783]; with_reducible exact H) | (have H2_ := (Option.bind_some _ _).symm.trans H; rw [hy783]; with_reducible exact H2_) | (have H2_ := (Option.bind_some _ _).symm.trans H; with_reducible exact H2_) | with_reducible exact H | (rw [hy783]; exact H) | exact H
    have Ny783 := zk hy783
    clear hy783
    have H' := zk H
    clear H
    try go_wp2
    have n0_ := zk (Kd.S_drew HO_778000.out)
    have n1_ := zk (blk_drew BK776.out)
    have n2_ := zk (blk_drew BK777.out)
    have n3_ := zk (below_drew1 HB.out)
    clear HO_778000
    clear BK776
    clear BK777
    clear HB
    have HO_778000 := n0_
    have BK776 := n1_
    have BK777 := n2_
    have HB := n3_
    clear n0_ n1_ n2_ n3_
    have p778 : 0 ≤ (x6_1 : Int) := zT
    have q778 : x6_1 < (l1.length : Int) := zT
    obtain ⟨ad778, e778, hx778_0⟩ := Kd.at_int HR1.out x6_1 p778 q778
    have hw778_0 := hx778_0
    cases e778
    replace hx778_0 := (HB.out.cell (World.block_lt_of_cell? w _ hx778_0)).trans hx778_0
    replace p778 := eq_true p778
    replace q778 := eq_true q778
    have p779 : 0 ≤ ((ji10) : Int) := zT
    have q779 : (ji10) < (l1.length : Int) := zT
    obtain ⟨ad779, e779, hx779_0⟩ := Kd.at_int HR1.out (ji10) p779 q779
    have hw779_0 := hx779_0
    obtain rfl : ad778 = ad779 := (by injection e779)
    replace hx779_0 := (HB.out.cell (World.block_lt_of_cell? w _ hx779_0)).trans hx779_0
    replace p779 := eq_true p779
    replace q779 := eq_true q779
    refine start_ (n := 17) (S := fun w' => w'.cell? ⟨gb777, 0, none⟩ = some (u778000) ∧ w'.cell? ⟨gb777, 1, none⟩ = some (.int .i64 a0) ∧ w'.cell? (ad778.add (x6_1).toNat) = some (.int .i64 (rd l1 x6_1)) ∧ w'.cell? (ad778.add ((ji10)).toNat) = some (.int .i64 (rd l1 (ji10)))) (ds := [16]) #[false, false, false, false, false, false, false, false, false, false, false, false, false, false, false, false, false] (by kernel_rfl) rfl rfl ⟨(blk_cell BK777.out 0).trans rfl, (blk_cell BK777.out 1).trans rfl, ((HB.out.cell (World.block_lt_of_cell? w _ hw778_0)).trans hw778_0), ((HB.out.cell (World.block_lt_of_cell? w _ hw779_0)).trans hw779_0)⟩ (fun hHeld => ?_); refine with_tabW leadtraillaw11_shapeOf.tab5 leadtraillaw11_shapeOf.bits5 (fun HT_ HW_ => ?_)
    generalize wr.drew = w13 at HO_778000 BK776 BK777 HB hx778_0 hx779_0 hHeld ⊢
    refine pure_ (i := 0) (N := some 16) (v := ?_) (a' := ?_) (bz 17 1) rfl rfl (any_of HT_.out (by kernel_rfl)) zQ (Or.inl ⟨by rfl, ?_⟩) ?_ ?_
    rotate_left
    ·intro w'
     go_simp
     with_reducible rfl
    rotate_left
    ·simp only [Act.put, zv, i64_w, i32_w]
     rfl
    refine pure_ (i := 2) (N := some 18) (v := ?_) (a' := ?_) (bz 17 5) rfl rfl (any_of HT_.out (by kernel_rfl)) zQ (Or.inl ⟨by rfl, ?_⟩) ?_ ?_
    rotate_left
    ·intro w'
     go_simp
     with_reducible rfl
    rotate_left
    ·simp only [Act.put, zv, i64_w, i32_w]
     rfl
    refine pure_ (i := 3) (N := some 19) (v := ?_) (a' := ?_) (bz 17 13) rfl rfl (any_of HT_.out (by kernel_rfl)) zQ (Or.inl ⟨by rfl, ?_⟩) ?_ ?_
    rotate_left
    ·intro w'
     go_simp
     with_reducible rfl
    rotate_left
    ·simp only [Act.put, zv, i64_w, i32_w]
     rfl
    refine pure_ (i := 4) (N := some 20) (v := ?_) (a' := ?_) (bz 17 29) rfl rfl (any_of HT_.out (by kernel_rfl)) zQ (Or.inl ⟨by rfl, ?_⟩) ?_ ?_
    rotate_left
    ·intro w'
     go_simp
     with_reducible rfl
    rotate_left
    ·simp only [Act.put, zv, i64_w, i32_w]
     rfl
    refine pure_ (i := 6) (N := some 22) (v := ?_) (a' := ?_) (bz 17 93) rfl rfl (any_of HT_.out (by kernel_rfl)) zQ (Or.inl ⟨by rfl, ?_⟩) ?_ ?_
    rotate_left
    ·intro w'
     go_simp
     with_reducible rfl
    rotate_left
    ·simp only [Act.put, zv, i64_w, i32_w]
     rfl
    refine pure_ (i := 7) (N := some 23) (v := ?_) (a' := ?_) (bz 17 221) rfl rfl (any_of HT_.out (by kernel_rfl)) zQ (Or.inl ⟨by rfl, ?_⟩) ?_ ?_
    rotate_left
    ·intro w'
     go_simp
     with_reducible rfl
    rotate_left
    ·simp only [Act.put, zv, i64_w, i32_w]
     rfl
    refine pure_ (i := 8) (N := some 24) (v := ?_) (a' := ?_) (bz 17 477) rfl rfl (any_of HT_.out (by kernel_rfl)) zQ (Or.inl ⟨by rfl, ?_⟩) ?_ ?_
    rotate_left
    ·intro w'
     go_simp
     with_reducible rfl
    rotate_left
    ·simp only [Act.put, zv, i64_w, i32_w]
     rfl
    refine pure_ (i := 9) (N := some 25) (v := ?_) (a' := ?_) (bz 17 989) rfl rfl (any_of HT_.out (by kernel_rfl)) zQ (Or.inl ⟨by rfl, ?_⟩) ?_ ?_
    rotate_left
    ·intro w'
     go_simp
     with_reducible rfl
    rotate_left
    ·simp only [Act.put, zv, i64_w, i32_w]
     rfl
    refine take_ (i := 1) (N := some 17) (v := ?_) (a' := ?_) (bz 17 991) rfl rfl (take_ofW HT_.out HW_.out (by kernel_rfl)) zQ (Or.inl ⟨by rfl, ?_⟩) hHeld ?_ ?_
    rotate_left
    ·rintro w' ⟨s0, s1, s2, s3⟩
     go_simp
     with_reducible rfl
    rotate_left
    ·simp only [Act.put, zv, i64_w, i32_w]
     rfl
    refine take_ (i := 5) (N := some 21) (v := ?_) (a' := ?_) (bz 17 1023) rfl rfl (take_ofW HT_.out HW_.out (by kernel_rfl)) zQ (Or.inl ⟨by rfl, ?_⟩) hHeld ?_ ?_
    rotate_left
    ·rintro w' ⟨s0, s1, s2, s3⟩
     go_simp
     with_reducible rfl
    rotate_left
    ·simp only [Act.put, zv, i64_w, i32_w]
     rfl
    refine take_ (i := 10) (N := some 26) (v := ?_) (a' := ?_) (bz 17 2047) rfl rfl (take_ofW HT_.out HW_.out (by kernel_rfl)) zQ (Or.inl ⟨by rfl, ?_⟩) hHeld ?_ ?_
    rotate_left
    ·rintro w' ⟨s0, s1, s2, s3⟩
     go_simp
     with_reducible rfl
    rotate_left
    ·simp only [Act.put, zv, i64_w, i32_w]
     rfl
    refine pure_ (i := 11) (N := some 27) (v := ?_) (a' := ?_) (bz 17 4095) rfl rfl (any_of HT_.out (by kernel_rfl)) zQ (Or.inl ⟨by rfl, ?_⟩) ?_ ?_
    rotate_left
    ·intro w'
     go_simp
     with_reducible rfl
    rotate_left
    ·simp only [Act.put, zv, i64_w, i32_w]
     rfl
    refine one_ (i := 12) (N := some 28) (bz 17 8191) rfl rfl (one_of HT_.out (by kernel_rfl)) (by decide) (fun K hK => ?_)
    refine Kd.R_lit_step k113 _ 113 ?hg (N := 28) ?hd (xs := ([(⟨rd l1 x6_1, rd l1 (ji10)⟩ : S113)] : List (S113))) (inner := [.int .i64 (rd l1 x6_1), .int .i64 (rd l1 (ji10))]) (ok := fun _ => True) (okp := fun _ => True) ?hr ?hp (fun _ hk => hk) trivial (Below.refl _ _) (Nat.le_refl _) (by simp) ?_; (case hd => rfl); (case hg => rfl); (case hr => first | (go_simp; done) | (go_simp; rfl)); (case hp => exact (Reps.c2 (show Kd.M k113 _ _ _ (⟨rd l1 x6_1, rd l1 (ji10)⟩ : S113) [.int .i64 (rd l1 x6_1), .int .i64 (rd l1 (ji10))] from (k113_mkM _ _ _ (⟨rd l1 x6_1, rd l1 (ji10)⟩ : S113) )) (Reps.none _ _)))
    intro v781 w14 ho15 hb hg_ hnew_
    clear hg_ hnew_
    (first | rw [← Ny780.out] at ho15 | (simp only [Int.reduceToNat] at ho15; rw [← Ny780.out] at ho15))
    have n0_ := zk (Kd.S_elder' (by (with_reducible repeat (first | apply Kd.S_alloc | apply Kd.S_drewN | apply Kd.S_drew)); exact HO_778000.out) (Kd.R_base ho15) hb)
    have n1_ := zk (Kd.R_lower ho15 (below_size (zU HB.out)))
    have n2_ := zk (zbb BK776.out hb)
    have n3_ := zk (zbb BK777.out hb)
    have n4_ := zk (below_step (zU HB.out) hb)
    clear HO_778000
    clear BK776
    clear BK777
    clear HB
    have HO_778000 := n0_
    have HO782 := n1_
    have BK776 := n2_
    have BK777 := n3_
    have HB := n4_
    clear n0_ n1_ n2_ n3_ n4_
    clear hb ho15
    obtain ⟨Ao17, co17, eo17⟩ := Kd.R_slice HO782.out
    (first | subst eo17 | (injection eo17 with f1_ f2_ f3_; have f4_ := f1_.symm; have f5_ := f3_.symm; clear f1_ f2_ f3_; subst f4_; subst f5_))
    refine hK.out _ _ ⟨(blk_cell BK777.out 0).trans rfl, (blk_cell BK777.out 1).trans rfl, ((HB.out.cell (World.block_lt_of_cell? w _ hw778_0)).trans hw778_0), ((HB.out.cell (World.block_lt_of_cell? w _ hw779_0)).trans hw779_0)⟩ (fun hHeld => ?_)
    clear hK K
    refine norm_ (a' := ?_) ?_ ?_
    rotate_left
    ·show Act.put _ (some 28) _ = _
     simp only [Act.put, zv, i64_w, i32_w]
     rfl
    refine one_ (i := 13) (N := some 29) (bz 17 16383) rfl rfl (one_of HT_.out (by kernel_rfl)) (by decide) (fun K hK => ?_)
    refine value_ (w1 := ?_) (v := ?_) (by rfl) rfl ?_ ?_
    rotate_left 2
    ·go_simp
     constructor
     ·rfl
     ·rfl
    refine hK.out _ _ ⟨(blk_cell (blk_alloc BK777.out _) 0).trans rfl, (blk_cell (blk_alloc BK777.out _) 1).trans rfl, (World.cell?_alloc_lt _ _ _ (World.block_lt_of_cell? _ _ (((HB.out.cell (World.block_lt_of_cell? w _ hw778_0)).trans hw778_0)))).trans (((HB.out.cell (World.block_lt_of_cell? w _ hw778_0)).trans hw778_0)), (World.cell?_alloc_lt _ _ _ (World.block_lt_of_cell? _ _ (((HB.out.cell (World.block_lt_of_cell? w _ hw779_0)).trans hw779_0)))).trans (((HB.out.cell (World.block_lt_of_cell? w _ hw779_0)).trans hw779_0))⟩ (fun hHeld => ?_)
    clear hK K
    refine norm_ (a' := ?_) ?_ ?_
    rotate_left
    ·show Act.put _ (some 29) _ = _
     simp only [Act.put, zv, i64_w, i32_w]
     rfl
    refine one_ (i := 14) (N := some 30) (bz 17 32767) rfl rfl (one_of HT_.out (by kernel_rfl)) (by decide) (fun K hK => ?_)
    refine Kd.S_append_step (Kd.slice 113 k113) (w0 := w) w.heap.size (by rfl) (.tmp 17) (.tmp 29) 48 34 (.slice none 0 0) 24 rfl Try.underlying48 info34 rfl (by decide) (by omega) u778000 x778000_1 y780 [.slice Ao17 y780.length co17] (fun _ => True) (fun k_ => some k_ = (.slice Ao17 y780.length co17 : Value).ownBlock) rfl rfl ?aP (fun k_ hk_ => ((Kd.R_mono (ok' := fun k_ => ((fun _ => True)) k_ ∧ some k_ ≠ (u778000 : Value).ownBlock) (Kd.R_apart' (HO782.out) (Kd.S_typed HO_778000.out) (by decide)) (fun k_ hk => ⟨trivial, hk.2⟩))).1 k_ hk_.symm) ?aF ?aO ?aB ?aS ?aL ?_
    (case aP => exact Kd.M_row (Kd.R_mono (Kd.R_tight rfl (Kd.R_mono (ok' := fun k_ => ((fun _ => True)) k_ ∧ some k_ ≠ (u778000 : Value).ownBlock) (Kd.R_apart' (HO782.out) (Kd.S_typed HO_778000.out) (by decide)) (fun k_ hk => ⟨trivial, hk.2⟩))) (fun _ h_ => h_)))
    (case aB => exact (zU HB.out))
    (case aF => exact (fun _ _ => trivial))
    (case aO => exact (by (with_reducible repeat (first | apply Kd.S_alloc | apply Kd.S_drewN | apply Kd.S_drew)); exact Kd.S_mono HO_778000.out (fun k_ hk => ⟨trivial, fun e_ => hk.2 e_⟩)))
    (case aS => exact (below_size (zU HB.out)))
    (case aL => have := LMc12.out; omega)
    intro v784 w16 ho hb hg hat
    rw [← Ny783.out] at ho
    have n0_ := zk (blk_grown (g := gb776) (o := .cells #[.slice none 0 0, .int .i64 0] 50 (0, 0)) (zb BK776.out) hg (Kd.S_ne HO_778000.out BK776.out (by decide)))
    have n1_ := zk (blk_grown (g := gb777) (o := .cells #[u778000, .int .i64 a0] 50 (0, 0)) (zb BK777.out) hg (Kd.S_ne HO_778000.out BK777.out (by decide)))
    have n2_ := zk (hb)
    have n3_ := zk (ho)
    clear BK776
    clear BK777
    clear HB
    clear HO_778000
    clear HO782
    have BK776 := n0_
    have BK777 := n1_
    have HB := n2_
    have HO785 := n3_
    clear n0_ n1_ n2_ n3_
    clear ho hb hg hat
    obtain ⟨Ao18, co18, eo18⟩ := Kd.S_slice HO785.out
    (first | subst eo18 | (injection eo18 with f1_ f2_ f3_; have f4_ := f1_.symm; have f5_ := f3_.symm; clear f1_ f2_ f3_; subst f4_; subst f5_))
    refine hK.out _ _ ⟨(blk_cell BK777.out 0).trans rfl, (blk_cell BK777.out 1).trans rfl, ((HB.out.cell (World.block_lt_of_cell? w _ hw778_0)).trans hw778_0), ((HB.out.cell (World.block_lt_of_cell? w _ hw779_0)).trans hw779_0)⟩ (fun hHeld => ?_)
    clear hK K
    refine norm_ (a' := ?_) ?_ ?_
    rotate_left
    ·show Act.put _ (some 30) _ = _
     simp only [Act.put, zv, i64_w, i32_w]
     rfl
    refine pure_ (i := 15) (N := some 31) (v := ?_) (a' := ?_) (bz 17 65535) rfl rfl (any_of HT_.out (by kernel_rfl)) zQ (Or.inl ⟨by rfl, ?_⟩) ?_ ?_
    rotate_left
    ·intro w'
     go_simp
     with_reducible rfl
    rotate_left
    ·simp only [Act.put, zv, i64_w, i32_w]
     rfl
    refine last_ (i := 16) (N := none) (bz 17 131071) rfl rfl (one_of HT_.out (by kernel_rfl)) (by decide) (fun K hK => ?_)
    have hs19 : w16.cell? ⟨gb777, 0, none⟩ = some (u778000) := (blk_cell BK777.out 0).trans rfl
    have hfs19 := blk_frozen BK777.out 0
    have hns19_0 := NB776_777.out
    have hms19_0 := NB777_776.out
    refine skip_ (w1 := ?_) (by rfl) rfl ?_ ?_
    rotate_left
    ·go_simp
     rfl
    refine hK.out _ _ ?_
    clear hK K
    refine done_ (done_of HT_.out (by kernel_rfl)) ?_
    try go_wp2
    go_roundg k1
    case measure => have := HK1.out; omega
    case rel => exact ⟨(wrap64 (x6_1 + 2)), (y783), (.slice Ao18 y783.length co18), zR, H', ⟨by have := HK1.out; omega⟩, ⟨by (with_reducible repeat (first | apply Kd.S_alloc | apply Kd.S_drewN | apply Kd.S_drew)); exact Kd.S_mono (Kd.S_far (p := ⟨gb777, 0, none⟩) (Kd.S_types HO785.out BK777.out (by decide)) (fun _ hk => hk.2) (.slice Ao18 y783.length co18)) (fun _ hk => trivial)⟩, ⟨by exact zb BK776.out⟩, ⟨by (with_reducible repeat (first | refine blk_drewN ?_ _ | refine blk_drew ?_ | refine blk_alloc ?_ _)); refine blk_put (cs := #[u778000, .int .i64 a0]) ?_ 0 _ rfl; exact zb BK777.out⟩, ⟨zU HB.out⟩⟩
    ·rw [if_neg c12] at H
    exact absurd H (by simp)
   ·rw [if_neg c11] at H
    exact absurd H (by simp)
   ·rw [if_neg c9] at H
   exact absurd H (by simp)
  ·rw [if_neg c8] at H
   exact absurd H (by simp)
  ·rw [if_neg c7] at H
  have c7b0 : decide ((wrap64 (x6_1 + 1)) < (l1.length : Int)) = false := decide_eq_false c7
  clear c7
  simp only [Option.some.injEq, Prod.mk.injEq] at H
  obtain ⟨rfl, rfl⟩ := H
  have hnb20 := NB777_776.out
  have hnc20 := NB776_777.out
  have hcz21_0 : wr.cell? ⟨gb777, 0, none⟩ = some (u778000) := (blk_cell BK777.out 0).trans rfl
  have hcz21_1 : wr.cell? ⟨gb777, 1, none⟩ = some (.int .i64 a0) := (blk_cell BK777.out 1).trans rfl
  have hfz21_0 := blk_frozen BK777.out 0
  have hfz21_1 := blk_frozen BK777.out 1
  obtain ⟨Ao22, co22, eo22⟩ := Kd.S_slice HO_778000.out
  subst eo22
  have hcz23_0 : wr.cell? ⟨gb776, 0, none⟩ = some (.slice none 0 0) := (blk_cell BK776.out 0).trans rfl
  have hcz23_1 : wr.cell? ⟨gb776, 1, none⟩ = some (.int .i64 0) := (blk_cell BK776.out 1).trans rfl
  have hfz23_0 := blk_frozen BK776.out 0
  have hfz23_1 := blk_frozen BK776.out 1
  go_wp2
  refine bodyPost_ret (results_cell_row rfl _ _ gb776 50 #[.slice Ao22 x778000_1.length co22, .int .i64 a0] (0, 0) _ rfl (by (with_reducible repeat (first | refine blk_drewN ?_ _ | refine blk_drew ?_ | refine blk_alloc ?_ _)); refine blk_put (cs := #[.slice Ao22 x778000_1.length co22, .int .i64 0]) ?_ 1 _ rfl; (with_reducible repeat (first | refine blk_drewN ?_ _ | refine blk_drew ?_ | refine blk_alloc ?_ _)); refine blk_put (cs := #[.slice none 0 0, .int .i64 0]) ?_ 0 _ rfl; exact zb BK776.out) Try.underlying50 rfl (by kernel_rfl)) rfl ?_
  exact ⟨_, by first | rfl | (simp [errW_none, errW_some] <;> rfl) | (simp [*, errW_none, errW_some] <;> rfl), by (with_reducible repeat (first | apply Kd.S_alloc | apply Kd.S_drewN | apply Kd.S_drew)); exact Kd.S_mono (Kd.S_far (p := ⟨gb776, 1, none⟩) (Kd.S_far (p := ⟨gb776, 0, none⟩) (Kd.S_types HO_778000.out BK776.out (by decide)) (fun _ hk => hk.2) (.slice Ao22 x778000_1.length co22)) (fun _ hk => hk.2) (.int .i64 a0)) (fun _ hk => trivial), zU HB.out⟩
def leadtraillaw11_fixed.f (k : Nat)  : Option (Bool) := (leadtraillaw11_shapeOf.f k 0 (([48, 57] : List Int))).bind fun bt789 => ((leadtraillaw11_shapeOf.f k 10 (([64, 65, 48, 57] : List Int))).bind fun bt796 => ((clash_Prefix.f k (([(⟨bt789.1, bt789.2⟩ : S50), (⟨bt796.1, bt796.2⟩ : S50)] : List (S50)))).bind fun bt803 => ((leadtraillaw11_shapeOf.f k 0 (([48, 57] : List Int))).bind fun bt811 => ((leadtraillaw11_shapeOf.f k 10 (([57, 57, 48, 48] : List Int))).bind fun bt818 => ((clash_Prefix.f k (([(⟨bt811.1, bt811.2⟩ : S50), (⟨bt818.1, bt818.2⟩ : S50)] : List (S50)))).bind fun bt825 => (if bt803.2.2.2 = 0 then (if bt825.2.2.2 = 0 then (if (bt803.1 && (bt803.2.1 == 0 && (bt803.2.2.1 == 0))) = true then (if (!bt825.1 && (bt825.2.1 == 9 && (bt825.2.2.1 == 10))) = true then (some true) else (some false)) else (some false)) else (some false)) else (some false)))))))
set_option maxHeartbeats 8000000 in
set_option maxRecDepth 100000 in
theorem leadtraillaw11_fixed.calls (k : Nat)  (r : Bool) (w : World) (h : leadtraillaw11_fixed.f k  = some r) (hr : r = true) :
 Calls Try.prog 59 #[] w fun e w' => e = .returned (.bool r) ∧ Below w.heap.size w w' := by
 have hu24 := Try.underlying24
 have hu59 := Try.underlying59
 have HB := zk (Below.refl w.heap.size w)
 have H : ((leadtraillaw11_shapeOf.f k 0 (([48, 57] : List Int))).bind fun bt789 => ((leadtraillaw11_shapeOf.f k 10 (([64, 65, 48, 57] : List Int))).bind fun bt796 => ((clash_Prefix.f k (([(⟨bt789.1, bt789.2⟩ : S50), (⟨bt796.1, bt796.2⟩ : S50)] : List (S50)))).bind fun bt803 => ((leadtraillaw11_shapeOf.f k 0 (([48, 57] : List Int))).bind fun bt811 => ((leadtraillaw11_shapeOf.f k 10 (([57, 57, 48, 48] : List Int))).bind fun bt818 => ((clash_Prefix.f k (([(⟨bt811.1, bt811.2⟩ : S50), (⟨bt818.1, bt818.2⟩ : S50)] : List (S50)))).bind fun bt825 => (if bt803.2.2.2 = 0 then (if bt825.2.2.2 = 0 then (if (bt803.1 && (bt803.2.1 == 0 && (bt803.2.2.1 == 0))) = true then (if (!bt825.1 && (bt825.2.1 == 9 && (bt825.2.2.1 == 10))) = true then (some true) else (some false)) else (some false)) else (some false)) else (some false)))))))) = some r := h
 clear h
 obtain ⟨y786, hy786⟩ : ∃ y_ : List Int, y_ = (([48, 57] : List Int)) := ⟨_, rfl⟩
 replace H : ((leadtraillaw11_shapeOf.f k 0 y786).bind fun bt789 => ((leadtraillaw11_shapeOf.f k 10 (([64, 65, 48, 57] : List Int))).bind fun bt796 => ((clash_Prefix.f k (([(⟨bt789.1, bt789.2⟩ : S50), (⟨bt796.1, bt796.2⟩ : S50)] : List (S50)))).bind fun bt803 => ((leadtraillaw11_shapeOf.f k 0 (([48, 57] : List Int))).bind fun bt811 => ((leadtraillaw11_shapeOf.f k 10 (([57, 57, 48, 48] : List Int))).bind fun bt818 => ((clash_Prefix.f k (([(⟨bt811.1, bt811.2⟩ : S50), (⟨bt818.1, bt818.2⟩ : S50)] : List (S50)))).bind fun bt825 => (if bt803.2.2.2 = 0 then (if bt825.2.2.2 = 0 then (if (bt803.1 && (bt803.2.1 == 0 && (bt803.2.2.1 == 0))) = true then (if (!bt825.1 && (bt825.2.1 == 9 && (bt825.2.2.1 == 10))) = true then (some true) else (some false)) else (some false)) else (some false)) else (some false)))))))) = some r := by first | (rw [hy786]; with_reducible exact H) | (have H2_ := (Option.bind_some _ _).symm.trans H; rw [hy786]; with_reducible exact H2_) | (have H2_ := (Option.bind_some _ _).symm.trans H; with_reducible exact H2_) | with_reducible exact H | (rw [hy786]; exact H) | exact H
 have Ny786 := zk hy786
 clear hy786
 replace H := Option.bind_eq_some_iff.mp H
 obtain ⟨⟨t789, t792⟩, A10, H⟩ := H
 replace H : ((leadtraillaw11_shapeOf.f k 10 (([64, 65, 48, 57] : List Int))).bind fun bt796 => ((clash_Prefix.f k (([(⟨t789, t792⟩ : S50), (⟨bt796.1, bt796.2⟩ : S50)] : List (S50)))).bind fun bt803 => ((leadtraillaw11_shapeOf.f k 0 (([48, 57] : List Int))).bind fun bt811 => ((leadtraillaw11_shapeOf.f k 10 (([57, 57, 48, 48] : List Int))).bind fun bt818 => ((clash_Prefix.f k (([(⟨bt811.1, bt811.2⟩ : S50), (⟨bt818.1, bt818.2⟩ : S50)] : List (S50)))).bind fun bt825 => (if bt803.2.2.2 = 0 then (if bt825.2.2.2 = 0 then (if (bt803.1 && (bt803.2.1 == 0 && (bt803.2.2.1 == 0))) = true then (if (!bt825.1 && (bt825.2.1 == 9 && (bt825.2.2.1 == 10))) = true then (some true) else (some false)) else (some false)) else (some false)) else (some false))))))) = some r := H
 have A1 := zk A10
 clear A10
 obtain ⟨y793, hy793⟩ : ∃ y_ : List Int, y_ = (([64, 65, 48, 57] : List Int)) := ⟨_, rfl⟩
 replace H : ((leadtraillaw11_shapeOf.f k 10 y793).bind fun bt796 => ((clash_Prefix.f k (([(⟨t789, t792⟩ : S50), (⟨bt796.1, bt796.2⟩ : S50)] : List (S50)))).bind fun bt803 => ((leadtraillaw11_shapeOf.f k 0 (([48, 57] : List Int))).bind fun bt811 => ((leadtraillaw11_shapeOf.f k 10 (([57, 57, 48, 48] : List Int))).bind fun bt818 => ((clash_Prefix.f k (([(⟨bt811.1, bt811.2⟩ : S50), (⟨bt818.1, bt818.2⟩ : S50)] : List (S50)))).bind fun bt825 => (if bt803.2.2.2 = 0 then (if bt825.2.2.2 = 0 then (if (bt803.1 && (bt803.2.1 == 0 && (bt803.2.2.1 == 0))) = true then (if (!bt825.1 && (bt825.2.1 == 9 && (bt825.2.2.1 == 10))) = true then (some true) else (some false)) else (some false)) else (some false)) else (some false))))))) = some r := by first | (rw [hy793]; with_reducible exact H) | (have H2_ := (Option.bind_some _ _).symm.trans H; rw [hy793]; with_reducible exact H2_) | (have H2_ := (Option.bind_some _ _).symm.trans H; with_reducible exact H2_) | with_reducible exact H | (rw [hy793]; exact H) | exact H
 have Ny793 := zk hy793
 clear hy793
 replace H := Option.bind_eq_some_iff.mp H
 obtain ⟨⟨t796, t799⟩, A20, H⟩ := H
 replace H : ((clash_Prefix.f k (([(⟨t789, t792⟩ : S50), (⟨t796, t799⟩ : S50)] : List (S50)))).bind fun bt803 => ((leadtraillaw11_shapeOf.f k 0 (([48, 57] : List Int))).bind fun bt811 => ((leadtraillaw11_shapeOf.f k 10 (([57, 57, 48, 48] : List Int))).bind fun bt818 => ((clash_Prefix.f k (([(⟨bt811.1, bt811.2⟩ : S50), (⟨bt818.1, bt818.2⟩ : S50)] : List (S50)))).bind fun bt825 => (if bt803.2.2.2 = 0 then (if bt825.2.2.2 = 0 then (if (bt803.1 && (bt803.2.1 == 0 && (bt803.2.2.1 == 0))) = true then (if (!bt825.1 && (bt825.2.1 == 9 && (bt825.2.2.1 == 10))) = true then (some true) else (some false)) else (some false)) else (some false)) else (some false)))))) = some r := H
 have A2 := zk A20
 clear A20
 obtain ⟨y800, hy800⟩ : ∃ y_ : List (S50), y_ = (([(⟨t789, t792⟩ : S50), (⟨t796, t799⟩ : S50)] : List (S50))) := ⟨_, rfl⟩
 replace H : ((clash_Prefix.f k y800).bind fun bt803 => ((leadtraillaw11_shapeOf.f k 0 (([48, 57] : List Int))).bind fun bt811 => ((leadtraillaw11_shapeOf.f k 10 (([57, 57, 48, 48] : List Int))).bind fun bt818 => ((clash_Prefix.f k (([(⟨bt811.1, bt811.2⟩ : S50), (⟨bt818.1, bt818.2⟩ : S50)] : List (S50)))).bind fun bt825 => (if bt803.2.2.2 = 0 then (if bt825.2.2.2 = 0 then (if (bt803.1 && (bt803.2.1 == 0 && (bt803.2.2.1 == 0))) = true then (if (!bt825.1 && (bt825.2.1 == 9 && (bt825.2.2.1 == 10))) = true then (some true) else (some false)) else (some false)) else (some false)) else (some false)))))) = some r := by first | (rw [hy800]; with_reducible exact H) | (have H2_ := (Option.bind_some _ _).symm.trans H; rw [hy800]; with_reducible exact H2_) | (have H2_ := (Option.bind_some _ _).symm.trans H; with_reducible exact H2_) | with_reducible exact H | (rw [hy800]; exact H) | exact H
 have Ny800 := zk hy800
 clear hy800
 replace H := Option.bind_eq_some_iff.mp H
 obtain ⟨⟨t803, t804, t805, t806⟩, A30, H⟩ := H
 replace H : ((leadtraillaw11_shapeOf.f k 0 (([48, 57] : List Int))).bind fun bt811 => ((leadtraillaw11_shapeOf.f k 10 (([57, 57, 48, 48] : List Int))).bind fun bt818 => ((clash_Prefix.f k (([(⟨bt811.1, bt811.2⟩ : S50), (⟨bt818.1, bt818.2⟩ : S50)] : List (S50)))).bind fun bt825 => (if t806 = 0 then (if bt825.2.2.2 = 0 then (if (t803 && (t804 == 0 && (t805 == 0))) = true then (if (!bt825.1 && (bt825.2.1 == 9 && (bt825.2.2.1 == 10))) = true then (some true) else (some false)) else (some false)) else (some false)) else (some false))))) = some r := H
 have A3 := zk A30
 clear A30
 obtain ⟨y808, hy808⟩ : ∃ y_ : List Int, y_ = (([48, 57] : List Int)) := ⟨_, rfl⟩
 replace H : ((leadtraillaw11_shapeOf.f k 0 y808).bind fun bt811 => ((leadtraillaw11_shapeOf.f k 10 (([57, 57, 48, 48] : List Int))).bind fun bt818 => ((clash_Prefix.f k (([(⟨bt811.1, bt811.2⟩ : S50), (⟨bt818.1, bt818.2⟩ : S50)] : List (S50)))).bind fun bt825 => (if t806 = 0 then (if bt825.2.2.2 = 0 then (if (t803 && (t804 == 0 && (t805 == 0))) = true then (if (!bt825.1 && (bt825.2.1 == 9 && (bt825.2.2.1 == 10))) = true then (some true) else (some false)) else (some false)) else (some false)) else (some false))))) = some r := by first | (rw [hy808]; with_reducible exact H) | (have H2_ := (Option.bind_some _ _).symm.trans H; rw [hy808]; with_reducible exact H2_) | (have H2_ := (Option.bind_some _ _).symm.trans H; with_reducible exact H2_) | with_reducible exact H | (rw [hy808]; exact H) | exact H
 have Ny808 := zk hy808
 clear hy808
 replace H := Option.bind_eq_some_iff.mp H
 obtain ⟨⟨t811, t814⟩, A40, H⟩ := H
 replace H : ((leadtraillaw11_shapeOf.f k 10 (([57, 57, 48, 48] : List Int))).bind fun bt818 => ((clash_Prefix.f k (([(⟨t811, t814⟩ : S50), (⟨bt818.1, bt818.2⟩ : S50)] : List (S50)))).bind fun bt825 => (if t806 = 0 then (if bt825.2.2.2 = 0 then (if (t803 && (t804 == 0 && (t805 == 0))) = true then (if (!bt825.1 && (bt825.2.1 == 9 && (bt825.2.2.1 == 10))) = true then (some true) else (some false)) else (some false)) else (some false)) else (some false)))) = some r := H
 have A4 := zk A40
 clear A40
 obtain ⟨y815, hy815⟩ : ∃ y_ : List Int, y_ = (([57, 57, 48, 48] : List Int)) := ⟨_, rfl⟩
 replace H : ((leadtraillaw11_shapeOf.f k 10 y815).bind fun bt818 => ((clash_Prefix.f k (([(⟨t811, t814⟩ : S50), (⟨bt818.1, bt818.2⟩ : S50)] : List (S50)))).bind fun bt825 => (if t806 = 0 then (if bt825.2.2.2 = 0 then (if (t803 && (t804 == 0 && (t805 == 0))) = true then (if (!bt825.1 && (bt825.2.1 == 9 && (bt825.2.2.1 == 10))) = true then (some true) else (some false)) else (some false)) else (some false)) else (some false)))) = some r := by first | (rw [hy815]; with_reducible exact H) | (have H2_ := (Option.bind_some _ _).symm.trans H; rw [hy815]; with_reducible exact H2_) | (have H2_ := (Option.bind_some _ _).symm.trans H; with_reducible exact H2_) | with_reducible exact H | (rw [hy815]; exact H) | exact H
 have Ny815 := zk hy815
 clear hy815
 replace H := Option.bind_eq_some_iff.mp H
 obtain ⟨⟨t818, t821⟩, A50, H⟩ := H
 replace H : ((clash_Prefix.f k (([(⟨t811, t814⟩ : S50), (⟨t818, t821⟩ : S50)] : List (S50)))).bind fun bt825 => (if t806 = 0 then (if bt825.2.2.2 = 0 then (if (t803 && (t804 == 0 && (t805 == 0))) = true then (if (!bt825.1 && (bt825.2.1 == 9 && (bt825.2.2.1 == 10))) = true then (some true) else (some false)) else (some false)) else (some false)) else (some false))) = some r := H
 have A5 := zk A50
 clear A50
 obtain ⟨y822, hy822⟩ : ∃ y_ : List (S50), y_ = (([(⟨t811, t814⟩ : S50), (⟨t818, t821⟩ : S50)] : List (S50))) := ⟨_, rfl⟩
 replace H : ((clash_Prefix.f k y822).bind fun bt825 => (if t806 = 0 then (if bt825.2.2.2 = 0 then (if (t803 && (t804 == 0 && (t805 == 0))) = true then (if (!bt825.1 && (bt825.2.1 == 9 && (bt825.2.2.1 == 10))) = true then (some true) else (some false)) else (some false)) else (some false)) else (some false))) = some r := by first | (rw [hy822]; with_reducible exact H) | (have H2_ := (Option.bind_some _ _).symm.trans H; rw [hy822]; with_reducible exact H2_) | (have H2_ := (Option.bind_some _ _).symm.trans H; with_reducible exact H2_) | with_reducible exact H | (rw [hy822]; exact H) | exact H
 have Ny822 := zk hy822
 clear hy822
 replace H := Option.bind_eq_some_iff.mp H
 obtain ⟨⟨t825, t826, t827, t828⟩, A60, H⟩ := H
 replace H : (if t806 = 0 then (if t828 = 0 then (if (t803 && (t804 == 0 && (t805 == 0))) = true then (if (!t825 && (t826 == 9 && (t827 == 10))) = true then (some true) else (some false)) else (some false)) else (some false)) else (some false)) = some r := H
 have A6 := zk A60
 clear A60
 by_cases c7 : t806 = 0
 ·rw [if_pos c7] at H
 have c7b0 : (t806 == 0) = true := beq_iff_eq.mpr c7
 have c7b1 : (t806 != 0) = false := bne_eq_false_iff_eq.mpr c7
 clear c7
 by_cases c8 : t828 = 0
 ·rw [if_pos c8] at H
  have c8b0 : (t828 == 0) = true := beq_iff_eq.mpr c8
  have c8b1 : (t828 != 0) = false := bne_eq_false_iff_eq.mpr c8
  clear c8
  by_cases c9 : (t803 && (t804 == 0 && (t805 == 0))) = true
  ·rw [if_pos c9] at H
  have c9b0 : (t803 && (t804 == 0 && (t805 == 0))) = true := c9
  clear c9
  by_cases c10 : (!t825 && (t826 == 9 && (t827 == 10))) = true
  ·rw [if_pos c10] at H
   have c10b0 : (!t825 && (t826 == 9 && (t827 == 10))) = true := c10
   clear c10
   obtain rfl := Option.some.inj H
   go_enter Try.func59, Try.ntmps59
   go_wp2_with (first | ((with_reducible refine gate_dst (N := 6) rfl ?_); refine Kd.R_lit (Kd.int .i64) _ 3 ?hg (N := 6) ?hd (xs := ([48, 57] : List Int)) (inner := [.int .i64 48, .int .i64 57]) (ok := fun _ => True) (okp := fun _ => True) ?hr ?hp (fun _ hk => hk) trivial (Below.refl _ _) (Nat.le_refl _) (by simp) ?_; (case hd => rfl); (case hg => rfl); (case hr => first | (go_simp; done) | (go_simp; rfl)); (case hp => exact (Reps.one (show Kd.M (Kd.int .i64) _ _ _ 48 [.int .i64 48] from rfl) (Reps.one (show Kd.M (Kd.int .i64) _ _ _ 57 [.int .i64 57] from rfl) (Reps.none _ _)))); intro v787 w11 ho12 hb hg_ hnew_; clear hg_ hnew_; (first | rw [← Ny786.out] at ho12 | (simp only [Int.reduceToNat] at ho12; rw [← Ny786.out] at ho12)); have n0_ := zk (Kd.R_lower ho12 (below_size (zU HB.out))); have n1_ := zk (below_step (zU HB.out) hb); clear HB; have HO788 := n0_; have HB := n1_; clear n0_ n1_; clear hb ho12; obtain ⟨Ao13, co13, eo13⟩ := Kd.R_slice HO788.out; subst eo13) | ((with_reducible refine gate_callee (f := 106) rfl ?_); refine goesL_ (some 7) rfl rfl Try.func106 (by kernel_rfl) rfl #[.int .i64 0, .slice Ao13 y786.length co13] rfl zM ?_; (with_reducible refine (leadtraillaw11_shapeOf.calls k 0 _ _ y786 t789 t792 _ ?side1 ?side2 A1.out).mono ?_); (case side1 => repeat (first | exact (Kd.R_reads' HO788.out).2.2 | (with_reducible refine Kd.C_alloc ?_ _) | (with_reducible refine Kd.C_drewN ?_ _) | (with_reducible refine Kd.C_drew ?_))); (case side2 => exact (Kd.R_reads' HO788.out).2.1); rintro e w14 ⟨v790, rfl, ho0, hb⟩; refine ⟨_, rfl, ?_⟩; have n0_ := zk (Kd.R_below (zr HO788.out) hb); have n1_ := zk (Kd.N_lower (Kd.N_mono (ok' := fun k_ => some k_ ≠ (.slice Ao13 y786.length co13 : Value).ownBlock) (Kd.S_N (Kd.S_bound ho0)) (fun k_ hk_ => (Kd.fresh' (Kd.R_lt (zr HO788.out)) k_ hk_.2.1))) (below_size (zU HB.out))); have n2_ := zk (below_step (zU HB.out) hb); clear HO788; clear HB; have HO788 := n0_; have HO791 := n1_; have HB := n2_; clear n0_ n1_ n2_; (try clear hb); (try clear hb2); (try clear hk); (try clear hi); (try clear ho0)) | ((with_reducible refine gate_dst (N := 8) rfl ?_); refine Kd.R_lit (Kd.int .i64) _ 3 ?hg (N := 8) ?hd (xs := ([64, 65, 48, 57] : List Int)) (inner := [.int .i64 64, .int .i64 65, .int .i64 48, .int .i64 57]) (ok := fun _ => True) (okp := fun _ => True) ?hr ?hp (fun _ hk => hk) trivial (Below.refl _ _) (Nat.le_refl _) (by simp) ?_; (case hd => rfl); (case hg => rfl); (case hr => first | (go_simp; done) | (go_simp; rfl)); (case hp => exact (Reps.one (show Kd.M (Kd.int .i64) _ _ _ 64 [.int .i64 64] from rfl) (Reps.one (show Kd.M (Kd.int .i64) _ _ _ 65 [.int .i64 65] from rfl) (Reps.one (show Kd.M (Kd.int .i64) _ _ _ 48 [.int .i64 48] from rfl) (Reps.one (show Kd.M (Kd.int .i64) _ _ _ 57 [.int .i64 57] from rfl) (Reps.none _ _)))))); intro v794 w15 ho16 hb hg_ hnew_; clear hg_ hnew_; (first | rw [← Ny793.out] at ho16 | (simp only [Int.reduceToNat] at ho16; rw [← Ny793.out] at ho16)); have n0_ := zk (Kd.R_elder' (zr HO788.out) (Kd.R_base ho16) hb); have n1_ := zk (Kd.N_elder' (zn HO791.out) (Kd.R_base ho16) hb); have n2_ := zk (Kd.R_lower (Kd.R_new' ho16 (Kd.R_lt (zr HO788.out))) (below_size (zU HB.out))); have n3_ := zk (below_step (zU HB.out) hb); clear HO788; clear HO791; clear HB; have HO788 := n0_; have HO791 := n1_; have HO795 := n2_; have HB := n3_; clear n0_ n1_ n2_ n3_; clear hb ho16; obtain ⟨Ao17, co17, eo17⟩ := Kd.R_slice HO795.out; subst eo17) | ((with_reducible refine gate_callee (f := 106) rfl ?_); refine goesL_ (some 9) rfl rfl Try.func106 (by kernel_rfl) rfl #[.int .i64 10, .slice Ao17 y793.length co17] rfl zM ?_; (with_reducible refine (leadtraillaw11_shapeOf.calls k 10 _ _ y793 t796 t799 _ ?side1 ?side2 A2.out).mono ?_); (case side1 => repeat (first | exact (Kd.R_reads' HO795.out).2.2 | (with_reducible refine Kd.C_alloc ?_ _) | (with_reducible refine Kd.C_drewN ?_ _) | (with_reducible refine Kd.C_drew ?_))); (case side2 => exact (Kd.R_reads' HO795.out).2.1); rintro e w18 ⟨v797, rfl, ho0, hb⟩; refine ⟨_, rfl, ?_⟩; have n0_ := zk (Kd.R_below (zr HO788.out) hb); have n1_ := zk (Kd.N_elder' (zn HO791.out) (Kd.S_base ho0) hb); have n2_ := zk (Kd.R_below (zr HO795.out) hb); have n3_ := zk (Kd.N_lower (Kd.N_mono (ok' := fun k_ => some k_ ≠ (.slice Ao13 y786.length co13 : Value).ownBlock ∧ some k_ ≠ (v790 : Value).ownBlock ∧ some k_ ≠ (.slice Ao17 y793.length co17 : Value).ownBlock) (Kd.S_N (Kd.S_bound ho0)) (fun k_ hk_ => ⟨(Kd.fresh' (Kd.R_lt (zr HO788.out)) k_ hk_.2.1), (Kd.fresh' (Kd.N_lt (zn HO791.out)) k_ hk_.2.1), (Kd.fresh' (Kd.R_lt (zr HO795.out)) k_ hk_.2.1)⟩)) (below_size (zU HB.out))); have n4_ := zk (below_step (zU HB.out) hb); clear HO788; clear HO791; clear HO795; clear HB; have HO788 := n0_; have HO791 := n1_; have HO795 := n2_; have HO798 := n3_; have HB := n4_; clear n0_ n1_ n2_ n3_ n4_; (try clear hb); (try clear hb2); (try clear hk); (try clear hi); (try clear ho0); obtain ⟨Ao19, co19, eo19⟩ := Kd.N_slice HO791.out; subst eo19; obtain ⟨Ao20, co20, eo20⟩ := Kd.N_slice HO798.out; subst eo20) | ((with_reducible refine gate_dst (N := 10) rfl ?_); refine Kd.N_lit k50 _ 50 ?hg (N' := 10) ?hd (xs := ([(⟨t789, t792⟩ : S50), (⟨t796, t799⟩ : S50)] : List (S50))) (inner := [.slice Ao19 t789.length co19, .int .i64 t792, .slice Ao20 t796.length co20, .int .i64 t799]) (ok := (fun k_ => some k_ ≠ (.slice Ao13 y786.length co13 : Value).ownBlock ∧ some k_ ≠ (.slice Ao17 y793.length co17 : Value).ownBlock)) (okp := (fun k_ => some k_ ≠ (.slice Ao13 y786.length co13 : Value).ownBlock ∧ some k_ ≠ (.slice Ao17 y793.length co17 : Value).ownBlock)) ?hr ?hp (fun _ hk => hk) ((show ∀ k_, w18.heap.size ≤ k_ → (fun k_ => some k_ ≠ (.slice Ao13 y786.length co13 : Value).ownBlock ∧ some k_ ≠ (.slice Ao17 y793.length co17 : Value).ownBlock) k_ from fun k_ hk => ⟨Kd.fresh' (Kd.R_lt (zr HO788.out)) k_ hk, Kd.fresh' (Kd.R_lt (zr HO795.out)) k_ hk⟩) _ (Nat.le_refl _)) (Below.refl _ _) (Nat.le_refl _) (by simp) ?_; (case hd => rfl); (case hg => rfl); (case hr => first | (go_simp; done) | (go_simp; rfl)); (case hp => exact (Reps.c2 (show Kd.FK k50 _ _ (⟨t789, t792⟩ : S50) [.slice Ao19 t789.length co19, .int .i64 t792] from (k50_mkF _ _ (⟨t789, t792⟩ : S50) (Kd.N_reads' (Kd.N_mono (ok' := (fun k_ => some k_ ≠ (.slice Ao13 y786.length co13 : Value).ownBlock ∧ some k_ ≠ (.slice Ao17 y793.length co17 : Value).ownBlock)) (HO791.out) (fun k_ hk => ⟨hk.1.1, hk.1.2⟩))).2.1 (Kd.N_F (Kd.N_mono (ok' := (fun k_ => some k_ ≠ (.slice Ao13 y786.length co13 : Value).ownBlock ∧ some k_ ≠ (.slice Ao17 y793.length co17 : Value).ownBlock)) (HO791.out) (fun k_ hk => ⟨hk.1.1, hk.1.2⟩))))) (Reps.c2 (show Kd.FK k50 _ _ (⟨t796, t799⟩ : S50) [.slice Ao20 t796.length co20, .int .i64 t799] from (k50_mkF _ _ (⟨t796, t799⟩ : S50) (Kd.N_reads' (Kd.N_mono (ok' := (fun k_ => some k_ ≠ (.slice Ao13 y786.length co13 : Value).ownBlock ∧ some k_ ≠ (.slice Ao17 y793.length co17 : Value).ownBlock)) (HO798.out) (fun k_ hk => ⟨hk.1, hk.2.2⟩))).2.1 (Kd.N_F (Kd.N_mono (ok' := (fun k_ => some k_ ≠ (.slice Ao13 y786.length co13 : Value).ownBlock ∧ some k_ ≠ (.slice Ao17 y793.length co17 : Value).ownBlock)) (HO798.out) (fun k_ hk => ⟨hk.1, hk.2.2⟩))))) (Reps.none _ _)))); intro v801 w21 ho22 hb hg_ hnew_; clear hg_ hnew_; (first | rw [← Ny800.out] at ho22 | (simp only [Int.reduceToNat] at ho22; rw [← Ny800.out] at ho22)); have n0_ := zk (Kd.R_below (zr HO788.out) hb); have n1_ := zk (Kd.R_below (zr HO795.out) hb); have n2_ := zk (Kd.N_lower ho22 (below_size (zU HB.out))); have n3_ := zk (below_step (zU HB.out) hb); clear HO788; clear HO795; clear HB; clear HO791; clear HO798; have HO788 := n0_; have HO795 := n1_; have HO802 := n2_; have HB := n3_; clear n0_ n1_ n2_ n3_; clear hb ho22; obtain ⟨Ao23, co23, eo23⟩ := Kd.N_slice HO802.out; subst eo23) | ((with_reducible refine gate_callee (f := 62) rfl ?_); refine goesL_ (some 12) rfl rfl Try.func62 (by kernel_rfl) rfl #[.agg #[.slice Ao23 y800.length co23]] rfl zM ?_; (with_reducible refine (clash_Prefix.calls k _ _ y800 t803 t804 t805 t806 _ ?side1 ?side2 A3.out).mono ?_); (case side1 => repeat (first | exact (Kd.N_reads' HO802.out).2.2 | (with_reducible refine Kd.C_alloc ?_ _) | (with_reducible refine Kd.C_drewN ?_ _) | (with_reducible refine Kd.C_drew ?_))); (case side2 => exact (Kd.N_reads' HO802.out).2.1); rintro e w24 ⟨rfl, hb⟩; refine ⟨_, rfl, ?_⟩; have n0_ := zk (Kd.R_below (zr HO788.out) hb); have n1_ := zk (Kd.R_below (zr HO795.out) hb); have n2_ := zk (Kd.N_below (zn HO802.out) hb); have n3_ := zk (below_step (zU HB.out) hb); clear HO788; clear HO795; clear HO802; clear HB; have HO788 := n0_; have HO795 := n1_; have HO802 := n2_; have HB := n3_; clear n0_ n1_ n2_ n3_; (try clear hb); (try clear hb2); (try clear hk); (try clear hi)) | ((with_reducible refine gate_dst (N := 1) rfl ?_); refine box_event ?hg (N := 1) ?hd (cs := #[.bool false, .int .i64 0, .int .i64 0]) (t := 59) ?hr ?_; (case hd => rfl); (case hg => rfl); (case hr => first | (go_simp; done) | (go_simp; rfl)); intro gb807 hg w25 hbox hb; have n0_ := zk (Kd.R_below (zr HO788.out) hb); have n1_ := zk (Kd.R_below (zr HO795.out) hb); have n2_ := zk (Kd.N_below (Kd.N_elderB (zn HO802.out) gb807 (Nat.le_of_eq hg.symm)) hb); have n3_ := zk (below_step (zU HB.out) hb); have n4_ := zk (hbox); have n5_ := zk ((by rw [hg]; exact (below_size (zU HB.out)) : w.heap.size ≤ gb807)); have n6_ := zk ((by rw [hg]; exact (below_size (zU HB.out)) : w.heap.size ≤ gb807)); clear HO788; clear HO795; clear HO802; clear HB; have HO788 := n0_; have HO795 := n1_; have HO802 := n2_; have HB := n3_; have BK807 := n4_; have GW807 := n5_; have GE807 := n6_; clear n0_ n1_ n2_ n3_ n4_ n5_ n6_; clear hb hbox hg; have hcz26_0 : w25.cell? ⟨gb807, 0, none⟩ = some (.bool false) := (blk_cell BK807.out 0).trans rfl; have hcz26_1 : w25.cell? ⟨gb807, 1, none⟩ = some (.int .i64 0) := (blk_cell BK807.out 1).trans rfl; have hcz26_2 : w25.cell? ⟨gb807, 2, none⟩ = some (.int .i64 0) := (blk_cell BK807.out 2).trans rfl; have hfz26_0 := blk_frozen BK807.out 0; have hfz26_1 := blk_frozen BK807.out 1; have hfz26_2 := blk_frozen BK807.out 2) | ((with_reducible refine gate_dst (N := 16) rfl ?_); refine Kd.R_lit (Kd.int .i64) _ 3 ?hg (N := 16) ?hd (xs := ([48, 57] : List Int)) (inner := [.int .i64 48, .int .i64 57]) (ok := fun _ => True) (okp := fun _ => True) ?hr ?hp (fun _ hk => hk) trivial (Below.refl _ _) (Nat.le_refl _) (by simp) ?_; (case hd => rfl); (case hg => rfl); (case hr => first | (go_simp; done) | (go_simp; rfl)); (case hp => exact (Reps.one (show Kd.M (Kd.int .i64) _ _ _ 48 [.int .i64 48] from rfl) (Reps.one (show Kd.M (Kd.int .i64) _ _ _ 57 [.int .i64 57] from rfl) (Reps.none _ _)))); intro v809 w27 ho28 hb hg_ hnew_; clear hg_ hnew_; (first | rw [← Ny808.out] at ho28 | (simp only [Int.reduceToNat] at ho28; rw [← Ny808.out] at ho28)); have n0_ := zk (Kd.R_elder' (by (with_reducible repeat (first | apply zA | apply zB | apply zC)); exact (Kd.R_mono (Kd.R_far (p := ⟨gb807, 2, none⟩) (Kd.R_far (p := ⟨gb807, 1, none⟩) (Kd.R_far (p := ⟨gb807, 0, none⟩) (Kd.R_types HO788.out BK807.out (by decide)) (fun _ hk => hk.2) (.bool t803)) (fun _ hk => hk.2) (.int .i64 t804)) (fun _ hk => hk.2) (.int .i64 t805)) (fun _ h_ => h_.1))) (Kd.R_base ho28) hb); have n1_ := zk (Kd.R_elder' (by (with_reducible repeat (first | apply zA | apply zB | apply zC)); exact (Kd.R_mono (Kd.R_far (p := ⟨gb807, 2, none⟩) (Kd.R_far (p := ⟨gb807, 1, none⟩) (Kd.R_far (p := ⟨gb807, 0, none⟩) (Kd.R_types HO795.out BK807.out (by decide)) (fun _ hk => hk.2) (.bool t803)) (fun _ hk => hk.2) (.int .i64 t804)) (fun _ hk => hk.2) (.int .i64 t805)) (fun _ h_ => h_.1))) (Kd.R_base ho28) hb); have n2_ := zk (Kd.N_elder' (by (with_reducible repeat (first | apply Kd.N_alloc | apply Kd.N_drewN | apply Kd.N_drew)); exact (Kd.N_mono (Kd.N_far (p := ⟨gb807, 2, none⟩) (Kd.N_far (p := ⟨gb807, 1, none⟩) (Kd.N_far (p := ⟨gb807, 0, none⟩) (Kd.N_mono HO802.out (fun k_ hk => (⟨hk, hk.2⟩ : _ ∧ k_ ≠ gb807))) (fun _ hk => hk.2) (.bool t803)) (fun _ hk => hk.2) (.int .i64 t804)) (fun _ hk => hk.2) (.int .i64 t805)) (fun _ h_ => h_.1))) (Kd.R_base ho28) hb); have n3_ := zk (Kd.R_lower (Kd.R_new' (Kd.R_new' ho28 (Kd.R_lt (by (with_reducible repeat (first | apply zA | apply zB | apply zC)); exact (Kd.R_mono (Kd.R_far (p := ⟨gb807, 2, none⟩) (Kd.R_far (p := ⟨gb807, 1, none⟩) (Kd.R_far (p := ⟨gb807, 0, none⟩) (Kd.R_types HO788.out BK807.out (by decide)) (fun _ hk => hk.2) (.bool t803)) (fun _ hk => hk.2) (.int .i64 t804)) (fun _ hk => hk.2) (.int .i64 t805)) (fun _ h_ => h_.1))))) (Kd.R_lt (by (with_reducible repeat (first | apply zA | apply zB | apply zC)); exact (Kd.R_mono (Kd.R_far (p := ⟨gb807, 2, none⟩) (Kd.R_far (p := ⟨gb807, 1, none⟩) (Kd.R_far (p := ⟨gb807, 0, none⟩) (Kd.R_types HO795.out BK807.out (by decide)) (fun _ hk => hk.2) (.bool t803)) (fun _ hk => hk.2) (.int .i64 t804)) (fun _ hk => hk.2) (.int .i64 t805)) (fun _ h_ => h_.1))))) (below_size (zU HB.out))); have n4_ := zk (blk_below (g := gb807) (o := .cells #[.bool t803, .int .i64 t804, .int .i64 t805] 59 (0, 0)) (by (with_reducible repeat (first | refine blk_drewN ?_ _ | refine blk_drew ?_ | refine blk_alloc ?_ _)); refine blk_put (cs := #[.bool t803, .int .i64 t804, .int .i64 0]) ?_ 2 _ rfl; (with_reducible repeat (first | refine blk_drewN ?_ _ | refine blk_drew ?_ | refine blk_alloc ?_ _)); refine blk_put (cs := #[.bool t803, .int .i64 0, .int .i64 0]) ?_ 1 _ rfl; (with_reducible repeat (first | refine blk_drewN ?_ _ | refine blk_drew ?_ | refine blk_alloc ?_ _)); refine blk_put (cs := #[.bool false, .int .i64 0, .int .i64 0]) ?_ 0 _ rfl; exact zb BK807.out) hb); have n5_ := zk (below_step (zU HB.out) hb); clear HO788; clear HO795; clear HO802; clear BK807; clear HB; have HO788 := n0_; have HO795 := n1_; have HO802 := n2_; have HO810 := n3_; have BK807 := n4_; have HB := n5_; clear n0_ n1_ n2_ n3_ n4_ n5_; clear hb ho28; obtain ⟨Ao29, co29, eo29⟩ := Kd.R_slice HO810.out; subst eo29) | ((with_reducible refine gate_callee (f := 106) rfl ?_); refine goesL_ (some 17) rfl rfl Try.func106 (by kernel_rfl) rfl #[.int .i64 0, .slice Ao29 y808.length co29] rfl zM ?_; (with_reducible refine (leadtraillaw11_shapeOf.calls k 0 _ _ y808 t811 t814 _ ?side1 ?side2 A4.out).mono ?_); (case side1 => repeat (first | exact (Kd.R_reads' HO810.out).2.2 | (with_reducible refine Kd.C_alloc ?_ _) | (with_reducible refine Kd.C_drewN ?_ _) | (with_reducible refine Kd.C_drew ?_))); (case side2 => exact (Kd.R_reads' HO810.out).2.1); rintro e w30 ⟨v812, rfl, ho0, hb⟩; refine ⟨_, rfl, ?_⟩; have n0_ := zk (Kd.R_below (zr HO788.out) hb); have n1_ := zk (Kd.R_below (zr HO795.out) hb); have n2_ := zk (Kd.N_elder' (zn HO802.out) (Kd.S_base ho0) hb); have n3_ := zk (Kd.R_below (zr HO810.out) hb); have n4_ := zk (Kd.N_lower (Kd.N_mono (ok' := fun k_ => some k_ ≠ (.slice Ao13 y786.length co13 : Value).ownBlock ∧ some k_ ≠ (.slice Ao17 y793.length co17 : Value).ownBlock ∧ some k_ ≠ (.slice Ao23 y800.length co23 : Value).ownBlock ∧ some k_ ≠ (.slice Ao29 y808.length co29 : Value).ownBlock ∧ k_ ≠ gb807) (Kd.S_N (Kd.S_bound ho0)) (fun k_ hk_ => ⟨(Kd.fresh' (Kd.R_lt (zr HO788.out)) k_ hk_.2.1), (Kd.fresh' (Kd.R_lt (zr HO795.out)) k_ hk_.2.1), (Kd.fresh' (Kd.N_lt (zn HO802.out)) k_ hk_.2.1), (Kd.fresh' (Kd.R_lt (zr HO810.out)) k_ hk_.2.1), (Kd.freshB (g := gb807) (o := .cells #[.bool t803, .int .i64 t804, .int .i64 t805] 59 (0, 0)) (zb BK807.out) k_ hk_.2.1)⟩)) (below_size (zU HB.out))); have n5_ := zk (zbb BK807.out hb); have n6_ := zk (below_step (zU HB.out) hb); clear HO788; clear HO795; clear HO802; clear HO810; clear BK807; clear HB; have HO788 := n0_; have HO795 := n1_; have HO802 := n2_; have HO810 := n3_; have HO813 := n4_; have BK807 := n5_; have HB := n6_; clear n0_ n1_ n2_ n3_ n4_ n5_ n6_; (try clear hb); (try clear hb2); (try clear hk); (try clear hi); (try clear ho0)) | ((with_reducible refine gate_dst (N := 18) rfl ?_); refine Kd.R_lit (Kd.int .i64) _ 3 ?hg (N := 18) ?hd (xs := ([57, 57, 48, 48] : List Int)) (inner := [.int .i64 57, .int .i64 57, .int .i64 48, .int .i64 48]) (ok := fun _ => True) (okp := fun _ => True) ?hr ?hp (fun _ hk => hk) trivial (Below.refl _ _) (Nat.le_refl _) (by simp) ?_; (case hd => rfl); (case hg => rfl); (case hr => first | (go_simp; done) | (go_simp; rfl)); (case hp => exact (Reps.one (show Kd.M (Kd.int .i64) _ _ _ 57 [.int .i64 57] from rfl) (Reps.one (show Kd.M (Kd.int .i64) _ _ _ 57 [.int .i64 57] from rfl) (Reps.one (show Kd.M (Kd.int .i64) _ _ _ 48 [.int .i64 48] from rfl) (Reps.one (show Kd.M (Kd.int .i64) _ _ _ 48 [.int .i64 48] from rfl) (Reps.none _ _)))))); intro v816 w31 ho32 hb hg_ hnew_; clear hg_ hnew_; (first | rw [← Ny815.out] at ho32 | (simp only [Int.reduceToNat] at ho32; rw [← Ny815.out] at ho32)); have n0_ := zk (Kd.R_elder' (zr HO788.out) (Kd.R_base ho32) hb); have n1_ := zk (Kd.R_elder' (zr HO795.out) (Kd.R_base ho32) hb); have n2_ := zk (Kd.N_elder' (zn HO802.out) (Kd.R_base ho32) hb); have n3_ := zk (Kd.R_elder' (zr HO810.out) (Kd.R_base ho32) hb); have n4_ := zk (Kd.N_elder' (zn HO813.out) (Kd.R_base ho32) hb); have n5_ := zk (Kd.R_lower (Kd.R_new' (Kd.R_new' (Kd.R_new' ho32 (Kd.R_lt (zr HO788.out))) (Kd.R_lt (zr HO795.out))) (Kd.R_lt (zr HO810.out))) (below_size (zU HB.out))); have n6_ := zk (zbb BK807.out hb); have n7_ := zk (below_step (zU HB.out) hb); clear HO788; clear HO795; clear HO802; clear HO810; clear HO813; clear BK807; clear HB; have HO788 := n0_; have HO795 := n1_; have HO802 := n2_; have HO810 := n3_; have HO813 := n4_; have HO817 := n5_; have BK807 := n6_; have HB := n7_; clear n0_ n1_ n2_ n3_ n4_ n5_ n6_ n7_; clear hb ho32; obtain ⟨Ao33, co33, eo33⟩ := Kd.R_slice HO817.out; subst eo33) | ((with_reducible refine gate_callee (f := 106) rfl ?_); refine goesL_ (some 19) rfl rfl Try.func106 (by kernel_rfl) rfl #[.int .i64 10, .slice Ao33 y815.length co33] rfl zM ?_; (with_reducible refine (leadtraillaw11_shapeOf.calls k 10 _ _ y815 t818 t821 _ ?side1 ?side2 A5.out).mono ?_); (case side1 => repeat (first | exact (Kd.R_reads' HO817.out).2.2 | (with_reducible refine Kd.C_alloc ?_ _) | (with_reducible refine Kd.C_drewN ?_ _) | (with_reducible refine Kd.C_drew ?_))); (case side2 => exact (Kd.R_reads' HO817.out).2.1); rintro e w34 ⟨v819, rfl, ho0, hb⟩; refine ⟨_, rfl, ?_⟩; have n0_ := zk (Kd.R_below (zr HO788.out) hb); have n1_ := zk (Kd.R_below (zr HO795.out) hb); have n2_ := zk (Kd.N_elder' (zn HO802.out) (Kd.S_base ho0) hb); have n3_ := zk (Kd.R_below (zr HO810.out) hb); have n4_ := zk (Kd.N_elder' (zn HO813.out) (Kd.S_base ho0) hb); have n5_ := zk (Kd.R_below (zr HO817.out) hb); have n6_ := zk (Kd.N_lower (Kd.N_mono (ok' := fun k_ => some k_ ≠ (.slice Ao13 y786.length co13 : Value).ownBlock ∧ some k_ ≠ (.slice Ao17 y793.length co17 : Value).ownBlock ∧ some k_ ≠ (.slice Ao23 y800.length co23 : Value).ownBlock ∧ some k_ ≠ (.slice Ao29 y808.length co29 : Value).ownBlock ∧ some k_ ≠ (v812 : Value).ownBlock ∧ some k_ ≠ (.slice Ao33 y815.length co33 : Value).ownBlock ∧ k_ ≠ gb807) (Kd.S_N (Kd.S_bound ho0)) (fun k_ hk_ => ⟨(Kd.fresh' (Kd.R_lt (zr HO788.out)) k_ hk_.2.1), (Kd.fresh' (Kd.R_lt (zr HO795.out)) k_ hk_.2.1), (Kd.fresh' (Kd.N_lt (zn HO802.out)) k_ hk_.2.1), (Kd.fresh' (Kd.R_lt (zr HO810.out)) k_ hk_.2.1), (Kd.fresh' (Kd.N_lt (zn HO813.out)) k_ hk_.2.1), (Kd.fresh' (Kd.R_lt (zr HO817.out)) k_ hk_.2.1), (Kd.freshB (g := gb807) (o := .cells #[.bool t803, .int .i64 t804, .int .i64 t805] 59 (0, 0)) (zb BK807.out) k_ hk_.2.1)⟩)) (below_size (zU HB.out))); have n7_ := zk (zbb BK807.out hb); have n8_ := zk (below_step (zU HB.out) hb); clear HO788; clear HO795; clear HO802; clear HO810; clear HO813; clear HO817; clear BK807; clear HB; have HO788 := n0_; have HO795 := n1_; have HO802 := n2_; have HO810 := n3_; have HO813 := n4_; have HO817 := n5_; have HO820 := n6_; have BK807 := n7_; have HB := n8_; clear n0_ n1_ n2_ n3_ n4_ n5_ n6_ n7_ n8_; (try clear hb); (try clear hb2); (try clear hk); (try clear hi); (try clear ho0); obtain ⟨Ao35, co35, eo35⟩ := Kd.N_slice HO813.out; subst eo35; obtain ⟨Ao36, co36, eo36⟩ := Kd.N_slice HO820.out; subst eo36) | ((with_reducible refine gate_dst (N := 20) rfl ?_); refine Kd.N_lit k50 _ 50 ?hg (N' := 20) ?hd (xs := ([(⟨t811, t814⟩ : S50), (⟨t818, t821⟩ : S50)] : List (S50))) (inner := [.slice Ao35 t811.length co35, .int .i64 t814, .slice Ao36 t818.length co36, .int .i64 t821]) (ok := (fun k_ => some k_ ≠ (.slice Ao13 y786.length co13 : Value).ownBlock ∧ some k_ ≠ (.slice Ao17 y793.length co17 : Value).ownBlock ∧ some k_ ≠ (.slice Ao23 y800.length co23 : Value).ownBlock ∧ some k_ ≠ (.slice Ao29 y808.length co29 : Value).ownBlock ∧ some k_ ≠ (.slice Ao33 y815.length co33 : Value).ownBlock ∧ k_ ≠ gb807)) (okp := (fun k_ => some k_ ≠ (.slice Ao13 y786.length co13 : Value).ownBlock ∧ some k_ ≠ (.slice Ao17 y793.length co17 : Value).ownBlock ∧ some k_ ≠ (.slice Ao23 y800.length co23 : Value).ownBlock ∧ some k_ ≠ (.slice Ao29 y808.length co29 : Value).ownBlock ∧ some k_ ≠ (.slice Ao33 y815.length co33 : Value).ownBlock ∧ k_ ≠ gb807)) ?hr ?hp (fun _ hk => hk) ((show ∀ k_, w34.heap.size ≤ k_ → (fun k_ => some k_ ≠ (.slice Ao13 y786.length co13 : Value).ownBlock ∧ some k_ ≠ (.slice Ao17 y793.length co17 : Value).ownBlock ∧ some k_ ≠ (.slice Ao23 y800.length co23 : Value).ownBlock ∧ some k_ ≠ (.slice Ao29 y808.length co29 : Value).ownBlock ∧ some k_ ≠ (.slice Ao33 y815.length co33 : Value).ownBlock ∧ k_ ≠ gb807) k_ from fun k_ hk => ⟨Kd.fresh' (Kd.R_lt (zr HO788.out)) k_ hk, Kd.fresh' (Kd.R_lt (zr HO795.out)) k_ hk, Kd.fresh' (Kd.N_lt (zn HO802.out)) k_ hk, Kd.fresh' (Kd.R_lt (zr HO810.out)) k_ hk, Kd.fresh' (Kd.R_lt (zr HO817.out)) k_ hk, Kd.freshB (g := gb807) (o := .cells #[.bool t803, .int .i64 t804, .int .i64 t805] 59 (0, 0)) (zb BK807.out) k_ hk⟩) _ (Nat.le_refl _)) (Below.refl _ _) (Nat.le_refl _) (by simp) ?_; (case hd => rfl); (case hg => rfl); (case hr => first | (go_simp; done) | (go_simp; rfl)); (case hp => exact (Reps.c2 (show Kd.FK k50 _ _ (⟨t811, t814⟩ : S50) [.slice Ao35 t811.length co35, .int .i64 t814] from (k50_mkF _ _ (⟨t811, t814⟩ : S50) (Kd.N_reads' (Kd.N_mono (ok' := (fun k_ => some k_ ≠ (.slice Ao13 y786.length co13 : Value).ownBlock ∧ some k_ ≠ (.slice Ao17 y793.length co17 : Value).ownBlock ∧ some k_ ≠ (.slice Ao23 y800.length co23 : Value).ownBlock ∧ some k_ ≠ (.slice Ao29 y808.length co29 : Value).ownBlock ∧ some k_ ≠ (.slice Ao33 y815.length co33 : Value).ownBlock ∧ k_ ≠ gb807)) (HO813.out) (fun k_ hk => ⟨hk.1.1.1, ⟨hk.1.1.2.1, ⟨hk.1.1.2.2.1, ⟨hk.1.1.2.2.2.1, ⟨hk.1.2, hk.1.1.2.2.2.2⟩⟩⟩⟩⟩))).2.1 (Kd.N_F (Kd.N_mono (ok' := (fun k_ => some k_ ≠ (.slice Ao13 y786.length co13 : Value).ownBlock ∧ some k_ ≠ (.slice Ao17 y793.length co17 : Value).ownBlock ∧ some k_ ≠ (.slice Ao23 y800.length co23 : Value).ownBlock ∧ some k_ ≠ (.slice Ao29 y808.length co29 : Value).ownBlock ∧ some k_ ≠ (.slice Ao33 y815.length co33 : Value).ownBlock ∧ k_ ≠ gb807)) (HO813.out) (fun k_ hk => ⟨hk.1.1.1, ⟨hk.1.1.2.1, ⟨hk.1.1.2.2.1, ⟨hk.1.1.2.2.2.1, ⟨hk.1.2, hk.1.1.2.2.2.2⟩⟩⟩⟩⟩))))) (Reps.c2 (show Kd.FK k50 _ _ (⟨t818, t821⟩ : S50) [.slice Ao36 t818.length co36, .int .i64 t821] from (k50_mkF _ _ (⟨t818, t821⟩ : S50) (Kd.N_reads' (Kd.N_mono (ok' := (fun k_ => some k_ ≠ (.slice Ao13 y786.length co13 : Value).ownBlock ∧ some k_ ≠ (.slice Ao17 y793.length co17 : Value).ownBlock ∧ some k_ ≠ (.slice Ao23 y800.length co23 : Value).ownBlock ∧ some k_ ≠ (.slice Ao29 y808.length co29 : Value).ownBlock ∧ some k_ ≠ (.slice Ao33 y815.length co33 : Value).ownBlock ∧ k_ ≠ gb807)) (HO820.out) (fun k_ hk => ⟨hk.1, ⟨hk.2.1, ⟨hk.2.2.1, ⟨hk.2.2.2.1, ⟨hk.2.2.2.2.2.1, hk.2.2.2.2.2.2⟩⟩⟩⟩⟩))).2.1 (Kd.N_F (Kd.N_mono (ok' := (fun k_ => some k_ ≠ (.slice Ao13 y786.length co13 : Value).ownBlock ∧ some k_ ≠ (.slice Ao17 y793.length co17 : Value).ownBlock ∧ some k_ ≠ (.slice Ao23 y800.length co23 : Value).ownBlock ∧ some k_ ≠ (.slice Ao29 y808.length co29 : Value).ownBlock ∧ some k_ ≠ (.slice Ao33 y815.length co33 : Value).ownBlock ∧ k_ ≠ gb807)) (HO820.out) (fun k_ hk => ⟨hk.1, ⟨hk.2.1, ⟨hk.2.2.1, ⟨hk.2.2.2.1, ⟨hk.2.2.2.2.2.1, hk.2.2.2.2.2.2⟩⟩⟩⟩⟩))))) (Reps.none _ _)))); intro v823 w37 ho38 hb hg_ hnew_; clear hg_ hnew_; (first | rw [← Ny822.out] at ho38 | (simp only [Int.reduceToNat] at ho38; rw [← Ny822.out] at ho38)); have n0_ := zk (Kd.R_below (zr HO788.out) hb); have n1_ := zk (Kd.R_below (zr HO795.out) hb); have n2_ := zk (Kd.N_elder' (zn HO802.out) (Kd.N_base ho38) hb); have n3_ := zk (Kd.R_below (zr HO810.out) hb); have n4_ := zk (Kd.R_below (zr HO817.out) hb); have n5_ := zk (Kd.N_lower ho38 (below_size (zU HB.out))); have n6_ := zk (zbb BK807.out hb); have n7_ := zk (below_step (zU HB.out) hb); clear HO788; clear HO795; clear HO802; clear HO810; clear HO817; clear BK807; clear HB; clear HO813; clear HO820; have HO788 := n0_; have HO795 := n1_; have HO802 := n2_; have HO810 := n3_; have HO817 := n4_; have HO824 := n5_; have BK807 := n6_; have HB := n7_; clear n0_ n1_ n2_ n3_ n4_ n5_ n6_ n7_; clear hb ho38; obtain ⟨Ao39, co39, eo39⟩ := Kd.N_slice HO824.out; subst eo39) | ((with_reducible refine gate_callee (f := 62) rfl ?_); refine goesL_ (some 22) rfl rfl Try.func62 (by kernel_rfl) rfl #[.agg #[.slice Ao39 y822.length co39]] rfl zM ?_; (with_reducible refine (clash_Prefix.calls k _ _ y822 t825 t826 t827 t828 _ ?side1 ?side2 A6.out).mono ?_); (case side1 => repeat (first | exact (Kd.N_reads' HO824.out).2.2 | (with_reducible refine Kd.C_alloc ?_ _) | (with_reducible refine Kd.C_drewN ?_ _) | (with_reducible refine Kd.C_drew ?_))); (case side2 => exact (Kd.N_reads' HO824.out).2.1); rintro e w40 ⟨rfl, hb⟩; refine ⟨_, rfl, ?_⟩; have n0_ := zk (Kd.R_below (zr HO788.out) hb); have n1_ := zk (Kd.R_below (zr HO795.out) hb); have n2_ := zk (Kd.N_below (zn HO802.out) hb); have n3_ := zk (Kd.R_below (zr HO810.out) hb); have n4_ := zk (Kd.R_below (zr HO817.out) hb); have n5_ := zk (Kd.N_below (zn HO824.out) hb); have n6_ := zk (zbb BK807.out hb); have n7_ := zk (below_step (zU HB.out) hb); clear HO788; clear HO795; clear HO802; clear HO810; clear HO817; clear HO824; clear BK807; clear HB; have HO788 := n0_; have HO795 := n1_; have HO802 := n2_; have HO810 := n3_; have HO817 := n4_; have HO824 := n5_; have BK807 := n6_; have HB := n7_; clear n0_ n1_ n2_ n3_ n4_ n5_ n6_ n7_; (try clear hb); (try clear hb2); (try clear hk); (try clear hi)) | ((with_reducible refine gate_dst (N := 3) rfl ?_); refine box_event ?hg (N := 3) ?hd (cs := #[.bool false, .int .i64 0, .int .i64 0]) (t := 59) ?hr ?_; (case hd => rfl); (case hg => rfl); (case hr => first | (go_simp; done) | (go_simp; rfl)); intro gb829 hg w41 hbox hb; have n0_ := zk (Kd.R_below (zr HO788.out) hb); have n1_ := zk (Kd.R_below (zr HO795.out) hb); have n2_ := zk (Kd.N_below (Kd.N_elderB (zn HO802.out) gb829 (Nat.le_of_eq hg.symm)) hb); have n3_ := zk (Kd.R_below (zr HO810.out) hb); have n4_ := zk (Kd.R_below (zr HO817.out) hb); have n5_ := zk (Kd.N_below (Kd.N_elderB (zn HO824.out) gb829 (Nat.le_of_eq hg.symm)) hb); have n6_ := zk (zbb BK807.out hb); have n7_ := zk (below_step (zU HB.out) hb); have n8_ := zk (hbox); have n9_ := zk ((by rw [hg]; exact (below_size (zU HB.out)) : w.heap.size ≤ gb829)); have n10_ := zk ((by rw [hg]; exact (below_size (zU HB.out)) : w.heap.size ≤ gb829)); have n11_ := zk ((zlt hg BK807.out : gb807 ≠ gb829)); have n12_ := zk ((zgt hg BK807.out : gb829 ≠ gb807)); clear HO788; clear HO795; clear HO802; clear HO810; clear HO817; clear HO824; clear BK807; clear HB; have HO788 := n0_; have HO795 := n1_; have HO802 := n2_; have HO810 := n3_; have HO817 := n4_; have HO824 := n5_; have BK807 := n6_; have HB := n7_; have BK829 := n8_; have GW829 := n9_; have GE829 := n10_; have NB807_829 := n11_; have NB829_807 := n12_; clear n0_ n1_ n2_ n3_ n4_ n5_ n6_ n7_ n8_ n9_ n10_ n11_ n12_; clear hb hbox hg; have hnb42 := NB829_807.out; have hnc42 := NB807_829.out; have hcz43_0 : w41.cell? ⟨gb829, 0, none⟩ = some (.bool false) := (blk_cell BK829.out 0).trans rfl; have hcz43_1 : w41.cell? ⟨gb829, 1, none⟩ = some (.int .i64 0) := (blk_cell BK829.out 1).trans rfl; have hcz43_2 : w41.cell? ⟨gb829, 2, none⟩ = some (.int .i64 0) := (blk_cell BK829.out 2).trans rfl; have hfz43_0 := blk_frozen BK829.out 0; have hfz43_1 := blk_frozen BK829.out 1; have hfz43_2 := blk_frozen BK829.out 2; have hcz44_0 : w41.cell? ⟨gb807, 0, none⟩ = some (.bool t803) := (blk_cell BK807.out 0).trans rfl; have hcz44_1 : w41.cell? ⟨gb807, 1, none⟩ = some (.int .i64 t804) := (blk_cell BK807.out 1).trans rfl; have hcz44_2 : w41.cell? ⟨gb807, 2, none⟩ = some (.int .i64 t805) := (blk_cell BK807.out 2).trans rfl; have hfz44_0 := blk_frozen BK807.out 0; have hfz44_1 := blk_frozen BK807.out 1; have hfz44_2 := blk_frozen BK807.out 2))
   go_ret
   exact ⟨by first | rfl | (simp [errW_none, errW_some] <;> rfl) | (simp [*, errW_none, errW_some] <;> rfl), zU HB.out⟩
  ·rw [if_neg c10] at H
   have c10b0 : (!t825 && (t826 == 9 && (t827 == 10))) = false := by simpa using c10
   clear c10
   exact absurd ((Option.some.inj H).trans hr) Bool.false_ne_true
  ·rw [if_neg c9] at H
  have c9b0 : (t803 && (t804 == 0 && (t805 == 0))) = false := by simpa using c9
  clear c9
  exact absurd ((Option.some.inj H).trans hr) Bool.false_ne_true
 ·rw [if_neg c8] at H
  have c8b0 : (t828 == 0) = false := beq_eq_false_iff_ne.mpr c8
  have c8b1 : (t828 != 0) = true := bne_iff_ne.mpr c8
  exact absurd ((Option.some.inj H).trans hr) Bool.false_ne_true
 ·rw [if_neg c7] at H
 have c7b0 : (t806 == 0) = false := beq_eq_false_iff_ne.mpr c7
 have c7b1 : (t806 != 0) = true := bne_iff_ne.mpr c7
 exact absurd ((Option.some.inj H).trans hr) Bool.false_ne_true
end Go.Proofs.Ytkcklnmbeinfkaa.B
