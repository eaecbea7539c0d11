/- Words and walks of this claim, of the text Bx30. -/
import Derived.Test.YtkcklnmbeinfkaaKfQW0
import Derived.Test.YtkcklnmbeinfkaaKfBx0
import Derived.Test.YtkcklnmbeinfkaaKfBx10
import Derived.Test.YtkcklnmbeinfkaaKfBx22
import Derived.Test.YtkcklnmbeinfkaaKfBx25
import Derived.Test.YtkcklnmbeinfkaaKfBx28
import Derived.Test.YtkcklnmbeinfkaaKfBx29
namespace Go.Proofs.Ytkcklnmbeinfkaa.B
open Go.RowKit Go.Proofs.YtkcklnmbeinfkaaW.PrintWords Go.Proofs.YtkcklnmbeinfkaaW.PrintLast Go.Proofs.YtkcklnmbeinfkaaW.PrintMore
attribute [local go_sem] max2_int min2_int max_two min_two max_three min_three max_four min_four
set_option linter.unusedVariables false
set_option linter.unusedSimpArgs false
def leadtrailref10_Text.l0 : Nat → List Int → List Int → Int → List (S50) → Option (List Int × Int × Int)
 | 0, _, _, _, _ => none
 | k + 1, x1, x7, x8, x707000 => if x8 < (x1.length : Int) then (if 0 ≤ x8 then ((leadtrailref10_Of.f k x707000 (rd x1 x8)).bind fun bt709 => (if bt709.2 = true then (if x7.length + bt709.1.length < 140737488355328 then (leadtrailref10_Text.l0 k x1 (x7 ++ bt709.1) (wrap64 (x8 + 1)) x707000) else (none)) else (some (([] : List Int), x8, 100)))) else (none)) else (some (x7, 0, 0))
def leadtrailref10_Text.f (k : Nat) (l0_0 : List (S50)) (l1 : List Int) : Option (List Int × Int × Int) := (leadtrailref08_Valid.f k l0_0).bind fun t707 => (if t707 = true then (leadtrailref10_Text.l0 k l1 ([] : List Int) 0 l0_0) else (some (([] : List Int), 0, 84)))
def leadtrailref10_Text.T7 : Bool × List (List Nat × List Nat) := (true, [([], []), ([], []), ([], []), ([1, 2], [1, 2]), ([3], [3]), ([0, 4], [0, 4]), ([5], [5]), ([6], [6]), ([6], [6]), ([7, 5, 0, 1, 2, 3, 4, 5, 6, 7], [7]), ([8, 9, 0, 1, 2, 3, 4, 5, 6, 7, 8, 9], [8])])
def leadtrailref10_Text.B7 : List Nat := [0, 0, 0, 6, 14, 31, 63, 127, 127, 255, 1023]
theorem leadtrailref10_Text.tab7 : rtab .any (opsOf Try.f71 7) = leadtrailref10_Text.T7 := by kernel_rfl
theorem leadtrailref10_Text.bits7 : waitsOk leadtrailref10_Text.T7.2 leadtrailref10_Text.B7 = true := by kernel_rfl
set_option maxHeartbeats 8000000 in
set_option maxRecDepth 100000 in
theorem leadtrailref10_Text.calls (k : Nat) (A0_0 : Option Addr) (c0_0 : Nat) (l0_0 : List (S50)) (A1 : Option Addr) (c1 : Nat) (l1 : List Int) (r1 : List Int) (r2 : Int) (r3 : Int) (w : World) (hr0_0 : Kd.C k50 w A0_0 l0_0.length l0_0) (hc0_0 : l0_0.length ≤ c0_0) (hr1 : Kd.C (Kd.int .i64) w A1 l1.length l1) (hc1 : l1.length ≤ c1) (h : leadtrailref10_Text.f k l0_0 l1 = some (r1, r2, r3)) :
  Calls Try.prog 71 #[.agg #[.slice A0_0 l0_0.length c0_0], .slice A1 l1.length c1] w fun e w' => ∃ v0_ : Value, e = .returned (.tuple #[v0_, .int .i64 r2, .int .i64 r3]) ∧ Kd.R (Kd.int .u8) 5 w' w.heap.size (fun _ => True) v0_ r1 ∧ Below w.heap.size w w' := by
 have hu24 := Try.underlying24
 have HR0_0 := zk hr0_0
 have HC0_0 := zk hc0_0
 clear hr0_0 hc0_0
 have HR1 := zk hr1
 have HC1 := zk hc1
 clear hr1 hc1
 have HB := zk (Below.refl w.heap.size w)
 have H : ((leadtrailref08_Valid.f k l0_0).bind fun t707 => (if t707 = true then (leadtrailref10_Text.l0 k l1 ([] : List Int) 0 l0_0) else (some (([] : List Int), 0, 84)))) = some (r1, r2, r3) := h
 clear h
 replace H := Option.bind_eq_some_iff.mp H
 obtain ⟨t707, A30, H⟩ := H
 replace H : (if t707 = true then (leadtrailref10_Text.l0 k l1 ([] : List Int) 0 l0_0) else (some (([] : List Int), 0, 84))) = some (r1, r2, r3) := H
 have A3 := zk A30
 clear A30
 by_cases c4 : t707 = true
 ·subst c4
  have H1 : (leadtrailref10_Text.l0 k l1 ([] : List Int) 0 l0_0) = some (r1, r2, r3) := by rw [if_pos rfl] at H; exact H
  clear H
  have H := H1
  clear H1
  have H' := zk H
  clear H
  go_enter Try.func71, Try.ntmps71
  go_wp2_with (first | ((with_reducible refine gate_dst (N := 2) rfl ?_); refine box_event ?hg (N := 2) ?hd (cs := #[.slice A0_0 l0_0.length c0_0]) (t := 24) ?hr ?_; (case hd => rfl); (case hg => rfl); (case hr => first | (go_simp; done) | (go_simp; rfl)); intro gb706 hg w5 hbox hb; have n0_ := zk (below_step (zU HB.out) hb); have n1_ := zk (hbox); have n2_ := zk ((by rw [hg]; exact (below_size (zU HB.out)) : w.heap.size ≤ gb706)); have n3_ := zk ((by rw [hg]; exact (below_size (zU HB.out)) : w.heap.size ≤ gb706)); clear HB; have HB := n0_; have BK706 := n1_; have GW706 := n2_; have GE706 := n3_; clear n0_ n1_ n2_ n3_; clear hb hbox hg; have hcz6_0 : w5.cell? ⟨gb706, 0, none⟩ = some (.slice A0_0 l0_0.length c0_0) := (blk_cell BK706.out 0).trans rfl; have hfz6_0 := blk_frozen BK706.out 0) | ((with_reducible refine gate_callee (f := 79) rfl ?_); refine goesL_ (some 12) rfl rfl Try.func79 (by kernel_rfl) rfl #[.agg #[.slice A0_0 l0_0.length c0_0]] rfl zM ?_; (with_reducible refine (leadtrailref08_Valid.calls k _ _ l0_0 true _ ?side1 ?side2 A3.out).mono ?_); (case side1 => exact zc (Kd.C_below HR0_0.out HB.out)); (case side2 => exact HC0_0.out); rintro e w7 ⟨rfl, hb⟩; refine ⟨_, rfl, ?_⟩; have n0_ := zk (zbb BK706.out hb); have n1_ := zk (below_step (zU HB.out) hb); clear BK706; clear HB; have BK706 := n0_; have HB := n1_; clear n0_ n1_; (try clear hb); (try clear hb2); (try clear hk); (try clear hi)))
  go_loopg [7, 8] k (fun kq v7 v8 w' => ∃ (x7_1 : List Int) (x8_1 : Int), v8 = .int .i64 x8_1 ∧ Aside0 (leadtrailref10_Text.l0 kq l1 x7_1 x8_1 l0_0 = some (r1, r2, r3)) ∧ Aside0 (kq ≤ k) ∧ Aside0 (Kd.R (Kd.int .u8) 5 w' w.heap.size (fun _ => True) v7 x7_1) ∧ Aside0 (w'.heap[gb706]? = some (.cells #[(.slice A0_0 l0_0.length c0_0)] 24 (0, 0))) ∧ Aside0 (Below w.heap.size w w'))
  case atStart => exact ⟨(([] : List Int)), (0), zR, H', ⟨Nat.le_refl _⟩, ⟨by first | exact Kd.R_nil _ _ _ _ _ | exact Kd.N_nil _ _ _ _ _ | exact Kd.V_nil _ _ _ _ _ | exact Kd.Q_nil _ _ _ _ _ | exact Kd.S_nil _ _ _ _ _⟩, ⟨by exact zb BK706.out⟩, ⟨zU HB.out⟩⟩
  case round =>
   clear H'
   try clear c1
   try clear p2
   try clear c4
   try clear c7
   try clear hcz6_0
   try clear hfz6_0
   obtain ⟨x7_1, x8_1, rfl, HA, HK1, HO_7, BK706, HB⟩ := hrel
   cases gk with
   | zero => exact absurd HA.out (by simp [leadtrailref10_Text.l0])
   | succ k1 =>
    have H := HA.out
    clear HA
    simp only [leadtrailref10_Text.l0] at H
    by_cases c8 : x8_1 < (l1.length : Int)
    ·rw [if_pos c8] at H
     have c8b0 : decide (x8_1 < (l1.length : Int)) = true := decide_eq_true c8
     clear c8
     by_cases c9 : 0 ≤ x8_1
     ·rw [if_pos c9] at H
      have c9b0 : decide (0 ≤ x8_1) = true := decide_eq_true c9
      clear c9
      replace H := Option.bind_eq_some_iff.mp H
      obtain ⟨⟨t709, t712⟩, A100, H⟩ := H
      replace H : (if t712 = true then (if x7_1.length + t709.length < 140737488355328 then (leadtrailref10_Text.l0 k1 l1 (x7_1 ++ t709) (wrap64 (x8_1 + 1)) l0_0) else (none)) else (some (([] : List Int), x8_1, 100))) = some (r1, r2, r3) := H
      have A10 := zk A100
      clear A100
      by_cases c11 : t712 = true
      ·subst c11
       have H1 : (if x7_1.length + t709.length < 140737488355328 then (leadtrailref10_Text.l0 k1 l1 (x7_1 ++ t709) (wrap64 (x8_1 + 1)) l0_0) else (none)) = some (r1, r2, r3) := by rw [if_pos rfl] at H; exact H
       clear H
       have H := H1
       clear H1
       by_cases c12 : x7_1.length + t709.length < 140737488355328
       ·rw [if_pos c12] at H
        have LMc12 := zk c12
        clear c12
        obtain ⟨y713, hy713⟩ : ∃ y_ : List Int, y_ = (x7_1 ++ t709) := ⟨_, rfl⟩
        replace H : (leadtrailref10_Text.l0 k1 l1 y713 (wrap64 (x8_1 + 1)) l0_0) = some (r1, r2, r3) := by first | (rw [hy713]; with_reducible exact H) | (have H2_ := (Option.bind_some _ _).symm.trans H; rw [hy713]; with_reducible exact H2_) | (have H2_ := (Option.bind_some _ _).symm.trans H; with_reducible exact H2_) | with_reducible exact H | (rw [hy713]; exact H) | exact H
        have Ny713 := zk hy713
        clear hy713
        have H' := zk H
        clear H
        try go_wp2
        have n0_ := zk (Kd.R_drew HO_7.out)
        have n1_ := zk (blk_drew BK706.out)
        have n2_ := zk (below_drew1 HB.out)
        clear HO_7
        clear BK706
        clear HB
        have HO_7 := n0_
        have BK706 := n1_
        have HB := n2_
        clear n0_ n1_ n2_
        have p708 : 0 ≤ (x8_1 : Int) := zT
        have q708 : x8_1 < (l1.length : Int) := zT
        obtain ⟨ad708, e708, hx708_0⟩ := Kd.at_int HR1.out x8_1 p708 q708
        have hw708_0 := hx708_0
        cases e708
        replace hx708_0 := (HB.out.cell (World.block_lt_of_cell? w _ hx708_0)).trans hx708_0
        replace p708 := eq_true p708
        replace q708 := eq_true q708
        refine start_ (n := 11) (S := fun w' => w'.cell? ⟨gb706, 0, none⟩ = some (.slice A0_0 l0_0.length c0_0) ∧ w'.cell? (ad708.add (x8_1).toNat) = some (.int .i64 (rd l1 x8_1))) (ds := []) #[false, false, false, false, false, false, false, false, false, false, false] (by kernel_rfl) rfl rfl ⟨(blk_cell BK706.out 0).trans rfl, ((HB.out.cell (World.block_lt_of_cell? w _ hw708_0)).trans hw708_0)⟩ (fun hHeld => ?_); refine with_tabW leadtrailref10_Text.tab7 leadtrailref10_Text.bits7 (fun HT_ HW_ => ?_)
        generalize wr.drew = w13 at HO_7 BK706 HB hx708_0 hHeld ⊢
        refine pure_ (i := 1) (N := some 22) (v := ?_) (a' := ?_) (bz 11 2) rfl rfl (any_of HT_.out (by kernel_rfl)) zQ (Or.inl ⟨by rfl, ?_⟩) ?_ ?_
        rotate_left
        ·intro w'
         go_simp
         with_reducible rfl
        rotate_left
        ·simp only [Act.put, zv, i64_w, i32_w]
         rfl
        refine pure_ (i := 2) (N := some 23) (v := ?_) (a' := ?_) (bz 11 6) rfl rfl (any_of HT_.out (by kernel_rfl)) zQ (Or.inl ⟨by rfl, ?_⟩) ?_ ?_
        rotate_left
        ·intro w'
         go_simp
         with_reducible rfl
        rotate_left
        ·simp only [Act.put, zv, i64_w, i32_w]
         rfl
        refine pure_ (i := 3) (N := some 24) (v := ?_) (a' := ?_) (bz 11 14) rfl rfl (any_of HT_.out (by kernel_rfl)) zQ (Or.inl ⟨by rfl, ?_⟩) ?_ ?_
        rotate_left
        ·intro w'
         go_simp
         with_reducible rfl
        rotate_left
        ·simp only [Act.put, zv, i64_w, i32_w]
         rfl
        refine take_ (i := 0) (N := some 21) (v := ?_) (a' := ?_) (bz 11 15) rfl rfl (take_ofW HT_.out HW_.out (by kernel_rfl)) zQ (Or.inl ⟨by rfl, ?_⟩) hHeld ?_ ?_
        rotate_left
        ·rintro w' ⟨s0, s1⟩
         go_simp
         with_reducible rfl
        rotate_left
        ·simp only [Act.put, zv, i64_w, i32_w]
         rfl
        refine take_ (i := 4) (N := some 25) (v := ?_) (a' := ?_) (bz 11 31) rfl rfl (take_ofW HT_.out HW_.out (by kernel_rfl)) zQ (Or.inl ⟨by rfl, ?_⟩) hHeld ?_ ?_
        rotate_left
        ·rintro w' ⟨s0, s1⟩
         go_simp
         with_reducible rfl
        rotate_left
        ·simp only [Act.put, zv, i64_w, i32_w]
         rfl
        refine one_ (i := 5) (N := some 26) (bz 11 63) rfl rfl (one_of HT_.out (by kernel_rfl)) (by decide) (fun K hK => ?_)
        refine goes_ Try.func39 (by kernel_rfl) rfl #[.agg #[.slice A0_0 l0_0.length c0_0], .int .i64 (rd l1 x8_1)] (by rfl) rfl rfl zM ?_
        with_reducible refine (leadtrailref10_Of.calls k1 _ _ l0_0 (rd l1 x8_1) t709 true _ ?side1 ?side2 A10.out).mono ?_
        (case side1 => exact zc (Kd.C_below HR0_0.out HB.out))
        (case side2 => exact HC0_0.out)
        rintro e w14 ⟨v710, rfl, ho0, hb⟩
        refine ⟨_, rfl, ?_⟩
        have n0_ := zk (Kd.R_elder' (zr HO_7.out) (Kd.R_base ho0) hb)
        have n1_ := zk (Kd.R_lower (Kd.R_new' ho0 (Kd.R_lt (zr HO_7.out))) (below_size (zU HB.out)))
        have n2_ := zk (zbb BK706.out hb)
        have n3_ := zk (below_step (zU HB.out) hb)
        clear HO_7
        clear BK706
        clear HB
        have HO_7 := n0_
        have HO711 := n1_
        have BK706 := n2_
        have HB := n3_
        clear n0_ n1_ n2_ n3_
        (try clear hb)
        (try clear hb2)
        (try clear hk)
        (try clear hi)
        (try clear ho0)
        refine hK.out _ _ ⟨(blk_cell BK706.out 0).trans rfl, ((HB.out.cell (World.block_lt_of_cell? w _ hw708_0)).trans hw708_0)⟩ (fun hHeld => ?_)
        clear hK K
        refine norm_ (a' := ?_) ?_ ?_
        rotate_left
        ·show Act.put _ (some 26) _ = _
         simp only [Act.put, zv, i64_w, i32_w]
         rfl
        refine pure_ (i := 6) (N := some 20) (v := ?_) (a' := ?_) (bz 11 127) rfl rfl (any_of HT_.out (by kernel_rfl)) zQ (Or.inl ⟨by rfl, ?_⟩) ?_ ?_
        rotate_left
        ·intro w'
         go_simp
         with_reducible rfl
        rotate_left
        ·simp only [Act.put, zv, i64_w, i32_w]
         rfl
        refine pure_ (i := 7) (N := some 27) (v := ?_) (a' := ?_) (bz 11 255) rfl rfl (any_of HT_.out (by kernel_rfl)) zQ (Or.inl ⟨by rfl, ?_⟩) ?_ ?_
        rotate_left
        ·intro w'
         go_simp
         with_reducible rfl
        rotate_left
        ·simp only [Act.put, zv, i64_w, i32_w]
         rfl
        refine pure_ (i := 8) (N := some 28) (v := ?_) (a' := ?_) (bz 11 511) rfl rfl (any_of HT_.out (by kernel_rfl)) zQ (Or.inl ⟨by rfl, ?_⟩) ?_ ?_
        rotate_left
        ·intro w'
         go_simp
         with_reducible rfl
        rotate_left
        ·simp only [Act.put, zv, i64_w, i32_w]
         rfl
        refine pure_ (i := 9) (N := some 9) (v := ?_) (a' := ?_) (bz 11 1023) rfl rfl (any_of HT_.out (by kernel_rfl)) zQ (Or.inl ⟨by rfl, ?_⟩) ?_ ?_
        rotate_left
        ·intro w'
         go_simp
         with_reducible rfl
        rotate_left
        ·simp only [Act.put, zv, i64_w, i32_w]
         rfl
        refine pure_ (i := 10) (N := some 10) (v := ?_) (a' := ?_) (bz 11 2047) rfl rfl (any_of HT_.out (by kernel_rfl)) zQ (Or.inl ⟨by rfl, ?_⟩) ?_ ?_
        rotate_left
        ·intro w'
         go_simp
         with_reducible rfl
        rotate_left
        ·simp only [Act.put, zv, i64_w, i32_w]
         rfl
        refine done_ (done_of HT_.out (by kernel_rfl)) ?_
        obtain ⟨Ao16, co16, eo16⟩ := Kd.R_slice HO711.out
        subst eo16
        try go_wp2_with (first | ((with_reducible refine gate_builtin (b := .append) (xs := #[.tmp 32, .tmp 33]) rfl ?_); at_builtin; refine Kd.R_append_rows (Kd.int .u8) (w0 := w) w.heap.size rfl (.tmp 32) (.tmp 33) 52 5 (.int .u8 0) 1 rfl Try.underlying52 info5 rfl (by decide) (by omega) u7 x7_1 t709 _ _ _ (fun k_ => some k_ ≠ (.slice Ao16 t709.length co16 : Value).ownBlock) (fun _ => False) rfl rfl ?aO ?aR (fun _ _ h => h) (fun _ h => h.elim) ?aF ?aB ?aS ?aL ?_; (case aR => repeat (first | exact (Kd.R_reads' HO711.out).2.2 | (with_reducible refine Kd.C_alloc ?_ _) | (with_reducible refine Kd.C_drewN ?_ _) | (with_reducible refine Kd.C_drew ?_))); (case aB => exact (zU HB.out)); (case aF => exact (fun k_ hk => Kd.fresh' (Kd.R_lt (zr HO711.out)) k_ hk)); (case aO => exact (by (with_reducible repeat (first | apply zA | apply zB | apply zC)); exact Kd.R_mono HO_7.out (fun _ hk => hk.2))); (case aS => exact (below_size (zU HB.out))); (case aL => have := LMc12.out; omega); intro v714 w15 ho hb hg hat; rw [← Ny713.out] at ho; have n0_ := zk (blk_grown (g := gb706) (o := .cells #[.slice A0_0 l0_0.length c0_0] 24 (0, 0)) (zb BK706.out) hg (Kd.R_ne HO_7.out BK706.out (by decide))); have n1_ := zk (Kd.R_after (ok := (fun _ => True)) (zr HO711.out) hg hat); have n2_ := zk (hb); have n3_ := zk (ho); clear BK706; clear HO711; clear HB; clear HO_7; have BK706 := n0_; have HO711 := n1_; have HB := n2_; have HO715 := n3_; clear n0_ n1_ n2_ n3_; clear ho hb hg hat))
        go_roundg k1
        case measure => have := HK1.out; omega
        case rel => exact ⟨(y713), (wrap64 (x8_1 + 1)), zR, H', ⟨by have := HK1.out; omega⟩, ⟨by (with_reducible repeat (first | apply zA | apply zB | apply zC)); exact Kd.R_mono HO715.out (fun _ hk => trivial)⟩, ⟨by exact zb BK706.out⟩, ⟨zU HB.out⟩⟩
       ·rw [if_neg c12] at H
        exact absurd H (by simp)
      ·replace c11 := Bool.eq_false_iff.mpr c11
       subst c11
       have H1 : (some (([] : List Int), x8_1, 100)) = some (r1, r2, r3) := by rw [if_neg (show ¬ (false = true) by decide)] at H; exact H
       clear H
       have H := H1
       clear H1
       simp only [Option.some.injEq, Prod.mk.injEq] at H
       obtain ⟨rfl, rfl, rfl⟩ := H
       try go_wp2
       have n0_ := zk (Kd.R_drew HO_7.out)
       have n1_ := zk (blk_drew BK706.out)
       have n2_ := zk (below_drew1 HB.out)
       clear HO_7
       clear BK706
       clear HB
       have HO_7 := n0_
       have BK706 := n1_
       have HB := n2_
       clear n0_ n1_ n2_
       have p708 : 0 ≤ (x8_1 : Int) := zT
       have q708 : x8_1 < (l1.length : Int) := zT
       obtain ⟨ad708, e708, hx708_0⟩ := Kd.at_int HR1.out x8_1 p708 q708
       have hw708_0 := hx708_0
       cases e708
       replace hx708_0 := (HB.out.cell (World.block_lt_of_cell? w _ hx708_0)).trans hx708_0
       replace p708 := eq_true p708
       replace q708 := eq_true q708
       refine start_ (n := 11) (S := fun w' => w'.cell? ⟨gb706, 0, none⟩ = some (.slice A0_0 l0_0.length c0_0) ∧ w'.cell? (ad708.add (x8_1).toNat) = some (.int .i64 (rd l1 x8_1))) (ds := []) #[false, false, false, false, false, false, false, false, false, false, false] (by kernel_rfl) rfl rfl ⟨(blk_cell BK706.out 0).trans rfl, ((HB.out.cell (World.block_lt_of_cell? w _ hw708_0)).trans hw708_0)⟩ (fun hHeld => ?_); refine with_tabW leadtrailref10_Text.tab7 leadtrailref10_Text.bits7 (fun HT_ HW_ => ?_)
       generalize wr.drew = w17 at HO_7 BK706 HB hx708_0 hHeld ⊢
       refine pure_ (i := 1) (N := some 22) (v := ?_) (a' := ?_) (bz 11 2) rfl rfl (any_of HT_.out (by kernel_rfl)) zQ (Or.inl ⟨by rfl, ?_⟩) ?_ ?_
       rotate_left
       ·intro w'
        go_simp
        with_reducible rfl
       rotate_left
       ·simp only [Act.put, zv, i64_w, i32_w]
        rfl
       refine pure_ (i := 2) (N := some 23) (v := ?_) (a' := ?_) (bz 11 6) rfl rfl (any_of HT_.out (by kernel_rfl)) zQ (Or.inl ⟨by rfl, ?_⟩) ?_ ?_
       rotate_left
       ·intro w'
        go_simp
        with_reducible rfl
       rotate_left
       ·simp only [Act.put, zv, i64_w, i32_w]
        rfl
       refine pure_ (i := 3) (N := some 24) (v := ?_) (a' := ?_) (bz 11 14) rfl rfl (any_of HT_.out (by kernel_rfl)) zQ (Or.inl ⟨by rfl, ?_⟩) ?_ ?_
       rotate_left
       ·intro w'
        go_simp
        with_reducible rfl
       rotate_left
       ·simp only [Act.put, zv, i64_w, i32_w]
        rfl
       refine take_ (i := 0) (N := some 21) (v := ?_) (a' := ?_) (bz 11 15) rfl rfl (take_ofW HT_.out HW_.out (by kernel_rfl)) zQ (Or.inl ⟨by rfl, ?_⟩) hHeld ?_ ?_
       rotate_left
       ·rintro w' ⟨s0, s1⟩
        go_simp
        with_reducible rfl
       rotate_left
       ·simp only [Act.put, zv, i64_w, i32_w]
        rfl
       refine take_ (i := 4) (N := some 25) (v := ?_) (a' := ?_) (bz 11 31) rfl rfl (take_ofW HT_.out HW_.out (by kernel_rfl)) zQ (Or.inl ⟨by rfl, ?_⟩) hHeld ?_ ?_
       rotate_left
       ·rintro w' ⟨s0, s1⟩
        go_simp
        with_reducible rfl
       rotate_left
       ·simp only [Act.put, zv, i64_w, i32_w]
        rfl
       refine one_ (i := 5) (N := some 26) (bz 11 63) rfl rfl (one_of HT_.out (by kernel_rfl)) (by decide) (fun K hK => ?_)
       refine goes_ Try.func39 (by kernel_rfl) rfl #[.agg #[.slice A0_0 l0_0.length c0_0], .int .i64 (rd l1 x8_1)] (by rfl) rfl rfl zM ?_
       with_reducible refine (leadtrailref10_Of.calls k1 _ _ l0_0 (rd l1 x8_1) t709 false _ ?side1 ?side2 A10.out).mono ?_
       (case side1 => exact zc (Kd.C_below HR0_0.out HB.out))
       (case side2 => exact HC0_0.out)
       rintro e w18 ⟨v710, rfl, ho0, hb⟩
       refine ⟨_, rfl, ?_⟩
       have n0_ := zk (Kd.R_elder' (zr HO_7.out) (Kd.R_base ho0) hb)
       have n1_ := zk (Kd.R_lower (Kd.R_new' ho0 (Kd.R_lt (zr HO_7.out))) (below_size (zU HB.out)))
       have n2_ := zk (zbb BK706.out hb)
       have n3_ := zk (below_step (zU HB.out) hb)
       clear HO_7
       clear BK706
       clear HB
       have HO_7 := n0_
       have HO711 := n1_
       have BK706 := n2_
       have HB := n3_
       clear n0_ n1_ n2_ n3_
       (try clear hb)
       (try clear hb2)
       (try clear hk)
       (try clear hi)
       (try clear ho0)
       refine hK.out _ _ ⟨(blk_cell BK706.out 0).trans rfl, ((HB.out.cell (World.block_lt_of_cell? w _ hw708_0)).trans hw708_0)⟩ (fun hHeld => ?_)
       clear hK K
       refine norm_ (a' := ?_) ?_ ?_
       rotate_left
       ·show Act.put _ (some 26) _ = _
        simp only [Act.put, zv, i64_w, i32_w]
        rfl
       refine pure_ (i := 6) (N := some 20) (v := ?_) (a' := ?_) (bz 11 127) rfl rfl (any_of HT_.out (by kernel_rfl)) zQ (Or.inl ⟨by rfl, ?_⟩) ?_ ?_
       rotate_left
       ·intro w'
        go_simp
        with_reducible rfl
       rotate_left
       ·simp only [Act.put, zv, i64_w, i32_w]
        rfl
       refine pure_ (i := 7) (N := some 27) (v := ?_) (a' := ?_) (bz 11 255) rfl rfl (any_of HT_.out (by kernel_rfl)) zQ (Or.inl ⟨by rfl, ?_⟩) ?_ ?_
       rotate_left
       ·intro w'
        go_simp
        with_reducible rfl
       rotate_left
       ·simp only [Act.put, zv, i64_w, i32_w]
        rfl
       refine pure_ (i := 8) (N := some 28) (v := ?_) (a' := ?_) (bz 11 511) rfl rfl (any_of HT_.out (by kernel_rfl)) zQ (Or.inl ⟨by rfl, ?_⟩) ?_ ?_
       rotate_left
       ·intro w'
        go_simp
        with_reducible rfl
       rotate_left
       ·simp only [Act.put, zv, i64_w, i32_w]
        rfl
       refine pure_ (i := 9) (N := some 9) (v := ?_) (a' := ?_) (bz 11 1023) rfl rfl (any_of HT_.out (by kernel_rfl)) zQ (Or.inl ⟨by rfl, ?_⟩) ?_ ?_
       rotate_left
       ·intro w'
        go_simp
        with_reducible rfl
       rotate_left
       ·simp only [Act.put, zv, i64_w, i32_w]
        rfl
       refine pure_ (i := 10) (N := some 10) (v := ?_) (a' := ?_) (bz 11 2047) rfl rfl (any_of HT_.out (by kernel_rfl)) zQ (Or.inl ⟨by rfl, ?_⟩) ?_ ?_
       rotate_left
       ·intro w'
        go_simp
        with_reducible rfl
       rotate_left
       ·simp only [Act.put, zv, i64_w, i32_w]
        rfl
       refine done_ (done_of HT_.out (by kernel_rfl)) ?_
       try go_wp2
       go_ret3
       exact ⟨_, by first | rfl | (simp [errW_none, errW_some] <;> rfl) | (simp [*, errW_none, errW_some] <;> rfl), by first | exact Kd.R_nil _ _ _ _ _ | exact Kd.N_nil _ _ _ _ _ | exact Kd.V_nil _ _ _ _ _ | exact Kd.Q_nil _ _ _ _ _ | exact Kd.S_nil _ _ _ _ _, zU HB.out⟩
     ·rw [if_neg c9] at H
      exact absurd H (by simp)
    ·rw [if_neg c8] at H
     have c8b0 : decide (x8_1 < (l1.length : Int)) = false := decide_eq_false c8
     clear c8
     simp only [Option.some.injEq, Prod.mk.injEq] at H
     obtain ⟨rfl, rfl, rfl⟩ := H
     go_wp2
     go_ret3
     exact ⟨_, by first | rfl | (simp [errW_none, errW_some] <;> rfl) | (simp [*, errW_none, errW_some] <;> rfl), by (with_reducible repeat (first | apply zA | apply zB | apply zC)); exact HO_7.out, zU HB.out⟩
 ·replace c4 := Bool.eq_false_iff.mpr c4
  subst c4
  have H1 : (some (([] : List Int), 0, 84)) = some (r1, r2, r3) := by rw [if_neg (show ¬ (false = true) by decide)] at H; exact H
  clear H
  have H := H1
  clear H1
  simp only [Option.some.injEq, Prod.mk.injEq] at H
  obtain ⟨rfl, rfl, rfl⟩ := H
  go_enter Try.func71, Try.ntmps71
  go_wp2_with (first | ((with_reducible refine gate_dst (N := 2) rfl ?_); refine box_event ?hg (N := 2) ?hd (cs := #[.slice A0_0 l0_0.length c0_0]) (t := 24) ?hr ?_; (case hd => rfl); (case hg => rfl); (case hr => first | (go_simp; done) | (go_simp; rfl)); intro gb706 hg w19 hbox hb; have n0_ := zk (below_step (zU HB.out) hb); have n1_ := zk (hbox); have n2_ := zk ((by rw [hg]; exact (below_size (zU HB.out)) : w.heap.size ≤ gb706)); have n3_ := zk ((by rw [hg]; exact (below_size (zU HB.out)) : w.heap.size ≤ gb706)); clear HB; have HB := n0_; have BK706 := n1_; have GW706 := n2_; have GE706 := n3_; clear n0_ n1_ n2_ n3_; clear hb hbox hg; have hcz20_0 : w19.cell? ⟨gb706, 0, none⟩ = some (.slice A0_0 l0_0.length c0_0) := (blk_cell BK706.out 0).trans rfl; have hfz20_0 := blk_frozen BK706.out 0) | ((with_reducible refine gate_callee (f := 79) rfl ?_); refine goesL_ (some 12) rfl rfl Try.func79 (by kernel_rfl) rfl #[.agg #[.slice A0_0 l0_0.length c0_0]] rfl zM ?_; (with_reducible refine (leadtrailref08_Valid.calls k _ _ l0_0 false _ ?side1 ?side2 A3.out).mono ?_); (case side1 => exact zc (Kd.C_below HR0_0.out HB.out)); (case side2 => exact HC0_0.out); rintro e w21 ⟨rfl, hb⟩; refine ⟨_, rfl, ?_⟩; have n0_ := zk (zbb BK706.out hb); have n1_ := zk (below_step (zU HB.out) hb); clear BK706; clear HB; have BK706 := n0_; have HB := n1_; clear n0_ n1_; (try clear hb); (try clear hb2); (try clear hk); (try clear hi)))
  go_ret3
  exact ⟨_, by first | rfl | (simp [errW_none, errW_some] <;> rfl) | (simp [*, errW_none, errW_some] <;> rfl), by first | exact Kd.R_nil _ _ _ _ _ | exact Kd.N_nil _ _ _ _ _ | exact Kd.V_nil _ _ _ _ _ | exact Kd.Q_nil _ _ _ _ _ | exact Kd.S_nil _ _ _ _ _, zU HB.out⟩
def leadtraillaw10_CodeText.f (k : Nat) (l0_0 : List (S50)) (l1 : List Int) : Option (Bool) := (leadtraillaw10_fixed.f k).bind fun t717 => (if t717 = true then ((leadtrailref08_Copy.f k l0_0).bind fun t718 => ((some (([] : List Int) : List Int)).bind fun y721 => (if y721.length + l1.length < 17592186044416 then ((code_Text.f k t718 (y721 ++ l1)).bind fun bt727 => ((leadtrailref10_Text.f k l0_0 l1).bind fun bt732 => (if (strOfNums bt727.1).toList = (strOfNums bt732.1).toList then (if bt727.2.1 = bt732.2.1 then (some (bt727.2.2 == bt732.2.2)) else (none)) else (none)))) else (none)))) else (none))
set_option maxHeartbeats 8000000 in
set_option maxRecDepth 100000 in
theorem leadtraillaw10_CodeText.calls (k : Nat) (A0_0 : Option Addr) (c0_0 : Nat) (l0_0 : List (S50)) (A1 : Option Addr) (c1 : Nat) (l1 : List Int) (r : Bool) (w : World) (hr0_0 : Kd.C k50 w A0_0 l0_0.length l0_0) (hc0_0 : l0_0.length ≤ c0_0) (hr1 : Kd.C (Kd.int .i64) w A1 l1.length l1) (hc1 : l1.length ≤ c1) (h : leadtraillaw10_CodeText.f k l0_0 l1 = some r) :
  Calls Try.prog 16 #[.agg #[.slice A0_0 l0_0.length c0_0], .slice A1 l1.length c1] w fun e w' => e = .returned (.bool r) ∧ Below w.heap.size w w' := by
 have hu24 := Try.underlying24
 have HR0_0 := zk hr0_0
 have HC0_0 := zk hc0_0
 clear hr0_0 hc0_0
 have HR1 := zk hr1
 have HC1 := zk hc1
 clear hr1 hc1
 have HB := zk (Below.refl w.heap.size w)
 have H : ((leadtraillaw10_fixed.f k).bind fun t717 => (if t717 = true then ((leadtrailref08_Copy.f k l0_0).bind fun t718 => ((some (([] : List Int) : List Int)).bind fun y721 => (if y721.length + l1.length < 17592186044416 then ((code_Text.f k t718 (y721 ++ l1)).bind fun bt727 => ((leadtrailref10_Text.f k l0_0 l1).bind fun bt732 => (if (strOfNums bt727.1).toList = (strOfNums bt732.1).toList then (if bt727.2.1 = bt732.2.1 then (some (bt727.2.2 == bt732.2.2)) else (none)) else (none)))) else (none)))) else (none))) = some r := h
 clear h
 replace H := Option.bind_eq_some_iff.mp H
 obtain ⟨t717, A30, H⟩ := H
 replace H : (if t717 = true then ((leadtrailref08_Copy.f k l0_0).bind fun t718 => ((some (([] : List Int) : List Int)).bind fun y721 => (if y721.length + l1.length < 17592186044416 then ((code_Text.f k t718 (y721 ++ l1)).bind fun bt727 => ((leadtrailref10_Text.f k l0_0 l1).bind fun bt732 => (if (strOfNums bt727.1).toList = (strOfNums bt732.1).toList then (if bt727.2.1 = bt732.2.1 then (some (bt727.2.2 == bt732.2.2)) else (none)) else (none)))) else (none)))) else (none)) = some r := H
 have A3 := zk A30
 clear A30
 by_cases c4 : t717 = true
 ·subst c4
  have H1 : ((leadtrailref08_Copy.f k l0_0).bind fun t718 => ((some (([] : List Int) : List Int)).bind fun y721 => (if y721.length + l1.length < 17592186044416 then ((code_Text.f k t718 (y721 ++ l1)).bind fun bt727 => ((leadtrailref10_Text.f k l0_0 l1).bind fun bt732 => (if (strOfNums bt727.1).toList = (strOfNums bt732.1).toList then (if bt727.2.1 = bt732.2.1 then (some (bt727.2.2 == bt732.2.2)) else (none)) else (none)))) else (none)))) = some r := by rw [if_pos rfl] at H; exact H
  clear H
  have H := H1
  clear H1
  replace H := Option.bind_eq_some_iff.mp H
  obtain ⟨t718, A50, H⟩ := H
  replace H : ((some (([] : List Int) : List Int)).bind fun y721 => (if y721.length + l1.length < 17592186044416 then ((code_Text.f k t718 (y721 ++ l1)).bind fun bt727 => ((leadtrailref10_Text.f k l0_0 l1).bind fun bt732 => (if (strOfNums bt727.1).toList = (strOfNums bt732.1).toList then (if bt727.2.1 = bt732.2.1 then (some (bt727.2.2 == bt732.2.2)) else (none)) else (none)))) else (none))) = some r := H
  have A5 := zk A50
  clear A50
  obtain ⟨y721, hy721⟩ : ∃ y_ : List Int, y_ = (([] : List Int)) := ⟨_, rfl⟩
  replace H : (if y721.length + l1.length < 17592186044416 then ((code_Text.f k t718 (y721 ++ l1)).bind fun bt727 => ((leadtrailref10_Text.f k l0_0 l1).bind fun bt732 => (if (strOfNums bt727.1).toList = (strOfNums bt732.1).toList then (if bt727.2.1 = bt732.2.1 then (some (bt727.2.2 == bt732.2.2)) else (none)) else (none)))) else (none)) = some r := by first | (rw [hy721]; with_reducible exact H) | (have H2_ := (Option.bind_some _ _).symm.trans H; rw [hy721]; with_reducible exact H2_) | (have H2_ := (Option.bind_some _ _).symm.trans H; with_reducible exact H2_) | with_reducible exact H | (rw [hy721]; exact H) | exact H
  have Ny721 := zk hy721
  clear hy721
  by_cases c6 : y721.length + l1.length < 17592186044416
  ·rw [if_pos c6] at H
   have LMc6 := zk c6
   clear c6
   obtain ⟨y724, hy724⟩ : ∃ y_ : List Int, y_ = (y721 ++ l1) := ⟨_, rfl⟩
   replace H : ((code_Text.f k t718 y724).bind fun bt727 => ((leadtrailref10_Text.f k l0_0 l1).bind fun bt732 => (if (strOfNums bt727.1).toList = (strOfNums bt732.1).toList then (if bt727.2.1 = bt732.2.1 then (some (bt727.2.2 == bt732.2.2)) else (none)) else (none)))) = some r := by first | (rw [hy724]; with_reducible exact H) | (have H2_ := (Option.bind_some _ _).symm.trans H; rw [hy724]; with_reducible exact H2_) | (have H2_ := (Option.bind_some _ _).symm.trans H; with_reducible exact H2_) | with_reducible exact H | (rw [hy724]; exact H) | exact H
   have Ny724 := zk hy724
   clear hy724
   replace H := Option.bind_eq_some_iff.mp H
   obtain ⟨⟨t727, t730, t731⟩, A70, H⟩ := H
   replace H : ((leadtrailref10_Text.f k l0_0 l1).bind fun bt732 => (if (strOfNums t727).toList = (strOfNums bt732.1).toList then (if t730 = bt732.2.1 then (some (t731 == bt732.2.2)) else (none)) else (none))) = some r := H
   have A7 := zk A70
   clear A70
   replace H := Option.bind_eq_some_iff.mp H
   obtain ⟨⟨t732, t735, t736⟩, A80, H⟩ := H
   replace H : (if (strOfNums t727).toList = (strOfNums t732).toList then (if t730 = t735 then (some (t731 == t736)) else (none)) else (none)) = some r := H
   have A8 := zk A80
   clear A80
   by_cases c9 : (strOfNums t727).toList = (strOfNums t732).toList
   ·rw [if_pos c9] at H
    have c9b0 : ((strOfNums t727).toList == (strOfNums t732).toList) = true := beq_iff_eq.mpr c9
    have c9b1 : ((strOfNums t727).toList != (strOfNums t732).toList) = false := bne_eq_false_iff_eq.mpr c9
    clear c9
    by_cases c10 : t730 = t735
    ·rw [if_pos c10] at H
     have c10b0 : (t730 == t735) = true := beq_iff_eq.mpr c10
     have c10b1 : (t730 != t735) = false := bne_eq_false_iff_eq.mpr c10
     clear c10
     obtain rfl := Option.some.inj H
     go_enter Try.func16, Try.ntmps16
     go_wp2_with (first | ((with_reducible refine gate_dst (N := 2) rfl ?_); refine box_event ?hg (N := 2) ?hd (cs := #[.slice A0_0 l0_0.length c0_0]) (t := 24) ?hr ?_; (case hd => rfl); (case hg => rfl); (case hr => first | (go_simp; done) | (go_simp; rfl)); intro gb716 hg w11 hbox hb; have n0_ := zk (below_step (zU HB.out) hb); have n1_ := zk (hbox); have n2_ := zk ((by rw [hg]; exact (below_size (zU HB.out)) : w.heap.size ≤ gb716)); have n3_ := zk ((by rw [hg]; exact (below_size (zU HB.out)) : w.heap.size ≤ gb716)); clear HB; have HB := n0_; have BK716 := n1_; have GW716 := n2_; have GE716 := n3_; clear n0_ n1_ n2_ n3_; clear hb hbox hg) | ((with_reducible refine gate_callee (f := 68) rfl ?_); refine goesL_ (some 11) rfl rfl Try.func68 (by kernel_rfl) rfl #[] rfl zM ?_; (with_reducible refine (leadtraillaw10_fixed.calls k  true _ A3.out rfl).mono ?_); rintro e w12 ⟨rfl, hb⟩; refine ⟨_, rfl, ?_⟩; have n0_ := zk (zbb BK716.out hb); have n1_ := zk (below_step (zU HB.out) hb); clear BK716; clear HB; have BK716 := n0_; have HB := n1_; clear n0_ n1_; (try clear hb); (try clear hb2); (try clear hk); (try clear hi); have hcz13_0 : w12.cell? ⟨gb716, 0, none⟩ = some (.slice A0_0 l0_0.length c0_0) := (blk_cell BK716.out 0).trans rfl; have hfz13_0 := blk_frozen BK716.out 0) | ((with_reducible refine gate_callee (f := 20) rfl ?_); refine goesL_ (some 15) rfl rfl Try.func20 (by kernel_rfl) rfl #[.agg #[.slice A0_0 l0_0.length c0_0]] rfl zM ?_; (with_reducible refine (leadtrailref08_Copy.calls k _ _ l0_0 t718 _ ?side1 ?side2 A5.out).mono ?_); (case side1 => exact zc (Kd.C_below HR0_0.out HB.out)); (case side2 => exact HC0_0.out); rintro e w14 ⟨v719, rfl, ho0, hb⟩; refine ⟨_, rfl, ?_⟩; have n0_ := zk (Kd.R_lower ho0 (below_size (zU HB.out))); have n1_ := zk (zbb BK716.out hb); have n2_ := zk (below_step (zU HB.out) hb); clear BK716; clear HB; have HO720 := n0_; have BK716 := n1_; have HB := n2_; clear n0_ n1_ n2_; (try clear hb); (try clear hb2); (try clear hk); (try clear hi); (try clear ho0)) | ((with_reducible refine gate_dst (N := 16) rfl ?_); refine Kd.R_lit (Kd.int .i64) _ 3 ?hg (N := 16) ?hd (xs := ([] : List Int)) (inner := []) (ok := fun _ => True) (okp := fun _ => True) ?hr ?hp (fun _ hk => hk) trivial (Below.refl _ _) (Nat.le_refl _) (by simp) ?_; (case hd => rfl); (case hg => rfl); (case hr => first | (go_simp; done) | (go_simp; rfl)); (case hp => exact (Reps.none _ _)); intro v722 w15 ho16 hb hg_ hnew_; clear hg_ hnew_; (first | rw [← Ny721.out] at ho16 | (simp only [Int.reduceToNat] at ho16; rw [← Ny721.out] at ho16)); have n0_ := zk (Kd.R_below (zr HO720.out) hb); have n1_ := zk (Kd.R_lower ho16 (below_size (zU HB.out))); have n2_ := zk (zbb BK716.out hb); have n3_ := zk (below_step (zU HB.out) hb); clear HO720; clear BK716; clear HB; have HO720 := n0_; have HO723 := n1_; have BK716 := n2_; have HB := n3_; clear n0_ n1_ n2_ n3_; clear hb ho16) | ((with_reducible refine gate_builtin (b := .append) (xs := #[.tmp 16, .tmp 17]) rfl ?_); at_builtin; refine Kd.R_append_rows (Kd.int .i64) (w0 := w) w.heap.size rfl (.tmp 16) (.tmp 17) 31 3 (.int .i64 0) 8 rfl Try.underlying31 info3 rfl (by decide) (by omega) v722 y721 l1 _ _ _ (fun _ => True) (fun _ => False) rfl rfl ?aO ?aR (fun _ _ h => h) (fun _ h => h.elim) ?aF ?aB ?aS ?aL ?_; (case aR => exact zc (Kd.C_below HR1.out HB.out)); (case aB => exact (zU HB.out)); (case aF => exact (fun _ _ => trivial)); (case aO => exact (zr HO723.out)); (case aS => exact (below_size (zU HB.out))); (case aL => have := LMc6.out; omega); intro v725 w17 ho hb hg hat; rw [← Ny724.out] at ho; have n0_ := zk (blk_grown (g := gb716) (o := .cells #[.slice A0_0 l0_0.length c0_0] 24 (0, 0)) (zb BK716.out) hg (Kd.R_ne HO723.out BK716.out (by decide))); have n1_ := zk (Kd.R_over' (zr HO720.out) (Kd.R_typed (zr HO723.out)) (by decide) hg); have n2_ := zk (hb); have n3_ := zk (ho); clear BK716; clear HO720; clear HB; clear HO723; have BK716 := n0_; have HO720 := n1_; have HB := n2_; have HO726 := n3_; clear n0_ n1_ n2_ n3_; clear ho hb hg hat; obtain ⟨Ao18, co18, eo18⟩ := Kd.R_slice HO720.out; subst eo18; obtain ⟨Ao19, co19, eo19⟩ := Kd.R_slice HO726.out; subst eo19) | ((with_reducible refine gate_callee (f := 70) rfl ?_); refine goesL_ (some 19) rfl rfl Try.func70 (by kernel_rfl) rfl #[.agg #[.slice Ao18 t718.length co18], .slice Ao19 y724.length co19] rfl zM ?_; (with_reducible refine (code_Text.calls k _ _ t718 _ _ y724 t727 t730 t731 _ ?side1 ?side2 ?side3 ?side4 A7.out).mono ?_); (case side1 => repeat (first | exact (Kd.R_reads' HO720.out).2.2 | (with_reducible refine Kd.C_alloc ?_ _) | (with_reducible refine Kd.C_drewN ?_ _) | (with_reducible refine Kd.C_drew ?_))); (case side2 => exact (Kd.R_reads' HO720.out).2.1); (case side3 => repeat (first | exact (Kd.R_reads' HO726.out).2.2 | (with_reducible refine Kd.C_alloc ?_ _) | (with_reducible refine Kd.C_drewN ?_ _) | (with_reducible refine Kd.C_drew ?_))); (case side4 => exact (Kd.R_reads' HO726.out).2.1); rintro e w20 ⟨v728, rfl, ho0, hb⟩; refine ⟨_, rfl, ?_⟩; have n0_ := zk (Kd.R_below (zr HO720.out) hb); have n1_ := zk (Kd.R_below (zr HO726.out) hb); have n2_ := zk (Kd.R_lower ho0 (below_size (zU HB.out))); have n3_ := zk (zbb BK716.out hb); have n4_ := zk (below_step (zU HB.out) hb); clear HO720; clear HO726; clear BK716; clear HB; have HO720 := n0_; have HO726 := n1_; have HO729 := n2_; have BK716 := n3_; have HB := n4_; clear n0_ n1_ n2_ n3_ n4_; (try clear hb); (try clear hb2); (try clear hk); (try clear hi); (try clear ho0); have hcz21_0 : w20.cell? ⟨gb716, 0, none⟩ = some (.slice A0_0 l0_0.length c0_0) := (blk_cell BK716.out 0).trans rfl; have hfz21_0 := blk_frozen BK716.out 0) | ((with_reducible refine gate_callee (f := 71) rfl ?_); refine goesL_ (some 26) rfl rfl Try.func71 (by kernel_rfl) rfl #[.agg #[.slice A0_0 l0_0.length c0_0], .slice A1 l1.length c1] rfl zM ?_; (with_reducible refine (leadtrailref10_Text.calls k _ _ l0_0 _ _ l1 t732 t735 t736 _ ?side1 ?side2 ?side3 ?side4 A8.out).mono ?_); (case side1 => exact zc (Kd.C_below HR0_0.out HB.out)); (case side2 => exact HC0_0.out); (case side3 => exact zc (Kd.C_below HR1.out HB.out)); (case side4 => exact HC1.out); rintro e w22 ⟨v733, rfl, ho0, hb⟩; refine ⟨_, rfl, ?_⟩; have n0_ := zk (Kd.R_below (zr HO720.out) hb); have n1_ := zk (Kd.R_below (zr HO726.out) hb); have n2_ := zk (Kd.R_elder' (zr HO729.out) (Kd.R_base ho0) hb); have n3_ := zk (Kd.R_lower (Kd.R_new' ho0 (Kd.R_lt (zr HO729.out))) (below_size (zU HB.out))); have n4_ := zk (zbb BK716.out hb); have n5_ := zk (below_step (zU HB.out) hb); clear HO720; clear HO726; clear HO729; clear BK716; clear HB; have HO720 := n0_; have HO726 := n1_; have HO729 := n2_; have HO734 := n3_; have BK716 := n4_; have HB := n5_; clear n0_ n1_ n2_ n3_ n4_ n5_; (try clear hb); (try clear hb2); (try clear hk); (try clear hi); (try clear ho0); have hcv23 := own_string (P := Try.prog) Try.underlying52 Try.underlying5 Try.underlying9 (Kd.own_of_R HO729.out); have hcv24 := own_string (P := Try.prog) Try.underlying52 Try.underlying5 Try.underlying9 (Kd.own_of_R HO734.out)))
     go_ret
     exact ⟨by first | rfl | (simp [errW_none, errW_some] <;> rfl) | (simp [*, errW_none, errW_some] <;> rfl), zU HB.out⟩
    ·rw [if_neg c10] at H
     exact absurd H (by simp)
   ·rw [if_neg c9] at H
    exact absurd H (by simp)
  ·rw [if_neg c6] at H
   exact absurd H (by simp)
 ·replace c4 := Bool.eq_false_iff.mpr c4
  subst c4
  have H1 : (none) = some r := by rw [if_neg (show ¬ (false = true) by decide)] at H; exact H
  clear H
  have H := H1
  clear H1
  exact absurd H (by simp)
end Go.Proofs.Ytkcklnmbeinfkaa.B
