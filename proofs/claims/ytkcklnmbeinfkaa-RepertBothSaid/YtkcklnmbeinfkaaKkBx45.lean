/- Words and walks of this claim, of the text Bx45. -/
import Derived.Test.YtkcklnmbeinfkaaKkQW0
import Derived.Test.YtkcklnmbeinfkaaKkBx0
namespace Go.Proofs.Ytkcklnmbeinfkaa.B
open Go.RowKit Go.Proofs.YtkcklnmbeinfkaaW.PrintWords Go.Proofs.YtkcklnmbeinfkaaW.PrintLast Go.Proofs.YtkcklnmbeinfkaaW.PrintMore
attribute [local go_sem] max2_int min2_int max_two min_two max_three min_three max_four min_four
set_option linter.unusedVariables false
set_option linter.unusedSimpArgs false
def leadtrailref04_ends.l0 : Nat → List (S102) → List Int → Int → Option (List Int)
 | 0, _, _, _ => none
 | k + 1, x0, x3, x4 => if x4 < (x0.length : Int) then (if 0 ≤ x4 then ((some (([(rd_T102 x0 x4).f0, wrap64 (((rd_T102 x0 x4).f1) + 1)] : List Int) : List Int)).bind fun y1231 => (if x3.length + y1231.length < 17592186044416 then (leadtrailref04_ends.l0 k x0 (x3 ++ y1231) (wrap64 (x4 + 1))) else (none))) else (none)) else (some x3)
def leadtrailref04_ends.f (k : Nat) (l0 : List (S102)) : Option (List Int) := leadtrailref04_ends.l0 k l0 ([] : List Int) 0
def leadtrailref04_ends.T5 : Bool × List (List Nat × List Nat) := (true, [([], []), ([], []), ([], []), ([1, 2], [1, 2]), ([3], [3]), ([4], [4]), ([], []), ([], []), ([6, 7], [6, 7]), ([8], [8]), ([9], [9]), ([10], [10]), ([5, 11], [5, 11]), ([0, 12], [0, 12]), ([13, 13, 0, 1, 2, 3, 4, 5, 6, 7, 8, 9, 10, 11, 12, 13], [0, 13])])
def leadtrailref04_ends.B5 : List Nat := [0, 0, 0, 6, 14, 30, 0, 0, 192, 448, 960, 1984, 4094, 8191, 16383]
theorem leadtrailref04_ends.tab5 : rtab .any (opsOf Try.f157 5) = leadtrailref04_ends.T5 := by kernel_rfl
theorem leadtrailref04_ends.bits5 : waitsOk leadtrailref04_ends.T5.2 leadtrailref04_ends.B5 = true := by kernel_rfl
set_option maxHeartbeats 8000000 in
set_option maxRecDepth 100000 in
theorem leadtrailref04_ends.calls (k : Nat) (A0 : Option Addr) (c0 : Nat) (l0 : List (S102)) (r : List Int) (w : World) (hr0 : Kd.C k102 w A0 l0.length l0) (hc0 : l0.length ≤ c0) (h : leadtrailref04_ends.f k l0 = some r) :
 Calls Try.prog 157 #[.slice A0 l0.length c0] w fun e w' => ∃ v0_ : Value, e = .returned (v0_) ∧ Kd.R (Kd.int .i64) 3 w' w.heap.size (fun _ => True) v0_ r ∧ Below w.heap.size w w' := by
 have HR0 := zk hr0; have HC0 := zk hc0; clear hr0 hc0; have HB := zk (Below.refl w.heap.size w); have H : (leadtrailref04_ends.l0 k l0 ([] : List Int) 0) = some r := h; clear h; have H' := zk H; clear H; go_enter Try.func157, Try.ntmps157
 go_wp2
 go_loopg [3, 4] k (fun kq v3 v4 w' => ∃ (x3_1 : List Int) (x4_1 : Int), v4 = .int .i64 x4_1 ∧ Aside0 (leadtrailref04_ends.l0 kq l0 x3_1 x4_1 = some r) ∧ Aside0 (kq ≤ k) ∧ Aside0 (Kd.R (Kd.int .i64) 3 w' w.heap.size (fun _ => True) v3 x3_1) ∧ Aside0 (Below w.heap.size w w'))
 case atStart => exact ⟨(([] : List Int)), (0), zR, H', ⟨Nat.le_refl _⟩, ⟨by first | exact Kd.R_nil _ _ _ _ _ | exact Kd.N_nil _ _ _ _ _ | exact Kd.V_nil _ _ _ _ _ | exact Kd.Q_nil _ _ _ _ _ | exact Kd.S_nil _ _ _ _ _⟩, ⟨zU HB.out⟩⟩
 case round =>
  clear H'; (try clear c1); obtain ⟨x3_1, x4_1, rfl, HA, HK1, HO_3, HB⟩ := hrel
  cases gk with
  | zero => exact absurd HA.out (by simp [leadtrailref04_ends.l0])
  | succ k1 =>
   have H := HA.out; clear HA; simp only [leadtrailref04_ends.l0] at H; by_cases c2 : x4_1 < (l0.length : Int)
   ·rw [if_pos c2] at H; have c2b0 : decide (x4_1 < (l0.length : Int)) = true := decide_eq_true c2; clear c2; by_cases c3 : 0 ≤ x4_1
    ·rw [if_pos c3] at H; have c3b0 : decide (0 ≤ x4_1) = true := decide_eq_true c3; clear c3; obtain ⟨y1231, hy1231⟩ : ∃ y_ : List Int, y_ = (([(rd_T102 l0 x4_1).f0, wrap64 (((rd_T102 l0 x4_1).f1) + 1)] : List Int)) := ⟨_, rfl⟩
     replace H : (if x3_1.length + y1231.length < 17592186044416 then (leadtrailref04_ends.l0 k1 l0 (x3_1 ++ y1231) (wrap64 (x4_1 + 1))) else (none)) = some r := by first | (rw [hy1231]; with_reducible exact H) | (have H2_ := (Option.bind_some _ _).symm.trans H; rw [hy1231]; with_reducible exact H2_) | (have H2_ := (Option.bind_some _ _).symm.trans H; with_reducible exact H2_) | with_reducible exact H | (rw [hy1231]; exact H) | exact H
     have Ny1231 := zk hy1231; clear hy1231; by_cases c4 : x3_1.length + y1231.length < 17592186044416
     ·rw [if_pos c4] at H; have LMc4 := zk c4; clear c4; obtain ⟨y1234, hy1234⟩ : ∃ y_ : List Int, y_ = (x3_1 ++ y1231) := ⟨_, rfl⟩
      replace H : (leadtrailref04_ends.l0 k1 l0 y1234 (wrap64 (x4_1 + 1))) = some r := by first | (rw [hy1234]; with_reducible exact H) | (have H2_ := (Option.bind_some _ _).symm.trans H; rw [hy1234]; with_reducible exact H2_) | (have H2_ := (Option.bind_some _ _).symm.trans H; with_reducible exact H2_) | with_reducible exact H | (rw [hy1234]; exact H) | exact H
      have Ny1234 := zk hy1234; clear hy1234; have H' := zk H; clear H; try go_wp2
      have n0_ := zk (Kd.R_drew HO_3.out); have n1_ := zk (below_drew1 HB.out); clear HO_3; clear HB; have HO_3 := n0_; have HB := n1_; clear n0_ n1_; have p1229 : 0 ≤ (x4_1 : Int) := zT; have q1229 : x4_1 < (l0.length : Int) := zT; obtain ⟨ad1229, e1229, hx1229_0, hx1229_1⟩ := at_T102 HR0.out x4_1 p1229 q1229; have hw1229_1 := hx1229_1; have hw1229_0 := hx1229_0; cases e1229; replace hx1229_0 := zcl HB.out hx1229_0; replace hx1229_1 := zcl HB.out hx1229_1; replace p1229 := eq_true p1229; replace q1229 := eq_true q1229; have p1230 : 0 ≤ (x4_1 : Int) := zT; have q1230 : x4_1 < (l0.length : Int) := zT; obtain ⟨ad1230, e1230, hx1230_0, hx1230_1⟩ := at_T102 HR0.out x4_1 p1230 q1230; have hw1230_1 := hx1230_1; have hw1230_0 := hx1230_0; obtain rfl : ad1229 = ad1230 := (by injection e1230); replace hx1230_0 := zcl HB.out hx1230_0; replace hx1230_1 := zcl HB.out hx1230_1; replace p1230 := eq_true p1230; replace q1230 := eq_true q1230; refine start_ (n := 15) (S := fun w' => w'.cell? (ad1229.add ((x4_1).toNat * 2)) = some (.int .i64 ((rd_T102 l0 x4_1).f0)) ∧ w'.cell? ⟨(ad1229.add ((x4_1).toNat * 2)).block, (ad1229.add ((x4_1).toNat * 2)).off + 1, none⟩ = some (.int .i64 ((rd_T102 l0 x4_1).f1)) ∧ w'.cell? (ad1229.add ((x4_1).toNat * 2)) = some (.int .i64 ((rd_T102 l0 x4_1).f0)) ∧ w'.cell? ⟨(ad1229.add ((x4_1).toNat * 2)).block, (ad1229.add ((x4_1).toNat * 2)).off + 1, none⟩ = some (.int .i64 ((rd_T102 l0 x4_1).f1))) (ds := []) #[false, false, false, false, false, false, false, false, false, false, false, false, false, false, false] zz rfl rfl ⟨(zcl HB.out hw1229_0), (zcl HB.out hw1229_1), (zcl HB.out hw1230_0), (zcl HB.out hw1230_1)⟩ (fun hHeld => ?_); refine with_tabW leadtrailref04_ends.tab5 leadtrailref04_ends.bits5 (fun HT_ HW_ => ?_); generalize wr.drew = w5 at HO_3 HB hx1229_0 hx1229_1 hx1230_0 hx1230_1 hHeld ⊢; refine zp 0 (some 11) (v := ?_) (a' := ?_) (bz 15 1) rfl rfl HT_.out zz zQ ?_ ?_ ?_; rotate_left
      ·intro w'; go_simp; with_reducible rfl
      rotate_left
      ·simp only [Act.put, zv, i64_w, i32_w]; rfl
      refine zp 1 (some 12) (v := ?_) (a' := ?_) (bz 15 3) rfl rfl HT_.out zz zQ ?_ ?_ ?_; rotate_left
      ·intro w'; go_simp; with_reducible rfl
      rotate_left
      ·simp only [Act.put, zv, i64_w, i32_w]; rfl
      refine zp 2 (some 13) (v := ?_) (a' := ?_) (bz 15 7) rfl rfl HT_.out zz zQ ?_ ?_ ?_; rotate_left
      ·intro w'; go_simp; with_reducible rfl
      rotate_left
      ·simp only [Act.put, zv, i64_w, i32_w]; rfl
      refine zp 3 (some 14) (v := ?_) (a' := ?_) (bz 15 15) rfl rfl HT_.out zz zQ ?_ ?_ ?_; rotate_left
      ·intro w'; go_simp; with_reducible rfl
      rotate_left
      ·simp only [Act.put, zv, i64_w, i32_w]; rfl
      refine zp 4 (some 15) (v := ?_) (a' := ?_) (bz 15 31) rfl rfl HT_.out zz zQ ?_ ?_ ?_; rotate_left
      ·intro w'; go_simp; with_reducible rfl
      rotate_left
      ·simp only [Act.put, zv, i64_w, i32_w]; rfl
      refine zp 6 (some 17) (v := ?_) (a' := ?_) (bz 15 95) rfl rfl HT_.out zz zQ ?_ ?_ ?_; rotate_left
      ·intro w'; go_simp; with_reducible rfl
      rotate_left
      ·simp only [Act.put, zv, i64_w, i32_w]; rfl
      refine zp 7 (some 18) (v := ?_) (a' := ?_) (bz 15 223) rfl rfl HT_.out zz zQ ?_ ?_ ?_; rotate_left
      ·intro w'; go_simp; with_reducible rfl
      rotate_left
      ·simp only [Act.put, zv, i64_w, i32_w]; rfl
      refine zp 8 (some 19) (v := ?_) (a' := ?_) (bz 15 479) rfl rfl HT_.out zz zQ ?_ ?_ ?_; rotate_left
      ·intro w'; go_simp; with_reducible rfl
      rotate_left
      ·simp only [Act.put, zv, i64_w, i32_w]; rfl
      refine zp 9 (some 20) (v := ?_) (a' := ?_) (bz 15 991) rfl rfl HT_.out zz zQ ?_ ?_ ?_; rotate_left
      ·intro w'; go_simp; with_reducible rfl
      rotate_left
      ·simp only [Act.put, zv, i64_w, i32_w]; rfl
      refine take_ (i := 5) (N := some 16) (v := ?_) (a' := ?_) (bz 15 1023) rfl rfl (take_ofW HT_.out HW_.out zz) zQ (Or.inl ⟨by rfl, ?_⟩) hHeld ?_ ?_; rotate_left
      ·rintro w' ⟨s0, s1, s2, s3⟩; go_simp; with_reducible rfl
      rotate_left
      ·simp only [Act.put, zv, i64_w, i32_w]; rfl
      refine take_ (i := 10) (N := some 21) (v := ?_) (a' := ?_) (bz 15 2047) rfl rfl (take_ofW HT_.out HW_.out zz) zQ (Or.inl ⟨by rfl, ?_⟩) hHeld ?_ ?_; rotate_left
      ·rintro w' ⟨s0, s1, s2, s3⟩; go_simp; with_reducible rfl
      rotate_left
      ·simp only [Act.put, zv, i64_w, i32_w]; rfl
      refine zp 11 (some 22) (v := ?_) (a' := ?_) (bz 15 4095) rfl rfl HT_.out zz zQ ?_ ?_ ?_; rotate_left
      ·intro w'; go_simp; with_reducible rfl
      rotate_left
      ·simp only [Act.put, zv, i64_w, i32_w]; rfl
      refine one_ (i := 12) (N := some 23) (bz 15 8191) rfl rfl (one_of HT_.out zz) (by decide) (fun K hK => ?_); refine Kd.R_lit_step (Kd.int .i64) _ 3 ?hg (N := 23) ?hd (xs := ([(rd_T102 l0 x4_1).f0, wrap64 (((rd_T102 l0 x4_1).f1) + 1)] : List Int)) (inner := [.int .i64 ((rd_T102 l0 x4_1).f0), .int .i64 (wrap64 (((rd_T102 l0 x4_1).f1) + 1))]) (ok := fun _ => True) (okp := fun _ => True) ?hr ?hp (fun _ hk => hk) trivial (Below.refl _ _) (Nat.le_refl _) (by simp) ?_; (case hd => rfl); (case hg => rfl); (case hr => first | (go_simp; done) | (go_simp; rfl)); (case hp => exact (Reps.one (show Kd.M (Kd.int .i64) _ _ _ ((rd_T102 l0 x4_1).f0) [.int .i64 ((rd_T102 l0 x4_1).f0)] from rfl) (Reps.one (show Kd.M (Kd.int .i64) _ _ _ (wrap64 (((rd_T102 l0 x4_1).f1) + 1)) [.int .i64 (wrap64 (((rd_T102 l0 x4_1).f1) + 1))] from rfl) (Reps.none _ _)))); intro v1232 w6 ho7 hb hg_ hnew_; clear hg_ hnew_
      (first | rw [← Ny1231.out] at ho7 | (simp only [Int.reduceToNat] at ho7; rw [← Ny1231.out] at ho7))
      have n0_ := zk (Kd.R_elder' (zr HO_3.out) (Kd.R_base ho7) hb); have n1_ := zk (Kd.R_lower (Kd.R_new' ho7 (Kd.R_lt (zr HO_3.out))) (below_size (zU HB.out))); have n2_ := zk (below_step (zU HB.out) hb); clear HO_3; clear HB; have HO_3 := n0_; have HO1233 := n1_; have HB := n2_; clear n0_ n1_ n2_; clear hb ho7; obtain ⟨Ao9, co9, eo9⟩ := Kd.R_slice HO1233.out
      (first | subst eo9 | (injection eo9 with f1_ f2_ f3_; have f4_ := f1_.symm; have f5_ := f3_.symm; clear f1_ f2_ f3_; subst f4_; subst f5_))
      refine hK.out _ _ ⟨(zcl HB.out hw1229_0), (zcl HB.out hw1229_1), (zcl HB.out hw1230_0), (zcl HB.out hw1230_1)⟩ (fun hHeld => ?_); clear hK K; refine norm_ (a' := ?_) ?_ ?_; rotate_left
      ·show Act.put _ (some 23) _ = _; simp only [Act.put, zv, i64_w, i32_w]; rfl
      refine one_ (i := 13) (N := some 24) (bz 15 16383) rfl rfl (one_of HT_.out zz) (by decide) (fun K hK => ?_); refine Kd.R_append_rows_step (Kd.int .i64) (w0 := w) w.heap.size (by rfl) (.tmp 11) (.tmp 23) 31 3 (.int .i64 0) 8 rfl Try.underlying31 info3 rfl (by decide) (by omega) u3 x3_1 y1231 _ _ _ (fun k_ => some k_ ≠ (.slice Ao9 y1231.length co9 : Value).ownBlock) (fun _ => False) rfl rfl ?aO ?aR (fun _ _ h => h) (fun _ h => h.elim) ?aF ?aB ?aS ?aL ?_; (case aR => exact zc (Kd.R_reads' HO1233.out).2.2)
      (case aB => exact (zU HB.out))
      (case aF => exact (fun k_ hk => Kd.fresh' (Kd.R_lt (zr HO1233.out)) k_ hk))
      (case aO => exact (by (with_reducible repeat (first | apply zA | apply zB | apply zC)); exact Kd.R_mono HO_3.out (fun _ hk => hk.2)))
      (case aS => exact (below_size (zU HB.out)))
      (case aL => have := LMc4.out; omega)
      intro v1235 w8 ho hb hg hat; rw [← Ny1234.out] at ho; have n0_ := zk (Kd.R_after (ok := (fun _ => True)) (zr HO1233.out) hg hat); have n1_ := zk (hb); have n2_ := zk (ho); clear HO1233; clear HB; clear HO_3; have HO1233 := n0_; have HB := n1_; have HO1236 := n2_; clear n0_ n1_ n2_; clear ho hb hg hat; refine hK.out _ _ ⟨(zcl HB.out hw1229_0), (zcl HB.out hw1229_1), (zcl HB.out hw1230_0), (zcl HB.out hw1230_1)⟩ (fun hHeld => ?_); clear hK K; refine norm_ (a' := ?_) ?_ ?_; rotate_left
      ·show Act.put _ (some 24) _ = _; simp only [Act.put, zv, i64_w, i32_w]; rfl
      refine zp 14 (some 3) (v := ?_) (a' := ?_) (bz 15 32767) rfl rfl HT_.out zz zQ ?_ ?_ ?_; rotate_left
      ·intro w'; go_simp; with_reducible rfl
      rotate_left
      ·simp only [Act.put, zv, i64_w, i32_w]; rfl
      refine done_ (done_of HT_.out zz) ?_; try go_wp2
      go_roundg k1
      case measure => have := HK1.out; omega
      case rel => exact ⟨(y1234), (wrap64 (x4_1 + 1)), zR, H', ⟨by have := HK1.out; omega⟩, ⟨by (with_reducible repeat (first | apply zA | apply zB | apply zC)); exact Kd.R_mono HO1236.out (fun _ hk => trivial)⟩, ⟨zU HB.out⟩⟩
     ·rw [if_neg c4] at H; exact absurd H (by simp)
    ·rw [if_neg c3] at H; exact absurd H (by simp)
   ·rw [if_neg c2] at H; have c2b0 : decide (x4_1 < (l0.length : Int)) = false := decide_eq_false c2; clear c2; obtain rfl := Option.some.inj H; go_wp2
    go_ret
    exact ⟨_, ze, by (with_reducible repeat (first | apply zA | apply zB | apply zC)); exact HO_3.out, zU HB.out⟩
end Go.Proofs.Ytkcklnmbeinfkaa.B
