/- Words and walks of this claim, of the text Bx30. -/
import Derived.Test.YtkcklnmbeinfkaaKiQW0
import Derived.Test.YtkcklnmbeinfkaaKiBx0
import Derived.Test.YtkcklnmbeinfkaaKiBx10
import Derived.Test.YtkcklnmbeinfkaaKiBx22
import Derived.Test.YtkcklnmbeinfkaaKiBx13
import Derived.Test.YtkcklnmbeinfkaaKiBx12
import Derived.Test.YtkcklnmbeinfkaaKiBx8
import Derived.Test.YtkcklnmbeinfkaaKiBx9
import Derived.Test.YtkcklnmbeinfkaaKiBx15
import Derived.Test.YtkcklnmbeinfkaaKiBx23
namespace Go.Proofs.Ytkcklnmbeinfkaa.B
open Go.RowKit Go.Proofs.YtkcklnmbeinfkaaW.PrintWords Go.Proofs.YtkcklnmbeinfkaaW.PrintLast Go.Proofs.YtkcklnmbeinfkaaW.PrintMore
attribute [local go_sem] max2_int min2_int max_two min_two max_three min_three max_four min_four
set_option linter.unusedVariables false
set_option linter.unusedSimpArgs false
def leadtrailref10_Text.T7 : Bool × List (List Nat × List Nat) := (true, [([], []), ([], []), ([], []), ([1, 2], [1, 2]), ([3], [3]), ([0, 4], [0, 4]), ([5], [5]), ([6], [6]), ([6], [6]), ([7, 5, 0, 1, 2, 3, 4, 5, 6, 7], [7]), ([8, 9, 0, 1, 2, 3, 4, 5, 6, 7, 8, 9], [8])])
def leadtrailref10_Text.B7 : List Nat := [0, 0, 0, 6, 14, 31, 63, 127, 127, 255, 1023]
theorem leadtrailref10_Text.tab7 : rtab .any (opsOf Try.f71 7) = leadtrailref10_Text.T7 := by kernel_rfl
theorem leadtrailref10_Text.bits7 : waitsOk leadtrailref10_Text.T7.2 leadtrailref10_Text.B7 = true := by kernel_rfl
def asked_I.f (l0_0 : List (S50)) (a1 : Int) (a2 : Int) : Option Bool := if 0 ≤ a1 ∧ a1 < (l0_0.length : Int) ∧ 0 ≤ a2 ∧ a2 < (l0_0.length : Int) then some (decide (a1 < a2) && decide ((((rd_T50 l0_0 a1).f0).length : Int) = (((rd_T50 l0_0 a2).f0).length : Int))) else none
set_option maxHeartbeats 4000000 in
set_option maxRecDepth 100000 in
theorem asked_I.calls (A0_0 : Option Addr) (c0_0 : Nat) (l0_0 : List (S50)) (a1 : Int) (a2 : Int) (r : Bool) (w : World) (hr0_0 : Kd.C k50 w A0_0 l0_0.length l0_0) (hc0_0 : l0_0.length ≤ c0_0) (h : asked_I.f l0_0 a1 a2 = some r) (gs : Nat) (hbx : w.heap[gs]? = some (.cells #[.slice A0_0 l0_0.length c0_0] 24 (0, 0))) :
 Calls Try.prog 108 #[.int .i64 a1, .int .i64 a2, .pointer (some ⟨gs, 0, none⟩)] w fun e w' => e = .returned (.bool r) ∧ Below w.heap.size w w' := by
 have hu24 := Try.underlying24; have hu50 := Try.underlying50; unfold asked_I.f at h
 split at h
 ·rename_i hc
  obtain ⟨p1, q1, p2, q2⟩ := hc; obtain rfl := Option.some.inj h; obtain ⟨ad, A1, c1, e1, hx1_0, hx1_1, hl1, hi1⟩ := at_T50 hr0_0 a1 p1 q1; obtain ⟨ad2, A2, c2, e2, hx2_0, hx2_1, hl2, hi2⟩ := at_T50 hr0_0 a2 p2 q2; subst e1; obtain rfl := Option.some.inj e2; have hcz : w.cell? ⟨gs, 0, none⟩ = some (.slice (some ad) l0_0.length c0_0) := (blk_cell hbx 0).trans rfl
  clear hbx hi1 hi2 hr0_0 hl1 hl2 h hx1_1 hx2_1 e2; generalize (rd_T50 l0_0 a1).f0.length = n1 at hx1_0 ⊢
  generalize (rd_T50 l0_0 a2).f0.length = n2 at hx2_0 ⊢
  replace p1 := eq_true p1; replace q1 := eq_true q1; replace p2 := eq_true p2; replace q2 := eq_true q2; have HW := zk (Below.refl w.heap.size w)
  go_enter Try.func108, Try.ntmps108
  by_cases c : a1 < a2
  ·have cb : decide (a1 < a2) = true := decide_eq_true c
   rw [cb]
   clear c
   go_wp2
   repeat (go_quiet (fail); try go_wp2)
   go_ret
   exact ⟨by first | rfl | (simp; done) | (simp; rfl), by exact pw_below_drewN HW.out _⟩
  ·have cb : decide (a1 < a2) = false := decide_eq_false c
   rw [cb]
   clear c
   go_wp2
   repeat (go_quiet (fail); try go_wp2)
   go_ret
   exact ⟨by first | rfl | (simp; done) | (simp; rfl), by exact pw_below_drewN HW.out _⟩
 ·cases h
def asked_P.f (l0_0 : List (S50)) (a1 : Int) (a2 : Int) : Option Bool := if 0 ≤ a1 ∧ a1 < (l0_0.length : Int) ∧ 0 ≤ a2 ∧ a2 < (l0_0.length : Int) then some (decide ((((rd_T50 l0_0 a1).f0).length : Int) < (((rd_T50 l0_0 a2).f0).length : Int))) else none
set_option maxHeartbeats 4000000 in
set_option maxRecDepth 100000 in
theorem asked_P.calls (A0_0 : Option Addr) (c0_0 : Nat) (l0_0 : List (S50)) (a1 : Int) (a2 : Int) (r : Bool) (w : World) (hr0_0 : Kd.C k50 w A0_0 l0_0.length l0_0) (hc0_0 : l0_0.length ≤ c0_0) (h : asked_P.f l0_0 a1 a2 = some r) (gs : Nat) (hbx : w.heap[gs]? = some (.cells #[.slice A0_0 l0_0.length c0_0] 24 (0, 0))) :
 Calls Try.prog 109 #[.int .i64 a1, .int .i64 a2, .pointer (some ⟨gs, 0, none⟩)] w fun e w' => e = .returned (.bool r) ∧ Below w.heap.size w w' := by
 have hu24 := Try.underlying24; have hu50 := Try.underlying50; unfold asked_P.f at h
 split at h
 ·rename_i hc
  obtain ⟨p1, q1, p2, q2⟩ := hc; obtain rfl := Option.some.inj h; obtain ⟨ad, A1, c1, e1, hx1_0, hx1_1, hl1, hi1⟩ := at_T50 hr0_0 a1 p1 q1; obtain ⟨ad2, A2, c2, e2, hx2_0, hx2_1, hl2, hi2⟩ := at_T50 hr0_0 a2 p2 q2; subst e1; obtain rfl := Option.some.inj e2; have hcz : w.cell? ⟨gs, 0, none⟩ = some (.slice (some ad) l0_0.length c0_0) := (blk_cell hbx 0).trans rfl
  clear hbx hi1 hi2 hr0_0 hl1 hl2 h hx1_1 hx2_1 e2; generalize (rd_T50 l0_0 a1).f0.length = n1 at hx1_0 ⊢
  generalize (rd_T50 l0_0 a2).f0.length = n2 at hx2_0 ⊢
  replace p1 := eq_true p1; replace q1 := eq_true q1; replace p2 := eq_true p2; replace q2 := eq_true q2; have HW := zk (Below.refl w.heap.size w)
  go_enter Try.func109, Try.ntmps109
  go_wp2
  repeat (go_quiet (fail); try go_wp2)
  go_ret
  exact ⟨by first | rfl | (simp; done) | (simp; rfl), by exact pw_below_drewN HW.out _⟩
 ·cases h
def clash_first.l0 : Nat → List Int → List (List (S113)) → Int → Int → List (List (S113)) → Int → Option (Int)
 | 0, _, _, _, _, _, _ => none
 | k + 1, x5, x17, x18, x19, x738000, x738001 => if x19 < x18 then (if 0 ≤ x19 then (if x19 < (x17.length : Int) then (if 0 < ((rd_L4 x17 x19).length : Int) then (if x5.length < 140737488355328 then (clash_first.l0 k (x5 ++ [((rd_T113 (rd_L4 x17 x19) 0).f0) % 256]) x17 x18 (wrap64 (x19 + 1)) x738000 x738001) else (none)) else (none)) else (none)) else (none)) else ((shape_Rank.f k x738000 x738001 x5).bind fun bt753 => (some (wrap64 (x738001 + bt753.1))))
def clash_first.f (k : Nat) (l0_0 : List (List (S113))) (a0_1 : Int) (l1 : List Int) : Option (Int) := (some (([] : List Int) : List Int)).bind fun y738 => (if y738.length + l1.length < 140737488355328 then (if 0 ≤ (l1.length : Int) then (if (l1.length : Int) ≤ (l0_0.length : Int) then ((some (l0_0.drop ((l1.length : Int) : Int).toNat : List (List (S113)))).bind fun y744 => (clash_first.l0 k (y738 ++ l1) y744 (y744.length : Int) 0 l0_0 a0_1)) else (none)) else (none)) else (none))
set_option maxHeartbeats 8000000 in
set_option maxRecDepth 100000 in
theorem clash_first.calls (k : Nat) (A0_0 : Option Addr) (c0_0 : Nat) (l0_0 : List (List (S113))) (a0_1 : Int) (A1 : Option Addr) (c1 : Nat) (l1 : List Int) (r : Int) (w : World) (hr0_0 : Kd.C (Kd.slice 113 k113) w A0_0 l0_0.length l0_0) (hc0_0 : l0_0.length ≤ c0_0) (hr1 : Kd.C (Kd.int .u8) w A1 l1.length l1) (hc1 : l1.length ≤ c1) (h : clash_first.f k l0_0 a0_1 l1 = some r) :
 Calls Try.prog 136 #[.agg #[.slice A0_0 l0_0.length c0_0, .int .i64 a0_1], .slice A1 l1.length c1] w fun e w' => e = .returned (.int .i64 r) ∧ Below w.heap.size w w' := by
 have hu50 := Try.underlying50; have HR0_0 := zk hr0_0; have HC0_0 := zk hc0_0; clear hr0_0 hc0_0; have HR1 := zk hr1; have HC1 := zk hc1; clear hr1 hc1; have HB := zk (Below.refl w.heap.size w); have H : ((some (([] : List Int) : List Int)).bind fun y738 => (if y738.length + l1.length < 140737488355328 then (if 0 ≤ (l1.length : Int) then (if (l1.length : Int) ≤ (l0_0.length : Int) then ((some (l0_0.drop ((l1.length : Int) : Int).toNat : List (List (S113)))).bind fun y744 => (clash_first.l0 k (y738 ++ l1) y744 (y744.length : Int) 0 l0_0 a0_1)) else (none)) else (none)) else (none))) = some r := h
 clear h; obtain ⟨y738, hy738⟩ : ∃ y_ : List Int, y_ = (([] : List Int)) := ⟨_, rfl⟩; replace H : (if y738.length + l1.length < 140737488355328 then (if 0 ≤ (l1.length : Int) then (if (l1.length : Int) ≤ (l0_0.length : Int) then ((some (l0_0.drop ((l1.length : Int) : Int).toNat : List (List (S113)))).bind fun y744 => (clash_first.l0 k (y738 ++ l1) y744 (y744.length : Int) 0 l0_0 a0_1)) else (none)) else (none)) else (none)) = some r := by first | (rw [hy738]; with_reducible exact H) | (have H2_ := (Option.bind_some _ _).symm.trans H; rw [hy738]; with_reducible exact H2_) | (have H2_ := (Option.bind_some _ _).symm.trans H; with_reducible exact H2_) | with_reducible exact H | (rw [hy738]; exact H) | exact H
 have Ny738 := zk hy738; clear hy738
 by_cases c3 : y738.length + l1.length < 140737488355328
 ·rw [if_pos c3] at H; have LMc3 := zk c3; clear c3; obtain ⟨y741, hy741⟩ : ∃ y_ : List Int, y_ = (y738 ++ l1) := ⟨_, rfl⟩; replace H : (if 0 ≤ (l1.length : Int) then (if (l1.length : Int) ≤ (l0_0.length : Int) then ((some (l0_0.drop ((l1.length : Int) : Int).toNat : List (List (S113)))).bind fun y744 => (clash_first.l0 k y741 y744 (y744.length : Int) 0 l0_0 a0_1)) else (none)) else (none)) = some r := by first | (rw [hy741]; with_reducible exact H) | (have H2_ := (Option.bind_some _ _).symm.trans H; rw [hy741]; with_reducible exact H2_) | (have H2_ := (Option.bind_some _ _).symm.trans H; with_reducible exact H2_) | with_reducible exact H | (rw [hy741]; exact H) | exact H
  have Ny741 := zk hy741; clear hy741
  by_cases c4 : 0 ≤ (l1.length : Int)
  ·rw [if_pos c4] at H; have c4b0 := eq_true c4; have c4b1 : decide (0 ≤ (l1.length : Int)) = true := decide_eq_true c4
   clear c4
   by_cases c5 : (l1.length : Int) ≤ (l0_0.length : Int)
   ·rw [if_pos c5] at H; have c5b0 := eq_true c5; have c5b1 : decide ((l1.length : Int) ≤ (l0_0.length : Int)) = true := decide_eq_true c5
    clear c5; obtain ⟨y744, hy744⟩ : ∃ y_ : List (List (S113)), y_ = (l0_0.drop ((l1.length : Int) : Int).toNat) := ⟨_, rfl⟩; replace H : (clash_first.l0 k y741 y744 (y744.length : Int) 0 l0_0 a0_1) = some r := by first | (rw [hy744]; with_reducible exact H) | (have H2_ := (Option.bind_some _ _).symm.trans H; rw [hy744]; with_reducible exact H2_) | (have H2_ := (Option.bind_some _ _).symm.trans H; with_reducible exact H2_) | with_reducible exact H | (rw [hy744]; exact H) | exact H
    have Ny744 := zk hy744; clear hy744; have H' := zk H
    clear H
    go_enter Try.func136, Try.ntmps136
    go_wp2_with (first | ((with_reducible refine gate_dst (N := 2) rfl ?_); refine box_event ?hg (N := 2) ?hd (cs := #[.slice A0_0 l0_0.length c0_0, .int .i64 a0_1]) (t := 50) ?hr ?_; (case hd => rfl); (case hg => rfl); (case hr => first | (go_simp; done) | (go_simp; rfl)); intro gb737 hg w6 hbox hb; have BK737 := zk (hbox); have GW737 := zk ((zg hg HB.out : w.heap.size ≤ gb737)); have GE737 := zk ((zg hg HB.out : w.heap.size ≤ gb737)); replace HB := zk (below_step (zU HB.out) hb);  clear hb hbox hg) | ((with_reducible refine gate_dst (N := 10) rfl ?_); refine Kd.R_lit (Kd.int .u8) _ 5 ?hg (N := 10) ?hd (xs := ([] : List Int)) (inner := []) (ok := fun _ => True) (okp := fun _ => True) ?hr ?hp (fun _ hk => hk) trivial (Below.refl _ _) (Nat.le_refl _) (by simp) ?_; (case hd => rfl); (case hg => rfl); (case hr => first | (go_simp; done) | (go_simp; rfl)); (case hp => exact (Reps.none _ _)); intro v739 w7 ho8 hb hg_ hnew_; clear hg_ hnew_; (first | rw [← Ny738.out] at ho8 | (simp only [Int.reduceToNat] at ho8; rw [← Ny738.out] at ho8)); have HO740 := zk (Kd.R_lower ho8 (below_size (zU HB.out))); replace BK737 := zk (zbb BK737.out hb); replace HB := zk (below_step (zU HB.out) hb);  clear hb ho8) | ((with_reducible refine gate_builtin (b := .append) (xs := #[.tmp 10, .tmp 11]) rfl ?_); at_builtin; refine Kd.R_append_rows (Kd.int .u8) (w0 := w) w.heap.size rfl (.tmp 10) (.tmp 11) 52 5 (.int .u8 0) 1 rfl Try.underlying52 info5 rfl (by decide) (by omega) v739 y738 l1 _ _ _ (fun _ => True) (fun _ => False) rfl rfl ?aO ?aR (fun _ _ h => h) (fun _ h => h.elim) ?aF ?aB ?aS ?aL ?_; (case aR => exact zc (Kd.C_below HR1.out HB.out)); (case aB => exact (zU HB.out)); (case aF => exact (fun _ _ => trivial)); (case aO => exact (zr HO740.out)); (case aS => exact (below_size (zU HB.out))); (case aL => have := LMc3.out; omega); intro v742 w9 ho hb hg hat; rw [← Ny741.out] at ho; have n0_ := zk (blk_grown (g := gb737) (o := .cells #[.slice A0_0 l0_0.length c0_0, .int .i64 a0_1] 50 (0, 0)) (zb BK737.out) hg (Kd.R_ne HO740.out BK737.out (by decide))); have n1_ := zk (hb); have n2_ := zk (ho); clear BK737; clear HB; clear HO740; have BK737 := n0_; have HB := n1_; have HO743 := n2_; clear n0_ n1_ n2_; clear ho hb hg hat; have hcz10_0 : w9.cell? ⟨gb737, 0, none⟩ = some (.slice A0_0 l0_0.length c0_0) := zh BK737.out 0; have hcz10_1 : w9.cell? ⟨gb737, 1, none⟩ = some (.int .i64 a0_1) := zh BK737.out 1; have hfz10_0 := blk_frozen BK737.out 0; have hfz10_1 := blk_frozen BK737.out 1; have q11 : ((l1.length : Int) : Int) ≤ ((l0_0.length : Int) : Int) := zT; obtain ⟨i011, hi011, _, hsz11, _⟩ := info_parts info34; have hroom11 : l0_0.length ≤ c0_0 := HC0_0.out; have hC11 : Kd.C (Kd.slice 113 k113) _ A0_0 l0_0.length l0_0 := HR0_0.out; have q011 : (0 : Int) ≤ ((l1.length : Int) : Int) := zT; have hcut11 := cut_from (P := Try.prog) 48 34 .i64 Try.underlying48 hi011 1 hsz11 A0_0 l0_0.length c0_0 (l1.length : Int) q011 q11; have hr11 := Kd.C_drop (m := ((l1.length : Int) : Int).toNat) (c := c0_0) hC11 (by omega) hroom11; obtain ⟨A11, hA11⟩ : ∃ A1, A1 = (if c0_0 = ((l1.length : Int) : Int).toNat then A0_0 else (A0_0 : Option Addr).map (·.add (((l1.length : Int) : Int).toNat * 1))) := ⟨_, rfl⟩; obtain ⟨c11, hc11⟩ : ∃ c1, c1 = c0_0 - ((l1.length : Int) : Int).toNat := ⟨_, rfl⟩; have hy11 : y744.length = l0_0.length - ((l1.length : Int) : Int).toNat := (by rw [Ny744.out, List.length_drop] <;> omega); rw [show (l0_0).drop ((l1.length : Int) : Int).toNat = y744 from Ny744.out.symm] at hr11; replace hr11 : Kd.C (Kd.slice 113 k113) _ A11 y744.length y744 := (by rw [hA11]; exact hr11); rw [← hy11, ← hA11, ← hc11] at hcut11; have HR747 := zk hr11; have HC747 := zk (show y744.length ≤ c11 from by rw [hy11, hc11]; exact Nat.sub_le_sub_right hroom11 _); clear hr11 hC11 hroom11 hi011 hsz11 hc11; have KY11 := zk hy11; have KA11 := zk hA11; clear hy11 hA11; replace q11 := eq_true q11))
    go_loopg [5, 19] k (fun kq v5 v19 w' => ∃ (x5_1 : List Int) (x19_1 : Int), v19 = .int .i64 x19_1 ∧ Aside0 (clash_first.l0 kq x5_1 y744 (y744.length : Int) x19_1 l0_0 a0_1 = some r) ∧ Aside0 (kq ≤ k) ∧ Aside0 (Kd.R (Kd.int .u8) 5 w' w.heap.size (fun _ => True) v5 x5_1) ∧ Aside0 (w'.heap[gb737]? = some (.cells #[(.slice A0_0 l0_0.length c0_0), .int .i64 a0_1] 50 (0, 0))) ∧ Aside0 (Below w.heap.size w w'))
    case atStart => exact ⟨(y741), (0), zR, H', ⟨Nat.le_refl _⟩, ⟨by (with_reducible repeat (first | apply zA | apply zB | apply zC)); exact HO743.out⟩, ⟨zb BK737.out⟩, ⟨zU HB.out⟩⟩
    case round =>
     clear H'; (try clear c1); (try clear q1); (try clear p2); (try clear c3); (try clear c4); (try clear c4b0); (try clear c4b1); (try clear c5); (try clear c5b0); (try clear c5b1); (try clear c11); (try clear q11); (try clear hcz10_0); (try clear hcz10_1); (try clear hfz10_0); (try clear hfz10_1); (try clear q011); (try clear q11); obtain ⟨x5_1, x19_1, rfl, HA, HK1, HO_5, BK737, HB⟩ := hrel
     cases gk with
     | zero => exact absurd HA.out (by simp [clash_first.l0])
     | succ k1 =>
      have H := HA.out; clear HA; simp only [clash_first.l0] at H
      by_cases c12 : x19_1 < (y744.length : Int)
      ·rw [if_pos c12] at H; have c12b0 : decide (x19_1 < (y744.length : Int)) = true := decide_eq_true c12
       clear c12
       by_cases c13 : 0 ≤ x19_1
       ·rw [if_pos c13] at H; have c13b0 : decide (0 ≤ x19_1) = true := decide_eq_true c13
        clear c13
        by_cases c14 : x19_1 < (y744.length : Int)
        ·rw [if_pos c14] at H; have c14b0 : decide (x19_1 < (y744.length : Int)) = true := decide_eq_true c14
         clear c14
         by_cases c15 : 0 < ((rd_L4 y744 x19_1).length : Int)
         ·rw [if_pos c15] at H; have c15b0 : decide (0 < ((rd_L4 y744 x19_1).length : Int)) = true := decide_eq_true c15
          have c15b1 : decide (0 < (rd_L4 y744 x19_1).length) = true := decide_eq_true (by omega)
          clear c15
          by_cases c16 : x5_1.length < 140737488355328
          ·rw [if_pos c16] at H; have LMc16 := zk c16; clear c16; obtain ⟨y750, hy750⟩ : ∃ y_ : List Int, y_ = (x5_1 ++ [((rd_T113 (rd_L4 y744 x19_1) 0).f0) % 256]) := ⟨_, rfl⟩; replace H : (clash_first.l0 k1 y750 y744 (y744.length : Int) (wrap64 (x19_1 + 1)) l0_0 a0_1) = some r := by first | (rw [hy750]; with_reducible exact H) | (have H2_ := (Option.bind_some _ _).symm.trans H; rw [hy750]; with_reducible exact H2_) | (have H2_ := (Option.bind_some _ _).symm.trans H; with_reducible exact H2_) | with_reducible exact H | (rw [hy750]; exact H) | exact H
           have Ny750 := zk hy750; clear hy750; have H' := zk H
           clear H; have p748 : 0 ≤ (x19_1 : Int) := zT
           have q748 : x19_1 < (y744.length : Int) := zT
           obtain ⟨ad748, A748_0, c748_0, e748, hx748_0, hl748_0, hi748_0⟩ := at_L4 HR747.out x19_1 p748 q748; cases e748; replace hx748_0 := zcl HB.out hx748_0; have HR748_0 := zk hi748_0; have HC748_0 := zk hl748_0; clear hi748_0 hl748_0; replace p748 := eq_true p748; replace q748 := eq_true q748; have p749 : 0 ≤ (0 : Int) := (by omega)
           have q749 : 0 < ((rd_L4 y744 x19_1).length : Int) := zT
           obtain ⟨ad749, e749, hx749_0, hx749_1⟩ := at_T113 HR748_0.out 0 p749 q749; cases e749; have qi749 : (0 < (rd_L4 y744 x19_1).length) = True := eq_true (by omega)
           (try rw [show ((0 : Int)).toNat = 0 from rfl] at hx749_0)
           (try rw [show 0 * 2 = 0 from rfl] at hx749_0)
           (try rw [Addr.add_zero'] at hx749_0)
           (try rw [show ((0 : Int)).toNat = 0 from rfl] at hx749_1)
           (try rw [show 0 * 2 = 0 from rfl] at hx749_1)
           (try rw [Addr.add_zero'] at hx749_1)
           replace hx749_0 := zcl HB.out hx749_0; replace hx749_1 := zcl HB.out hx749_1; replace p749 := eq_true p749; replace q749 := eq_true q749
           go_wp2_with (first | ((with_reducible refine gate_builtin (b := .append) (xs := #[.tmp 23, .tmp 29]) rfl ?_); at_builtin; refine Kd.R_append (Kd.int .u8) (w0 := w) w.heap.size rfl (.tmp 23) (.tmp 29) 52 5 (.int .u8 0) 1 rfl Try.underlying52 info5 rfl (by decide) (by omega) u5 x5_1 (((rd_T113 (rd_L4 y744 x19_1) 0).f0) % 256) [.int .u8 (((rd_T113 (rd_L4 y744 x19_1) 0).f0) % 256)] (fun _ => True) (fun _ => False) rfl rfl ?aP (fun _ hk => hk.elim) ?aF ?aO ?aB ?aS ?aL ?_; (case aP => exact rfl); (case aB => exact (zU HB.out)); (case aF => exact (fun _ _ => trivial)); (case aO => exact (zr HO_5.out)); (case aS => exact (below_size (zU HB.out))); (case aL => have := LMc16.out; omega); intro v751 w17 ho hb hg hat; rw [← Ny750.out] at ho; have n0_ := zk (blk_grown (g := gb737) (o := .cells #[.slice A0_0 l0_0.length c0_0, .int .i64 a0_1] 50 (0, 0)) (zb BK737.out) hg (Kd.R_ne HO_5.out BK737.out (by decide))); have n1_ := zk (hb); have n2_ := zk (ho); clear BK737; clear HB; clear HO_5; have BK737 := n0_; have HB := n1_; have HO752 := n2_; clear n0_ n1_ n2_; clear ho hb hg hat))
           go_roundg k1
           case measure => have := HK1.out; omega
           case rel => exact ⟨(y750), (wrap64 (x19_1 + 1)), zR, H', ⟨by have := HK1.out; omega⟩, ⟨by (with_reducible repeat (first | apply zA | apply zB | apply zC)); exact HO752.out⟩, ⟨zb BK737.out⟩, ⟨zU HB.out⟩⟩
          ·rw [if_neg c16] at H
           exact absurd H (by simp)
         ·rw [if_neg c15] at H
          exact absurd H (by simp)
        ·rw [if_neg c14] at H
         exact absurd H (by simp)
       ·rw [if_neg c13] at H
        exact absurd H (by simp)
      ·rw [if_neg c12] at H; have c12b0 : decide (x19_1 < (y744.length : Int)) = false := decide_eq_false c12
       clear c12; replace H := Option.bind_eq_some_iff.mp H; obtain ⟨⟨t753, t754⟩, A180, H⟩ := H; replace H : (some (wrap64 (a0_1 + t753))) = some r := H
       have A18 := zk A180; clear A180; obtain rfl := Option.some.inj H; have hcz19_0 : wr.cell? ⟨gb737, 0, none⟩ = some (.slice A0_0 l0_0.length c0_0) := zh BK737.out 0
       have hcz19_1 : wr.cell? ⟨gb737, 1, none⟩ = some (.int .i64 a0_1) := zh BK737.out 1
       have hfz19_0 := blk_frozen BK737.out 0; have hfz19_1 := blk_frozen BK737.out 1; obtain ⟨Ao20, co20, eo20⟩ := Kd.R_slice HO_5.out; subst eo20
       go_wp2_with (first | ((with_reducible refine gate_callee (f := 35) rfl ?_); refine goesL_ (some 35) rfl rfl Try.func35 zz rfl #[.agg #[.slice A0_0 l0_0.length c0_0, .int .i64 a0_1], .slice Ao20 x5_1.length co20] rfl zM ?_; (with_reducible refine (shape_Rank.calls k1 _ _ l0_0 a0_1 _ _ x5_1 t753 t754 _ ?side1 ?side2 ?side3 ?side4 A18.out).mono ?_); (case side1 => exact zc (Kd.C_below HR0_0.out HB.out)); (case side2 => exact HC0_0.out); (case side3 => exact zc (Kd.R_reads' HO_5.out).2.2); (case side4 => exact (Kd.R_reads' HO_5.out).2.1); rintro e w21 ⟨rfl, hb⟩; refine ⟨_, rfl, ?_⟩; replace HO_5 := zk (Kd.R_below (zr HO_5.out) hb); replace BK737 := zk (zbb BK737.out hb); replace HB := zk (below_step (zU HB.out) hb);  (try clear hb); (try clear hb2); (try clear hk); (try clear hi); have hcz22_0 : w21.cell? ⟨gb737, 0, none⟩ = some (.slice A0_0 l0_0.length c0_0) := zh BK737.out 0; have hcz22_1 : w21.cell? ⟨gb737, 1, none⟩ = some (.int .i64 a0_1) := zh BK737.out 1; have hfz22_0 := blk_frozen BK737.out 0; have hfz22_1 := blk_frozen BK737.out 1))
       go_ret
       exact ⟨ze, zU HB.out⟩
   ·rw [if_neg c5] at H
    exact absurd H (by simp)
  ·rw [if_neg c4] at H
   exact absurd H (by simp)
 ·rw [if_neg c3] at H
  exact absurd H (by simp)
end Go.Proofs.Ytkcklnmbeinfkaa.B
