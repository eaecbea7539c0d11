/- Words and walks of this claim, of the text Ix14. -/
import Derived.Test.YtoljcfocgaonpaaKfQW0
import Derived.Test.YtoljcfocgaonpaaKfIx0
import Derived.Test.YtoljcfocgaonpaaKfIx12
import Derived.Test.YtoljcfocgaonpaaKfIx13
namespace Go.Proofs.Ytoljcfocgaonpaa.I
open Go.RowKit Go.Proofs.YtoljcfocgaonpaaW.PrintWords Go.Proofs.YtoljcfocgaonpaaW.PrintLast Go.Proofs.YtoljcfocgaonpaaW.PrintMore
attribute [local go_sem] max2_int min2_int max_two min_two max_three min_three max_four min_four
set_option linter.unusedVariables false
set_option linter.unusedSimpArgs false
mutual
def scheme_Valid.l0 : Nat → List (S43) → List (S47) → Int → Int → Option (Bool)
 | 0, _, _, _, _ => none
 | k + 1, x3, x12, x13, x14 => if x14 < x13 then (if 0 ≤ x14 then (if x14 < (x12.length : Int) then (if (((rd_T47 x12 x14).f0).length : Int) < 1 then (scheme_Valid.j1 k x3 x12 x13 x14 true ((rd_T47 x12 x14).f0) ((rd_T47 x12 x14).f1)) else (if (((rd_T47 x12 x14).f0).length : Int) > 8 then (scheme_Valid.j1 k x3 x12 x13 x14 true ((rd_T47 x12 x14).f0) ((rd_T47 x12 x14).f1)) else (if ((rd_T47 x12 x14).f1) < 0 then (scheme_Valid.j1 k x3 x12 x13 x14 true ((rd_T47 x12 x14).f0) ((rd_T47 x12 x14).f1)) else (if ((rd_T47 x12 x14).f1) > 1073741823 then (scheme_Valid.j1 k x3 x12 x13 x14 true ((rd_T47 x12 x14).f0) ((rd_T47 x12 x14).f1)) else ((slices_anyNone.f k ((rd_T47 x12 x14).f0)).bind fun t411 => (scheme_Valid.j1 k x3 x12 x13 x14 t411 ((rd_T47 x12 x14).f0) ((rd_T47 x12 x14).f1))))))) else (none)) else (none)) else (some true)
def scheme_Valid.j1 : Nat → List (S43) → List (S47) → Int → Int → Bool → List (List (S34)) → Int → Option (Bool)
 | 0, _, _, _, _, _, _, _ => none
 | k + 1, x3, x12, x13, x14, x42, x411000, x411001 => if x42 = true then (some false) else ((scheme_last.f k x411000 x411001).bind fun t412 => ((some (([(⟨x411001, t412⟩ : S43)] : List (S43)) : List (S43))).bind fun y413 => (if 0 < (y413.length : Int) then (if ((rd_T43 y413 0).f1) > 1073741823 then (some false) else ((scalars_Meet.f k x3 y413).bind fun t417 => (if (t417.length : Int) > 0 then (some false) else ((scalars_Union.f k x3 y413).bind fun t420 => (scheme_Valid.l0 k t420 x12 x13 (wrap64 (x14 + 1))))))) else (none))))
end
def scheme_Valid.f (k : Nat) (l0_0 : List (S47)) : Option (Bool) := if (l0_0.length : Int) > 32 then (some false) else (scheme_Valid.l0 k ([] : List (S43)) l0_0 (l0_0.length : Int) 0)
theorem scheme_Valid.mono_l : ∀ k, (∀ y0 y1 y2 y3, LeO (scheme_Valid.l0 k y0 y1 y2 y3) (scheme_Valid.l0 (k + 1) y0 y1 y2 y3)) ∧ (∀ y0 y1 y2 y3 y4 y5 y6, LeO (scheme_Valid.j1 k y0 y1 y2 y3 y4 y5 y6) (scheme_Valid.j1 (k + 1) y0 y1 y2 y3 y4 y5 y6))
 | 0 => ⟨fun _ _ _ _ r h => by simp [scheme_Valid.l0] at h, fun _ _ _ _ _ _ _ r h => by simp [scheme_Valid.j1] at h⟩
 | k + 1 => by
  obtain ⟨ih0, ih1⟩ := scheme_Valid.mono_l k; refine ⟨?_, ?_⟩
  ·intro y0 y1 y2 y3; unfold scheme_Valid.l0; repeat' first
   | (with_reducible exact ih0 _ _ _ _)
   | (with_reducible exact ih1 _ _ _ _ _ _ _)
   | (with_reducible exact scalars_Meet.mono _ _ _)
   | (with_reducible exact scalars_Union.mono _ _ _)
   | (with_reducible exact scheme_last.mono _ _ _)
   | (with_reducible exact slices_anyNone.mono _ _)
   | (with_reducible exact LeO.refl _)
   | (with_reducible exact LeO.none _)
   | (with_reducible refine LeO.ite ?_ ?_)
   | (with_reducible refine LeO.bind ?_ (fun _ => ?_))
   | exact ih0 _ _ _ _
   | exact ih1 _ _ _ _ _ _ _
   | exact scalars_Meet.mono _ _ _
   | exact scalars_Union.mono _ _ _
   | exact scheme_last.mono _ _ _
   | exact slices_anyNone.mono _ _
   | exact LeO.none _
   | refine LeO.ite ?_ ?_
   | refine LeO.bind ?_ (fun _ => ?_)
  ·intro y0 y1 y2 y3 y4 y5 y6; unfold scheme_Valid.j1; repeat' first
   | (with_reducible exact ih0 _ _ _ _)
   | (with_reducible exact ih1 _ _ _ _ _ _ _)
   | (with_reducible exact scalars_Meet.mono _ _ _)
   | (with_reducible exact scalars_Union.mono _ _ _)
   | (with_reducible exact scheme_last.mono _ _ _)
   | (with_reducible exact slices_anyNone.mono _ _)
   | (with_reducible exact LeO.refl _)
   | (with_reducible exact LeO.none _)
   | (with_reducible refine LeO.ite ?_ ?_)
   | (with_reducible refine LeO.bind ?_ (fun _ => ?_))
   | exact ih0 _ _ _ _
   | exact ih1 _ _ _ _ _ _ _
   | exact scalars_Meet.mono _ _ _
   | exact scalars_Union.mono _ _ _
   | exact scheme_last.mono _ _ _
   | exact slices_anyNone.mono _ _
   | exact LeO.none _
   | refine LeO.ite ?_ ?_
   | refine LeO.bind ?_ (fun _ => ?_)
theorem scheme_Valid.mono : ∀ a0 k, LeO (scheme_Valid.f k a0) (scheme_Valid.f (k + 1) a0) := by
 intro a0 k; obtain ⟨ih0, ih1⟩ := scheme_Valid.mono_l k; unfold scheme_Valid.f; repeat' first
  | (with_reducible exact ih0 _ _ _ _)
  | (with_reducible exact ih1 _ _ _ _ _ _ _)
  | (with_reducible exact scalars_Meet.mono _ _ _)
  | (with_reducible exact scalars_Union.mono _ _ _)
  | (with_reducible exact scheme_last.mono _ _ _)
  | (with_reducible exact slices_anyNone.mono _ _)
  | (with_reducible exact LeO.refl _)
  | (with_reducible exact LeO.none _)
  | (with_reducible refine LeO.ite ?_ ?_)
  | (with_reducible refine LeO.bind ?_ (fun _ => ?_))
  | exact ih0 _ _ _ _
  | exact ih1 _ _ _ _ _ _ _
  | exact scalars_Meet.mono _ _ _
  | exact scalars_Union.mono _ _ _
  | exact scheme_last.mono _ _ _
  | exact slices_anyNone.mono _ _
  | exact LeO.none _
  | refine LeO.ite ?_ ?_
  | refine LeO.bind ?_ (fun _ => ?_)
set_option maxHeartbeats 8000000 in
set_option maxRecDepth 100000 in
theorem scheme_Valid.calls (k : Nat) (A0_0 : Option Addr) (c0_0 : Nat) (l0_0 : List (S47)) (r : Bool) (w : World) (hr0_0 : Kd.C k47 w A0_0 l0_0.length l0_0) (hc0_0 : l0_0.length ≤ c0_0) (h : scheme_Valid.f k l0_0 = some r) :
 Calls Try.prog 85 #[.agg #[.slice A0_0 l0_0.length c0_0]] w fun e w' => e = .returned (.bool r) ∧ Below w.heap.size w w' := by
 have hu69 := Try.underlying69; have hu47 := Try.underlying47; have hu43 := Try.underlying43; have HR0_0 := zk hr0_0; have HC0_0 := zk hc0_0; clear hr0_0 hc0_0; have HB := zk (Below.refl w.heap.size w); have H : (if (l0_0.length : Int) > 32 then (some false) else (scheme_Valid.l0 k ([] : List (S43)) l0_0 (l0_0.length : Int) 0)) = some r := h; clear h; by_cases c2 : (l0_0.length : Int) > 32
 ·rw [if_pos c2] at H; have c2b0 : decide (32 < (l0_0.length : Int)) = true := decide_eq_true c2; have c2b1 : decide (32 < l0_0.length) = true := decide_eq_true (by omega); clear c2; obtain rfl := Option.some.inj H; go_enter Try.func85, Try.ntmps85
  go_wp2_with (first | ((with_reducible refine gate_dst (N := 1) rfl ?_); (try (refine gate_guard (by rfl) ?_; dsimp only)); refine box_event ?hg (N := 1) ?hd (cs := #[.slice A0_0 l0_0.length c0_0]) (t := 69) ?hr ?_; (case hd => rfl); (case hg => rfl); (case hr => first | (go_simp; done) | (go_simp; rfl)); intro gb408 hg w3 hbox hb; have BK408 := zk (hbox); have GE408 := zk ((zg hg HB.out : w.heap.size ≤ gb408)); replace HB := zk (below_step (zU HB.out) hb);  clear hb hbox hg; have hcz4_0 : w3.cell? ⟨gb408, 0, none⟩ = some (.slice A0_0 l0_0.length c0_0) := zh BK408.out 0; have hfz4_0 := blk_frozen BK408.out 0))
  go_ret
  exact ⟨ze, zU HB.out⟩
 ·rw [if_neg c2] at H; have c2b0 : decide (32 < (l0_0.length : Int)) = false := decide_eq_false c2; have c2b1 : decide (32 < l0_0.length) = false := decide_eq_false (by omega); clear c2; have H' := zk H; clear H; go_enter Try.func85, Try.ntmps85
  go_wp2_with (first | ((with_reducible refine gate_dst (N := 1) rfl ?_); (try (refine gate_guard (by rfl) ?_; dsimp only)); refine box_event ?hg (N := 1) ?hd (cs := #[.slice A0_0 l0_0.length c0_0]) (t := 69) ?hr ?_; (case hd => rfl); (case hg => rfl); (case hr => first | (go_simp; done) | (go_simp; rfl)); intro gb408 hg w5 hbox hb; have BK408 := zk (hbox); have GE408 := zk ((zg hg HB.out : w.heap.size ≤ gb408)); replace HB := zk (below_step (zU HB.out) hb);  clear hb hbox hg; have hcz6_0 : w5.cell? ⟨gb408, 0, none⟩ = some (.slice A0_0 l0_0.length c0_0) := zh BK408.out 0; have hfz6_0 := blk_frozen BK408.out 0))
  go_loopg [3, 14] k (fun kq v3 v14 w' => ∃ (x3_1 : List (S43)) (x14_1 : Int), v14 = .int .i64 x14_1 ∧ Aside0 (scheme_Valid.l0 kq x3_1 l0_0 (l0_0.length : Int) x14_1 = some r) ∧ Aside0 (kq ≤ k) ∧ Aside0 (Kd.R k43 43 w' w.heap.size (fun _ => True) v3 x3_1) ∧ Aside0 (w'.heap[gb408]? = some (.cells #[(.slice A0_0 l0_0.length c0_0)] 69 (0, 0))) ∧ Aside0 (Below w.heap.size w w'))
  case atStart => exact ⟨(([] : List (S43))), (0), zR, H', ⟨Nat.le_refl _⟩, ⟨by first | exact Kd.R_nil _ _ _ _ _ | exact Kd.N_nil _ _ _ _ _ | exact Kd.V_nil _ _ _ _ _ | exact Kd.Q_nil _ _ _ _ _ | exact Kd.S_nil _ _ _ _ _⟩, ⟨zb BK408.out⟩, ⟨zU HB.out⟩⟩
  case round =>
   clear H'; (try clear c2); (try clear c2b0); (try clear c2b1); (try clear p2); (try clear hcz4_0); (try clear hcz6_0); (try clear hfz4_0); (try clear hfz6_0); obtain ⟨x3_1, x14_1, rfl, HA, HK1, HO_3, BK408, HB⟩ := hrel
   cases gk with
   | zero => exact absurd HA.out (by simp [scheme_Valid.l0])
   | succ k1 =>
    have H := HA.out; clear HA; simp only [scheme_Valid.l0] at H; by_cases c7 : x14_1 < (l0_0.length : Int)
    ·rw [if_pos c7] at H; have c7b0 : decide (x14_1 < (l0_0.length : Int)) = true := decide_eq_true c7; clear c7; by_cases c8 : 0 ≤ x14_1
     ·rw [if_pos c8] at H; have c8b0 : decide (0 ≤ x14_1) = true := decide_eq_true c8; clear c8; by_cases c9 : x14_1 < (l0_0.length : Int)
      ·rw [if_pos c9] at H; have c9b0 : decide (x14_1 < (l0_0.length : Int)) = true := decide_eq_true c9; clear c9; have HC10 := zk H; clear H; have p409 : 0 ≤ (x14_1 : Int) := zT; have q409 : x14_1 < (l0_0.length : Int) := zT; obtain ⟨ad409, A409_0, c409_0, e409, hx409_0, hx409_1, hl409_0, hi409_0⟩ := at_T47 HR0_0.out x14_1 p409 q409; cases e409; replace hx409_0 := zcl HB.out hx409_0; replace hx409_1 := zcl HB.out hx409_1; have HR409_0 := zk hi409_0; have HC409_0 := zk hl409_0; clear hi409_0 hl409_0; replace p409 := eq_true p409; replace q409 := eq_true q409; go_upto_region 7 with (first | ((with_reducible refine gate_dst (N := 5) rfl ?_); (try (refine gate_guard (by rfl) ?_; dsimp only)); refine box_event ?hg (N := 5) ?hd (cs := #[.slice none 0 0, .int .i64 0]) (t := 47) ?hr ?_; (case hd => rfl); (case hg => rfl); (case hr => first | (go_simp; done) | (go_simp; rfl)); intro gb410 hg w11 hbox hb; replace HO_3 := zk (Kd.R_below (zr HO_3.out) hb); have BK410 := zk (hbox); have GE410 := zk ((zg hg HB.out : w.heap.size ≤ gb410)); replace HB := zk (below_step (zU HB.out) hb); have NB408_410 := zk ((zlt hg BK408.out : gb408 ≠ gb410)); have NB410_408 := zk ((zgt hg BK408.out : gb410 ≠ gb408)); replace BK408 := zk (zbb BK408.out hb);  clear hb hbox hg; have hnb12 := NB410_408.out; have hnc12 := NB408_410.out; have hcz13_0 : w11.cell? ⟨gb410, 0, none⟩ = some (.slice none 0 0) := zh BK410.out 0; have hcz13_1 : w11.cell? ⟨gb410, 1, none⟩ = some (.int .i64 0) := zh BK410.out 1; have hfz13_0 := blk_frozen BK410.out 0; have hfz13_1 := blk_frozen BK410.out 1))
       (try simp only [Act.put, List.setIfInBounds_toArray, List.set_cons_zero, List.set_cons_succ])
       go_cut [42] (fun v42 wc => ∃ (kq : Nat) (x42_9 : Bool), v42 = .bool x42_9 ∧ Aside0 (scheme_Valid.j1 kq x3_1 l0_0 (l0_0.length : Int) x14_1 x42_9 ((rd_T47 l0_0 x14_1).f0) ((rd_T47 l0_0 x14_1).f1) = some r) ∧ Aside0 (kq ≤ k1) ∧ Aside0 (Kd.R k43 43 wc w.heap.size (fun _ => True) u3 x3_1) ∧ Aside0 (wc.heap[gb408]? = some (.cells #[(.slice (some ad409) l0_0.length c0_0)] 69 (0, 0))) ∧ Aside0 (wc.heap[gb410]? = some (.cells #[(.slice A409_0 ((rd_T47 l0_0 x14_1).f0).length c409_0), .int .i64 ((rd_T47 l0_0 x14_1).f1)] 47 (0, 0))) ∧ Aside0 (Below w.heap.size w wc))
       case first =>
        have H := HC10.out; clear HC10; by_cases c14 : (((rd_T47 l0_0 x14_1).f0).length : Int) < 1
        ·rw [if_pos c14] at H; have c14b0 : decide ((((rd_T47 l0_0 x14_1).f0).length : Int) < 1) = true := decide_eq_true c14; have c14b1 : decide (((rd_T47 l0_0 x14_1).f0).length < 1) = true := decide_eq_true (by omega); clear c14
         (first | rw [c14b0] | (simp only [i64_w, i32_w]; rw [c14b0]) | skip)
         have H' := zk H; clear H; have hnb15 := NB410_408.out; have hnc15 := NB408_410.out; have hcz16_0 : w11.cell? ⟨gb410, 0, none⟩ = some (.slice none 0 0) := zh BK410.out 0; have hcz16_1 : w11.cell? ⟨gb410, 1, none⟩ = some (.int .i64 0) := zh BK410.out 1; have hfz16_0 := blk_frozen BK410.out 0; have hfz16_1 := blk_frozen BK410.out 1; go_wp2
         go_meet
         case rel => exact ⟨_, (true), zR, H', ⟨by have := HK1.out; first | omega | exact Nat.le_refl _⟩, ⟨by (with_reducible repeat (first | apply zA | apply zB | apply zC)); exact Kd.R_mono (Kd.R_far (p := ⟨gb410, 1, none⟩) (Kd.R_far (p := ⟨gb410, 0, none⟩) (Kd.R_types HO_3.out BK410.out (by decide)) (fun _ hk => hk.2) (.slice A409_0 ((rd_T47 l0_0 x14_1).f0).length c409_0)) (fun _ hk => hk.2) (.int .i64 ((rd_T47 l0_0 x14_1).f1))) (fun _ hk => trivial)⟩, ⟨zb BK408.out⟩, ⟨by (with_reducible repeat (first | refine blk_drewN ?_ _ | refine blk_drew ?_ | refine blk_alloc ?_ _)); refine blk_put (cs := #[.slice A409_0 ((rd_T47 l0_0 x14_1).f0).length c409_0, .int .i64 0]) ?_ 1 _ rfl; (with_reducible repeat (first | refine blk_drewN ?_ _ | refine blk_drew ?_ | refine blk_alloc ?_ _)); refine blk_put (cs := #[.slice none 0 0, .int .i64 0]) ?_ 0 _ rfl; exact zb BK410.out⟩, ⟨zU HB.out⟩⟩
        ·rw [if_neg c14] at H; have c14b0 : decide ((((rd_T47 l0_0 x14_1).f0).length : Int) < 1) = false := decide_eq_false c14; have c14b1 : decide (((rd_T47 l0_0 x14_1).f0).length < 1) = false := decide_eq_false (by omega); clear c14
         (first | rw [c14b0] | (simp only [i64_w, i32_w]; rw [c14b0]) | skip)
         by_cases c17 : (((rd_T47 l0_0 x14_1).f0).length : Int) > 8
         ·rw [if_pos c17] at H; have c17b0 : decide (8 < (((rd_T47 l0_0 x14_1).f0).length : Int)) = true := decide_eq_true c17; have c17b1 : decide (8 < ((rd_T47 l0_0 x14_1).f0).length) = true := decide_eq_true (by omega); clear c17; have H' := zk H; clear H; have hnb18 := NB410_408.out; have hnc18 := NB408_410.out; have hcz19_0 : w11.cell? ⟨gb410, 0, none⟩ = some (.slice none 0 0) := zh BK410.out 0; have hcz19_1 : w11.cell? ⟨gb410, 1, none⟩ = some (.int .i64 0) := zh BK410.out 1; have hfz19_0 := blk_frozen BK410.out 0; have hfz19_1 := blk_frozen BK410.out 1; go_wp2
          go_meet
          case rel => exact ⟨_, (true), zR, H', ⟨by have := HK1.out; first | omega | exact Nat.le_refl _⟩, ⟨by (with_reducible repeat (first | apply zA | apply zB | apply zC)); exact Kd.R_mono (Kd.R_far (p := ⟨gb410, 1, none⟩) (Kd.R_far (p := ⟨gb410, 0, none⟩) (Kd.R_types HO_3.out BK410.out (by decide)) (fun _ hk => hk.2) (.slice A409_0 ((rd_T47 l0_0 x14_1).f0).length c409_0)) (fun _ hk => hk.2) (.int .i64 ((rd_T47 l0_0 x14_1).f1))) (fun _ hk => trivial)⟩, ⟨zb BK408.out⟩, ⟨by (with_reducible repeat (first | refine blk_drewN ?_ _ | refine blk_drew ?_ | refine blk_alloc ?_ _)); refine blk_put (cs := #[.slice A409_0 ((rd_T47 l0_0 x14_1).f0).length c409_0, .int .i64 0]) ?_ 1 _ rfl; (with_reducible repeat (first | refine blk_drewN ?_ _ | refine blk_drew ?_ | refine blk_alloc ?_ _)); refine blk_put (cs := #[.slice none 0 0, .int .i64 0]) ?_ 0 _ rfl; exact zb BK410.out⟩, ⟨zU HB.out⟩⟩
         ·rw [if_neg c17] at H; have c17b0 : decide (8 < (((rd_T47 l0_0 x14_1).f0).length : Int)) = false := decide_eq_false c17; have c17b1 : decide (8 < ((rd_T47 l0_0 x14_1).f0).length) = false := decide_eq_false (by omega); clear c17; by_cases c20 : ((rd_T47 l0_0 x14_1).f1) < 0
          ·rw [if_pos c20] at H; have c20b0 : decide (((rd_T47 l0_0 x14_1).f1) < 0) = true := decide_eq_true c20; clear c20; have H' := zk H; clear H; have hnb21 := NB410_408.out; have hnc21 := NB408_410.out; have hcz22_0 : w11.cell? ⟨gb410, 0, none⟩ = some (.slice none 0 0) := zh BK410.out 0; have hcz22_1 : w11.cell? ⟨gb410, 1, none⟩ = some (.int .i64 0) := zh BK410.out 1; have hfz22_0 := blk_frozen BK410.out 0; have hfz22_1 := blk_frozen BK410.out 1; go_wp2
           go_meet
           case rel => exact ⟨_, (true), zR, H', ⟨by have := HK1.out; first | omega | exact Nat.le_refl _⟩, ⟨by (with_reducible repeat (first | apply zA | apply zB | apply zC)); exact Kd.R_mono (Kd.R_far (p := ⟨gb410, 1, none⟩) (Kd.R_far (p := ⟨gb410, 0, none⟩) (Kd.R_types HO_3.out BK410.out (by decide)) (fun _ hk => hk.2) (.slice A409_0 ((rd_T47 l0_0 x14_1).f0).length c409_0)) (fun _ hk => hk.2) (.int .i64 ((rd_T47 l0_0 x14_1).f1))) (fun _ hk => trivial)⟩, ⟨zb BK408.out⟩, ⟨by (with_reducible repeat (first | refine blk_drewN ?_ _ | refine blk_drew ?_ | refine blk_alloc ?_ _)); refine blk_put (cs := #[.slice A409_0 ((rd_T47 l0_0 x14_1).f0).length c409_0, .int .i64 0]) ?_ 1 _ rfl; (with_reducible repeat (first | refine blk_drewN ?_ _ | refine blk_drew ?_ | refine blk_alloc ?_ _)); refine blk_put (cs := #[.slice none 0 0, .int .i64 0]) ?_ 0 _ rfl; exact zb BK410.out⟩, ⟨zU HB.out⟩⟩
          ·rw [if_neg c20] at H; have c20b0 : decide (((rd_T47 l0_0 x14_1).f1) < 0) = false := decide_eq_false c20; clear c20; by_cases c23 : ((rd_T47 l0_0 x14_1).f1) > 1073741823
           ·rw [if_pos c23] at H; have c23b0 : decide (1073741823 < ((rd_T47 l0_0 x14_1).f1)) = true := decide_eq_true c23; clear c23; have H' := zk H; clear H; have hnb24 := NB410_408.out; have hnc24 := NB408_410.out; have hcz25_0 : w11.cell? ⟨gb410, 0, none⟩ = some (.slice none 0 0) := zh BK410.out 0; have hcz25_1 : w11.cell? ⟨gb410, 1, none⟩ = some (.int .i64 0) := zh BK410.out 1; have hfz25_0 := blk_frozen BK410.out 0; have hfz25_1 := blk_frozen BK410.out 1; go_wp2
            go_meet
            case rel => exact ⟨_, (true), zR, H', ⟨by have := HK1.out; first | omega | exact Nat.le_refl _⟩, ⟨by (with_reducible repeat (first | apply zA | apply zB | apply zC)); exact Kd.R_mono (Kd.R_far (p := ⟨gb410, 1, none⟩) (Kd.R_far (p := ⟨gb410, 0, none⟩) (Kd.R_types HO_3.out BK410.out (by decide)) (fun _ hk => hk.2) (.slice A409_0 ((rd_T47 l0_0 x14_1).f0).length c409_0)) (fun _ hk => hk.2) (.int .i64 ((rd_T47 l0_0 x14_1).f1))) (fun _ hk => trivial)⟩, ⟨zb BK408.out⟩, ⟨by (with_reducible repeat (first | refine blk_drewN ?_ _ | refine blk_drew ?_ | refine blk_alloc ?_ _)); refine blk_put (cs := #[.slice A409_0 ((rd_T47 l0_0 x14_1).f0).length c409_0, .int .i64 0]) ?_ 1 _ rfl; (with_reducible repeat (first | refine blk_drewN ?_ _ | refine blk_drew ?_ | refine blk_alloc ?_ _)); refine blk_put (cs := #[.slice none 0 0, .int .i64 0]) ?_ 0 _ rfl; exact zb BK410.out⟩, ⟨zU HB.out⟩⟩
           ·rw [if_neg c23] at H; have c23b0 : decide (1073741823 < ((rd_T47 l0_0 x14_1).f1)) = false := decide_eq_false c23; clear c23; replace H := Option.bind_eq_some_iff.mp H; obtain ⟨t411, A260, H⟩ := H; replace H : (scheme_Valid.j1 k1 x3_1 l0_0 (l0_0.length : Int) x14_1 t411 ((rd_T47 l0_0 x14_1).f0) ((rd_T47 l0_0 x14_1).f1)) = some r := H; have A26 := zk A260; clear A260; have H' := zk H; clear H; have hnb27 := NB410_408.out; have hnc27 := NB408_410.out; have hcz28_0 : w11.cell? ⟨gb410, 0, none⟩ = some (.slice none 0 0) := zh BK410.out 0; have hcz28_1 : w11.cell? ⟨gb410, 1, none⟩ = some (.int .i64 0) := zh BK410.out 1; have hfz28_0 := blk_frozen BK410.out 0; have hfz28_1 := blk_frozen BK410.out 1; go_wp2_with (first | (go_at_call 119; (with_reducible refine (slices_anyNone.calls k1 _ _ ((rd_T47 l0_0 x14_1).f0) t411 _ ?side1 ?side2 A26.out).mono ?_); (case side1 => exact Kd.C_below HR409_0.out (zU HB.out)); (case side2 => exact HC409_0.out); rintro e w29 ⟨rfl, hb⟩; replace HO_3 := zk (Kd.R_below (by (with_reducible repeat (first | apply zA | apply zB | apply zC)); exact (Kd.R_mono (Kd.R_far (p := ⟨gb410, 1, none⟩) (Kd.R_far (p := ⟨gb410, 0, none⟩) (Kd.R_types HO_3.out BK410.out (by decide)) (fun _ hk => hk.2) (.slice A409_0 ((rd_T47 l0_0 x14_1).f0).length c409_0)) (fun _ hk => hk.2) (.int .i64 ((rd_T47 l0_0 x14_1).f1))) (fun _ h_ => h_.1))) hb); replace BK408 := zk (zbb BK408.out hb); replace BK410 := zk (blk_below (g := gb410) (o := .cells #[.slice A409_0 ((rd_T47 l0_0 x14_1).f0).length c409_0, .int .i64 ((rd_T47 l0_0 x14_1).f1)] 47 (0, 0)) (by (with_reducible repeat (first | refine blk_drewN ?_ _ | refine blk_drew ?_ | refine blk_alloc ?_ _)); refine blk_put (cs := #[.slice A409_0 ((rd_T47 l0_0 x14_1).f0).length c409_0, .int .i64 0]) ?_ 1 _ rfl; (with_reducible repeat (first | refine blk_drewN ?_ _ | refine blk_drew ?_ | refine blk_alloc ?_ _)); refine blk_put (cs := #[.slice none 0 0, .int .i64 0]) ?_ 0 _ rfl; exact zb BK410.out) hb); replace HB := zk (below_step (zU HB.out) hb);  (try clear hb); (try clear hb2); (try clear hk); (try clear hi)))
            go_meet
            case rel => exact ⟨_, (t411), zR, H', ⟨by have := HK1.out; first | omega | exact Nat.le_refl _⟩, ⟨by (with_reducible repeat (first | apply zA | apply zB | apply zC)); exact HO_3.out⟩, ⟨zb BK408.out⟩, ⟨zb BK410.out⟩, ⟨zU HB.out⟩⟩
       case rest =>
        clear HC10; (try clear c1); (try clear c2); (try clear c2b0); (try clear c2b1); (try clear p2); (try clear c4); (try clear p4); (try clear q4); (try clear hx4); (try clear c7); (try clear c7b0); (try clear c8); (try clear c8b0); (try clear c9); (try clear c9b0); (try clear c12); (try clear c14); (try clear c14b0); (try clear c14b1); (try clear c15); (try clear c17); (try clear c17b0); (try clear c17b1); (try clear c18); (try clear c20); (try clear c20b0); (try clear c21); (try clear c23); (try clear c23b0); (try clear c24); (try clear c27); (try clear hcz13_0); (try clear hcz13_1); (try clear hcz16_0); (try clear hcz16_1); (try clear hcz19_0); (try clear hcz19_1); (try clear hcz22_0); (try clear hcz22_1); (try clear hcz25_0); (try clear hcz25_1); (try clear hcz28_0); (try clear hcz28_1); (try clear hcz4_0); (try clear hcz6_0); (try clear hfz13_0); (try clear hfz13_1); (try clear hfz16_0); (try clear hfz16_1); (try clear hfz19_0); (try clear hfz19_1); (try clear hfz22_0); (try clear hfz22_1); (try clear hfz25_0); (try clear hfz25_1); (try clear hfz28_0); (try clear hfz28_1); (try clear hfz4_0); (try clear hfz6_0); (try clear hx409_0); (try clear hx409_1); (try clear p2); (try clear p409); (try clear q409); obtain ⟨kq, x42_9, rfl, HA, HJ9, HO_3, BK408, BK410, HB⟩ := hcut; cases kq with
        | zero => exact absurd HA.out (by simp [scheme_Valid.j1])
        | succ kj9 =>
         have H := HA.out; clear HA; simp only [scheme_Valid.j1] at H; by_cases c30 : x42_9 = true
         ·subst c30; have H1 : (some false) = some r := by rw [if_pos rfl] at H; exact H
          clear H; have H := H1; clear H1; obtain rfl := Option.some.inj H; go_wp2
          go_ret
          exact ⟨ze, zU HB.out⟩
         ·replace c30 := Bool.eq_false_iff.mpr c30; subst c30; have H1 : ((scheme_last.f kj9 ((rd_T47 l0_0 x14_1).f0) ((rd_T47 l0_0 x14_1).f1)).bind fun t412 => ((some (([(⟨((rd_T47 l0_0 x14_1).f1), t412⟩ : S43)] : List (S43)) : List (S43))).bind fun y413 => (if 0 < (y413.length : Int) then (if ((rd_T43 y413 0).f1) > 1073741823 then (some false) else ((scalars_Meet.f kj9 x3_1 y413).bind fun t417 => (if (t417.length : Int) > 0 then (some false) else ((scalars_Union.f kj9 x3_1 y413).bind fun t420 => (scheme_Valid.l0 kj9 t420 l0_0 (l0_0.length : Int) (wrap64 (x14_1 + 1))))))) else (none)))) = some r := by rw [if_neg (show ¬ (false = true) by decide)] at H; exact H
          clear H; have H := H1; clear H1; replace H := Option.bind_eq_some_iff.mp H; obtain ⟨t412, A310, H⟩ := H; replace H : ((some (([(⟨((rd_T47 l0_0 x14_1).f1), t412⟩ : S43)] : List (S43)) : List (S43))).bind fun y413 => (if 0 < (y413.length : Int) then (if ((rd_T43 y413 0).f1) > 1073741823 then (some false) else ((scalars_Meet.f kj9 x3_1 y413).bind fun t417 => (if (t417.length : Int) > 0 then (some false) else ((scalars_Union.f kj9 x3_1 y413).bind fun t420 => (scheme_Valid.l0 kj9 t420 l0_0 (l0_0.length : Int) (wrap64 (x14_1 + 1))))))) else (none))) = some r := H; have A31 := zk A310; clear A310; obtain ⟨y413, hy413⟩ : ∃ y_ : List (S43), y_ = (([(⟨((rd_T47 l0_0 x14_1).f1), t412⟩ : S43)] : List (S43))) := ⟨_, rfl⟩
          replace H : (if 0 < (y413.length : Int) then (if ((rd_T43 y413 0).f1) > 1073741823 then (some false) else ((scalars_Meet.f kj9 x3_1 y413).bind fun t417 => (if (t417.length : Int) > 0 then (some false) else ((scalars_Union.f kj9 x3_1 y413).bind fun t420 => (scheme_Valid.l0 kj9 t420 l0_0 (l0_0.length : Int) (wrap64 (x14_1 + 1))))))) else (none)) = some r := by first | (rw [hy413]; with_reducible exact H) | (have H2_ := (Option.bind_some _ _).symm.trans H; rw [hy413]; with_reducible exact H2_) | (have H2_ := (Option.bind_some _ _).symm.trans H; with_reducible exact H2_) | with_reducible exact H | (rw [hy413]; exact H) | exact H
          have Ny413 := zk hy413; clear hy413; by_cases c32 : 0 < (y413.length : Int)
          ·rw [if_pos c32] at H; have c32b0 : decide (0 < (y413.length : Int)) = true := decide_eq_true c32; have c32b1 : decide (0 < y413.length) = true := decide_eq_true (by omega); clear c32; by_cases c33 : ((rd_T43 y413 0).f1) > 1073741823
           ·rw [if_pos c33] at H; have c33b0 : decide (1073741823 < ((rd_T43 y413 0).f1)) = true := decide_eq_true c33; clear c33; obtain rfl := Option.some.inj H; try go_wp2
            have n0_ := zk (Kd.R_drew HO_3.out); have n1_ := zk (blk_drew BK408.out); have n2_ := zk (blk_drew BK410.out); have n3_ := zk (below_drew1 HB.out); clear HO_3; clear BK408; clear BK410; clear HB; have HO_3 := n0_; have BK408 := n1_; have BK410 := n2_; have HB := n3_; clear n0_ n1_ n2_ n3_; refine start_ (n := 7) (S := fun w' => w'.cell? ⟨gb410, 0, none⟩ = some (.slice A409_0 ((rd_T47 l0_0 x14_1).f0).length c409_0) ∧ w'.cell? ⟨gb410, 1, none⟩ = some (.int .i64 ((rd_T47 l0_0 x14_1).f1))) (ds := []) #[false, false, false, false, false, false, false] zz rfl rfl ⟨(blk_cell BK410.out 0).trans rfl, (blk_cell BK410.out 1).trans rfl⟩ (fun hHeld => ?_); generalize wc.drew = w34 at HO_3 BK408 BK410 HB hHeld ⊢; refine pure_ (i := 0) (N := some 43) (v := ?_) (a' := ?_) (bz 7 1) rfl rfl zz zQ (Or.inl ⟨by rfl, ?_⟩) ?_ ?_; rotate_left
            ·intro w'; go_simp; with_reducible rfl
            rotate_left
            ·simp only [Act.put, zv, i64_w, i32_w]; rfl
            refine take_ (i := 1) (N := some 44) (v := ?_) (a' := ?_) (bz 7 3) rfl rfl zz zQ (Or.inl ⟨by rfl, ?_⟩) hHeld ?_ ?_; rotate_left
            ·rintro w' ⟨s0, s1⟩; go_simp; with_reducible rfl
            rotate_left
            ·simp only [Act.put, zv, i64_w, i32_w]; rfl
            refine take_ (i := 2) (N := some 45) (v := ?_) (a' := ?_) (bz 7 7) rfl rfl zz zQ (Or.inl ⟨by rfl, ?_⟩) hHeld ?_ ?_; rotate_left
            ·rintro w' ⟨s0, s1⟩; go_simp; with_reducible rfl
            rotate_left
            ·simp only [Act.put, zv, i64_w, i32_w]; rfl
            refine one_ (i := 3) (N := some 46) (bz 7 15) rfl rfl zz (by decide) (fun K hK => ?_); refine goes_ Try.func121 zz rfl #[.agg #[.slice A409_0 ((rd_T47 l0_0 x14_1).f0).length c409_0, .int .i64 ((rd_T47 l0_0 x14_1).f1)]] (by rfl) rfl rfl zM ?_; with_reducible refine (scheme_last.calls kj9 _ _ ((rd_T47 l0_0 x14_1).f0) ((rd_T47 l0_0 x14_1).f1) t412 _ ?side1 ?side2 A31.out).mono ?_; (case side1 => exact zc (Kd.C_below HR409_0.out HB.out))
            (case side2 => exact HC409_0.out)
            rintro e w35 ⟨rfl, hb⟩; refine ⟨_, rfl, ?_⟩; have n0_ := zk (Kd.R_below (zr HO_3.out) hb); have n1_ := zk (zbb BK408.out hb); have n2_ := zk (zbb BK410.out hb); have n3_ := zk (below_step (zU HB.out) hb); clear HO_3; clear BK408; clear BK410; clear HB; have HO_3 := n0_; have BK408 := n1_; have BK410 := n2_; have HB := n3_; clear n0_ n1_ n2_ n3_; (try clear hb); (try clear hb2); (try clear hk); (try clear hi); refine hK.out _ _ ⟨(blk_cell BK410.out 0).trans rfl, (blk_cell BK410.out 1).trans rfl⟩ (fun hHeld => ?_); clear hK K; refine norm_ (a' := ?_) ?_ ?_; rotate_left
            ·show Act.put _ (some 46) _ = _; simp only [Act.put, zv, i64_w, i32_w]; rfl
            refine pure_ (i := 4) (N := some 47) (v := ?_) (a' := ?_) (bz 7 31) rfl rfl zz zQ (Or.inl ⟨by rfl, ?_⟩) ?_ ?_; rotate_left
            ·intro w'; go_simp; with_reducible rfl
            rotate_left
            ·simp only [Act.put, zv, i64_w, i32_w]; rfl
            refine one_ (i := 5) (N := some 48) (bz 7 63) rfl rfl zz (by decide) (fun K hK => ?_); refine Kd.R_lit_step k43 _ 43 ?hg (N := 48) ?hd (xs := ([(⟨((rd_T47 l0_0 x14_1).f1), t412⟩ : S43)] : List (S43))) (inner := [.int .i64 ((rd_T47 l0_0 x14_1).f1), .int .i64 t412]) (ok := fun _ => True) (okp := fun _ => True) ?hr ?hp (fun _ hk => hk) trivial (Below.refl _ _) (Nat.le_refl _) (by simp) ?_; (case hd => rfl); (case hg => rfl); (case hr => first | (go_simp; done) | (go_simp; rfl)); (case hp => exact (Reps.c2 (show Kd.M k43 _ _ _ (⟨((rd_T47 l0_0 x14_1).f1), t412⟩ : S43) [.int .i64 ((rd_T47 l0_0 x14_1).f1), .int .i64 t412] from (k43_mkM _ _ _ (⟨((rd_T47 l0_0 x14_1).f1), t412⟩ : S43) )) (Reps.none _ _))); intro v414 w36 ho37 hb hg_ hnew_; clear hg_ hnew_
            (first | rw [← Ny413.out] at ho37 | (simp only [Int.reduceToNat] at ho37; rw [← Ny413.out] at ho37))
            have n0_ := zk (Kd.R_elder' (zr HO_3.out) (Kd.R_base ho37) hb); have n1_ := zk (Kd.R_lower (Kd.R_new' ho37 (Kd.R_lt (zr HO_3.out))) (below_size (zU HB.out))); have n2_ := zk (zbb BK408.out hb); have n3_ := zk (zbb BK410.out hb); have n4_ := zk (below_step (zU HB.out) hb); clear HO_3; clear BK408; clear BK410; clear HB; have HO_3 := n0_; have HO415 := n1_; have BK408 := n2_; have BK410 := n3_; have HB := n4_; clear n0_ n1_ n2_ n3_ n4_; clear hb ho37; refine hK.out _ _ ⟨(blk_cell BK410.out 0).trans rfl, (blk_cell BK410.out 1).trans rfl⟩ (fun hHeld => ?_); clear hK K; refine norm_ (a' := ?_) ?_ ?_; rotate_left
            ·show Act.put _ (some 48) _ = _; simp only [Act.put, zv, i64_w, i32_w]; rfl
            refine pure_ (i := 6) (N := some 6) (v := ?_) (a' := ?_) (bz 7 127) rfl rfl zz zQ (Or.inl ⟨by rfl, ?_⟩) ?_ ?_; rotate_left
            ·intro w'; go_simp; with_reducible rfl
            rotate_left
            ·simp only [Act.put, zv, i64_w, i32_w]; rfl
            refine done_ zz ?_; obtain ⟨Ao38, co38, eo38⟩ := Kd.R_slice HO415.out; subst eo38; have p416 : 0 ≤ (0 : Int) := (by omega); have q416 : 0 < (y413.length : Int) := zT; obtain ⟨ad416, e416, hx416_0, hx416_1⟩ := at_T43 (Kd.R_reads' HO415.out).2.2 0 p416 q416; cases e416; have qi416 : (0 < y413.length) = True := eq_true (by omega); (try rw [show ((0 : Int)).toNat = 0 from rfl] at hx416_0)
            (try rw [show 0 * 2 = 0 from rfl] at hx416_0)
            (try rw [Addr.add_zero'] at hx416_0)
            (try rw [show ((0 : Int)).toNat = 0 from rfl] at hx416_1)
            (try rw [show 0 * 2 = 0 from rfl] at hx416_1)
            (try rw [Addr.add_zero'] at hx416_1)
            replace p416 := eq_true p416; replace q416 := eq_true q416; try go_wp2
            go_ret
            exact ⟨ze, zU HB.out⟩
           ·rw [if_neg c33] at H; have c33b0 : decide (1073741823 < ((rd_T43 y413 0).f1)) = false := decide_eq_false c33; clear c33; replace H := Option.bind_eq_some_iff.mp H; obtain ⟨t417, A390, H⟩ := H; replace H : (if (t417.length : Int) > 0 then (some false) else ((scalars_Union.f kj9 x3_1 y413).bind fun t420 => (scheme_Valid.l0 kj9 t420 l0_0 (l0_0.length : Int) (wrap64 (x14_1 + 1))))) = some r := H; have A39 := zk A390; clear A390; by_cases c40 : (t417.length : Int) > 0
            ·rw [if_pos c40] at H; have c40b0 : decide (0 < (t417.length : Int)) = true := decide_eq_true c40; have c40b1 : decide (0 < t417.length) = true := decide_eq_true (by omega); clear c40; obtain rfl := Option.some.inj H; try go_wp2
             have n0_ := zk (Kd.R_drew HO_3.out); have n1_ := zk (blk_drew BK408.out); have n2_ := zk (blk_drew BK410.out); have n3_ := zk (below_drew1 HB.out); clear HO_3; clear BK408; clear BK410; clear HB; have HO_3 := n0_; have BK408 := n1_; have BK410 := n2_; have HB := n3_; clear n0_ n1_ n2_ n3_; refine start_ (n := 7) (S := fun w' => w'.cell? ⟨gb410, 0, none⟩ = some (.slice A409_0 ((rd_T47 l0_0 x14_1).f0).length c409_0) ∧ w'.cell? ⟨gb410, 1, none⟩ = some (.int .i64 ((rd_T47 l0_0 x14_1).f1))) (ds := []) #[false, false, false, false, false, false, false] zz rfl rfl ⟨(blk_cell BK410.out 0).trans rfl, (blk_cell BK410.out 1).trans rfl⟩ (fun hHeld => ?_); generalize wc.drew = w41 at HO_3 BK408 BK410 HB hHeld ⊢; refine pure_ (i := 0) (N := some 43) (v := ?_) (a' := ?_) (bz 7 1) rfl rfl zz zQ (Or.inl ⟨by rfl, ?_⟩) ?_ ?_; rotate_left
             ·intro w'; go_simp; with_reducible rfl
             rotate_left
             ·simp only [Act.put, zv, i64_w, i32_w]; rfl
             refine take_ (i := 1) (N := some 44) (v := ?_) (a' := ?_) (bz 7 3) rfl rfl zz zQ (Or.inl ⟨by rfl, ?_⟩) hHeld ?_ ?_; rotate_left
             ·rintro w' ⟨s0, s1⟩; go_simp; with_reducible rfl
             rotate_left
             ·simp only [Act.put, zv, i64_w, i32_w]; rfl
             refine take_ (i := 2) (N := some 45) (v := ?_) (a' := ?_) (bz 7 7) rfl rfl zz zQ (Or.inl ⟨by rfl, ?_⟩) hHeld ?_ ?_; rotate_left
             ·rintro w' ⟨s0, s1⟩; go_simp; with_reducible rfl
             rotate_left
             ·simp only [Act.put, zv, i64_w, i32_w]; rfl
             refine one_ (i := 3) (N := some 46) (bz 7 15) rfl rfl zz (by decide) (fun K hK => ?_); refine goes_ Try.func121 zz rfl #[.agg #[.slice A409_0 ((rd_T47 l0_0 x14_1).f0).length c409_0, .int .i64 ((rd_T47 l0_0 x14_1).f1)]] (by rfl) rfl rfl zM ?_; with_reducible refine (scheme_last.calls kj9 _ _ ((rd_T47 l0_0 x14_1).f0) ((rd_T47 l0_0 x14_1).f1) t412 _ ?side1 ?side2 A31.out).mono ?_; (case side1 => exact zc (Kd.C_below HR409_0.out HB.out))
             (case side2 => exact HC409_0.out)
             rintro e w42 ⟨rfl, hb⟩; refine ⟨_, rfl, ?_⟩; have n0_ := zk (Kd.R_below (zr HO_3.out) hb); have n1_ := zk (zbb BK408.out hb); have n2_ := zk (zbb BK410.out hb); have n3_ := zk (below_step (zU HB.out) hb); clear HO_3; clear BK408; clear BK410; clear HB; have HO_3 := n0_; have BK408 := n1_; have BK410 := n2_; have HB := n3_; clear n0_ n1_ n2_ n3_; (try clear hb); (try clear hb2); (try clear hk); (try clear hi); refine hK.out _ _ ⟨(blk_cell BK410.out 0).trans rfl, (blk_cell BK410.out 1).trans rfl⟩ (fun hHeld => ?_); clear hK K; refine norm_ (a' := ?_) ?_ ?_; rotate_left
             ·show Act.put _ (some 46) _ = _; simp only [Act.put, zv, i64_w, i32_w]; rfl
             refine pure_ (i := 4) (N := some 47) (v := ?_) (a' := ?_) (bz 7 31) rfl rfl zz zQ (Or.inl ⟨by rfl, ?_⟩) ?_ ?_; rotate_left
             ·intro w'; go_simp; with_reducible rfl
             rotate_left
             ·simp only [Act.put, zv, i64_w, i32_w]; rfl
             refine one_ (i := 5) (N := some 48) (bz 7 63) rfl rfl zz (by decide) (fun K hK => ?_); refine Kd.R_lit_step k43 _ 43 ?hg (N := 48) ?hd (xs := ([(⟨((rd_T47 l0_0 x14_1).f1), t412⟩ : S43)] : List (S43))) (inner := [.int .i64 ((rd_T47 l0_0 x14_1).f1), .int .i64 t412]) (ok := fun _ => True) (okp := fun _ => True) ?hr ?hp (fun _ hk => hk) trivial (Below.refl _ _) (Nat.le_refl _) (by simp) ?_; (case hd => rfl); (case hg => rfl); (case hr => first | (go_simp; done) | (go_simp; rfl)); (case hp => exact (Reps.c2 (show Kd.M k43 _ _ _ (⟨((rd_T47 l0_0 x14_1).f1), t412⟩ : S43) [.int .i64 ((rd_T47 l0_0 x14_1).f1), .int .i64 t412] from (k43_mkM _ _ _ (⟨((rd_T47 l0_0 x14_1).f1), t412⟩ : S43) )) (Reps.none _ _))); intro v414 w43 ho44 hb hg_ hnew_; clear hg_ hnew_
             (first | rw [← Ny413.out] at ho44 | (simp only [Int.reduceToNat] at ho44; rw [← Ny413.out] at ho44))
             have n0_ := zk (Kd.R_elder' (zr HO_3.out) (Kd.R_base ho44) hb); have n1_ := zk (Kd.R_lower (Kd.R_new' ho44 (Kd.R_lt (zr HO_3.out))) (below_size (zU HB.out))); have n2_ := zk (zbb BK408.out hb); have n3_ := zk (zbb BK410.out hb); have n4_ := zk (below_step (zU HB.out) hb); clear HO_3; clear BK408; clear BK410; clear HB; have HO_3 := n0_; have HO415 := n1_; have BK408 := n2_; have BK410 := n3_; have HB := n4_; clear n0_ n1_ n2_ n3_ n4_; clear hb ho44; refine hK.out _ _ ⟨(blk_cell BK410.out 0).trans rfl, (blk_cell BK410.out 1).trans rfl⟩ (fun hHeld => ?_); clear hK K; refine norm_ (a' := ?_) ?_ ?_; rotate_left
             ·show Act.put _ (some 48) _ = _; simp only [Act.put, zv, i64_w, i32_w]; rfl
             refine pure_ (i := 6) (N := some 6) (v := ?_) (a' := ?_) (bz 7 127) rfl rfl zz zQ (Or.inl ⟨by rfl, ?_⟩) ?_ ?_; rotate_left
             ·intro w'; go_simp; with_reducible rfl
             rotate_left
             ·simp only [Act.put, zv, i64_w, i32_w]; rfl
             refine done_ zz ?_; obtain ⟨Ao45, co45, eo45⟩ := Kd.R_slice HO415.out; subst eo45; have p416 : 0 ≤ (0 : Int) := (by omega); have q416 : 0 < (y413.length : Int) := zT; obtain ⟨ad416, e416, hx416_0, hx416_1⟩ := at_T43 (Kd.R_reads' HO415.out).2.2 0 p416 q416; cases e416; have qi416 : (0 < y413.length) = True := eq_true (by omega); (try rw [show ((0 : Int)).toNat = 0 from rfl] at hx416_0)
             (try rw [show 0 * 2 = 0 from rfl] at hx416_0)
             (try rw [Addr.add_zero'] at hx416_0)
             (try rw [show ((0 : Int)).toNat = 0 from rfl] at hx416_1)
             (try rw [show 0 * 2 = 0 from rfl] at hx416_1)
             (try rw [Addr.add_zero'] at hx416_1)
             replace p416 := eq_true p416; replace q416 := eq_true q416; obtain ⟨Ao46, co46, eo46⟩ := Kd.R_slice HO_3.out; subst eo46; try go_wp2_with (first | (go_at_call 122; (with_reducible refine (scalars_Meet.calls kj9 _ _ x3_1 _ _ y413 t417 _ ?side1 ?side2 ?side3 ?side4 A39.out).mono ?_); (case side1 => exact zc (Kd.R_reads' HO_3.out).2.2); (case side2 => exact (Kd.R_reads' HO_3.out).2.1); (case side3 => exact zc (Kd.R_reads' HO415.out).2.2); (case side4 => exact (Kd.R_reads' HO415.out).2.1); rintro e w47 ⟨v418, rfl, ho0, hb⟩; have HO419 := zk (Kd.R_lower (Kd.R_new' (Kd.R_new' ho0 (Kd.R_lt (zr HO_3.out))) (Kd.R_lt (zr HO415.out))) (below_size (zU HB.out))); replace HO_3 := zk (Kd.R_elder' (zr HO_3.out) (Kd.R_base ho0) hb); replace HO415 := zk (Kd.R_elder' (zr HO415.out) (Kd.R_base ho0) hb); replace BK408 := zk (zbb BK408.out hb); replace BK410 := zk (zbb BK410.out hb); replace HB := zk (below_step (zU HB.out) hb);  (try clear hb); (try clear hb2); (try clear hk); (try clear hi); (try clear ho0); obtain ⟨Ao48, co48, eo48⟩ := Kd.R_slice HO419.out; subst eo48))
             go_ret
             exact ⟨ze, zU HB.out⟩
            ·rw [if_neg c40] at H; have c40b0 : decide (0 < (t417.length : Int)) = false := decide_eq_false c40; have c40b1 : decide (0 < t417.length) = false := decide_eq_false (by omega); clear c40; replace H := Option.bind_eq_some_iff.mp H; obtain ⟨t420, A490, H⟩ := H; replace H : (scheme_Valid.l0 kj9 t420 l0_0 (l0_0.length : Int) (wrap64 (x14_1 + 1))) = some r := H; have A49 := zk A490; clear A490; have H' := zk H; clear H; try go_wp2
             have n0_ := zk (Kd.R_drew HO_3.out); have n1_ := zk (blk_drew BK408.out); have n2_ := zk (blk_drew BK410.out); have n3_ := zk (below_drew1 HB.out); clear HO_3; clear BK408; clear BK410; clear HB; have HO_3 := n0_; have BK408 := n1_; have BK410 := n2_; have HB := n3_; clear n0_ n1_ n2_ n3_; refine start_ (n := 7) (S := fun w' => w'.cell? ⟨gb410, 0, none⟩ = some (.slice A409_0 ((rd_T47 l0_0 x14_1).f0).length c409_0) ∧ w'.cell? ⟨gb410, 1, none⟩ = some (.int .i64 ((rd_T47 l0_0 x14_1).f1))) (ds := []) #[false, false, false, false, false, false, false] zz rfl rfl ⟨(blk_cell BK410.out 0).trans rfl, (blk_cell BK410.out 1).trans rfl⟩ (fun hHeld => ?_); generalize wc.drew = w50 at HO_3 BK408 BK410 HB hHeld ⊢; refine pure_ (i := 0) (N := some 43) (v := ?_) (a' := ?_) (bz 7 1) rfl rfl zz zQ (Or.inl ⟨by rfl, ?_⟩) ?_ ?_; rotate_left
             ·intro w'; go_simp; with_reducible rfl
             rotate_left
             ·simp only [Act.put, zv, i64_w, i32_w]; rfl
             refine take_ (i := 1) (N := some 44) (v := ?_) (a' := ?_) (bz 7 3) rfl rfl zz zQ (Or.inl ⟨by rfl, ?_⟩) hHeld ?_ ?_; rotate_left
             ·rintro w' ⟨s0, s1⟩; go_simp; with_reducible rfl
             rotate_left
             ·simp only [Act.put, zv, i64_w, i32_w]; rfl
             refine take_ (i := 2) (N := some 45) (v := ?_) (a' := ?_) (bz 7 7) rfl rfl zz zQ (Or.inl ⟨by rfl, ?_⟩) hHeld ?_ ?_; rotate_left
             ·rintro w' ⟨s0, s1⟩; go_simp; with_reducible rfl
             rotate_left
             ·simp only [Act.put, zv, i64_w, i32_w]; rfl
             refine one_ (i := 3) (N := some 46) (bz 7 15) rfl rfl zz (by decide) (fun K hK => ?_); refine goes_ Try.func121 zz rfl #[.agg #[.slice A409_0 ((rd_T47 l0_0 x14_1).f0).length c409_0, .int .i64 ((rd_T47 l0_0 x14_1).f1)]] (by rfl) rfl rfl zM ?_; with_reducible refine (scheme_last.calls kj9 _ _ ((rd_T47 l0_0 x14_1).f0) ((rd_T47 l0_0 x14_1).f1) t412 _ ?side1 ?side2 A31.out).mono ?_; (case side1 => exact zc (Kd.C_below HR409_0.out HB.out))
             (case side2 => exact HC409_0.out)
             rintro e w51 ⟨rfl, hb⟩; refine ⟨_, rfl, ?_⟩; have n0_ := zk (Kd.R_below (zr HO_3.out) hb); have n1_ := zk (zbb BK408.out hb); have n2_ := zk (zbb BK410.out hb); have n3_ := zk (below_step (zU HB.out) hb); clear HO_3; clear BK408; clear BK410; clear HB; have HO_3 := n0_; have BK408 := n1_; have BK410 := n2_; have HB := n3_; clear n0_ n1_ n2_ n3_; (try clear hb); (try clear hb2); (try clear hk); (try clear hi); refine hK.out _ _ ⟨(blk_cell BK410.out 0).trans rfl, (blk_cell BK410.out 1).trans rfl⟩ (fun hHeld => ?_); clear hK K; refine norm_ (a' := ?_) ?_ ?_; rotate_left
             ·show Act.put _ (some 46) _ = _; simp only [Act.put, zv, i64_w, i32_w]; rfl
             refine pure_ (i := 4) (N := some 47) (v := ?_) (a' := ?_) (bz 7 31) rfl rfl zz zQ (Or.inl ⟨by rfl, ?_⟩) ?_ ?_; rotate_left
             ·intro w'; go_simp; with_reducible rfl
             rotate_left
             ·simp only [Act.put, zv, i64_w, i32_w]; rfl
             refine one_ (i := 5) (N := some 48) (bz 7 63) rfl rfl zz (by decide) (fun K hK => ?_); refine Kd.R_lit_step k43 _ 43 ?hg (N := 48) ?hd (xs := ([(⟨((rd_T47 l0_0 x14_1).f1), t412⟩ : S43)] : List (S43))) (inner := [.int .i64 ((rd_T47 l0_0 x14_1).f1), .int .i64 t412]) (ok := fun _ => True) (okp := fun _ => True) ?hr ?hp (fun _ hk => hk) trivial (Below.refl _ _) (Nat.le_refl _) (by simp) ?_; (case hd => rfl); (case hg => rfl); (case hr => first | (go_simp; done) | (go_simp; rfl)); (case hp => exact (Reps.c2 (show Kd.M k43 _ _ _ (⟨((rd_T47 l0_0 x14_1).f1), t412⟩ : S43) [.int .i64 ((rd_T47 l0_0 x14_1).f1), .int .i64 t412] from (k43_mkM _ _ _ (⟨((rd_T47 l0_0 x14_1).f1), t412⟩ : S43) )) (Reps.none _ _))); intro v414 w52 ho53 hb hg_ hnew_; clear hg_ hnew_
             (first | rw [← Ny413.out] at ho53 | (simp only [Int.reduceToNat] at ho53; rw [← Ny413.out] at ho53))
             have n0_ := zk (Kd.R_elder' (zr HO_3.out) (Kd.R_base ho53) hb); have n1_ := zk (Kd.R_lower (Kd.R_new' ho53 (Kd.R_lt (zr HO_3.out))) (below_size (zU HB.out))); have n2_ := zk (zbb BK408.out hb); have n3_ := zk (zbb BK410.out hb); have n4_ := zk (below_step (zU HB.out) hb); clear HO_3; clear BK408; clear BK410; clear HB; have HO_3 := n0_; have HO415 := n1_; have BK408 := n2_; have BK410 := n3_; have HB := n4_; clear n0_ n1_ n2_ n3_ n4_; clear hb ho53; refine hK.out _ _ ⟨(blk_cell BK410.out 0).trans rfl, (blk_cell BK410.out 1).trans rfl⟩ (fun hHeld => ?_); clear hK K; refine norm_ (a' := ?_) ?_ ?_; rotate_left
             ·show Act.put _ (some 48) _ = _; simp only [Act.put, zv, i64_w, i32_w]; rfl
             refine pure_ (i := 6) (N := some 6) (v := ?_) (a' := ?_) (bz 7 127) rfl rfl zz zQ (Or.inl ⟨by rfl, ?_⟩) ?_ ?_; rotate_left
             ·intro w'; go_simp; with_reducible rfl
             rotate_left
             ·simp only [Act.put, zv, i64_w, i32_w]; rfl
             refine done_ zz ?_; obtain ⟨Ao54, co54, eo54⟩ := Kd.R_slice HO415.out; subst eo54; have p416 : 0 ≤ (0 : Int) := (by omega); have q416 : 0 < (y413.length : Int) := zT; obtain ⟨ad416, e416, hx416_0, hx416_1⟩ := at_T43 (Kd.R_reads' HO415.out).2.2 0 p416 q416; cases e416; have qi416 : (0 < y413.length) = True := eq_true (by omega); (try rw [show ((0 : Int)).toNat = 0 from rfl] at hx416_0)
             (try rw [show 0 * 2 = 0 from rfl] at hx416_0)
             (try rw [Addr.add_zero'] at hx416_0)
             (try rw [show ((0 : Int)).toNat = 0 from rfl] at hx416_1)
             (try rw [show 0 * 2 = 0 from rfl] at hx416_1)
             (try rw [Addr.add_zero'] at hx416_1)
             replace p416 := eq_true p416; replace q416 := eq_true q416; obtain ⟨Ao55, co55, eo55⟩ := Kd.R_slice HO_3.out; subst eo55; try go_wp2_with (first | (go_at_call 122; (with_reducible refine (scalars_Meet.calls kj9 _ _ x3_1 _ _ y413 t417 _ ?side1 ?side2 ?side3 ?side4 A39.out).mono ?_); (case side1 => exact zc (Kd.R_reads' HO_3.out).2.2); (case side2 => exact (Kd.R_reads' HO_3.out).2.1); (case side3 => exact zc (Kd.R_reads' HO415.out).2.2); (case side4 => exact (Kd.R_reads' HO415.out).2.1); rintro e w56 ⟨v418, rfl, ho0, hb⟩; have HO419 := zk (Kd.R_lower (Kd.R_new' (Kd.R_new' ho0 (Kd.R_lt (zr HO_3.out))) (Kd.R_lt (zr HO415.out))) (below_size (zU HB.out))); replace HO_3 := zk (Kd.R_elder' (zr HO_3.out) (Kd.R_base ho0) hb); replace HO415 := zk (Kd.R_elder' (zr HO415.out) (Kd.R_base ho0) hb); replace BK408 := zk (zbb BK408.out hb); replace BK410 := zk (zbb BK410.out hb); replace HB := zk (below_step (zU HB.out) hb);  (try clear hb); (try clear hb2); (try clear hk); (try clear hi); (try clear ho0); obtain ⟨Ao57, co57, eo57⟩ := Kd.R_slice HO419.out; subst eo57) | ((with_reducible refine gate_callee (f := 123) rfl ?_); refine goesL_ (some 63) rfl rfl Try.func123 zz rfl #[.slice Ao55 x3_1.length co55, .slice (some ad416) y413.length co54] rfl zM ?_; (with_reducible refine (scalars_Union.calls kj9 _ _ x3_1 _ _ y413 t420 _ ?side1 ?side2 ?side3 ?side4 A49.out).mono ?_); (case side1 => exact zc (Kd.R_reads' HO_3.out).2.2); (case side2 => exact (Kd.R_reads' HO_3.out).2.1); (case side3 => exact zc (Kd.R_reads' HO415.out).2.2); (case side4 => exact (Kd.R_reads' HO415.out).2.1); rintro e w58 ⟨v421, rfl, ho0, hb⟩; refine ⟨_, rfl, ?_⟩; have HO422 := zk (Kd.R_lower (Kd.R_new' (Kd.R_new' (Kd.R_new' ho0 (Kd.R_lt (zr HO_3.out))) (Kd.R_lt (zr HO415.out))) (Kd.R_lt (zr HO419.out))) (below_size (zU HB.out))); replace HO_3 := zk (Kd.R_elder' (zr HO_3.out) (Kd.R_base ho0) hb); replace HO415 := zk (Kd.R_elder' (zr HO415.out) (Kd.R_base ho0) hb); replace HO419 := zk (Kd.R_elder' (zr HO419.out) (Kd.R_base ho0) hb); replace BK408 := zk (zbb BK408.out hb); replace BK410 := zk (zbb BK410.out hb); replace HB := zk (below_step (zU HB.out) hb);  (try clear hb); (try clear hb2); (try clear hk); (try clear hi); (try clear ho0)))
             go_roundg kj9
             case measure => have := HK1.out; have := HJ9.out; omega
             case rel => exact ⟨(t420), (wrap64 (x14_1 + 1)), zR, H', ⟨by have := HK1.out; have := HJ9.out; omega⟩, ⟨by (with_reducible repeat (first | apply zA | apply zB | apply zC)); exact Kd.R_mono HO422.out (fun _ hk => trivial)⟩, ⟨zb BK408.out⟩, ⟨zU HB.out⟩⟩
          ·rw [if_neg c32] at H; exact absurd H (by simp)
      ·rw [if_neg c9] at H; exact absurd H (by simp)
     ·rw [if_neg c8] at H; exact absurd H (by simp)
    ·rw [if_neg c7] at H; have c7b0 : decide (x14_1 < (l0_0.length : Int)) = false := decide_eq_false c7; clear c7; obtain rfl := Option.some.inj H; go_wp2
     go_ret
     exact ⟨ze, zU HB.out⟩
def shape_Valid.f (k : Nat) (l0_0 : List (List (S34))) (a0_1 : Int) : Option (Bool) := (scheme_Valid.f k (([(⟨l0_0, a0_1⟩ : S47)] : List (S47)))).bind fun t427 => (some t427)
theorem shape_Valid.mono : ∀ a0 a1 k, LeO (shape_Valid.f k a0 a1) (shape_Valid.f (k + 1) a0 a1) := by
 intro a0 a1 k; unfold shape_Valid.f; repeat' first
  | (with_reducible exact scheme_Valid.mono _ _)
  | (with_reducible exact LeO.refl _)
  | (with_reducible exact LeO.none _)
  | (with_reducible refine LeO.ite ?_ ?_)
  | (with_reducible refine LeO.bind ?_ (fun _ => ?_))
  | exact scheme_Valid.mono _ _
  | exact LeO.none _
  | refine LeO.ite ?_ ?_
  | refine LeO.bind ?_ (fun _ => ?_)
set_option maxHeartbeats 8000000 in
set_option maxRecDepth 100000 in
theorem shape_Valid.calls (k : Nat) (P0_0_ : Nat → Prop) (A0_0 : Option Addr) (c0_0 : Nat) (l0_0 : List (List (S34))) (a0_1 : Int) (r : Bool) (w : World) (hs0_0 : Kd.V (Kd.slice 34 k34) 22 w w.heap.size (fun k_ => P0_0_ k_) (.slice A0_0 l0_0.length c0_0) l0_0) (h : shape_Valid.f k l0_0 a0_1 = some r) :
 Calls Try.prog 74 #[.agg #[.slice A0_0 l0_0.length c0_0, .int .i64 a0_1]] w fun e w' => e = .returned (.bool r) ∧ Below w.heap.size w w' := by
 have hu47 := Try.underlying47; have hu69 := Try.underlying69; have HO0_0 := zk (show Kd.V (Kd.slice 34 k34) 22 w w.heap.size (fun k_ => (P0_0_ k_ ∨ w.heap.size ≤ k_)) (.slice A0_0 l0_0.length c0_0) l0_0 from Kd.V_mono hs0_0 (fun k_ hk => .inl hk)); have HB := zk (Below.refl w.heap.size w); have H : ((scheme_Valid.f k (([(⟨l0_0, a0_1⟩ : S47)] : List (S47)))).bind fun t427 => (some t427)) = some r := h; clear h; obtain ⟨y424, hy424⟩ : ∃ y_ : List (S47), y_ = (([(⟨l0_0, a0_1⟩ : S47)] : List (S47))) := ⟨_, rfl⟩
 replace H : ((scheme_Valid.f k y424).bind fun t427 => (some t427)) = some r := by first | (rw [hy424]; with_reducible exact H) | (have H2_ := (Option.bind_some _ _).symm.trans H; rw [hy424]; with_reducible exact H2_) | (have H2_ := (Option.bind_some _ _).symm.trans H; with_reducible exact H2_) | with_reducible exact H | (rw [hy424]; exact H) | exact H
 have Ny424 := zk hy424; clear hy424; replace H := Option.bind_eq_some_iff.mp H; obtain ⟨t427, A20, H⟩ := H; replace H : (some t427) = some r := H; have A2 := zk A20; clear A20; obtain rfl := Option.some.inj H; go_enter Try.func74, Try.ntmps74
 go_wp2_with (first | ((with_reducible refine gate_dst (N := 1) rfl ?_); refine box_event ?hg (N := 1) ?hd (cs := #[.slice A0_0 l0_0.length c0_0, .int .i64 a0_1]) (t := 47) ?hr ?_; (case hd => rfl); (case hg => rfl); (case hr => first | (go_simp; done) | (go_simp; rfl)); intro gb423 hg w3 hbox hb; replace HO0_0 := zk (Kd.V_below (Kd.V_elderB (by (with_reducible repeat (first | apply Kd.V_alloc | apply Kd.V_drewN | apply Kd.V_drew)); exact HO0_0.out) gb423 (Nat.le_of_eq hg.symm)) hb); have BK423 := zk (hbox); have GE423 := zk ((zg hg HB.out : w.heap.size ≤ gb423)); replace HB := zk (below_step (zU HB.out) hb);  clear hb hbox hg; have hcz4_0 : w3.cell? ⟨gb423, 0, none⟩ = some (.slice A0_0 l0_0.length c0_0) := zh BK423.out 0; have hcz4_1 : w3.cell? ⟨gb423, 1, none⟩ = some (.int .i64 a0_1) := zh BK423.out 1; have hfz4_0 := blk_frozen BK423.out 0; have hfz4_1 := blk_frozen BK423.out 1) | ((with_reducible refine gate_dst (N := 4) rfl ?_); refine Kd.N_lit k47 _ 47 ?hg (N' := 4) ?hd (xs := ([(⟨l0_0, a0_1⟩ : S47)] : List (S47))) (inner := [.slice A0_0 l0_0.length c0_0, .int .i64 a0_1]) (ok := (fun k_ => (P0_0_ k_ ∨ w.heap.size ≤ k_) ∧ k_ ≠ gb423)) (okp := (fun k_ => (P0_0_ k_ ∨ w.heap.size ≤ k_) ∧ k_ ≠ gb423)) ?hr ?hp (fun _ hk => hk) ((show ∀ k_, w3.heap.size ≤ k_ → (fun k_ => (P0_0_ k_ ∨ w.heap.size ≤ k_) ∧ k_ ≠ gb423) k_ from fun k_ hk => ⟨(.inr (Nat.le_trans (below_size (zU HB.out)) hk)), Kd.freshB (g := gb423) (o := .cells #[.slice A0_0 l0_0.length c0_0, .int .i64 a0_1] 47 (0, 0)) (zb BK423.out) k_ hk⟩) _ (Nat.le_refl _)) (Below.refl _ _) (Nat.le_refl _) (by simp) ?_; (case hd => rfl); (case hg => rfl); (case hr => first | (go_simp; done) | (go_simp; rfl)); (case hp => exact (Reps.c2 (show Kd.FK k47 _ _ (⟨l0_0, a0_1⟩ : S47) [.slice A0_0 l0_0.length c0_0, .int .i64 a0_1] from (k47_mkF _ _ (⟨l0_0, a0_1⟩ : S47) (Kd.V_reads' (Kd.V_mono (ok' := (fun k_ => (P0_0_ k_ ∨ w.heap.size ≤ k_) ∧ k_ ≠ gb423)) (HO0_0.out) (fun k_ hk => ⟨hk.1, hk.2⟩))).2.1 (Kd.V_F (Kd.V_mono (ok' := (fun k_ => (P0_0_ k_ ∨ w.heap.size ≤ k_) ∧ k_ ≠ gb423)) (HO0_0.out) (fun k_ hk => ⟨hk.1, hk.2⟩))))) (Reps.none _ _))); intro v425 w5 ho6 hb hg_ hnew_; clear hg_ hnew_; (first | rw [← Ny424.out] at ho6 | (simp only [Int.reduceToNat] at ho6; rw [← Ny424.out] at ho6)); replace HO0_0 := zk (Kd.V_elder' (by (with_reducible repeat (first | apply Kd.V_alloc | apply Kd.V_drewN | apply Kd.V_drew)); exact HO0_0.out) (Kd.N_base ho6) hb); have HO426 := zk (Kd.N_lower ho6 (below_size (zU HB.out))); replace BK423 := zk (zbb BK423.out hb); replace HB := zk (below_step (zU HB.out) hb);  clear hb ho6; obtain ⟨Ao7, co7, eo7⟩ := Kd.N_slice HO426.out; subst eo7) | ((with_reducible refine gate_callee (f := 85) rfl ?_); refine goesL_ (some 6) rfl rfl Try.func85 zz rfl #[.agg #[.slice Ao7 y424.length co7]] rfl zM ?_; (with_reducible refine (scheme_Valid.calls k _ _ y424 t427 _ ?side1 ?side2 A2.out).mono ?_); (case side1 => repeat (first | exact (Kd.N_reads' HO426.out).2.2 | (with_reducible refine Kd.C_alloc ?_ _) | (with_reducible refine Kd.C_drewN ?_ _) | (with_reducible refine Kd.C_drew ?_))); (case side2 => exact (Kd.N_reads' HO426.out).2.1); rintro e w8 ⟨rfl, hb⟩; refine ⟨_, rfl, ?_⟩; replace HO0_0 := zk (Kd.V_below (by (with_reducible repeat (first | apply Kd.V_alloc | apply Kd.V_drewN | apply Kd.V_drew)); exact HO0_0.out) hb); replace HO426 := zk (Kd.N_below (zn HO426.out) hb); replace BK423 := zk (zbb BK423.out hb); replace HB := zk (below_step (zU HB.out) hb);  (try clear hb); (try clear hb2); (try clear hk); (try clear hi)))
 go_ret
 exact ⟨ze, zU HB.out⟩
end Go.Proofs.Ytoljcfocgaonpaa.I
