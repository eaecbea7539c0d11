/- Words and walks of this claim, of the text Bx6. -/
import Derived.Test.YtobhclnenffkgaaGreatKaQW0
import Derived.Test.YtobhclnenffkgaaGreatKaBx0
import Derived.Test.YtobhclnenffkgaaGreatKaBx2
import Derived.Test.YtobhclnenffkgaaGreatKaBx4
import Derived.Test.YtobhclnenffkgaaGreatKaBx5
namespace Go.Proofs.YtobhclnenffkgaaGreat.B
open Go.RowKit Go.Proofs.YtobhclnenffkgaaGreatW.PrintWords Go.Proofs.YtobhclnenffkgaaGreatW.PrintLast Go.Proofs.YtobhclnenffkgaaGreatW.PrintMore
set_option maxHeartbeats 8000000
set_option maxRecDepth 100000
attribute [local go_sem] max2_int min2_int max_two min_two max_three min_three max_four min_four
set_option linter.unusedVariables false
set_option linter.unusedSimpArgs false
mutual
def scheme_Valid.l0 : Nat → List (S74) → List (S48) → Int → Int → Option (Bool)
 | 0, _, _, _, _ => none
 | k + 1, x3, x12, x13, x14 => if x14 < x13 then (if 0 ≤ x14 then (if x14 < (x12.length : Int) then (if (((rd_T48 x12 x14).f0).length : Int) < 1 then (scheme_Valid.j1 k x3 x12 x13 x14 true ((rd_T48 x12 x14).f0) ((rd_T48 x12 x14).f1)) else (if (((rd_T48 x12 x14).f0).length : Int) > 8 then (scheme_Valid.j1 k x3 x12 x13 x14 true ((rd_T48 x12 x14).f0) ((rd_T48 x12 x14).f1)) else (if ((rd_T48 x12 x14).f1) < 0 then (scheme_Valid.j1 k x3 x12 x13 x14 true ((rd_T48 x12 x14).f0) ((rd_T48 x12 x14).f1)) else (if ((rd_T48 x12 x14).f1) > 1073741823 then (scheme_Valid.j1 k x3 x12 x13 x14 true ((rd_T48 x12 x14).f0) ((rd_T48 x12 x14).f1)) else ((slices_anyNone.f k ((rd_T48 x12 x14).f0)).bind fun t226 => (scheme_Valid.j1 k x3 x12 x13 x14 t226 ((rd_T48 x12 x14).f0) ((rd_T48 x12 x14).f1))))))) else (none)) else (none)) else (some true)
def scheme_Valid.j1 : Nat → List (S74) → List (S48) → Int → Int → Bool → List (List (S69)) → Int → Option (Bool)
 | 0, _, _, _, _, _, _, _ => none
 | k + 1, x3, x12, x13, x14, x42, x226000, x226001 => if x42 = true then (some false) else ((scheme_last.f k x226000 x226001).bind fun t227 => ((some (([(⟨x226001, t227⟩ : S74)] : List (S74)) : List (S74))).bind fun y228 => (if 0 < (y228.length : Int) then (if ((rd_T74 y228 0).f1) > 1073741823 then (some false) else ((scalars_Meet.f k x3 y228).bind fun t232 => (if (t232.length : Int) > 0 then (some false) else ((scalars_Union.f k x3 y228).bind fun t235 => (scheme_Valid.l0 k t235 x12 x13 (wrap64 (x14 + 1))))))) else (none))))
end
def scheme_Valid.f (k : Nat) (l0_0 : List (S48)) : Option (Bool) := if (l0_0.length : Int) > 32 then (some false) else (scheme_Valid.l0 k ([] : List (S74)) l0_0 (l0_0.length : Int) 0)
theorem scheme_Valid.mono_l : ∀ k, (∀ y0 y1 y2 y3, LeO (scheme_Valid.l0 k y0 y1 y2 y3) (scheme_Valid.l0 (k + 1) y0 y1 y2 y3)) ∧ (∀ y0 y1 y2 y3 y4 y5 y6, LeO (scheme_Valid.j1 k y0 y1 y2 y3 y4 y5 y6) (scheme_Valid.j1 (k + 1) y0 y1 y2 y3 y4 y5 y6))
 | 0 => ⟨fun _ _ _ _ r h => by simp [scheme_Valid.l0] at h, fun _ _ _ _ _ _ _ r h => by simp [scheme_Valid.j1] at h⟩
 | k + 1 => by
  obtain ⟨ih0, ih1⟩ := scheme_Valid.mono_l k; refine ⟨?_, ?_⟩
  ·intro y0 y1 y2 y3; unfold scheme_Valid.l0; repeat' first
   | (with_reducible exact ih0 _ _ _ _)
   | (with_reducible exact ih1 _ _ _ _ _ _ _)
   | (with_reducible exact scalars_Meet.mono _ _ _)
   | (with_reducible exact scalars_Union.mono _ _ _)
   | (with_reducible exact scheme_last.mono _ _ _)
   | (with_reducible exact slices_anyNone.mono _ _)
   | (with_reducible exact LeO.refl _)
   | (with_reducible exact LeO.none _)
   | (with_reducible refine LeO.ite ?_ ?_)
   | (with_reducible refine LeO.bind ?_ (fun _ => ?_))
   | exact ih0 _ _ _ _
   | exact ih1 _ _ _ _ _ _ _
   | exact scalars_Meet.mono _ _ _
   | exact scalars_Union.mono _ _ _
   | exact scheme_last.mono _ _ _
   | exact slices_anyNone.mono _ _
   | exact LeO.none _
   | refine LeO.ite ?_ ?_
   | refine LeO.bind ?_ (fun _ => ?_)
  ·intro y0 y1 y2 y3 y4 y5 y6; unfold scheme_Valid.j1; repeat' first
   | (with_reducible exact ih0 _ _ _ _)
   | (with_reducible exact ih1 _ _ _ _ _ _ _)
   | (with_reducible exact scalars_Meet.mono _ _ _)
   | (with_reducible exact scalars_Union.mono _ _ _)
   | (with_reducible exact scheme_last.mono _ _ _)
   | (with_reducible exact slices_anyNone.mono _ _)
   | (with_reducible exact LeO.refl _)
   | (with_reducible exact LeO.none _)
   | (with_reducible refine LeO.ite ?_ ?_)
   | (with_reducible refine LeO.bind ?_ (fun _ => ?_))
   | exact ih0 _ _ _ _
   | exact ih1 _ _ _ _ _ _ _
   | exact scalars_Meet.mono _ _ _
   | exact scalars_Union.mono _ _ _
   | exact scheme_last.mono _ _ _
   | exact slices_anyNone.mono _ _
   | exact LeO.none _
   | refine LeO.ite ?_ ?_
   | refine LeO.bind ?_ (fun _ => ?_)
theorem scheme_Valid.mono : ∀ a0 k, LeO (scheme_Valid.f k a0) (scheme_Valid.f (k + 1) a0) := by
 intro a0 k; obtain ⟨ih0, ih1⟩ := scheme_Valid.mono_l k; unfold scheme_Valid.f; repeat' first
  | (with_reducible exact ih0 _ _ _ _)
  | (with_reducible exact ih1 _ _ _ _ _ _ _)
  | (with_reducible exact scalars_Meet.mono _ _ _)
  | (with_reducible exact scalars_Union.mono _ _ _)
  | (with_reducible exact scheme_last.mono _ _ _)
  | (with_reducible exact slices_anyNone.mono _ _)
  | (with_reducible exact LeO.refl _)
  | (with_reducible exact LeO.none _)
  | (with_reducible refine LeO.ite ?_ ?_)
  | (with_reducible refine LeO.bind ?_ (fun _ => ?_))
  | exact ih0 _ _ _ _
  | exact ih1 _ _ _ _ _ _ _
  | exact scalars_Meet.mono _ _ _
  | exact scalars_Union.mono _ _ _
  | exact scheme_last.mono _ _ _
  | exact slices_anyNone.mono _ _
  | exact LeO.none _
  | refine LeO.ite ?_ ?_
  | refine LeO.bind ?_ (fun _ => ?_)
theorem scheme_Valid.calls (k : Nat) (A0_0 : Option Addr) (c0_0 : Nat) (l0_0 : List (S48)) (r : Bool) (w : World) (hr0_0 : Kd.C k48 w A0_0 l0_0.length l0_0) (hc0_0 : l0_0.length ≤ c0_0) (h : scheme_Valid.f k l0_0 = some r) :
 Calls Tryz.prog 14 #[.agg #[.slice A0_0 l0_0.length c0_0]] w fun e w' => e = .returned (.bool r) ∧ Below w.heap.size w w' := by
 have hu24 := Tryz.underlying24; have hu48 := Tryz.underlying48; have hu74 := Tryz.underlying74; have HR0_0 := zk hr0_0; have HC0_0 := zk hc0_0; clear hr0_0 hc0_0; have HB := zk (Below.refl w.heap.size w); have H : (if (l0_0.length : Int) > 32 then (some false) else (scheme_Valid.l0 k ([] : List (S74)) l0_0 (l0_0.length : Int) 0)) = some r := h; clear h; by_cases c2 : (l0_0.length : Int) > 32
 ·rw [if_pos c2] at H; have c2b0 : decide (32 < (l0_0.length : Int)) = true := decide_eq_true c2; have c2b1 : decide (32 < l0_0.length) = true := decide_eq_true (by omega); clear c2; obtain rfl := Option.some.inj H; go_enter Tryz.func14, Tryz.ntmps14
  go_wp2_with (first | ((with_reducible refine gate_dst (N := 1) rfl ?_); (try (refine gate_guard (by rfl) ?_; dsimp only)); refine box_event ?hg (N := 1) ?hd (cs := #[.slice A0_0 l0_0.length c0_0]) (t := 24) ?hr ?_; (case hd => rfl); (case hg => rfl); (case hr => first | (go_simp; done) | (go_simp; rfl)); intro gb223 hg w3 hbox hb; have BK223 := zk (hbox); have GE223 := zk ((zg hg HB.out : w.heap.size ≤ gb223)); replace HB := zs HB hb;  clear hb hbox hg; have hcz4_0 : w3.cell? ⟨gb223, 0, none⟩ = some (.slice A0_0 l0_0.length c0_0) := zh BK223.out 0; have hfz4_0 := blk_frozen BK223.out 0))
  go_ret
  exact ⟨ze, zU HB.out⟩
 ·rw [if_neg c2] at H; have c2b0 : decide (32 < (l0_0.length : Int)) = false := decide_eq_false c2; have c2b1 : decide (32 < l0_0.length) = false := decide_eq_false (by omega); clear c2; have H' := zk H; clear H; go_enter Tryz.func14, Tryz.ntmps14
  go_wp2_with (first | ((with_reducible refine gate_dst (N := 1) rfl ?_); (try (refine gate_guard (by rfl) ?_; dsimp only)); refine box_event ?hg (N := 1) ?hd (cs := #[.slice A0_0 l0_0.length c0_0]) (t := 24) ?hr ?_; (case hd => rfl); (case hg => rfl); (case hr => first | (go_simp; done) | (go_simp; rfl)); intro gb223 hg w5 hbox hb; have BK223 := zk (hbox); have GE223 := zk ((zg hg HB.out : w.heap.size ≤ gb223)); replace HB := zs HB hb;  clear hb hbox hg; have hcz6_0 : w5.cell? ⟨gb223, 0, none⟩ = some (.slice A0_0 l0_0.length c0_0) := zh BK223.out 0; have hfz6_0 := blk_frozen BK223.out 0))
  go_loopg [3, 14] k (fun kq v3 v14 w' => ∃ (x3_1 : List (S74)) (x14_1 : Int), v14 = .int .i64 x14_1 ∧ Aside0 (scheme_Valid.l0 kq x3_1 l0_0 (l0_0.length : Int) x14_1 = some r) ∧ Aside0 (kq ≤ k) ∧ Aside0 (Kd.R k74 74 w' w.heap.size (fun _ => True) v3 x3_1) ∧ Aside0 (w'.heap[gb223]? = some (.cells #[(.slice A0_0 l0_0.length c0_0)] 24 (0, 0))) ∧ Aside0 (Below w.heap.size w w'))
  case atStart => exact ⟨(([] : List (S74))), (0), zR, H', ⟨Nat.le_refl _⟩, ⟨by first | exact Kd.R_nil _ _ _ _ _ | exact Kd.N_nil _ _ _ _ _ | exact Kd.V_nil _ _ _ _ _ | exact Kd.Q_nil _ _ _ _ _ | exact Kd.S_nil _ _ _ _ _⟩, ⟨zb BK223.out⟩, ⟨zU HB.out⟩⟩
  case round =>
   clear H'; (try clear c1); (try clear c2); (try clear c2b0); (try clear c2b1); (try clear p2); (try clear hcz4_0); (try clear hcz6_0); (try clear hfz4_0); (try clear hfz6_0); obtain ⟨x3_1, x14_1, rfl, HA, HK1, HO_3, BK223, HB⟩ := hrel
   cases gk with
   | zero => exact absurd HA.out (by simp [scheme_Valid.l0])
   | succ k1 =>
    have H := HA.out; clear HA; simp only [scheme_Valid.l0] at H; by_cases c7 : x14_1 < (l0_0.length : Int)
    ·rw [if_pos c7] at H; have c7b0 : decide (x14_1 < (l0_0.length : Int)) = true := decide_eq_true c7; clear c7; by_cases c8 : 0 ≤ x14_1
     ·rw [if_pos c8] at H; have c8b0 : decide (0 ≤ x14_1) = true := decide_eq_true c8; clear c8; by_cases c9 : x14_1 < (l0_0.length : Int)
      ·rw [if_pos c9] at H; have c9b0 : decide (x14_1 < (l0_0.length : Int)) = true := decide_eq_true c9; clear c9; have HC10 := zk H; clear H; have p224 : 0 ≤ (x14_1 : Int) := zT; have q224 : x14_1 < (l0_0.length : Int) := zT; obtain ⟨ad224, A224_0, c224_0, e224, hx224_0, hx224_1, hl224_0, hi224_0⟩ := at_T48 HR0_0.out x14_1 p224 q224; cases e224; replace hx224_0 := zcl HB.out hx224_0; replace hx224_1 := zcl HB.out hx224_1; have HR224_0 := zk hi224_0; have HC224_0 := zk hl224_0; clear hi224_0 hl224_0; replace p224 := eq_true p224; replace q224 := eq_true q224; go_upto_region 7 with (first | ((with_reducible refine gate_dst (N := 5) rfl ?_); (try (refine gate_guard (by rfl) ?_; dsimp only)); refine box_event ?hg (N := 5) ?hd (cs := #[.slice none 0 0, .int .i64 0]) (t := 48) ?hr ?_; (case hd => rfl); (case hg => rfl); (case hr => first | (go_simp; done) | (go_simp; rfl)); intro gb225 hg w11 hbox hb; replace HO_3 := zk (Kd.R_below (zr HO_3.out) hb); have BK225 := zk (hbox); have GE225 := zk ((zg hg HB.out : w.heap.size ≤ gb225)); replace HB := zs HB hb; have NB223_225 := zk ((zlt hg BK223.out : gb223 ≠ gb225)); have NB225_223 := zk ((zgt hg BK223.out : gb225 ≠ gb223)); replace BK223 := zk (zbb BK223.out hb);  clear hb hbox hg; have hnb12 := NB225_223.out; have hnc12 := NB223_225.out; have hcz13_0 : w11.cell? ⟨gb225, 0, none⟩ = some (.slice none 0 0) := zh BK225.out 0; have hcz13_1 : w11.cell? ⟨gb225, 1, none⟩ = some (.int .i64 0) := zh BK225.out 1; have hfz13_0 := blk_frozen BK225.out 0; have hfz13_1 := blk_frozen BK225.out 1))
       (try simp only [Act.put, List.setIfInBounds_toArray, List.set_cons_zero, List.set_cons_succ])
       go_cut [42] (fun v42 wc => ∃ (kq : Nat) (x42_9 : Bool), v42 = .bool x42_9 ∧ Aside0 (scheme_Valid.j1 kq x3_1 l0_0 (l0_0.length : Int) x14_1 x42_9 ((rd_T48 l0_0 x14_1).f0) ((rd_T48 l0_0 x14_1).f1) = some r) ∧ Aside0 (kq ≤ k1) ∧ Aside0 (Kd.R k74 74 wc w.heap.size (fun _ => True) u3 x3_1) ∧ Aside0 (wc.heap[gb223]? = some (.cells #[(.slice (some ad224) l0_0.length c0_0)] 24 (0, 0))) ∧ Aside0 (wc.heap[gb225]? = some (.cells #[(.slice A224_0 ((rd_T48 l0_0 x14_1).f0).length c224_0), .int .i64 ((rd_T48 l0_0 x14_1).f1)] 48 (0, 0))) ∧ Aside0 (Below w.heap.size w wc))
       case first =>
        have H := HC10.out; clear HC10; by_cases c14 : (((rd_T48 l0_0 x14_1).f0).length : Int) < 1
        ·rw [if_pos c14] at H; have c14b0 : decide ((((rd_T48 l0_0 x14_1).f0).length : Int) < 1) = true := decide_eq_true c14; have c14b1 : decide (((rd_T48 l0_0 x14_1).f0).length < 1) = true := decide_eq_true (by omega); clear c14
         (first | rw [c14b0] | (simp only [i64_w, i32_w]; rw [c14b0]) | skip)
         have H' := zk H; clear H; have hnb15 := NB225_223.out; have hnc15 := NB223_225.out; have hcz16_0 : w11.cell? ⟨gb225, 0, none⟩ = some (.slice none 0 0) := zh BK225.out 0; have hcz16_1 : w11.cell? ⟨gb225, 1, none⟩ = some (.int .i64 0) := zh BK225.out 1; have hfz16_0 := blk_frozen BK225.out 0; have hfz16_1 := blk_frozen BK225.out 1; go_wp2
         go_meet
         case rel => exact ⟨_, (true), zR, H', ⟨by have := HK1.out; first | omega | exact Nat.le_refl _⟩, ⟨by (with_reducible repeat (first | apply zA | apply zB | apply zC)); exact Kd.R_mono (Kd.R_far (p := ⟨gb225, 1, none⟩) (Kd.R_far (p := ⟨gb225, 0, none⟩) (Kd.R_types HO_3.out BK225.out (by decide)) (fun _ hk => hk.2) (.slice A224_0 ((rd_T48 l0_0 x14_1).f0).length c224_0)) (fun _ hk => hk.2) (.int .i64 ((rd_T48 l0_0 x14_1).f1))) (fun _ hk => trivial)⟩, ⟨zb BK223.out⟩, ⟨by (with_reducible repeat (first | refine blk_drewN ?_ _ | refine blk_drew ?_ | refine blk_alloc ?_ _)); refine blk_put (cs := #[.slice A224_0 ((rd_T48 l0_0 x14_1).f0).length c224_0, .int .i64 0]) ?_ 1 _ rfl; (with_reducible repeat (first | refine blk_drewN ?_ _ | refine blk_drew ?_ | refine blk_alloc ?_ _)); refine blk_put (cs := #[.slice none 0 0, .int .i64 0]) ?_ 0 _ rfl; exact zb BK225.out⟩, ⟨zU HB.out⟩⟩
        ·rw [if_neg c14] at H; have c14b0 : decide ((((rd_T48 l0_0 x14_1).f0).length : Int) < 1) = false := decide_eq_false c14; have c14b1 : decide (((rd_T48 l0_0 x14_1).f0).length < 1) = false := decide_eq_false (by omega); clear c14
         (first | rw [c14b0] | (simp only [i64_w, i32_w]; rw [c14b0]) | skip)
         by_cases c17 : (((rd_T48 l0_0 x14_1).f0).length : Int) > 8
         ·rw [if_pos c17] at H; have c17b0 : decide (8 < (((rd_T48 l0_0 x14_1).f0).length : Int)) = true := decide_eq_true c17; have c17b1 : decide (8 < ((rd_T48 l0_0 x14_1).f0).length) = true := decide_eq_true (by omega); clear c17; have H' := zk H; clear H; have hnb18 := NB225_223.out; have hnc18 := NB223_225.out; have hcz19_0 : w11.cell? ⟨gb225, 0, none⟩ = some (.slice none 0 0) := zh BK225.out 0; have hcz19_1 : w11.cell? ⟨gb225, 1, none⟩ = some (.int .i64 0) := zh BK225.out 1; have hfz19_0 := blk_frozen BK225.out 0; have hfz19_1 := blk_frozen BK225.out 1; go_wp2
          go_meet
          case rel => exact ⟨_, (true), zR, H', ⟨by have := HK1.out; first | omega | exact Nat.le_refl _⟩, ⟨by (with_reducible repeat (first | apply zA | apply zB | apply zC)); exact Kd.R_mono (Kd.R_far (p := ⟨gb225, 1, none⟩) (Kd.R_far (p := ⟨gb225, 0, none⟩) (Kd.R_types HO_3.out BK225.out (by decide)) (fun _ hk => hk.2) (.slice A224_0 ((rd_T48 l0_0 x14_1).f0).length c224_0)) (fun _ hk => hk.2) (.int .i64 ((rd_T48 l0_0 x14_1).f1))) (fun _ hk => trivial)⟩, ⟨zb BK223.out⟩, ⟨by (with_reducible repeat (first | refine blk_drewN ?_ _ | refine blk_drew ?_ | refine blk_alloc ?_ _)); refine blk_put (cs := #[.slice A224_0 ((rd_T48 l0_0 x14_1).f0).length c224_0, .int .i64 0]) ?_ 1 _ rfl; (with_reducible repeat (first | refine blk_drewN ?_ _ | refine blk_drew ?_ | refine blk_alloc ?_ _)); refine blk_put (cs := #[.slice none 0 0, .int .i64 0]) ?_ 0 _ rfl; exact zb BK225.out⟩, ⟨zU HB.out⟩⟩
         ·rw [if_neg c17] at H; have c17b0 : decide (8 < (((rd_T48 l0_0 x14_1).f0).length : Int)) = false := decide_eq_false c17; have c17b1 : decide (8 < ((rd_T48 l0_0 x14_1).f0).length) = false := decide_eq_false (by omega); clear c17; by_cases c20 : ((rd_T48 l0_0 x14_1).f1) < 0
          ·rw [if_pos c20] at H; have c20b0 : decide (((rd_T48 l0_0 x14_1).f1) < 0) = true := decide_eq_true c20; clear c20; have H' := zk H; clear H; have hnb21 := NB225_223.out; have hnc21 := NB223_225.out; have hcz22_0 : w11.cell? ⟨gb225, 0, none⟩ = some (.slice none 0 0) := zh BK225.out 0; have hcz22_1 : w11.cell? ⟨gb225, 1, none⟩ = some (.int .i64 0) := zh BK225.out 1; have hfz22_0 := blk_frozen BK225.out 0; have hfz22_1 := blk_frozen BK225.out 1; go_wp2
           go_meet
           case rel => exact ⟨_, (true), zR, H', ⟨by have := HK1.out; first | omega | exact Nat.le_refl _⟩, ⟨by (with_reducible repeat (first | apply zA | apply zB | apply zC)); exact Kd.R_mono (Kd.R_far (p := ⟨gb225, 1, none⟩) (Kd.R_far (p := ⟨gb225, 0, none⟩) (Kd.R_types HO_3.out BK225.out (by decide)) (fun _ hk => hk.2) (.slice A224_0 ((rd_T48 l0_0 x14_1).f0).length c224_0)) (fun _ hk => hk.2) (.int .i64 ((rd_T48 l0_0 x14_1).f1))) (fun _ hk => trivial)⟩, ⟨zb BK223.out⟩, ⟨by (with_reducible repeat (first | refine blk_drewN ?_ _ | refine blk_drew ?_ | refine blk_alloc ?_ _)); refine blk_put (cs := #[.slice A224_0 ((rd_T48 l0_0 x14_1).f0).length c224_0, .int .i64 0]) ?_ 1 _ rfl; (with_reducible repeat (first | refine blk_drewN ?_ _ | refine blk_drew ?_ | refine blk_alloc ?_ _)); refine blk_put (cs := #[.slice none 0 0, .int .i64 0]) ?_ 0 _ rfl; exact zb BK225.out⟩, ⟨zU HB.out⟩⟩
          ·rw [if_neg c20] at H; have c20b0 : decide (((rd_T48 l0_0 x14_1).f1) < 0) = false := decide_eq_false c20; clear c20; by_cases c23 : ((rd_T48 l0_0 x14_1).f1) > 1073741823
           ·rw [if_pos c23] at H; have c23b0 : decide (1073741823 < ((rd_T48 l0_0 x14_1).f1)) = true := decide_eq_true c23; clear c23; have H' := zk H; clear H; have hnb24 := NB225_223.out; have hnc24 := NB223_225.out; have hcz25_0 : w11.cell? ⟨gb225, 0, none⟩ = some (.slice none 0 0) := zh BK225.out 0; have hcz25_1 : w11.cell? ⟨gb225, 1, none⟩ = some (.int .i64 0) := zh BK225.out 1; have hfz25_0 := blk_frozen BK225.out 0; have hfz25_1 := blk_frozen BK225.out 1; go_wp2
            go_meet
            case rel => exact ⟨_, (true), zR, H', ⟨by have := HK1.out; first | omega | exact Nat.le_refl _⟩, ⟨by (with_reducible repeat (first | apply zA | apply zB | apply zC)); exact Kd.R_mono (Kd.R_far (p := ⟨gb225, 1, none⟩) (Kd.R_far (p := ⟨gb225, 0, none⟩) (Kd.R_types HO_3.out BK225.out (by decide)) (fun _ hk => hk.2) (.slice A224_0 ((rd_T48 l0_0 x14_1).f0).length c224_0)) (fun _ hk => hk.2) (.int .i64 ((rd_T48 l0_0 x14_1).f1))) (fun _ hk => trivial)⟩, ⟨zb BK223.out⟩, ⟨by (with_reducible repeat (first | refine blk_drewN ?_ _ | refine blk_drew ?_ | refine blk_alloc ?_ _)); refine blk_put (cs := #[.slice A224_0 ((rd_T48 l0_0 x14_1).f0).length c224_0, .int .i64 0]) ?_ 1 _ rfl; (with_reducible repeat (first | refine blk_drewN ?_ _ | refine blk_drew ?_ | refine blk_alloc ?_ _)); refine blk_put (cs := #[.slice none 0 0, .int .i64 0]) ?_ 0 _ rfl; exact zb BK225.out⟩, ⟨zU HB.out⟩⟩
           ·rw [if_neg c23] at H; have c23b0 : decide (1073741823 < ((rd_T48 l0_0 x14_1).f1)) = false := decide_eq_false c23; clear c23; replace H := Option.bind_eq_some_iff.mp H; obtain ⟨t226, A260, H⟩ := H; replace H : (scheme_Valid.j1 k1 x3_1 l0_0 (l0_0.length : Int) x14_1 t226 ((rd_T48 l0_0 x14_1).f0) ((rd_T48 l0_0 x14_1).f1)) = some r := H; have A26 := zk A260; clear A260; have H' := zk H; clear H; have hnb27 := NB225_223.out; have hnc27 := NB223_225.out; have hcz28_0 : w11.cell? ⟨gb225, 0, none⟩ = some (.slice none 0 0) := zh BK225.out 0; have hcz28_1 : w11.cell? ⟨gb225, 1, none⟩ = some (.int .i64 0) := zh BK225.out 1; have hfz28_0 := blk_frozen BK225.out 0; have hfz28_1 := blk_frozen BK225.out 1; go_wp2_with (first | (go_at_call 31; (with_reducible refine (slices_anyNone.calls k1 _ _ ((rd_T48 l0_0 x14_1).f0) t226 _ ?side1 ?side2 A26.out).mono ?_); (case side1 => exact Kd.C_below HR224_0.out (zU HB.out)); (case side2 => exact HC224_0.out); rintro e w29 ⟨rfl, hb⟩; replace HO_3 := zk (Kd.R_below (by (with_reducible repeat (first | apply zA | apply zB | apply zC)); exact (Kd.R_mono (Kd.R_far (p := ⟨gb225, 1, none⟩) (Kd.R_far (p := ⟨gb225, 0, none⟩) (Kd.R_types HO_3.out BK225.out (by decide)) (fun _ hk => hk.2) (.slice A224_0 ((rd_T48 l0_0 x14_1).f0).length c224_0)) (fun _ hk => hk.2) (.int .i64 ((rd_T48 l0_0 x14_1).f1))) (fun _ h_ => h_.1))) hb); replace BK223 := zk (zbb BK223.out hb); replace BK225 := zk (blk_below (g := gb225) (o := .cells #[.slice A224_0 ((rd_T48 l0_0 x14_1).f0).length c224_0, .int .i64 ((rd_T48 l0_0 x14_1).f1)] 48 (0, 0)) (by (with_reducible repeat (first | refine blk_drewN ?_ _ | refine blk_drew ?_ | refine blk_alloc ?_ _)); refine blk_put (cs := #[.slice A224_0 ((rd_T48 l0_0 x14_1).f0).length c224_0, .int .i64 0]) ?_ 1 _ rfl; (with_reducible repeat (first | refine blk_drewN ?_ _ | refine blk_drew ?_ | refine blk_alloc ?_ _)); refine blk_put (cs := #[.slice none 0 0, .int .i64 0]) ?_ 0 _ rfl; exact zb BK225.out) hb); replace HB := zs HB hb;  (try clear hb); (try clear hb2); (try clear hk); (try clear hi)))
            go_meet
            case rel => exact ⟨_, (t226), zR, H', ⟨by have := HK1.out; first | omega | exact Nat.le_refl _⟩, ⟨by (with_reducible repeat (first | apply zA | apply zB | apply zC)); exact HO_3.out⟩, ⟨zb BK223.out⟩, ⟨zb BK225.out⟩, ⟨zU HB.out⟩⟩
       case rest =>
        clear HC10; (try clear c1); (try clear c2); (try clear c2b0); (try clear c2b1); (try clear p2); (try clear q2); (try clear hx2); (try clear c7); (try clear c7b0); (try clear c8); (try clear c8b0); (try clear c9); (try clear c9b0); (try clear c12); (try clear c14); (try clear c14b0); (try clear c14b1); (try clear c15); (try clear c17); (try clear c17b0); (try clear c17b1); (try clear c18); (try clear c20); (try clear c20b0); (try clear c21); (try clear c22); (try clear p22); (try clear q22); (try clear hx22); (try clear c23); (try clear c23b0); (try clear c24); (try clear c27); (try clear hcz13_0); (try clear hcz13_1); (try clear hcz16_0); (try clear hcz16_1); (try clear hcz19_0); (try clear hcz19_1); (try clear hcz22_0); (try clear hcz22_1); (try clear hcz25_0); (try clear hcz25_1); (try clear hcz28_0); (try clear hcz28_1); (try clear hcz4_0); (try clear hcz6_0); (try clear hfz13_0); (try clear hfz13_1); (try clear hfz16_0); (try clear hfz16_1); (try clear hfz19_0); (try clear hfz19_1); (try clear hfz22_0); (try clear hfz22_1); (try clear hfz25_0); (try clear hfz25_1); (try clear hfz28_0); (try clear hfz28_1); (try clear hfz4_0); (try clear hfz6_0); (try clear hx224_0); (try clear hx224_1); (try clear p2); (try clear p224); (try clear q224); obtain ⟨kq, x42_9, rfl, HA, HJ9, HO_3, BK223, BK225, HB⟩ := hcut; cases kq with
        | zero => exact absurd HA.out (by simp [scheme_Valid.j1])
        | succ kj9 =>
         have H := HA.out; clear HA; simp only [scheme_Valid.j1] at H; by_cases c30 : x42_9 = true
         ·subst c30; have H1 : (some false) = some r := by rw [if_pos rfl] at H; exact H
          clear H; have H := H1; clear H1; obtain rfl := Option.some.inj H; go_wp2
          go_ret
          exact ⟨ze, zU HB.out⟩
         ·replace c30 := Bool.eq_false_iff.mpr c30; subst c30; have H1 : ((scheme_last.f kj9 ((rd_T48 l0_0 x14_1).f0) ((rd_T48 l0_0 x14_1).f1)).bind fun t227 => ((some (([(⟨((rd_T48 l0_0 x14_1).f1), t227⟩ : S74)] : List (S74)) : List (S74))).bind fun y228 => (if 0 < (y228.length : Int) then (if ((rd_T74 y228 0).f1) > 1073741823 then (some false) else ((scalars_Meet.f kj9 x3_1 y228).bind fun t232 => (if (t232.length : Int) > 0 then (some false) else ((scalars_Union.f kj9 x3_1 y228).bind fun t235 => (scheme_Valid.l0 kj9 t235 l0_0 (l0_0.length : Int) (wrap64 (x14_1 + 1))))))) else (none)))) = some r := by rw [if_neg (show ¬ (false = true) by decide)] at H; exact H
          clear H; have H := H1; clear H1; replace H := Option.bind_eq_some_iff.mp H; obtain ⟨t227, A310, H⟩ := H; replace H : ((some (([(⟨((rd_T48 l0_0 x14_1).f1), t227⟩ : S74)] : List (S74)) : List (S74))).bind fun y228 => (if 0 < (y228.length : Int) then (if ((rd_T74 y228 0).f1) > 1073741823 then (some false) else ((scalars_Meet.f kj9 x3_1 y228).bind fun t232 => (if (t232.length : Int) > 0 then (some false) else ((scalars_Union.f kj9 x3_1 y228).bind fun t235 => (scheme_Valid.l0 kj9 t235 l0_0 (l0_0.length : Int) (wrap64 (x14_1 + 1))))))) else (none))) = some r := H; have A31 := zk A310; clear A310; obtain ⟨y228, hy228⟩ : ∃ y_ : List (S74), y_ = (([(⟨((rd_T48 l0_0 x14_1).f1), t227⟩ : S74)] : List (S74))) := ⟨_, rfl⟩
          replace H : (if 0 < (y228.length : Int) then (if ((rd_T74 y228 0).f1) > 1073741823 then (some false) else ((scalars_Meet.f kj9 x3_1 y228).bind fun t232 => (if (t232.length : Int) > 0 then (some false) else ((scalars_Union.f kj9 x3_1 y228).bind fun t235 => (scheme_Valid.l0 kj9 t235 l0_0 (l0_0.length : Int) (wrap64 (x14_1 + 1))))))) else (none)) = some r := by first | (rw [hy228]; with_reducible exact H) | (have H2_ := (Option.bind_some _ _).symm.trans H; rw [hy228]; with_reducible exact H2_) | (have H2_ := (Option.bind_some _ _).symm.trans H; with_reducible exact H2_) | with_reducible exact H | (rw [hy228]; exact H) | exact H
          have Ny228 := zk hy228; clear hy228; by_cases c32 : 0 < (y228.length : Int)
          ·rw [if_pos c32] at H; have c32b0 : decide (0 < (y228.length : Int)) = true := decide_eq_true c32; have c32b1 : decide (0 < y228.length) = true := decide_eq_true (by omega); clear c32; by_cases c33 : ((rd_T74 y228 0).f1) > 1073741823
           ·rw [if_pos c33] at H; have c33b0 : decide (1073741823 < ((rd_T74 y228 0).f1)) = true := decide_eq_true c33; clear c33; obtain rfl := Option.some.inj H; try go_wp2
            have n0_ := zk (Kd.R_drew HO_3.out); have n1_ := zk (blk_drew BK223.out); have n2_ := zk (blk_drew BK225.out); have n3_ := zk (below_drew1 HB.out); clear HO_3; clear BK223; clear BK225; clear HB; have HO_3 := n0_; have BK223 := n1_; have BK225 := n2_; have HB := n3_; clear n0_ n1_ n2_ n3_; refine start_ (n := 7) (S := fun w' => w'.cell? ⟨gb225, 0, none⟩ = some (.slice A224_0 ((rd_T48 l0_0 x14_1).f0).length c224_0) ∧ w'.cell? ⟨gb225, 1, none⟩ = some (.int .i64 ((rd_T48 l0_0 x14_1).f1))) (ds := []) #[false, false, false, false, false, false, false] zz rfl rfl ⟨(blk_cell BK225.out 0).trans rfl, (blk_cell BK225.out 1).trans rfl⟩ (fun hHeld => ?_); generalize wc.drew = w34 at HO_3 BK223 BK225 HB hHeld ⊢; refine pure_ (i := 0) (N := some 43) (v := ?_) (a' := ?_) (bz 7 1) rfl rfl zz zQ (Or.inl ⟨by rfl, ?_⟩) ?_ ?_; rotate_left
            ·intro w'; go_simp; with_reducible rfl
            rotate_left
            ·simp only [zy]; rfl
            refine take_ (i := 1) (N := some 44) (v := ?_) (a' := ?_) (bz 7 3) rfl rfl zz zQ (Or.inl ⟨by rfl, ?_⟩) hHeld ?_ ?_; rotate_left
            ·rintro w' ⟨s0, s1⟩; go_simp; with_reducible rfl
            rotate_left
            ·simp only [zy]; rfl
            refine take_ (i := 2) (N := some 45) (v := ?_) (a' := ?_) (bz 7 7) rfl rfl zz zQ (Or.inl ⟨by rfl, ?_⟩) hHeld ?_ ?_; rotate_left
            ·rintro w' ⟨s0, s1⟩; go_simp; with_reducible rfl
            rotate_left
            ·simp only [zy]; rfl
            refine one_ (i := 3) (N := some 46) (bz 7 15) rfl rfl zz (by decide) (fun K hK => ?_); refine goes_ Tryz.func33 zz rfl #[.agg #[.slice A224_0 ((rd_T48 l0_0 x14_1).f0).length c224_0, .int .i64 ((rd_T48 l0_0 x14_1).f1)]] (by rfl) rfl rfl zM ?_; with_reducible refine (scheme_last.calls kj9 _ _ ((rd_T48 l0_0 x14_1).f0) ((rd_T48 l0_0 x14_1).f1) t227 _ ?side1 ?side2 A31.out).mono ?_; (case side1 => exact zc (Kd.C_below HR224_0.out HB.out))
            (case side2 => exact HC224_0.out)
            rintro e w35 ⟨rfl, hb⟩; refine ⟨_, rfl, ?_⟩; have n0_ := zk (Kd.R_below (zr HO_3.out) hb); have n1_ := zk (zbb BK223.out hb); have n2_ := zk (zbb BK225.out hb); have n3_ := zs HB hb; clear HO_3; clear BK223; clear BK225; clear HB; have HO_3 := n0_; have BK223 := n1_; have BK225 := n2_; have HB := n3_; clear n0_ n1_ n2_ n3_; (try clear hb); (try clear hb2); (try clear hk); (try clear hi); refine hK.out _ _ ⟨(blk_cell BK225.out 0).trans rfl, (blk_cell BK225.out 1).trans rfl⟩ (fun hHeld => ?_); clear hK K; refine norm_ (a' := ?_) ?_ ?_; rotate_left
            ·show Act.put _ (some 46) _ = _; simp only [zy]; rfl
            refine pure_ (i := 4) (N := some 47) (v := ?_) (a' := ?_) (bz 7 31) rfl rfl zz zQ (Or.inl ⟨by rfl, ?_⟩) ?_ ?_; rotate_left
            ·intro w'; go_simp; with_reducible rfl
            rotate_left
            ·simp only [zy]; rfl
            refine one_ (i := 5) (N := some 48) (bz 7 63) rfl rfl zz (by decide) (fun K hK => ?_); refine Kd.R_lit_step k74 _ 74 ?hg (N := 48) ?hd (xs := ([(⟨((rd_T48 l0_0 x14_1).f1), t227⟩ : S74)] : List (S74))) (inner := [.int .i64 ((rd_T48 l0_0 x14_1).f1), .int .i64 t227]) (ok := fun _ => True) (okp := fun _ => True) ?hr ?hp (fun _ hk => hk) trivial (Below.refl _ _) (Nat.le_refl _) (by simp) ?_; (case hd => rfl); (case hg => rfl); (case hr => first | (go_simp; done) | (go_simp; rfl)); (case hp => exact (Reps.c2 (show Kd.M k74 _ _ _ (⟨((rd_T48 l0_0 x14_1).f1), t227⟩ : S74) [.int .i64 ((rd_T48 l0_0 x14_1).f1), .int .i64 t227] from (k74_mkM _ _ _ (⟨((rd_T48 l0_0 x14_1).f1), t227⟩ : S74) )) (Reps.none _ _))); intro v229 w36 ho37 hb hg_ hnew_; clear hg_ hnew_
            (first | rw [← Ny228.out] at ho37 | (simp only [Int.reduceToNat] at ho37; rw [← Ny228.out] at ho37))
            have n0_ := zk (Kd.R_elder' (zr HO_3.out) (Kd.R_base ho37) hb); have n1_ := zk (Kd.R_lower (Kd.R_new' ho37 (Kd.R_lt (zr HO_3.out))) (below_size (zU HB.out))); have n2_ := zk (zbb BK223.out hb); have n3_ := zk (zbb BK225.out hb); have n4_ := zs HB hb; clear HO_3; clear BK223; clear BK225; clear HB; have HO_3 := n0_; have HO230 := n1_; have BK223 := n2_; have BK225 := n3_; have HB := n4_; clear n0_ n1_ n2_ n3_ n4_; clear hb ho37; refine hK.out _ _ ⟨(blk_cell BK225.out 0).trans rfl, (blk_cell BK225.out 1).trans rfl⟩ (fun hHeld => ?_); clear hK K; refine norm_ (a' := ?_) ?_ ?_; rotate_left
            ·show Act.put _ (some 48) _ = _; simp only [zy]; rfl
            refine pure_ (i := 6) (N := some 6) (v := ?_) (a' := ?_) (bz 7 127) rfl rfl zz zQ (Or.inl ⟨by rfl, ?_⟩) ?_ ?_; rotate_left
            ·intro w'; go_simp; with_reducible rfl
            rotate_left
            ·simp only [zy]; rfl
            refine done_ zz ?_; obtain ⟨Ao38, co38, eo38⟩ := Kd.R_slice HO230.out; subst eo38; have p231 : 0 ≤ (0 : Int) := (by omega); have q231 : 0 < (y228.length : Int) := zT; obtain ⟨ad231, e231, hx231_0, hx231_1⟩ := at_T74 (Kd.R_reads' HO230.out).2.2 0 p231 q231; cases e231; have qi231 : (0 < y228.length) = True := eq_true (by omega); (try rw [show ((0 : Int)).toNat = 0 from rfl] at hx231_0)
            (try rw [show 0 * 2 = 0 from rfl] at hx231_0)
            (try rw [Addr.add_zero'] at hx231_0)
            (try rw [show ((0 : Int)).toNat = 0 from rfl] at hx231_1)
            (try rw [show 0 * 2 = 0 from rfl] at hx231_1)
            (try rw [Addr.add_zero'] at hx231_1)
            replace p231 := eq_true p231; replace q231 := eq_true q231; try go_wp2
            go_ret
            exact ⟨ze, zU HB.out⟩
           ·rw [if_neg c33] at H; have c33b0 : decide (1073741823 < ((rd_T74 y228 0).f1)) = false := decide_eq_false c33; clear c33; replace H := Option.bind_eq_some_iff.mp H; obtain ⟨t232, A390, H⟩ := H; replace H : (if (t232.length : Int) > 0 then (some false) else ((scalars_Union.f kj9 x3_1 y228).bind fun t235 => (scheme_Valid.l0 kj9 t235 l0_0 (l0_0.length : Int) (wrap64 (x14_1 + 1))))) = some r := H; have A39 := zk A390; clear A390; by_cases c40 : (t232.length : Int) > 0
            ·rw [if_pos c40] at H; have c40b0 : decide (0 < (t232.length : Int)) = true := decide_eq_true c40; have c40b1 : decide (0 < t232.length) = true := decide_eq_true (by omega); clear c40; obtain rfl := Option.some.inj H; try go_wp2
             have n0_ := zk (Kd.R_drew HO_3.out); have n1_ := zk (blk_drew BK223.out); have n2_ := zk (blk_drew BK225.out); have n3_ := zk (below_drew1 HB.out); clear HO_3; clear BK223; clear BK225; clear HB; have HO_3 := n0_; have BK223 := n1_; have BK225 := n2_; have HB := n3_; clear n0_ n1_ n2_ n3_; refine start_ (n := 7) (S := fun w' => w'.cell? ⟨gb225, 0, none⟩ = some (.slice A224_0 ((rd_T48 l0_0 x14_1).f0).length c224_0) ∧ w'.cell? ⟨gb225, 1, none⟩ = some (.int .i64 ((rd_T48 l0_0 x14_1).f1))) (ds := []) #[false, false, false, false, false, false, false] zz rfl rfl ⟨(blk_cell BK225.out 0).trans rfl, (blk_cell BK225.out 1).trans rfl⟩ (fun hHeld => ?_); generalize wc.drew = w41 at HO_3 BK223 BK225 HB hHeld ⊢; refine pure_ (i := 0) (N := some 43) (v := ?_) (a' := ?_) (bz 7 1) rfl rfl zz zQ (Or.inl ⟨by rfl, ?_⟩) ?_ ?_; rotate_left
             ·intro w'; go_simp; with_reducible rfl
             rotate_left
             ·simp only [zy]; rfl
             refine take_ (i := 1) (N := some 44) (v := ?_) (a' := ?_) (bz 7 3) rfl rfl zz zQ (Or.inl ⟨by rfl, ?_⟩) hHeld ?_ ?_; rotate_left
             ·rintro w' ⟨s0, s1⟩; go_simp; with_reducible rfl
             rotate_left
             ·simp only [zy]; rfl
             refine take_ (i := 2) (N := some 45) (v := ?_) (a' := ?_) (bz 7 7) rfl rfl zz zQ (Or.inl ⟨by rfl, ?_⟩) hHeld ?_ ?_; rotate_left
             ·rintro w' ⟨s0, s1⟩; go_simp; with_reducible rfl
             rotate_left
             ·simp only [zy]; rfl
             refine one_ (i := 3) (N := some 46) (bz 7 15) rfl rfl zz (by decide) (fun K hK => ?_); refine goes_ Tryz.func33 zz rfl #[.agg #[.slice A224_0 ((rd_T48 l0_0 x14_1).f0).length c224_0, .int .i64 ((rd_T48 l0_0 x14_1).f1)]] (by rfl) rfl rfl zM ?_; with_reducible refine (scheme_last.calls kj9 _ _ ((rd_T48 l0_0 x14_1).f0) ((rd_T48 l0_0 x14_1).f1) t227 _ ?side1 ?side2 A31.out).mono ?_; (case side1 => exact zc (Kd.C_below HR224_0.out HB.out))
             (case side2 => exact HC224_0.out)
             rintro e w42 ⟨rfl, hb⟩; refine ⟨_, rfl, ?_⟩; have n0_ := zk (Kd.R_below (zr HO_3.out) hb); have n1_ := zk (zbb BK223.out hb); have n2_ := zk (zbb BK225.out hb); have n3_ := zs HB hb; clear HO_3; clear BK223; clear BK225; clear HB; have HO_3 := n0_; have BK223 := n1_; have BK225 := n2_; have HB := n3_; clear n0_ n1_ n2_ n3_; (try clear hb); (try clear hb2); (try clear hk); (try clear hi); refine hK.out _ _ ⟨(blk_cell BK225.out 0).trans rfl, (blk_cell BK225.out 1).trans rfl⟩ (fun hHeld => ?_); clear hK K; refine norm_ (a' := ?_) ?_ ?_; rotate_left
             ·show Act.put _ (some 46) _ = _; simp only [zy]; rfl
             refine pure_ (i := 4) (N := some 47) (v := ?_) (a' := ?_) (bz 7 31) rfl rfl zz zQ (Or.inl ⟨by rfl, ?_⟩) ?_ ?_; rotate_left
             ·intro w'; go_simp; with_reducible rfl
             rotate_left
             ·simp only [zy]; rfl
             refine one_ (i := 5) (N := some 48) (bz 7 63) rfl rfl zz (by decide) (fun K hK => ?_); refine Kd.R_lit_step k74 _ 74 ?hg (N := 48) ?hd (xs := ([(⟨((rd_T48 l0_0 x14_1).f1), t227⟩ : S74)] : List (S74))) (inner := [.int .i64 ((rd_T48 l0_0 x14_1).f1), .int .i64 t227]) (ok := fun _ => True) (okp := fun _ => True) ?hr ?hp (fun _ hk => hk) trivial (Below.refl _ _) (Nat.le_refl _) (by simp) ?_; (case hd => rfl); (case hg => rfl); (case hr => first | (go_simp; done) | (go_simp; rfl)); (case hp => exact (Reps.c2 (show Kd.M k74 _ _ _ (⟨((rd_T48 l0_0 x14_1).f1), t227⟩ : S74) [.int .i64 ((rd_T48 l0_0 x14_1).f1), .int .i64 t227] from (k74_mkM _ _ _ (⟨((rd_T48 l0_0 x14_1).f1), t227⟩ : S74) )) (Reps.none _ _))); intro v229 w43 ho44 hb hg_ hnew_; clear hg_ hnew_
             (first | rw [← Ny228.out] at ho44 | (simp only [Int.reduceToNat] at ho44; rw [← Ny228.out] at ho44))
             have n0_ := zk (Kd.R_elder' (zr HO_3.out) (Kd.R_base ho44) hb); have n1_ := zk (Kd.R_lower (Kd.R_new' ho44 (Kd.R_lt (zr HO_3.out))) (below_size (zU HB.out))); have n2_ := zk (zbb BK223.out hb); have n3_ := zk (zbb BK225.out hb); have n4_ := zs HB hb; clear HO_3; clear BK223; clear BK225; clear HB; have HO_3 := n0_; have HO230 := n1_; have BK223 := n2_; have BK225 := n3_; have HB := n4_; clear n0_ n1_ n2_ n3_ n4_; clear hb ho44; refine hK.out _ _ ⟨(blk_cell BK225.out 0).trans rfl, (blk_cell BK225.out 1).trans rfl⟩ (fun hHeld => ?_); clear hK K; refine norm_ (a' := ?_) ?_ ?_; rotate_left
             ·show Act.put _ (some 48) _ = _; simp only [zy]; rfl
             refine pure_ (i := 6) (N := some 6) (v := ?_) (a' := ?_) (bz 7 127) rfl rfl zz zQ (Or.inl ⟨by rfl, ?_⟩) ?_ ?_; rotate_left
             ·intro w'; go_simp; with_reducible rfl
             rotate_left
             ·simp only [zy]; rfl
             refine done_ zz ?_; obtain ⟨Ao45, co45, eo45⟩ := Kd.R_slice HO230.out; subst eo45; have p231 : 0 ≤ (0 : Int) := (by omega); have q231 : 0 < (y228.length : Int) := zT; obtain ⟨ad231, e231, hx231_0, hx231_1⟩ := at_T74 (Kd.R_reads' HO230.out).2.2 0 p231 q231; cases e231; have qi231 : (0 < y228.length) = True := eq_true (by omega); (try rw [show ((0 : Int)).toNat = 0 from rfl] at hx231_0)
             (try rw [show 0 * 2 = 0 from rfl] at hx231_0)
             (try rw [Addr.add_zero'] at hx231_0)
             (try rw [show ((0 : Int)).toNat = 0 from rfl] at hx231_1)
             (try rw [show 0 * 2 = 0 from rfl] at hx231_1)
             (try rw [Addr.add_zero'] at hx231_1)
             replace p231 := eq_true p231; replace q231 := eq_true q231; obtain ⟨Ao46, co46, eo46⟩ := Kd.R_slice HO_3.out; subst eo46; try go_wp2_with (first | (go_at_call 34; (with_reducible refine (scalars_Meet.calls kj9 _ _ x3_1 _ _ y228 t232 _ ?side1 ?side2 ?side3 ?side4 A39.out).mono ?_); (case side1 => exact zc (Kd.R_reads' HO_3.out).2.2); (case side2 => exact (Kd.R_reads' HO_3.out).2.1); (case side3 => exact zc (Kd.R_reads' HO230.out).2.2); (case side4 => exact (Kd.R_reads' HO230.out).2.1); rintro e w47 ⟨v233, rfl, ho0, hb⟩; have HO234 := zk (Kd.R_lower (Kd.R_new' (Kd.R_new' ho0 (Kd.R_lt (zr HO_3.out))) (Kd.R_lt (zr HO230.out))) (below_size (zU HB.out))); replace HO_3 := zk (Kd.R_elder' (zr HO_3.out) (Kd.R_base ho0) hb); replace HO230 := zk (Kd.R_elder' (zr HO230.out) (Kd.R_base ho0) hb); replace BK223 := zk (zbb BK223.out hb); replace BK225 := zk (zbb BK225.out hb); replace HB := zs HB hb;  (try clear hb); (try clear hb2); (try clear hk); (try clear hi); (try clear ho0); obtain ⟨Ao48, co48, eo48⟩ := Kd.R_slice HO234.out; subst eo48))
             go_ret
             exact ⟨ze, zU HB.out⟩
            ·rw [if_neg c40] at H; have c40b0 : decide (0 < (t232.length : Int)) = false := decide_eq_false c40; have c40b1 : decide (0 < t232.length) = false := decide_eq_false (by omega); clear c40; replace H := Option.bind_eq_some_iff.mp H; obtain ⟨t235, A490, H⟩ := H; replace H : (scheme_Valid.l0 kj9 t235 l0_0 (l0_0.length : Int) (wrap64 (x14_1 + 1))) = some r := H; have A49 := zk A490; clear A490; have H' := zk H; clear H; try go_wp2
             have n0_ := zk (Kd.R_drew HO_3.out); have n1_ := zk (blk_drew BK223.out); have n2_ := zk (blk_drew BK225.out); have n3_ := zk (below_drew1 HB.out); clear HO_3; clear BK223; clear BK225; clear HB; have HO_3 := n0_; have BK223 := n1_; have BK225 := n2_; have HB := n3_; clear n0_ n1_ n2_ n3_; refine start_ (n := 7) (S := fun w' => w'.cell? ⟨gb225, 0, none⟩ = some (.slice A224_0 ((rd_T48 l0_0 x14_1).f0).length c224_0) ∧ w'.cell? ⟨gb225, 1, none⟩ = some (.int .i64 ((rd_T48 l0_0 x14_1).f1))) (ds := []) #[false, false, false, false, false, false, false] zz rfl rfl ⟨(blk_cell BK225.out 0).trans rfl, (blk_cell BK225.out 1).trans rfl⟩ (fun hHeld => ?_); generalize wc.drew = w50 at HO_3 BK223 BK225 HB hHeld ⊢; refine pure_ (i := 0) (N := some 43) (v := ?_) (a' := ?_) (bz 7 1) rfl rfl zz zQ (Or.inl ⟨by rfl, ?_⟩) ?_ ?_; rotate_left
             ·intro w'; go_simp; with_reducible rfl
             rotate_left
             ·simp only [zy]; rfl
             refine take_ (i := 1) (N := some 44) (v := ?_) (a' := ?_) (bz 7 3) rfl rfl zz zQ (Or.inl ⟨by rfl, ?_⟩) hHeld ?_ ?_; rotate_left
             ·rintro w' ⟨s0, s1⟩; go_simp; with_reducible rfl
             rotate_left
             ·simp only [zy]; rfl
             refine take_ (i := 2) (N := some 45) (v := ?_) (a' := ?_) (bz 7 7) rfl rfl zz zQ (Or.inl ⟨by rfl, ?_⟩) hHeld ?_ ?_; rotate_left
             ·rintro w' ⟨s0, s1⟩; go_simp; with_reducible rfl
             rotate_left
             ·simp only [zy]; rfl
             refine one_ (i := 3) (N := some 46) (bz 7 15) rfl rfl zz (by decide) (fun K hK => ?_); refine goes_ Tryz.func33 zz rfl #[.agg #[.slice A224_0 ((rd_T48 l0_0 x14_1).f0).length c224_0, .int .i64 ((rd_T48 l0_0 x14_1).f1)]] (by rfl) rfl rfl zM ?_; with_reducible refine (scheme_last.calls kj9 _ _ ((rd_T48 l0_0 x14_1).f0) ((rd_T48 l0_0 x14_1).f1) t227 _ ?side1 ?side2 A31.out).mono ?_; (case side1 => exact zc (Kd.C_below HR224_0.out HB.out))
             (case side2 => exact HC224_0.out)
             rintro e w51 ⟨rfl, hb⟩; refine ⟨_, rfl, ?_⟩; have n0_ := zk (Kd.R_below (zr HO_3.out) hb); have n1_ := zk (zbb BK223.out hb); have n2_ := zk (zbb BK225.out hb); have n3_ := zs HB hb; clear HO_3; clear BK223; clear BK225; clear HB; have HO_3 := n0_; have BK223 := n1_; have BK225 := n2_; have HB := n3_; clear n0_ n1_ n2_ n3_; (try clear hb); (try clear hb2); (try clear hk); (try clear hi); refine hK.out _ _ ⟨(blk_cell BK225.out 0).trans rfl, (blk_cell BK225.out 1).trans rfl⟩ (fun hHeld => ?_); clear hK K; refine norm_ (a' := ?_) ?_ ?_; rotate_left
             ·show Act.put _ (some 46) _ = _; simp only [zy]; rfl
             refine pure_ (i := 4) (N := some 47) (v := ?_) (a' := ?_) (bz 7 31) rfl rfl zz zQ (Or.inl ⟨by rfl, ?_⟩) ?_ ?_; rotate_left
             ·intro w'; go_simp; with_reducible rfl
             rotate_left
             ·simp only [zy]; rfl
             refine one_ (i := 5) (N := some 48) (bz 7 63) rfl rfl zz (by decide) (fun K hK => ?_); refine Kd.R_lit_step k74 _ 74 ?hg (N := 48) ?hd (xs := ([(⟨((rd_T48 l0_0 x14_1).f1), t227⟩ : S74)] : List (S74))) (inner := [.int .i64 ((rd_T48 l0_0 x14_1).f1), .int .i64 t227]) (ok := fun _ => True) (okp := fun _ => True) ?hr ?hp (fun _ hk => hk) trivial (Below.refl _ _) (Nat.le_refl _) (by simp) ?_; (case hd => rfl); (case hg => rfl); (case hr => first | (go_simp; done) | (go_simp; rfl)); (case hp => exact (Reps.c2 (show Kd.M k74 _ _ _ (⟨((rd_T48 l0_0 x14_1).f1), t227⟩ : S74) [.int .i64 ((rd_T48 l0_0 x14_1).f1), .int .i64 t227] from (k74_mkM _ _ _ (⟨((rd_T48 l0_0 x14_1).f1), t227⟩ : S74) )) (Reps.none _ _))); intro v229 w52 ho53 hb hg_ hnew_; clear hg_ hnew_
             (first | rw [← Ny228.out] at ho53 | (simp only [Int.reduceToNat] at ho53; rw [← Ny228.out] at ho53))
             have n0_ := zk (Kd.R_elder' (zr HO_3.out) (Kd.R_base ho53) hb); have n1_ := zk (Kd.R_lower (Kd.R_new' ho53 (Kd.R_lt (zr HO_3.out))) (below_size (zU HB.out))); have n2_ := zk (zbb BK223.out hb); have n3_ := zk (zbb BK225.out hb); have n4_ := zs HB hb; clear HO_3; clear BK223; clear BK225; clear HB; have HO_3 := n0_; have HO230 := n1_; have BK223 := n2_; have BK225 := n3_; have HB := n4_; clear n0_ n1_ n2_ n3_ n4_; clear hb ho53; refine hK.out _ _ ⟨(blk_cell BK225.out 0).trans rfl, (blk_cell BK225.out 1).trans rfl⟩ (fun hHeld => ?_); clear hK K; refine norm_ (a' := ?_) ?_ ?_; rotate_left
             ·show Act.put _ (some 48) _ = _; simp only [zy]; rfl
             refine pure_ (i := 6) (N := some 6) (v := ?_) (a' := ?_) (bz 7 127) rfl rfl zz zQ (Or.inl ⟨by rfl, ?_⟩) ?_ ?_; rotate_left
             ·intro w'; go_simp; with_reducible rfl
             rotate_left
             ·simp only [zy]; rfl
             refine done_ zz ?_; obtain ⟨Ao54, co54, eo54⟩ := Kd.R_slice HO230.out; subst eo54; have p231 : 0 ≤ (0 : Int) := (by omega); have q231 : 0 < (y228.length : Int) := zT; obtain ⟨ad231, e231, hx231_0, hx231_1⟩ := at_T74 (Kd.R_reads' HO230.out).2.2 0 p231 q231; cases e231; have qi231 : (0 < y228.length) = True := eq_true (by omega); (try rw [show ((0 : Int)).toNat = 0 from rfl] at hx231_0)
             (try rw [show 0 * 2 = 0 from rfl] at hx231_0)
             (try rw [Addr.add_zero'] at hx231_0)
             (try rw [show ((0 : Int)).toNat = 0 from rfl] at hx231_1)
             (try rw [show 0 * 2 = 0 from rfl] at hx231_1)
             (try rw [Addr.add_zero'] at hx231_1)
             replace p231 := eq_true p231; replace q231 := eq_true q231; obtain ⟨Ao55, co55, eo55⟩ := Kd.R_slice HO_3.out; subst eo55; try go_wp2_with (first | (go_at_call 34; (with_reducible refine (scalars_Meet.calls kj9 _ _ x3_1 _ _ y228 t232 _ ?side1 ?side2 ?side3 ?side4 A39.out).mono ?_); (case side1 => exact zc (Kd.R_reads' HO_3.out).2.2); (case side2 => exact (Kd.R_reads' HO_3.out).2.1); (case side3 => exact zc (Kd.R_reads' HO230.out).2.2); (case side4 => exact (Kd.R_reads' HO230.out).2.1); rintro e w56 ⟨v233, rfl, ho0, hb⟩; have HO234 := zk (Kd.R_lower (Kd.R_new' (Kd.R_new' ho0 (Kd.R_lt (zr HO_3.out))) (Kd.R_lt (zr HO230.out))) (below_size (zU HB.out))); replace HO_3 := zk (Kd.R_elder' (zr HO_3.out) (Kd.R_base ho0) hb); replace HO230 := zk (Kd.R_elder' (zr HO230.out) (Kd.R_base ho0) hb); replace BK223 := zk (zbb BK223.out hb); replace BK225 := zk (zbb BK225.out hb); replace HB := zs HB hb;  (try clear hb); (try clear hb2); (try clear hk); (try clear hi); (try clear ho0); obtain ⟨Ao57, co57, eo57⟩ := Kd.R_slice HO234.out; subst eo57) | ((with_reducible refine gate_callee (f := 35) rfl ?_); refine goesL_ (some 63) rfl rfl Tryz.func35 zz rfl #[.slice Ao55 x3_1.length co55, .slice (some ad231) y228.length co54] rfl zM ?_; (with_reducible refine (scalars_Union.calls kj9 _ _ x3_1 _ _ y228 t235 _ ?side1 ?side2 ?side3 ?side4 A49.out).mono ?_); (case side1 => exact zc (Kd.R_reads' HO_3.out).2.2); (case side2 => exact (Kd.R_reads' HO_3.out).2.1); (case side3 => exact zc (Kd.R_reads' HO230.out).2.2); (case side4 => exact (Kd.R_reads' HO230.out).2.1); rintro e w58 ⟨v236, rfl, ho0, hb⟩; refine ⟨_, rfl, ?_⟩; have HO237 := zk (Kd.R_lower (Kd.R_new' (Kd.R_new' (Kd.R_new' ho0 (Kd.R_lt (zr HO_3.out))) (Kd.R_lt (zr HO230.out))) (Kd.R_lt (zr HO234.out))) (below_size (zU HB.out))); replace HO_3 := zk (Kd.R_elder' (zr HO_3.out) (Kd.R_base ho0) hb); replace HO230 := zk (Kd.R_elder' (zr HO230.out) (Kd.R_base ho0) hb); replace HO234 := zk (Kd.R_elder' (zr HO234.out) (Kd.R_base ho0) hb); replace BK223 := zk (zbb BK223.out hb); replace BK225 := zk (zbb BK225.out hb); replace HB := zs HB hb;  (try clear hb); (try clear hb2); (try clear hk); (try clear hi); (try clear ho0)))
             go_roundg kj9
             case measure => have := HK1.out; have := HJ9.out; omega
             case rel => exact ⟨(t235), (wrap64 (x14_1 + 1)), zR, H', ⟨by have := HK1.out; have := HJ9.out; omega⟩, ⟨by (with_reducible repeat (first | apply zA | apply zB | apply zC)); exact Kd.R_mono HO237.out (fun _ hk => trivial)⟩, ⟨zb BK223.out⟩, ⟨zU HB.out⟩⟩
          ·rw [if_neg c32] at H; cases H
      ·rw [if_neg c9] at H; cases H
     ·rw [if_neg c8] at H; cases H
    ·rw [if_neg c7] at H; have c7b0 : decide (x14_1 < (l0_0.length : Int)) = false := decide_eq_false c7; clear c7; obtain rfl := Option.some.inj H; go_wp2
     go_ret
     exact ⟨ze, zU HB.out⟩
def bytes_Compare.f (l0 : List Int) (l1 : List Int) : Option Int := some (Lib.compareBytes (Lib.bytesOf l0) (Lib.bytesOf l1))
theorem bytes_Compare.bytesOf (A0 : Option Addr) (c0 : Nat) (l0 : List Int) (w : World) (h : Kd.C (Kd.int .u8) w A0 l0.length l0) : (Extern.Bytes.bytesOf (.slice A0 l0.length c0)).run Tryz.prog w = .ok ⟨(Lib.bytesOf l0).toArray⟩ w := by
 obtain ⟨h1, h2, h3⟩ := Kd.reads_of_C (enc := Value.int .u8) (d := (0 : Int)) (h1 := fun _ => rfl) h; have hc : ∀ a, A0 = some a → ∀ j x, l0[j]? = some x → w.cell? (a.add j) = some (.int .u8 x) := fun a ha j x hj => by
  have hjl : j < l0.length := (List.getElem?_eq_some_iff.1 hj).1; obtain ⟨ad, e, hcell⟩ := h3 (by omega); rw [ha] at e; obtain rfl := Option.some.inj e; have := hcell j hjl; rw [this, List.getD_eq_getElem?_getD, hj]; rfl
 clear h h1 h2; cases A0 with
 | none =>
  have e : l0 = [] := by
   cases l0 with
   | nil => rfl
   | cons x t => obtain ⟨ad, e, _⟩ := h3 (by simp); exact absurd e (by simp)
  subst e; rfl
 | some a =>
  have hl := Lib.run_loadBytesX (P := Tryz.prog) w l0 a .empty (hc a rfl); have he : (⟨ByteArray.empty.data ++ (Lib.bytesOf l0).toArray⟩ : ByteArray) = ⟨(Lib.bytesOf l0).toArray⟩ := by
   apply ByteArray.ext; show (#[] : Array UInt8) ++ (Lib.bytesOf l0).toArray = (Lib.bytesOf l0).toArray; simp
  rw [he] at hl; exact hl
theorem bytes_Compare.run (A0 : Option Addr) (c0 : Nat) (l0 : List Int) (A1 : Option Addr) (c1 : Nat) (l1 : List Int) (w : World) (h0 : Kd.C (Kd.int .u8) w A0 l0.length l0) (h1 : Kd.C (Kd.int .u8) w A1 l1.length l1) :
 (Extern.BytealgCompare.compare #[.slice A0 l0.length c0, .slice A1 l1.length c1]).run Tryz.prog w = .ok (.int .i64 (Lib.compareBytes (Lib.bytesOf l0) (Lib.bytesOf l1))) w := by
 change Sem.run Tryz.prog (do pure (goInt (Extern.BytealgCompare.cmp (← Extern.Bytes.bytesOf (.slice A0 l0.length c0)) (← Extern.Bytes.bytesOf (.slice A1 l1.length c1))))) w = _
 simp only [Sem.run_bind, Sem.run_pure, bytes_Compare.bytesOf A0 c0 l0 w h0, bytes_Compare.bytesOf A1 c1 l1 w h1, Result.andThen]; rw [Lib.cmp_eq]; rfl
set_option maxHeartbeats 1000000 in
theorem bytes_Compare.calls (A0 : Option Addr) (c0 : Nat) (l0 : List Int) (A1 : Option Addr) (c1 : Nat) (l1 : List Int) (r : Int) (w : World) (hr0 : Kd.C (Kd.int .u8) w A0 l0.length l0) (hc0 : l0.length ≤ c0) (hr1 : Kd.C (Kd.int .u8) w A1 l1.length l1) (hc1 : l1.length ≤ c1) (h : bytes_Compare.f l0 l1 = some r) :
 Calls Tryz.prog 19 #[.slice A0 l0.length c0, .slice A1 l1.length c1] w fun e w' => e = .returned (.int .i64 r) ∧ Below w.heap.size w w' := by
 obtain rfl := Option.some.inj h; have hrun := bytes_Compare.run A0 c0 l0 A1 c1 l1 w hr0 hr1; clear hr0 hr1 h; go_enter Tryz.func19, Tryz.ntmps19
 go_wp2
 rw [run_callFunc_extern Tryz.func39 zz zz zz (e := Extern.BytealgCompare.compare) zz, hrun]; simp only [Result.andThen]; rw [Oper.upon_value]; go_wp2
 go_ret
 exact ⟨rfl, Below.refl _ _⟩
end Go.Proofs.YtobhclnenffkgaaGreat.B
