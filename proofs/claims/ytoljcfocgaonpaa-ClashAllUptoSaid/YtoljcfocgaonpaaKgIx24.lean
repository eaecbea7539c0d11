/- Words and walks of this claim, of the text Ix24. -/
import Derived.Test.YtoljcfocgaonpaaKgQW0
import Derived.Test.YtoljcfocgaonpaaKgIx0
import Derived.Test.YtoljcfocgaonpaaKgIx14
import Derived.Test.YtoljcfocgaonpaaKgIx23
namespace Go.Proofs.Ytoljcfocgaonpaa.I
open Go.RowKit Go.Proofs.YtoljcfocgaonpaaW.PrintWords Go.Proofs.YtoljcfocgaonpaaW.PrintLast Go.Proofs.YtoljcfocgaonpaaW.PrintMore
attribute [local go_sem] max2_int min2_int max_two min_two max_three min_three max_four min_four
set_option linter.unusedVariables false
set_option linter.unusedSimpArgs false
mutual
def shape_Common.j0 : Nat → Int → Bool → List (List (S34)) → Int → List (List (S34)) → Int → Option (List Int × Bool)
 | 0, _, _, _, _, _, _ => none
 | k + 1, x2, x33, x625000, x625001, x626000, x626001 => if x33 = true then (some (([] : List Int), false)) else (shape_Common.l0 k ([] : List Int) x2 0 x625000 x625001 x626000 x626001)
def shape_Common.l0 : Nat → List Int → Int → Int → List (List (S34)) → Int → List (List (S34)) → Int → Option (List Int × Bool)
 | 0, _, _, _, _, _, _, _ => none
 | k + 1, x8, x34, x35, x625000, x625001, x626000, x626001 => if x35 < x34 then (if 0 ≤ x35 then (if x35 < (x625000.length : Int) then (if x35 < (x626000.length : Int) then ((spans_Meet.f k (rd_L4 x625000 x35) (rd_L4 x626000 x35)).bind fun t630 => (if (t630.length : Int) = 0 then (some (([] : List Int), false)) else (if 0 < (t630.length : Int) then (if x8.length < 140737488355328 then (shape_Common.l0 k (x8 ++ [((rd_T34 t630 0).f0) % 256]) x34 (wrap64 (x35 + 1)) x625000 x625001 x626000 x626001) else (none)) else (none)))) else (none)) else (none)) else (none)) else (some (x8, true))
end
def shape_Common.f (k : Nat) (l0_0 : List (List (S34))) (a0_1 : Int) (l1_0 : List (List (S34))) (a1_1 : Int) (a2 : Int) : Option (List Int × Bool) := (shape_Valid.f k l0_0 a0_1).bind fun t626 => (if t626 = true then ((shape_Valid.f k l1_0 a1_1).bind fun t627 => (if t627 = true then (if a2 < 0 then (shape_Common.j0 k a2 true l0_0 a0_1 l1_0 a1_1) else (shape_Common.j0 k a2 (decide (a2 > (mn (l0_0.length : Int) (l1_0.length : Int)))) l0_0 a0_1 l1_0 a1_1)) else (shape_Common.j0 k a2 true l0_0 a0_1 l1_0 a1_1))) else (shape_Common.j0 k a2 true l0_0 a0_1 l1_0 a1_1))
def shape_Common.T7 : Bool × List (List Nat × List Nat) := (true, [([], []), ([0], [0]), ([], []), ([1, 2], [1, 2]), ([3], [3]), ([], []), ([5], [5]), ([], []), ([6, 7], [6, 7]), ([8], [8]), ([4, 9], [4, 9]), ([10, 10, 0, 1, 2, 3, 4, 5, 6, 7, 8, 9, 10], [10])])
def shape_Common.B7 : List Nat := [0, 1, 0, 7, 15, 0, 32, 0, 224, 480, 1023, 2047]
theorem shape_Common.tab7 : rtab .any (opsOf Try.f42 7) = shape_Common.T7 := by kernel_rfl
theorem shape_Common.bits7 : waitsOk shape_Common.T7.2 shape_Common.B7 = true := by kernel_rfl
set_option maxHeartbeats 8000000 in
set_option maxRecDepth 100000 in
theorem shape_Common.calls (k : Nat) (A0_0 : Option Addr) (c0_0 : Nat) (l0_0 : List (List (S34))) (a0_1 : Int) (A1_0 : Option Addr) (c1_0 : Nat) (l1_0 : List (List (S34))) (a1_1 : Int) (a2 : Int) (r1 : List Int) (r2 : Bool) (w : World) (hr0_0 : Kd.C (Kd.slice 34 k34) w A0_0 l0_0.length l0_0) (hc0_0 : l0_0.length ≤ c0_0) (hr1_0 : Kd.C (Kd.slice 34 k34) w A1_0 l1_0.length l1_0) (hc1_0 : l1_0.length ≤ c1_0) (h : shape_Common.f k l0_0 a0_1 l1_0 a1_1 a2 = some (r1, r2)) :
 Calls Try.prog 42 #[.agg #[.slice A0_0 l0_0.length c0_0, .int .i64 a0_1], .agg #[.slice A1_0 l1_0.length c1_0, .int .i64 a1_1], .int .i64 a2] w fun e w' => ∃ v0_ : Value, e = .returned (.tuple #[v0_, .bool r2]) ∧ Kd.R (Kd.int .u8) 5 w' w.heap.size (fun _ => True) v0_ r1 ∧ Below w.heap.size w w' := by
 have hu47 := Try.underlying47; have HR0_0 := zk hr0_0; have HC0_0 := zk hc0_0; clear hr0_0 hc0_0; have HR1_0 := zk hr1_0; have HC1_0 := zk hc1_0; clear hr1_0 hc1_0; have HB := zk (Below.refl w.heap.size w); have H : ((shape_Valid.f k l0_0 a0_1).bind fun t626 => (if t626 = true then ((shape_Valid.f k l1_0 a1_1).bind fun t627 => (if t627 = true then (if a2 < 0 then (shape_Common.j0 k a2 true l0_0 a0_1 l1_0 a1_1) else (shape_Common.j0 k a2 (decide (a2 > (mn (l0_0.length : Int) (l1_0.length : Int)))) l0_0 a0_1 l1_0 a1_1)) else (shape_Common.j0 k a2 true l0_0 a0_1 l1_0 a1_1))) else (shape_Common.j0 k a2 true l0_0 a0_1 l1_0 a1_1))) = some (r1, r2) := h; clear h; have HC4 := zk H; clear H; go_enter Try.func42, Try.ntmps42
 go_upto_region 1 with (first | ((with_reducible refine gate_dst (N := 3) rfl ?_); (try (refine gate_guard (by rfl) ?_; dsimp only)); refine box_event ?hg (N := 3) ?hd (cs := #[.slice A0_0 l0_0.length c0_0, .int .i64 a0_1]) (t := 47) ?hr ?_; (case hd => rfl); (case hg => rfl); (case hr => first | (go_simp; done) | (go_simp; rfl)); intro gb624 hg w5 hbox hb; have BK624 := zk (hbox); have GE624 := zk ((zg hg HB.out : w.heap.size ≤ gb624)); replace HB := zk (below_step (zU HB.out) hb);  clear hb hbox hg) | ((with_reducible refine gate_dst (N := 4) rfl ?_); (try (refine gate_guard (by rfl) ?_; dsimp only)); refine box_event ?hg (N := 4) ?hd (cs := #[.slice A1_0 l1_0.length c1_0, .int .i64 a1_1]) (t := 47) ?hr ?_; (case hd => rfl); (case hg => rfl); (case hr => first | (go_simp; done) | (go_simp; rfl)); intro gb625 hg w6 hbox hb; have BK625 := zk (hbox); have GE625 := zk ((zg hg HB.out : w.heap.size ≤ gb625)); replace HB := zk (below_step (zU HB.out) hb); have NB624_625 := zk ((zlt hg BK624.out : gb624 ≠ gb625)); have NB625_624 := zk ((zgt hg BK624.out : gb625 ≠ gb624)); replace BK624 := zk (zbb BK624.out hb);  clear hb hbox hg))
 (try simp only [Act.put, List.setIfInBounds_toArray, List.set_cons_zero, List.set_cons_succ])
 go_cut [33] (fun v33 wc => ∃ (kq : Nat) (x33_3 : Bool), v33 = .bool x33_3 ∧ Aside0 (shape_Common.j0 kq a2 x33_3 l0_0 a0_1 l1_0 a1_1 = some (r1, r2)) ∧ Aside0 (kq ≤ k) ∧ Aside0 (wc.heap[gb624]? = some (.cells #[(.slice A0_0 l0_0.length c0_0), .int .i64 a0_1] 47 (0, 0))) ∧ Aside0 (wc.heap[gb625]? = some (.cells #[(.slice A1_0 l1_0.length c1_0), .int .i64 a1_1] 47 (0, 0))) ∧ Aside0 (Below w.heap.size w wc))
 case first =>
  have H := HC4.out; clear HC4; replace H := Option.bind_eq_some_iff.mp H; obtain ⟨t626, A70, H⟩ := H; replace H : (if t626 = true then ((shape_Valid.f k l1_0 a1_1).bind fun t627 => (if t627 = true then (if a2 < 0 then (shape_Common.j0 k a2 true l0_0 a0_1 l1_0 a1_1) else (shape_Common.j0 k a2 (decide (a2 > (mn (l0_0.length : Int) (l1_0.length : Int)))) l0_0 a0_1 l1_0 a1_1)) else (shape_Common.j0 k a2 true l0_0 a0_1 l1_0 a1_1))) else (shape_Common.j0 k a2 true l0_0 a0_1 l1_0 a1_1)) = some (r1, r2) := H; have A7 := zk A70; clear A70; by_cases c8 : t626 = true
  ·subst c8; have H1 : ((shape_Valid.f k l1_0 a1_1).bind fun t627 => (if t627 = true then (if a2 < 0 then (shape_Common.j0 k a2 true l0_0 a0_1 l1_0 a1_1) else (shape_Common.j0 k a2 (decide (a2 > (mn (l0_0.length : Int) (l1_0.length : Int)))) l0_0 a0_1 l1_0 a1_1)) else (shape_Common.j0 k a2 true l0_0 a0_1 l1_0 a1_1))) = some (r1, r2) := by rw [if_pos rfl] at H; exact H
   clear H; have H := H1; clear H1; replace H := Option.bind_eq_some_iff.mp H; obtain ⟨t627, A90, H⟩ := H; replace H : (if t627 = true then (if a2 < 0 then (shape_Common.j0 k a2 true l0_0 a0_1 l1_0 a1_1) else (shape_Common.j0 k a2 (decide (a2 > (mn (l0_0.length : Int) (l1_0.length : Int)))) l0_0 a0_1 l1_0 a1_1)) else (shape_Common.j0 k a2 true l0_0 a0_1 l1_0 a1_1)) = some (r1, r2) := H; have A9 := zk A90; clear A90; by_cases c10 : t627 = true
   ·subst c10; have H1 : (if a2 < 0 then (shape_Common.j0 k a2 true l0_0 a0_1 l1_0 a1_1) else (shape_Common.j0 k a2 (decide (a2 > (mn (l0_0.length : Int) (l1_0.length : Int)))) l0_0 a0_1 l1_0 a1_1)) = some (r1, r2) := by rw [if_pos rfl] at H; exact H
    clear H; have H := H1; clear H1; by_cases c11 : a2 < 0
    ·rw [if_pos c11] at H; have c11b0 : decide (a2 < 0) = true := decide_eq_true c11; clear c11
     (first | rw [c11b0] | (simp only [i64_w, i32_w]; rw [c11b0]) | skip)
     have H' := zk H; clear H; have hnb12 := NB624_625.out; have hnc12 := NB625_624.out; have hcz13_0 : w6.cell? ⟨gb624, 0, none⟩ = some (.slice A0_0 l0_0.length c0_0) := zh BK624.out 0; have hcz13_1 : w6.cell? ⟨gb624, 1, none⟩ = some (.int .i64 a0_1) := zh BK624.out 1; have hfz13_0 := blk_frozen BK624.out 0; have hfz13_1 := blk_frozen BK624.out 1; go_wp2_with (first | ((with_reducible refine gate_callee (f := 74) rfl ?_); refine goesL_ (some 12) rfl rfl Try.func74 zz rfl #[.agg #[.slice A0_0 l0_0.length c0_0, .int .i64 a0_1]] rfl zM ?_; (with_reducible refine (shape_Valid.calls k (fun k_ => k_ < w.heap.size) _ _ l0_0 a0_1 true _ ?side1 A7.out).mono ?_); (case side1 => exact Kd.V_mk HC0_0.out (Kd.F_below (Kd.C_F (Kd.heap_slice 34 k34_heap) HR0_0.out) (zU HB.out))); rintro e w14 ⟨rfl, hb⟩; refine ⟨_, rfl, ?_⟩; replace BK624 := zk (zbb BK624.out hb); replace BK625 := zk (zbb BK625.out hb); replace HB := zk (below_step (zU HB.out) hb);  (try clear hb); (try clear hb2); (try clear hk); (try clear hi); have hcz15_0 : w14.cell? ⟨gb625, 0, none⟩ = some (.slice A1_0 l1_0.length c1_0) := zh BK625.out 0; have hcz15_1 : w14.cell? ⟨gb625, 1, none⟩ = some (.int .i64 a1_1) := zh BK625.out 1; have hfz15_0 := blk_frozen BK625.out 0; have hfz15_1 := blk_frozen BK625.out 1) | (go_at_call 74; (with_reducible refine (shape_Valid.calls k (fun k_ => k_ < w.heap.size) _ _ l1_0 a1_1 true _ ?side1 A9.out).mono ?_); (case side1 => exact Kd.V_mk HC1_0.out (Kd.F_below (Kd.C_F (Kd.heap_slice 34 k34_heap) HR1_0.out) (zU HB.out))); rintro e w16 ⟨rfl, hb⟩; replace BK624 := zk (zbb BK624.out hb); replace BK625 := zk (zbb BK625.out hb); replace HB := zk (below_step (zU HB.out) hb);  (try clear hb); (try clear hb2); (try clear hk); (try clear hi)))
     go_meet
     case rel => exact ⟨_, (true), zR, H', ⟨by first | omega | exact Nat.le_refl _⟩, ⟨zb BK624.out⟩, ⟨zb BK625.out⟩, ⟨zU HB.out⟩⟩
    ·rw [if_neg c11] at H; have c11b0 : decide (a2 < 0) = false := decide_eq_false c11; clear c11
     (first | rw [c11b0] | (simp only [i64_w, i32_w]; rw [c11b0]) | skip)
     obtain ⟨ji17, hji17⟩ : ∃ j_ : Int, (mn (l0_0.length : Int) (l1_0.length : Int)) = j_ := ⟨_, rfl⟩
     replace H : (shape_Common.j0 k a2 (decide (a2 > (ji17))) l0_0 a0_1 l1_0 a1_1) = some (r1, r2) := by first | (rw [hji17] at H; exact H) | (simp only [hji17] at H ⊢; exact H)
     (try rw [hji17] at A7)
     (try rw [hji17] at A9)
     (try (have hji17l : 0 ≤ ji17 := by (rw [← hji17]; unfold mn; (repeat' split) <;> omega)))
     (try (have hji17m : 0 ≤ ji17 := by omega))
     have hji17_ : (if (l1_0.length : Int) < (l0_0.length : Int) then (l1_0.length : Int) else (l0_0.length : Int)) = ji17 := hji17; have hji17n_ : (if l1_0.length < l0_0.length then (l1_0.length : Int) else (l0_0.length : Int)) = ji17 := by rw [← hji17_]; by_cases hh_ : l1_0.length < l0_0.length <;> simp [hh_]
     have H' := zk H; clear H; have hnb18 := NB624_625.out; have hnc18 := NB625_624.out; have hcz19_0 : w6.cell? ⟨gb624, 0, none⟩ = some (.slice A0_0 l0_0.length c0_0) := zh BK624.out 0; have hcz19_1 : w6.cell? ⟨gb624, 1, none⟩ = some (.int .i64 a0_1) := zh BK624.out 1; have hfz19_0 := blk_frozen BK624.out 0; have hfz19_1 := blk_frozen BK624.out 1; go_wp2_with (first | ((with_reducible refine gate_callee (f := 74) rfl ?_); refine goesL_ (some 12) rfl rfl Try.func74 zz rfl #[.agg #[.slice A0_0 l0_0.length c0_0, .int .i64 a0_1]] rfl zM ?_; (with_reducible refine (shape_Valid.calls k (fun k_ => k_ < w.heap.size) _ _ l0_0 a0_1 true _ ?side1 A7.out).mono ?_); (case side1 => exact Kd.V_mk HC0_0.out (Kd.F_below (Kd.C_F (Kd.heap_slice 34 k34_heap) HR0_0.out) (zU HB.out))); rintro e w20 ⟨rfl, hb⟩; refine ⟨_, rfl, ?_⟩; replace BK624 := zk (zbb BK624.out hb); replace BK625 := zk (zbb BK625.out hb); replace HB := zk (below_step (zU HB.out) hb);  (try clear hb); (try clear hb2); (try clear hk); (try clear hi); have hcz21_0 : w20.cell? ⟨gb625, 0, none⟩ = some (.slice A1_0 l1_0.length c1_0) := zh BK625.out 0; have hcz21_1 : w20.cell? ⟨gb625, 1, none⟩ = some (.int .i64 a1_1) := zh BK625.out 1; have hfz21_0 := blk_frozen BK625.out 0; have hfz21_1 := blk_frozen BK625.out 1) | (go_at_call 74; (with_reducible refine (shape_Valid.calls k (fun k_ => k_ < w.heap.size) _ _ l1_0 a1_1 true _ ?side1 A9.out).mono ?_); (case side1 => exact Kd.V_mk HC1_0.out (Kd.F_below (Kd.C_F (Kd.heap_slice 34 k34_heap) HR1_0.out) (zU HB.out))); rintro e w22 ⟨rfl, hb⟩; replace BK624 := zk (zbb BK624.out hb); replace BK625 := zk (zbb BK625.out hb); replace HB := zk (below_step (zU HB.out) hb);  (try clear hb); (try clear hb2); (try clear hk); (try clear hi); have hcz23_0 : w22.cell? ⟨gb624, 0, none⟩ = some (.slice A0_0 l0_0.length c0_0) := zh BK624.out 0; have hcz23_1 : w22.cell? ⟨gb624, 1, none⟩ = some (.int .i64 a0_1) := zh BK624.out 1; have hfz23_0 := blk_frozen BK624.out 0; have hfz23_1 := blk_frozen BK624.out 1; have hcz24_0 : w22.cell? ⟨gb625, 0, none⟩ = some (.slice A1_0 l1_0.length c1_0) := zh BK625.out 0; have hcz24_1 : w22.cell? ⟨gb625, 1, none⟩ = some (.int .i64 a1_1) := zh BK625.out 1; have hfz24_0 := blk_frozen BK625.out 0; have hfz24_1 := blk_frozen BK625.out 1))
     go_meet
     case rel => exact ⟨_, (decide (a2 > (ji17))), (by first | rfl | (simp; done) | (rw [← hji17_, if_pos (by omega)]; first | done | rfl) | (rw [← hji17_, if_neg (by omega)]; first | done | rfl) | (simp only [← hji17] <;> (first | rfl | simp)) | (simp [*]; done)), H', ⟨by first | omega | exact Nat.le_refl _⟩, ⟨zb BK624.out⟩, ⟨zb BK625.out⟩, ⟨zU HB.out⟩⟩
   ·replace c10 := Bool.eq_false_iff.mpr c10; subst c10; have H1 : (shape_Common.j0 k a2 true l0_0 a0_1 l1_0 a1_1) = some (r1, r2) := by rw [if_neg (show ¬ (false = true) by decide)] at H; exact H
    clear H; have H := H1; clear H1; have H' := zk H; clear H; have hnb25 := NB624_625.out; have hnc25 := NB625_624.out; have hcz26_0 : w6.cell? ⟨gb624, 0, none⟩ = some (.slice A0_0 l0_0.length c0_0) := zh BK624.out 0; have hcz26_1 : w6.cell? ⟨gb624, 1, none⟩ = some (.int .i64 a0_1) := zh BK624.out 1; have hfz26_0 := blk_frozen BK624.out 0; have hfz26_1 := blk_frozen BK624.out 1; go_wp2_with (first | ((with_reducible refine gate_callee (f := 74) rfl ?_); refine goesL_ (some 12) rfl rfl Try.func74 zz rfl #[.agg #[.slice A0_0 l0_0.length c0_0, .int .i64 a0_1]] rfl zM ?_; (with_reducible refine (shape_Valid.calls k (fun k_ => k_ < w.heap.size) _ _ l0_0 a0_1 true _ ?side1 A7.out).mono ?_); (case side1 => exact Kd.V_mk HC0_0.out (Kd.F_below (Kd.C_F (Kd.heap_slice 34 k34_heap) HR0_0.out) (zU HB.out))); rintro e w27 ⟨rfl, hb⟩; refine ⟨_, rfl, ?_⟩; replace BK624 := zk (zbb BK624.out hb); replace BK625 := zk (zbb BK625.out hb); replace HB := zk (below_step (zU HB.out) hb);  (try clear hb); (try clear hb2); (try clear hk); (try clear hi); have hcz28_0 : w27.cell? ⟨gb625, 0, none⟩ = some (.slice A1_0 l1_0.length c1_0) := zh BK625.out 0; have hcz28_1 : w27.cell? ⟨gb625, 1, none⟩ = some (.int .i64 a1_1) := zh BK625.out 1; have hfz28_0 := blk_frozen BK625.out 0; have hfz28_1 := blk_frozen BK625.out 1) | (go_at_call 74; (with_reducible refine (shape_Valid.calls k (fun k_ => k_ < w.heap.size) _ _ l1_0 a1_1 false _ ?side1 A9.out).mono ?_); (case side1 => exact Kd.V_mk HC1_0.out (Kd.F_below (Kd.C_F (Kd.heap_slice 34 k34_heap) HR1_0.out) (zU HB.out))); rintro e w29 ⟨rfl, hb⟩; replace BK624 := zk (zbb BK624.out hb); replace BK625 := zk (zbb BK625.out hb); replace HB := zk (below_step (zU HB.out) hb);  (try clear hb); (try clear hb2); (try clear hk); (try clear hi)))
    go_meet
    case rel => exact ⟨_, (true), zR, H', ⟨by first | omega | exact Nat.le_refl _⟩, ⟨zb BK624.out⟩, ⟨zb BK625.out⟩, ⟨zU HB.out⟩⟩
  ·replace c8 := Bool.eq_false_iff.mpr c8; subst c8; have H1 : (shape_Common.j0 k a2 true l0_0 a0_1 l1_0 a1_1) = some (r1, r2) := by rw [if_neg (show ¬ (false = true) by decide)] at H; exact H
   clear H; have H := H1; clear H1; have H' := zk H; clear H; have hnb30 := NB624_625.out; have hnc30 := NB625_624.out; have hcz31_0 : w6.cell? ⟨gb624, 0, none⟩ = some (.slice A0_0 l0_0.length c0_0) := zh BK624.out 0; have hcz31_1 : w6.cell? ⟨gb624, 1, none⟩ = some (.int .i64 a0_1) := zh BK624.out 1; have hfz31_0 := blk_frozen BK624.out 0; have hfz31_1 := blk_frozen BK624.out 1; go_wp2_with (first | ((with_reducible refine gate_callee (f := 74) rfl ?_); refine goesL_ (some 12) rfl rfl Try.func74 zz rfl #[.agg #[.slice A0_0 l0_0.length c0_0, .int .i64 a0_1]] rfl zM ?_; (with_reducible refine (shape_Valid.calls k (fun k_ => k_ < w.heap.size) _ _ l0_0 a0_1 false _ ?side1 A7.out).mono ?_); (case side1 => exact Kd.V_mk HC0_0.out (Kd.F_below (Kd.C_F (Kd.heap_slice 34 k34_heap) HR0_0.out) (zU HB.out))); rintro e w32 ⟨rfl, hb⟩; refine ⟨_, rfl, ?_⟩; replace BK624 := zk (zbb BK624.out hb); replace BK625 := zk (zbb BK625.out hb); replace HB := zk (below_step (zU HB.out) hb);  (try clear hb); (try clear hb2); (try clear hk); (try clear hi)))
   go_meet
   case rel => exact ⟨_, (true), zR, H', ⟨by first | omega | exact Nat.le_refl _⟩, ⟨zb BK624.out⟩, ⟨zb BK625.out⟩, ⟨zU HB.out⟩⟩
 case rest =>
  clear HC4; (try clear c1); (try clear c2); (try clear p2); (try clear c3); (try clear c4); (try clear c7); (try clear c8); (try clear c10); (try clear c11); (try clear c11b0); (try clear c12); (try clear c18); (try clear c25); (try clear c30); (try clear hcz13_0); (try clear hcz13_1); (try clear hcz15_0); (try clear hcz15_1); (try clear hcz19_0); (try clear hcz19_1); (try clear hcz21_0); (try clear hcz21_1); (try clear hcz23_0); (try clear hcz23_1); (try clear hcz24_0); (try clear hcz24_1); (try clear hcz26_0); (try clear hcz26_1); (try clear hcz28_0); (try clear hcz28_1); (try clear hcz31_0); (try clear hcz31_1); (try clear hfz13_0); (try clear hfz13_1); (try clear hfz15_0); (try clear hfz15_1); (try clear hfz19_0); (try clear hfz19_1); (try clear hfz21_0); (try clear hfz21_1); (try clear hfz23_0); (try clear hfz23_1); (try clear hfz24_0); (try clear hfz24_1); (try clear hfz26_0); (try clear hfz26_1); (try clear hfz28_0); (try clear hfz28_1); (try clear hfz31_0); (try clear hfz31_1); obtain ⟨kq, x33_3, rfl, HA, HJ3, BK624, BK625, HB⟩ := hcut; cases kq with
  | zero => exact absurd HA.out (by simp [shape_Common.j0])
  | succ kj3 =>
   have H := HA.out; clear HA; simp only [shape_Common.j0] at H; by_cases c33 : x33_3 = true
   ·subst c33; have H1 : (some (([] : List Int), false)) = some (r1, r2) := by rw [if_pos rfl] at H; exact H
    clear H; have H := H1; clear H1; simp only [Option.some.injEq, Prod.mk.injEq] at H; obtain ⟨rfl, rfl⟩ := H; go_wp2
    go_ret2
    exact ⟨_, ze, by first | exact Kd.R_nil _ _ _ _ _ | exact Kd.N_nil _ _ _ _ _ | exact Kd.V_nil _ _ _ _ _ | exact Kd.Q_nil _ _ _ _ _ | exact Kd.S_nil _ _ _ _ _, zU HB.out⟩
   ·replace c33 := Bool.eq_false_iff.mpr c33; subst c33; have H1 : (shape_Common.l0 kj3 ([] : List Int) a2 0 l0_0 a0_1 l1_0 a1_1) = some (r1, r2) := by rw [if_neg (show ¬ (false = true) by decide)] at H; exact H
    clear H; have H := H1; clear H1; have H' := zk H; clear H; go_wp2
    go_loopg [8, 35] kj3 (fun kq v8 v35 w' => ∃ (x8_2 : List Int) (x35_2 : Int), v35 = .int .i64 x35_2 ∧ Aside0 (shape_Common.l0 kq x8_2 a2 x35_2 l0_0 a0_1 l1_0 a1_1 = some (r1, r2)) ∧ Aside0 (kq ≤ kj3) ∧ Aside0 (Kd.R (Kd.int .u8) 5 w' w.heap.size (fun _ => True) v8 x8_2) ∧ Aside0 (w'.heap[gb624]? = some (.cells #[(.slice A0_0 l0_0.length c0_0), .int .i64 a0_1] 47 (0, 0))) ∧ Aside0 (w'.heap[gb625]? = some (.cells #[(.slice A1_0 l1_0.length c1_0), .int .i64 a1_1] 47 (0, 0))) ∧ Aside0 (Below w.heap.size w w'))
    case atStart => exact ⟨(([] : List Int)), (0), zR, H', ⟨Nat.le_refl _⟩, ⟨by first | exact Kd.R_nil _ _ _ _ _ | exact Kd.N_nil _ _ _ _ _ | exact Kd.V_nil _ _ _ _ _ | exact Kd.Q_nil _ _ _ _ _ | exact Kd.S_nil _ _ _ _ _⟩, ⟨zb BK624.out⟩, ⟨zb BK625.out⟩, ⟨zU HB.out⟩⟩
    case round =>
     clear H'; (try clear c1); (try clear c2); (try clear p2); (try clear c3); (try clear c4); (try clear c7); (try clear c8); (try clear c10); (try clear c11); (try clear c11b0); (try clear c12); (try clear c18); (try clear c25); (try clear c30); (try clear c33); (try clear hcz13_0); (try clear hcz13_1); (try clear hcz15_0); (try clear hcz15_1); (try clear hcz19_0); (try clear hcz19_1); (try clear hcz21_0); (try clear hcz21_1); (try clear hcz23_0); (try clear hcz23_1); (try clear hcz24_0); (try clear hcz24_1); (try clear hcz26_0); (try clear hcz26_1); (try clear hcz28_0); (try clear hcz28_1); (try clear hcz31_0); (try clear hcz31_1); (try clear hfz13_0); (try clear hfz13_1); (try clear hfz15_0); (try clear hfz15_1); (try clear hfz19_0); (try clear hfz19_1); (try clear hfz21_0); (try clear hfz21_1); (try clear hfz23_0); (try clear hfz23_1); (try clear hfz24_0); (try clear hfz24_1); (try clear hfz26_0); (try clear hfz26_1); (try clear hfz28_0); (try clear hfz28_1); (try clear hfz31_0); (try clear hfz31_1); (try clear p2); obtain ⟨x8_2, x35_2, rfl, HA, HK2, HO_8, BK624, BK625, HB⟩ := hrel
     cases gk with
     | zero => exact absurd HA.out (by simp [shape_Common.l0])
     | succ k2 =>
      have H := HA.out; clear HA; simp only [shape_Common.l0] at H; by_cases c34 : x35_2 < a2
      ·rw [if_pos c34] at H; have c34b0 : decide (x35_2 < a2) = true := decide_eq_true c34; clear c34; by_cases c35 : 0 ≤ x35_2
       ·rw [if_pos c35] at H; have c35b0 : decide (0 ≤ x35_2) = true := decide_eq_true c35; clear c35; by_cases c36 : x35_2 < (l0_0.length : Int)
        ·rw [if_pos c36] at H; have c36b0 : decide (x35_2 < (l0_0.length : Int)) = true := decide_eq_true c36; clear c36; by_cases c37 : x35_2 < (l1_0.length : Int)
         ·rw [if_pos c37] at H; have c37b0 : decide (x35_2 < (l1_0.length : Int)) = true := decide_eq_true c37; clear c37; replace H := Option.bind_eq_some_iff.mp H; obtain ⟨t630, A380, H⟩ := H; replace H : (if (t630.length : Int) = 0 then (some (([] : List Int), false)) else (if 0 < (t630.length : Int) then (if x8_2.length < 140737488355328 then (shape_Common.l0 k2 (x8_2 ++ [((rd_T34 t630 0).f0) % 256]) a2 (wrap64 (x35_2 + 1)) l0_0 a0_1 l1_0 a1_1) else (none)) else (none))) = some (r1, r2) := H; have A38 := zk A380; clear A380; by_cases c39 : (t630.length : Int) = 0
          ·rw [if_pos c39] at H; have c39b0 : ((t630.length : Int) == 0) = true := beq_iff_eq.mpr c39; have c39b1 : ((t630.length : Int) != 0) = false := bne_eq_false_iff_eq.mpr c39; clear c39; simp only [Option.some.injEq, Prod.mk.injEq] at H; obtain ⟨rfl, rfl⟩ := H; try go_wp2
           have n0_ := zk (Kd.R_drew HO_8.out); have n1_ := zk (blk_drew BK624.out); have n2_ := zk (blk_drew BK625.out); have n3_ := zk (below_drew1 HB.out); clear HO_8; clear BK624; clear BK625; clear HB; have HO_8 := n0_; have BK624 := n1_; have BK625 := n2_; have HB := n3_; clear n0_ n1_ n2_ n3_; have p628 : 0 ≤ (x35_2 : Int) := zT; have q628 : x35_2 < (l0_0.length : Int) := zT; obtain ⟨ad628, A628_0, c628_0, e628, hx628_0, hl628_0, hi628_0⟩ := at_L4 HR0_0.out x35_2 p628 q628; have hw628_0 := hx628_0; cases e628; replace hx628_0 := zcl HB.out hx628_0; have HR628_0 := zk hi628_0; have HC628_0 := zk hl628_0; clear hi628_0 hl628_0; replace p628 := eq_true p628; replace q628 := eq_true q628; have p629 : 0 ≤ (x35_2 : Int) := zT; have q629 : x35_2 < (l1_0.length : Int) := zT; obtain ⟨ad629, A629_0, c629_0, e629, hx629_0, hl629_0, hi629_0⟩ := at_L4 HR1_0.out x35_2 p629 q629; have hw629_0 := hx629_0; cases e629; replace hx629_0 := zcl HB.out hx629_0; have HR629_0 := zk hi629_0; have HC629_0 := zk hl629_0; clear hi629_0 hl629_0; replace p629 := eq_true p629; replace q629 := eq_true q629; refine start_ (n := 12) (S := fun w' => w'.cell? ⟨gb624, 0, none⟩ = some (.slice (some ad628) l0_0.length c0_0) ∧ w'.cell? ⟨gb624, 1, none⟩ = some (.int .i64 a0_1) ∧ w'.cell? ⟨gb625, 0, none⟩ = some (.slice (some ad629) l1_0.length c1_0) ∧ w'.cell? ⟨gb625, 1, none⟩ = some (.int .i64 a1_1) ∧ w'.cell? (ad628.add (x35_2).toNat) = some (.slice A628_0 (rd_L4 l0_0 x35_2).length c628_0) ∧ w'.cell? (ad629.add (x35_2).toNat) = some (.slice A629_0 (rd_L4 l1_0 x35_2).length c629_0)) (ds := []) #[false, false, false, false, false, false, false, false, false, false, false, false] zz rfl rfl ⟨(blk_cell BK624.out 0).trans rfl, (blk_cell BK624.out 1).trans rfl, (blk_cell BK625.out 0).trans rfl, (blk_cell BK625.out 1).trans rfl, (zcl HB.out hw628_0), (zcl HB.out hw629_0)⟩ (fun hHeld => ?_); refine with_tabW shape_Common.tab7 shape_Common.bits7 (fun HT_ HW_ => ?_); generalize wr.drew = w40 at HO_8 BK624 BK625 HB HR628_0 HR629_0 hx628_0 hx629_0 hHeld ⊢; refine zp 0 (some 38) (v := ?_) (a' := ?_) (bz 12 1) rfl rfl HT_.out zz zQ ?_ ?_ ?_; rotate_left
           ·intro w'; go_simp; with_reducible rfl
           rotate_left
           ·simp only [Act.put, zv, i64_w, i32_w]; rfl
           refine zp 2 (some 40) (v := ?_) (a' := ?_) (bz 12 5) rfl rfl HT_.out zz zQ ?_ ?_ ?_; rotate_left
           ·intro w'; go_simp; with_reducible rfl
           rotate_left
           ·simp only [Act.put, zv, i64_w, i32_w]; rfl
           refine zp 5 (some 43) (v := ?_) (a' := ?_) (bz 12 37) rfl rfl HT_.out zz zQ ?_ ?_ ?_; rotate_left
           ·intro w'; go_simp; with_reducible rfl
           rotate_left
           ·simp only [Act.put, zv, i64_w, i32_w]; rfl
           refine zp 7 (some 45) (v := ?_) (a' := ?_) (bz 12 165) rfl rfl HT_.out zz zQ ?_ ?_ ?_; rotate_left
           ·intro w'; go_simp; with_reducible rfl
           rotate_left
           ·simp only [Act.put, zv, i64_w, i32_w]; rfl
           refine take_ (i := 1) (N := some 39) (v := ?_) (a' := ?_) (bz 12 167) rfl rfl (take_ofW HT_.out HW_.out zz) zQ (Or.inl ⟨by rfl, ?_⟩) hHeld ?_ ?_; rotate_left
           ·rintro w' ⟨s0, s1, s2, s3, s4, s5⟩; go_simp; with_reducible rfl
           rotate_left
           ·simp only [Act.put, zv, i64_w, i32_w]; rfl
           refine zp 3 (some 41) (v := ?_) (a' := ?_) (bz 12 175) rfl rfl HT_.out zz zQ ?_ ?_ ?_; rotate_left
           ·intro w'; go_simp; with_reducible rfl
           rotate_left
           ·simp only [Act.put, zv, i64_w, i32_w]; rfl
           refine take_ (i := 4) (N := some 42) (v := ?_) (a' := ?_) (bz 12 191) rfl rfl (take_ofW HT_.out HW_.out zz) zQ (Or.inl ⟨by rfl, ?_⟩) hHeld ?_ ?_; rotate_left
           ·rintro w' ⟨s0, s1, s2, s3, s4, s5⟩; go_simp; with_reducible rfl
           rotate_left
           ·simp only [Act.put, zv, i64_w, i32_w]; rfl
           refine take_ (i := 6) (N := some 44) (v := ?_) (a' := ?_) (bz 12 255) rfl rfl (take_ofW HT_.out HW_.out zz) zQ (Or.inl ⟨by rfl, ?_⟩) hHeld ?_ ?_; rotate_left
           ·rintro w' ⟨s0, s1, s2, s3, s4, s5⟩; go_simp; with_reducible rfl
           rotate_left
           ·simp only [Act.put, zv, i64_w, i32_w]; rfl
           refine zp 8 (some 46) (v := ?_) (a' := ?_) (bz 12 511) rfl rfl HT_.out zz zQ ?_ ?_ ?_; rotate_left
           ·intro w'; go_simp; with_reducible rfl
           rotate_left
           ·simp only [Act.put, zv, i64_w, i32_w]; rfl
           refine take_ (i := 9) (N := some 47) (v := ?_) (a' := ?_) (bz 12 1023) rfl rfl (take_ofW HT_.out HW_.out zz) zQ (Or.inl ⟨by rfl, ?_⟩) hHeld ?_ ?_; rotate_left
           ·rintro w' ⟨s0, s1, s2, s3, s4, s5⟩; go_simp; with_reducible rfl
           rotate_left
           ·simp only [Act.put, zv, i64_w, i32_w]; rfl
           refine one_ (i := 10) (N := some 48) (bz 12 2047) rfl rfl (one_of HT_.out zz) (by decide) (fun K hK => ?_); refine goes_ Try.func93 zz rfl #[.slice A628_0 (rd_L4 l0_0 x35_2).length c628_0, .slice A629_0 (rd_L4 l1_0 x35_2).length c629_0] (by rfl) rfl rfl zM ?_; with_reducible refine (spans_Meet.calls k2 _ _ (rd_L4 l0_0 x35_2) _ _ (rd_L4 l1_0 x35_2) t630 _ ?side1 ?side2 ?side3 ?side4 A38.out).mono ?_; (case side1 => exact zc (Kd.C_below HR628_0.out HB.out))
           (case side2 => exact HC628_0.out)
           (case side3 => exact zc (Kd.C_below HR629_0.out HB.out))
           (case side4 => exact HC629_0.out)
           rintro e w41 ⟨v631, rfl, ho0, hb⟩; refine ⟨_, rfl, ?_⟩; have n0_ := zk (Kd.R_below (zr HO_8.out) hb); have n1_ := zk (Kd.R_lower ho0 (below_size (zU HB.out))); have n2_ := zk (zbb BK624.out hb); have n3_ := zk (zbb BK625.out hb); have n4_ := zk (below_step (zU HB.out) hb); clear HO_8; clear BK624; clear BK625; clear HB; have HO_8 := n0_; have HO632 := n1_; have BK624 := n2_; have BK625 := n3_; have HB := n4_; clear n0_ n1_ n2_ n3_ n4_; (try clear hb); (try clear hb2); (try clear hk); (try clear hi); (try clear ho0); refine hK.out _ _ ⟨(blk_cell BK624.out 0).trans rfl, (blk_cell BK624.out 1).trans rfl, (blk_cell BK625.out 0).trans rfl, (blk_cell BK625.out 1).trans rfl, (zcl HB.out hw628_0), (zcl HB.out hw629_0)⟩ (fun hHeld => ?_); clear hK K; refine norm_ (a' := ?_) ?_ ?_; rotate_left
           ·show Act.put _ (some 48) _ = _; simp only [Act.put, zv, i64_w, i32_w]; rfl
           refine zp 11 (some 10) (v := ?_) (a' := ?_) (bz 12 4095) rfl rfl HT_.out zz zQ ?_ ?_ ?_; rotate_left
           ·intro w'; go_simp; with_reducible rfl
           rotate_left
           ·simp only [Act.put, zv, i64_w, i32_w]; rfl
           refine done_ (done_of HT_.out zz) ?_; obtain ⟨Ao42, co42, eo42⟩ := Kd.R_slice HO632.out; subst eo42; try go_wp2
           go_ret2
           exact ⟨_, ze, by first | exact Kd.R_nil _ _ _ _ _ | exact Kd.N_nil _ _ _ _ _ | exact Kd.V_nil _ _ _ _ _ | exact Kd.Q_nil _ _ _ _ _ | exact Kd.S_nil _ _ _ _ _, zU HB.out⟩
          ·rw [if_neg c39] at H; have c39b0 : ((t630.length : Int) == 0) = false := beq_eq_false_iff_ne.mpr c39; have c39b1 : ((t630.length : Int) != 0) = true := bne_iff_ne.mpr c39; have c39b2 : ¬ (t630 = []) := fun h_ => c39 (by rw [h_]; rfl)
           by_cases c43 : 0 < (t630.length : Int)
           ·rw [if_pos c43] at H; have c43b0 : decide (0 < (t630.length : Int)) = true := decide_eq_true c43; have c43b1 : decide (0 < t630.length) = true := decide_eq_true (by omega); clear c43; by_cases c44 : x8_2.length < 140737488355328
            ·rw [if_pos c44] at H; have LMc44 := zk c44; clear c44; obtain ⟨y634, hy634⟩ : ∃ y_ : List Int, y_ = (x8_2 ++ [((rd_T34 t630 0).f0) % 256]) := ⟨_, rfl⟩
             replace H : (shape_Common.l0 k2 y634 a2 (wrap64 (x35_2 + 1)) l0_0 a0_1 l1_0 a1_1) = some (r1, r2) := by first | (rw [hy634]; with_reducible exact H) | (have H2_ := (Option.bind_some _ _).symm.trans H; rw [hy634]; with_reducible exact H2_) | (have H2_ := (Option.bind_some _ _).symm.trans H; with_reducible exact H2_) | with_reducible exact H | (rw [hy634]; exact H) | exact H
             have Ny634 := zk hy634; clear hy634; have H' := zk H; clear H; try go_wp2
             have n0_ := zk (Kd.R_drew HO_8.out); have n1_ := zk (blk_drew BK624.out); have n2_ := zk (blk_drew BK625.out); have n3_ := zk (below_drew1 HB.out); clear HO_8; clear BK624; clear BK625; clear HB; have HO_8 := n0_; have BK624 := n1_; have BK625 := n2_; have HB := n3_; clear n0_ n1_ n2_ n3_; have p628 : 0 ≤ (x35_2 : Int) := zT; have q628 : x35_2 < (l0_0.length : Int) := zT; obtain ⟨ad628, A628_0, c628_0, e628, hx628_0, hl628_0, hi628_0⟩ := at_L4 HR0_0.out x35_2 p628 q628; have hw628_0 := hx628_0; cases e628; replace hx628_0 := zcl HB.out hx628_0; have HR628_0 := zk hi628_0; have HC628_0 := zk hl628_0; clear hi628_0 hl628_0; replace p628 := eq_true p628; replace q628 := eq_true q628; have p629 : 0 ≤ (x35_2 : Int) := zT; have q629 : x35_2 < (l1_0.length : Int) := zT; obtain ⟨ad629, A629_0, c629_0, e629, hx629_0, hl629_0, hi629_0⟩ := at_L4 HR1_0.out x35_2 p629 q629; have hw629_0 := hx629_0; cases e629; replace hx629_0 := zcl HB.out hx629_0; have HR629_0 := zk hi629_0; have HC629_0 := zk hl629_0; clear hi629_0 hl629_0; replace p629 := eq_true p629; replace q629 := eq_true q629; refine start_ (n := 12) (S := fun w' => w'.cell? ⟨gb624, 0, none⟩ = some (.slice (some ad628) l0_0.length c0_0) ∧ w'.cell? ⟨gb624, 1, none⟩ = some (.int .i64 a0_1) ∧ w'.cell? ⟨gb625, 0, none⟩ = some (.slice (some ad629) l1_0.length c1_0) ∧ w'.cell? ⟨gb625, 1, none⟩ = some (.int .i64 a1_1) ∧ w'.cell? (ad628.add (x35_2).toNat) = some (.slice A628_0 (rd_L4 l0_0 x35_2).length c628_0) ∧ w'.cell? (ad629.add (x35_2).toNat) = some (.slice A629_0 (rd_L4 l1_0 x35_2).length c629_0)) (ds := []) #[false, false, false, false, false, false, false, false, false, false, false, false] zz rfl rfl ⟨(blk_cell BK624.out 0).trans rfl, (blk_cell BK624.out 1).trans rfl, (blk_cell BK625.out 0).trans rfl, (blk_cell BK625.out 1).trans rfl, (zcl HB.out hw628_0), (zcl HB.out hw629_0)⟩ (fun hHeld => ?_); refine with_tabW shape_Common.tab7 shape_Common.bits7 (fun HT_ HW_ => ?_); generalize wr.drew = w45 at HO_8 BK624 BK625 HB HR628_0 HR629_0 hx628_0 hx629_0 hHeld ⊢; refine zp 0 (some 38) (v := ?_) (a' := ?_) (bz 12 1) rfl rfl HT_.out zz zQ ?_ ?_ ?_; rotate_left
             ·intro w'; go_simp; with_reducible rfl
             rotate_left
             ·simp only [Act.put, zv, i64_w, i32_w]; rfl
             refine zp 2 (some 40) (v := ?_) (a' := ?_) (bz 12 5) rfl rfl HT_.out zz zQ ?_ ?_ ?_; rotate_left
             ·intro w'; go_simp; with_reducible rfl
             rotate_left
             ·simp only [Act.put, zv, i64_w, i32_w]; rfl
             refine zp 5 (some 43) (v := ?_) (a' := ?_) (bz 12 37) rfl rfl HT_.out zz zQ ?_ ?_ ?_; rotate_left
             ·intro w'; go_simp; with_reducible rfl
             rotate_left
             ·simp only [Act.put, zv, i64_w, i32_w]; rfl
             refine zp 7 (some 45) (v := ?_) (a' := ?_) (bz 12 165) rfl rfl HT_.out zz zQ ?_ ?_ ?_; rotate_left
             ·intro w'; go_simp; with_reducible rfl
             rotate_left
             ·simp only [Act.put, zv, i64_w, i32_w]; rfl
             refine take_ (i := 1) (N := some 39) (v := ?_) (a' := ?_) (bz 12 167) rfl rfl (take_ofW HT_.out HW_.out zz) zQ (Or.inl ⟨by rfl, ?_⟩) hHeld ?_ ?_; rotate_left
             ·rintro w' ⟨s0, s1, s2, s3, s4, s5⟩; go_simp; with_reducible rfl
             rotate_left
             ·simp only [Act.put, zv, i64_w, i32_w]; rfl
             refine zp 3 (some 41) (v := ?_) (a' := ?_) (bz 12 175) rfl rfl HT_.out zz zQ ?_ ?_ ?_; rotate_left
             ·intro w'; go_simp; with_reducible rfl
             rotate_left
             ·simp only [Act.put, zv, i64_w, i32_w]; rfl
             refine take_ (i := 4) (N := some 42) (v := ?_) (a' := ?_) (bz 12 191) rfl rfl (take_ofW HT_.out HW_.out zz) zQ (Or.inl ⟨by rfl, ?_⟩) hHeld ?_ ?_; rotate_left
             ·rintro w' ⟨s0, s1, s2, s3, s4, s5⟩; go_simp; with_reducible rfl
             rotate_left
             ·simp only [Act.put, zv, i64_w, i32_w]; rfl
             refine take_ (i := 6) (N := some 44) (v := ?_) (a' := ?_) (bz 12 255) rfl rfl (take_ofW HT_.out HW_.out zz) zQ (Or.inl ⟨by rfl, ?_⟩) hHeld ?_ ?_; rotate_left
             ·rintro w' ⟨s0, s1, s2, s3, s4, s5⟩; go_simp; with_reducible rfl
             rotate_left
             ·simp only [Act.put, zv, i64_w, i32_w]; rfl
             refine zp 8 (some 46) (v := ?_) (a' := ?_) (bz 12 511) rfl rfl HT_.out zz zQ ?_ ?_ ?_; rotate_left
             ·intro w'; go_simp; with_reducible rfl
             rotate_left
             ·simp only [Act.put, zv, i64_w, i32_w]; rfl
             refine take_ (i := 9) (N := some 47) (v := ?_) (a' := ?_) (bz 12 1023) rfl rfl (take_ofW HT_.out HW_.out zz) zQ (Or.inl ⟨by rfl, ?_⟩) hHeld ?_ ?_; rotate_left
             ·rintro w' ⟨s0, s1, s2, s3, s4, s5⟩; go_simp; with_reducible rfl
             rotate_left
             ·simp only [Act.put, zv, i64_w, i32_w]; rfl
             refine one_ (i := 10) (N := some 48) (bz 12 2047) rfl rfl (one_of HT_.out zz) (by decide) (fun K hK => ?_); refine goes_ Try.func93 zz rfl #[.slice A628_0 (rd_L4 l0_0 x35_2).length c628_0, .slice A629_0 (rd_L4 l1_0 x35_2).length c629_0] (by rfl) rfl rfl zM ?_; with_reducible refine (spans_Meet.calls k2 _ _ (rd_L4 l0_0 x35_2) _ _ (rd_L4 l1_0 x35_2) t630 _ ?side1 ?side2 ?side3 ?side4 A38.out).mono ?_; (case side1 => exact zc (Kd.C_below HR628_0.out HB.out))
             (case side2 => exact HC628_0.out)
             (case side3 => exact zc (Kd.C_below HR629_0.out HB.out))
             (case side4 => exact HC629_0.out)
             rintro e w46 ⟨v631, rfl, ho0, hb⟩; refine ⟨_, rfl, ?_⟩; have n0_ := zk (Kd.R_below (zr HO_8.out) hb); have n1_ := zk (Kd.R_lower ho0 (below_size (zU HB.out))); have n2_ := zk (zbb BK624.out hb); have n3_ := zk (zbb BK625.out hb); have n4_ := zk (below_step (zU HB.out) hb); clear HO_8; clear BK624; clear BK625; clear HB; have HO_8 := n0_; have HO632 := n1_; have BK624 := n2_; have BK625 := n3_; have HB := n4_; clear n0_ n1_ n2_ n3_ n4_; (try clear hb); (try clear hb2); (try clear hk); (try clear hi); (try clear ho0); refine hK.out _ _ ⟨(blk_cell BK624.out 0).trans rfl, (blk_cell BK624.out 1).trans rfl, (blk_cell BK625.out 0).trans rfl, (blk_cell BK625.out 1).trans rfl, (zcl HB.out hw628_0), (zcl HB.out hw629_0)⟩ (fun hHeld => ?_); clear hK K; refine norm_ (a' := ?_) ?_ ?_; rotate_left
             ·show Act.put _ (some 48) _ = _; simp only [Act.put, zv, i64_w, i32_w]; rfl
             refine zp 11 (some 10) (v := ?_) (a' := ?_) (bz 12 4095) rfl rfl HT_.out zz zQ ?_ ?_ ?_; rotate_left
             ·intro w'; go_simp; with_reducible rfl
             rotate_left
             ·simp only [Act.put, zv, i64_w, i32_w]; rfl
             refine done_ (done_of HT_.out zz) ?_; obtain ⟨Ao47, co47, eo47⟩ := Kd.R_slice HO632.out; subst eo47; have p633 : 0 ≤ (0 : Int) := (by omega); have q633 : 0 < (t630.length : Int) := zT; obtain ⟨ad633, e633, hx633_0, hx633_1⟩ := at_T34 (Kd.R_reads' HO632.out).2.2 0 p633 q633; cases e633; have qi633 : (0 < t630.length) = True := eq_true (by omega); (try rw [show ((0 : Int)).toNat = 0 from rfl] at hx633_0)
             (try rw [show 0 * 2 = 0 from rfl] at hx633_0)
             (try rw [Addr.add_zero'] at hx633_0)
             (try rw [show ((0 : Int)).toNat = 0 from rfl] at hx633_1)
             (try rw [show 0 * 2 = 0 from rfl] at hx633_1)
             (try rw [Addr.add_zero'] at hx633_1)
             replace p633 := eq_true p633; replace q633 := eq_true q633; try go_wp2_with (first | ((with_reducible refine gate_builtin (b := .append) (xs := #[.tmp 52, .tmp 58]) rfl ?_); (try (refine gate_guard (by rfl) ?_; dsimp only)); at_builtin; refine Kd.R_append (Kd.int .u8) (w0 := w) w.heap.size rfl (.tmp 52) (.tmp 58) 59 5 (.int .u8 0) 1 rfl Try.underlying59 info5 rfl (by decide) (by omega) u8 x8_2 (((rd_T34 t630 0).f0) % 256) [.int .u8 (((rd_T34 t630 0).f0) % 256)] (fun _ => True) (fun _ => False) rfl rfl ?aP (fun _ hk => hk.elim) ?aF ?aO ?aB ?aS ?aL ?_; (case aP => exact rfl); (case aB => exact (zU HB.out)); (case aF => exact (fun _ _ => trivial)); (case aO => exact (zr HO_8.out)); (case aS => exact (below_size (zU HB.out))); (case aL => have := LMc44.out; omega); intro v635 w48 ho hb hg hat; rw [← Ny634.out] at ho; have n0_ := zk (blk_grown (g := gb624) (o := .cells #[.slice (some ad628) l0_0.length c0_0, .int .i64 a0_1] 47 (0, 0)) (zb BK624.out) hg (Kd.R_ne HO_8.out BK624.out (by decide))); have n1_ := zk (blk_grown (g := gb625) (o := .cells #[.slice (some ad629) l1_0.length c1_0, .int .i64 a1_1] 47 (0, 0)) (zb BK625.out) hg (Kd.R_ne HO_8.out BK625.out (by decide))); have n2_ := zk (Kd.R_over' (zr HO632.out) (Kd.R_typed (zr HO_8.out)) (by decide) hg); have n3_ := zk (hb); have n4_ := zk (ho); clear BK624; clear BK625; clear HO632; clear HB; clear HO_8; have BK624 := n0_; have BK625 := n1_; have HO632 := n2_; have HB := n3_; have HO636 := n4_; clear n0_ n1_ n2_ n3_ n4_; clear ho hb hg hat))
             go_roundg k2
             case measure => have := HJ3.out; have := HK2.out; omega
             case rel => exact ⟨(y634), (wrap64 (x35_2 + 1)), zR, H', ⟨by have := HJ3.out; have := HK2.out; omega⟩, ⟨by (with_reducible repeat (first | apply zA | apply zB | apply zC)); exact HO636.out⟩, ⟨zb BK624.out⟩, ⟨zb BK625.out⟩, ⟨zU HB.out⟩⟩
            ·rw [if_neg c44] at H; exact absurd H (by simp)
           ·rw [if_neg c43] at H; exact absurd H (by simp)
         ·rw [if_neg c37] at H; exact absurd H (by simp)
        ·rw [if_neg c36] at H; exact absurd H (by simp)
       ·rw [if_neg c35] at H; exact absurd H (by simp)
      ·rw [if_neg c34] at H; have c34b0 : decide (x35_2 < a2) = false := decide_eq_false c34; clear c34; simp only [Option.some.injEq, Prod.mk.injEq] at H; obtain ⟨rfl, rfl⟩ := H; go_wp2
       go_ret2
       exact ⟨_, ze, by (with_reducible repeat (first | apply zA | apply zB | apply zC)); exact HO_8.out, zU HB.out⟩
end Go.Proofs.Ytoljcfocgaonpaa.I
