/- Words and walks of this claim, of the text Ix16. -/
import Derived.Test.YtoljcfocgaonpaaKgQW0
import Derived.Test.YtoljcfocgaonpaaKgIx0
import Derived.Test.YtoljcfocgaonpaaKgIx14
import Derived.Test.YtoljcfocgaonpaaKgIx15
namespace Go.Proofs.Ytoljcfocgaonpaa.I
open Go.RowKit Go.Proofs.YtoljcfocgaonpaaW.PrintWords Go.Proofs.YtoljcfocgaonpaaW.PrintLast Go.Proofs.YtoljcfocgaonpaaW.PrintMore
attribute [local go_sem] max2_int min2_int max_two min_two max_three min_three max_four min_four
set_option linter.unusedVariables false
set_option linter.unusedSimpArgs false
mutual
def shape_Rank.j0 : Nat → List Int → Bool → List (List (S34)) → Int → Option (Int × Bool)
 | 0, _, _, _, _ => none
 | k + 1, x1, x21, x465000, x465001 => if x21 = true then (some (0, false)) else ((shape_steps.f k x465000 x465001).bind fun t466 => (if 1 ≤ (t466.length : Int) then ((some (t466.drop (1 : Int).toNat : List Int)).bind fun y469 => (shape_Rank.l0 k x1 0 y469 (y469.length : Int) 0 x465000 x465001)) else (none)))
def shape_Rank.l0 : Nat → List Int → Int → List Int → Int → Int → List (List (S34)) → Int → Option (Int × Bool)
 | 0, _, _, _, _, _, _, _ => none
 | k + 1, x1, x6, x24, x25, x26, x465000, x465001 => if x26 < x25 then (if 0 ≤ x26 then (if x26 < (x24.length : Int) then (if x26 < (x465000.length : Int) then (if x26 < (x1.length : Int) then ((spans_Rank.f k (rd_L4 x465000 x26) (wrap64 (rd x1 x26))).bind fun bt475 => (if bt475.2 = true then (shape_Rank.l0 k x1 (wrap64 (x6 + (wrap64 (bt475.1 * (rd x24 x26))))) x24 x25 (wrap64 (x26 + 1)) x465000 x465001) else (some (0, false)))) else (none)) else (none)) else (none)) else (none)) else (some (x6, true))
end
def shape_Rank.f (k : Nat) (l0_0 : List (List (S34))) (a0_1 : Int) (l1 : List Int) : Option (Int × Bool) := (shape_Valid.f k l0_0 a0_1).bind fun t465 => (if t465 = true then (shape_Rank.j0 k l1 ((l1.length : Int) != (l0_0.length : Int)) l0_0 a0_1) else (shape_Rank.j0 k l1 true l0_0 a0_1))
def shape_Rank.T7 : Bool × List (List Nat × List Nat) := (true, [([], []), ([0], [0]), ([], []), ([1, 2], [1, 2]), ([3], [3]), ([], []), ([], []), ([5, 6], [5, 6]), ([7], [7]), ([8], [8]), ([4, 9], [4, 9]), ([10], [10]), ([11], [11]), ([11], [11]), ([12, 10, 0, 1, 2, 3, 4, 5, 6, 7, 8, 9, 10, 11, 12], [12]), ([13, 14, 0, 1, 2, 3, 4, 5, 6, 7, 8, 9, 10, 11, 12, 13, 14], [13])])
def shape_Rank.B7 : List Nat := [0, 1, 0, 7, 15, 0, 0, 96, 224, 480, 1023, 2047, 4095, 4095, 8191, 32767]
theorem shape_Rank.tab7 : rtab .any (opsOf Try.f69 7) = shape_Rank.T7 := by kernel_rfl
theorem shape_Rank.bits7 : waitsOk shape_Rank.T7.2 shape_Rank.B7 = true := by kernel_rfl
set_option maxHeartbeats 8000000 in
set_option maxRecDepth 100000 in
theorem shape_Rank.calls (k : Nat) (A0_0 : Option Addr) (c0_0 : Nat) (l0_0 : List (List (S34))) (a0_1 : Int) (A1 : Option Addr) (c1 : Nat) (l1 : List Int) (r1 : Int) (r2 : Bool) (w : World) (hr0_0 : Kd.C (Kd.slice 34 k34) w A0_0 l0_0.length l0_0) (hc0_0 : l0_0.length ≤ c0_0) (hr1 : Kd.C (Kd.int .u8) w A1 l1.length l1) (hc1 : l1.length ≤ c1) (h : shape_Rank.f k l0_0 a0_1 l1 = some (r1, r2)) :
 Calls Try.prog 69 #[.agg #[.slice A0_0 l0_0.length c0_0, .int .i64 a0_1], .slice A1 l1.length c1] w fun e w' => e = .returned (.tuple #[.int .i64 r1, .bool r2]) ∧ Below w.heap.size w w' := by
 have hu47 := Try.underlying47; have HR0_0 := zk hr0_0; have HC0_0 := zk hc0_0; clear hr0_0 hc0_0; have HR1 := zk hr1; have HC1 := zk hc1; clear hr1 hc1; have HB := zk (Below.refl w.heap.size w); have H : ((shape_Valid.f k l0_0 a0_1).bind fun t465 => (if t465 = true then (shape_Rank.j0 k l1 ((l1.length : Int) != (l0_0.length : Int)) l0_0 a0_1) else (shape_Rank.j0 k l1 true l0_0 a0_1))) = some (r1, r2) := h; clear h; have HC3 := zk H; clear H; go_enter Try.func69, Try.ntmps69
 go_upto_region 1 with (first | ((with_reducible refine gate_dst (N := 2) rfl ?_); (try (refine gate_guard (by rfl) ?_; dsimp only)); refine box_event ?hg (N := 2) ?hd (cs := #[.slice A0_0 l0_0.length c0_0, .int .i64 a0_1]) (t := 47) ?hr ?_; (case hd => rfl); (case hg => rfl); (case hr => first | (go_simp; done) | (go_simp; rfl)); intro gb464 hg w4 hbox hb; have BK464 := zk (hbox); have GE464 := zk ((zg hg HB.out : w.heap.size ≤ gb464)); replace HB := zk (below_step (zU HB.out) hb);  clear hb hbox hg))
 (try simp only [Act.put, List.setIfInBounds_toArray, List.set_cons_zero, List.set_cons_succ])
 go_cut [21] (fun v21 wc => ∃ (kq : Nat) (x21_2 : Bool), v21 = .bool x21_2 ∧ Aside0 (shape_Rank.j0 kq l1 x21_2 l0_0 a0_1 = some (r1, r2)) ∧ Aside0 (kq ≤ k) ∧ Aside0 (wc.heap[gb464]? = some (.cells #[(.slice A0_0 l0_0.length c0_0), .int .i64 a0_1] 47 (0, 0))) ∧ Aside0 (Below w.heap.size w wc))
 case first =>
  have H := HC3.out; clear HC3; replace H := Option.bind_eq_some_iff.mp H; obtain ⟨t465, A50, H⟩ := H; replace H : (if t465 = true then (shape_Rank.j0 k l1 ((l1.length : Int) != (l0_0.length : Int)) l0_0 a0_1) else (shape_Rank.j0 k l1 true l0_0 a0_1)) = some (r1, r2) := H; have A5 := zk A50; clear A50; by_cases c6 : t465 = true
  ·subst c6; have H1 : (shape_Rank.j0 k l1 ((l1.length : Int) != (l0_0.length : Int)) l0_0 a0_1) = some (r1, r2) := by rw [if_pos rfl] at H; exact H
   clear H; have H := H1; clear H1; have H' := zk H; clear H; have hcz7_0 : w4.cell? ⟨gb464, 0, none⟩ = some (.slice A0_0 l0_0.length c0_0) := zh BK464.out 0; have hcz7_1 : w4.cell? ⟨gb464, 1, none⟩ = some (.int .i64 a0_1) := zh BK464.out 1; have hfz7_0 := blk_frozen BK464.out 0; have hfz7_1 := blk_frozen BK464.out 1; go_wp2_with (first | ((with_reducible refine gate_callee (f := 74) rfl ?_); refine goesL_ (some 12) rfl rfl Try.func74 zz rfl #[.agg #[.slice A0_0 l0_0.length c0_0, .int .i64 a0_1]] rfl zM ?_; (with_reducible refine (shape_Valid.calls k (fun k_ => k_ < w.heap.size) _ _ l0_0 a0_1 true _ ?side1 A5.out).mono ?_); (case side1 => exact Kd.V_mk HC0_0.out (Kd.F_below (Kd.C_F (Kd.heap_slice 34 k34_heap) HR0_0.out) (zU HB.out))); rintro e w8 ⟨rfl, hb⟩; refine ⟨_, rfl, ?_⟩; replace BK464 := zk (zbb BK464.out hb); replace HB := zk (below_step (zU HB.out) hb);  (try clear hb); (try clear hb2); (try clear hk); (try clear hi); have hcz9_0 : w8.cell? ⟨gb464, 0, none⟩ = some (.slice A0_0 l0_0.length c0_0) := zh BK464.out 0; have hcz9_1 : w8.cell? ⟨gb464, 1, none⟩ = some (.int .i64 a0_1) := zh BK464.out 1; have hfz9_0 := blk_frozen BK464.out 0; have hfz9_1 := blk_frozen BK464.out 1))
   go_meet
   case rel => exact ⟨_, (((l1.length : Int) != (l0_0.length : Int))), zR, H', ⟨by first | omega | exact Nat.le_refl _⟩, ⟨zb BK464.out⟩, ⟨zU HB.out⟩⟩
  ·replace c6 := Bool.eq_false_iff.mpr c6; subst c6; have H1 : (shape_Rank.j0 k l1 true l0_0 a0_1) = some (r1, r2) := by rw [if_neg (show ¬ (false = true) by decide)] at H; exact H
   clear H; have H := H1; clear H1; have H' := zk H; clear H; have hcz10_0 : w4.cell? ⟨gb464, 0, none⟩ = some (.slice A0_0 l0_0.length c0_0) := zh BK464.out 0; have hcz10_1 : w4.cell? ⟨gb464, 1, none⟩ = some (.int .i64 a0_1) := zh BK464.out 1; have hfz10_0 := blk_frozen BK464.out 0; have hfz10_1 := blk_frozen BK464.out 1; go_wp2_with (first | ((with_reducible refine gate_callee (f := 74) rfl ?_); refine goesL_ (some 12) rfl rfl Try.func74 zz rfl #[.agg #[.slice A0_0 l0_0.length c0_0, .int .i64 a0_1]] rfl zM ?_; (with_reducible refine (shape_Valid.calls k (fun k_ => k_ < w.heap.size) _ _ l0_0 a0_1 false _ ?side1 A5.out).mono ?_); (case side1 => exact Kd.V_mk HC0_0.out (Kd.F_below (Kd.C_F (Kd.heap_slice 34 k34_heap) HR0_0.out) (zU HB.out))); rintro e w11 ⟨rfl, hb⟩; refine ⟨_, rfl, ?_⟩; replace BK464 := zk (zbb BK464.out hb); replace HB := zk (below_step (zU HB.out) hb);  (try clear hb); (try clear hb2); (try clear hk); (try clear hi)))
   go_meet
   case rel => exact ⟨_, (true), zR, H', ⟨by first | omega | exact Nat.le_refl _⟩, ⟨zb BK464.out⟩, ⟨zU HB.out⟩⟩
 case rest =>
  clear HC3; (try clear c1); (try clear p2); (try clear c6); (try clear c7); (try clear hcz10_0); (try clear hcz10_1); (try clear hcz7_0); (try clear hcz7_1); (try clear hcz9_0); (try clear hcz9_1); (try clear hfz10_0); (try clear hfz10_1); (try clear hfz7_0); (try clear hfz7_1); (try clear hfz9_0); (try clear hfz9_1); obtain ⟨kq, x21_2, rfl, HA, HJ2, BK464, HB⟩ := hcut; cases kq with
  | zero => exact absurd HA.out (by simp [shape_Rank.j0])
  | succ kj2 =>
   have H := HA.out; clear HA; simp only [shape_Rank.j0] at H; by_cases c12 : x21_2 = true
   ·subst c12; have H1 : (some (0, false)) = some (r1, r2) := by rw [if_pos rfl] at H; exact H
    clear H; have H := H1; clear H1; simp only [Option.some.injEq, Prod.mk.injEq] at H; obtain ⟨rfl, rfl⟩ := H; go_wp2
    go_ret2
    exact ⟨ze, zU HB.out⟩
   ·replace c12 := Bool.eq_false_iff.mpr c12; subst c12; have H1 : ((shape_steps.f kj2 l0_0 a0_1).bind fun t466 => (if 1 ≤ (t466.length : Int) then ((some (t466.drop (1 : Int).toNat : List Int)).bind fun y469 => (shape_Rank.l0 kj2 l1 0 y469 (y469.length : Int) 0 l0_0 a0_1)) else (none))) = some (r1, r2) := by rw [if_neg (show ¬ (false = true) by decide)] at H; exact H
    clear H; have H := H1; clear H1; replace H := Option.bind_eq_some_iff.mp H; obtain ⟨t466, A130, H⟩ := H; replace H : (if 1 ≤ (t466.length : Int) then ((some (t466.drop (1 : Int).toNat : List Int)).bind fun y469 => (shape_Rank.l0 kj2 l1 0 y469 (y469.length : Int) 0 l0_0 a0_1)) else (none)) = some (r1, r2) := H; have A13 := zk A130; clear A130; by_cases c14 : 1 ≤ (t466.length : Int)
    ·rw [if_pos c14] at H; have c14b0 := eq_true c14; have c14b1 : decide (1 ≤ (t466.length : Int)) = true := decide_eq_true c14; clear c14; obtain ⟨y469, hy469⟩ : ∃ y_ : List Int, y_ = (t466.drop (1 : Int).toNat) := ⟨_, rfl⟩
     replace H : (shape_Rank.l0 kj2 l1 0 y469 (y469.length : Int) 0 l0_0 a0_1) = some (r1, r2) := by first | (rw [hy469]; with_reducible exact H) | (have H2_ := (Option.bind_some _ _).symm.trans H; rw [hy469]; with_reducible exact H2_) | (have H2_ := (Option.bind_some _ _).symm.trans H; with_reducible exact H2_) | with_reducible exact H | (rw [hy469]; exact H) | exact H
     have Ny469 := zk hy469; clear hy469; have H' := zk H; clear H; have hcz15_0 : wc.cell? ⟨gb464, 0, none⟩ = some (.slice A0_0 l0_0.length c0_0) := zh BK464.out 0; have hcz15_1 : wc.cell? ⟨gb464, 1, none⟩ = some (.int .i64 a0_1) := zh BK464.out 1; have hfz15_0 := blk_frozen BK464.out 0; have hfz15_1 := blk_frozen BK464.out 1; go_wp2_with (first | ((with_reducible refine gate_callee (f := 75) rfl ?_); refine goesL_ (some 23) rfl rfl Try.func75 zz rfl #[.agg #[.slice A0_0 l0_0.length c0_0, .int .i64 a0_1]] rfl zM ?_; (with_reducible refine (shape_steps.calls kj2 _ _ l0_0 a0_1 t466 _ ?side1 ?side2 A13.out).mono ?_); (case side1 => exact zc (Kd.C_below HR0_0.out HB.out)); (case side2 => exact HC0_0.out); rintro e w16 ⟨v467, rfl, ho0, hb⟩; refine ⟨_, rfl, ?_⟩; have HO468 := zk (Kd.R_lower ho0 (below_size (zU HB.out))); replace BK464 := zk (zbb BK464.out hb); replace HB := zk (below_step (zU HB.out) hb);  (try clear hb); (try clear hb2); (try clear hk); (try clear hi); (try clear ho0); obtain ⟨Ao17, co17, eo17⟩ := Kd.R_slice HO468.out; subst eo17; have q18 : (1 : Int) ≤ ((t466.length : Int) : Int) := zT; obtain ⟨i018, hi018, _, hsz18, _⟩ := info_parts info3; have hcut18 := cut_from (P := Try.prog) 53 3 .i64 Try.underlying53 hi018 1 hsz18 Ao17 t466.length co17 1 (by omega) q18; have hr18 := Kd.Q_drop (k := (1 : Int).toNat) (Kd.Q_of_R HO468.out) (by omega); obtain ⟨A18, hA18⟩ : ∃ A1, A1 = (if co17 = (1 : Int).toNat then Ao17 else (Ao17 : Option Addr).map (·.add ((1 : Int).toNat * 1))) := ⟨_, rfl⟩; obtain ⟨c18, hc18⟩ : ∃ c1, c1 = co17 - (1 : Int).toNat := ⟨_, rfl⟩; have hy18 : y469.length = t466.length - (1 : Int).toNat := (by rw [Ny469.out, List.length_drop]); rw [← Ny469.out] at hr18; rw [← hy18, ← hA18, ← hc18] at hcut18; replace hr18 : Kd.Q (Kd.int .i64) 3 w16 w.heap.size (fun _ => True) (.slice A18 y469.length c18) y469 := (by rw [hA18, hc18, hy18]; exact hr18); have HE18 : Aside0 ((Value.slice A18 y469.length c18).ownBlock = (.slice Ao17 t466.length co17 : Value).ownBlock) := ⟨by rw [hA18]; split <;> (cases (Ao17 : Option Addr) <;> rfl)⟩; clear hy18 hi018 hsz18 HO468 hA18 hc18; have HO471 := zk hr18; clear hr18; replace q18 := eq_true q18))
     go_loopg [6, 26] kj2 (fun kq v6 v26 w' => ∃ (x6_2 : Int) (x26_2 : Int), v6 = .int .i64 x6_2 ∧ v26 = .int .i64 x26_2 ∧ Aside0 (shape_Rank.l0 kq l1 x6_2 y469 (y469.length : Int) x26_2 l0_0 a0_1 = some (r1, r2)) ∧ Aside0 (kq ≤ kj2) ∧ Aside0 (Kd.Q (Kd.int .i64) 3 w' w.heap.size (fun _ => True) (.slice A18 y469.length c18) y469) ∧ Aside0 (w'.heap[gb464]? = some (.cells #[(.slice A0_0 l0_0.length c0_0), .int .i64 a0_1] 47 (0, 0))) ∧ Aside0 (Below w.heap.size w w'))
     case atStart => exact ⟨(0), (0), zR, zR, H', ⟨Nat.le_refl _⟩, ⟨by (with_reducible repeat (first | apply Kd.Q_alloc | apply Kd.Q_drewN | apply Kd.Q_drew)); exact HO471.out⟩, ⟨zb BK464.out⟩, ⟨zU HB.out⟩⟩
     case round =>
      clear H'; (try clear c1); (try clear q1); (try clear p2); (try clear c6); (try clear c7); (try clear c12); (try clear c14); (try clear c14b0); (try clear c14b1); (try clear c18); (try clear q18); (try clear hcz10_0); (try clear hcz10_1); (try clear hcz15_0); (try clear hcz15_1); (try clear hcz7_0); (try clear hcz7_1); (try clear hcz9_0); (try clear hcz9_1); (try clear hfz10_0); (try clear hfz10_1); (try clear hfz15_0); (try clear hfz15_1); (try clear hfz7_0); (try clear hfz7_1); (try clear hfz9_0); (try clear hfz9_1); (try clear p2); (try clear q18); obtain ⟨x6_2, x26_2, rfl, rfl, HA, HK2, HO_24, BK464, HB⟩ := hrel
      cases gk with
      | zero => exact absurd HA.out (by simp [shape_Rank.l0])
      | succ k2 =>
       have H := HA.out; clear HA; simp only [shape_Rank.l0] at H; by_cases c19 : x26_2 < (y469.length : Int)
       ·rw [if_pos c19] at H; have c19b0 : decide (x26_2 < (y469.length : Int)) = true := decide_eq_true c19; clear c19; by_cases c20 : 0 ≤ x26_2
        ·rw [if_pos c20] at H; have c20b0 : decide (0 ≤ x26_2) = true := decide_eq_true c20; clear c20; by_cases c21 : x26_2 < (y469.length : Int)
         ·rw [if_pos c21] at H; have c21b0 : decide (x26_2 < (y469.length : Int)) = true := decide_eq_true c21; clear c21; by_cases c22 : x26_2 < (l0_0.length : Int)
          ·rw [if_pos c22] at H; have c22b0 : decide (x26_2 < (l0_0.length : Int)) = true := decide_eq_true c22; clear c22; by_cases c23 : x26_2 < (l1.length : Int)
           ·rw [if_pos c23] at H; have c23b0 : decide (x26_2 < (l1.length : Int)) = true := decide_eq_true c23; clear c23; replace H := Option.bind_eq_some_iff.mp H; obtain ⟨⟨t475, t476⟩, A240, H⟩ := H; replace H : (if t476 = true then (shape_Rank.l0 k2 l1 (wrap64 (x6_2 + (wrap64 (t475 * (rd y469 x26_2))))) y469 (y469.length : Int) (wrap64 (x26_2 + 1)) l0_0 a0_1) else (some (0, false))) = some (r1, r2) := H; have A24 := zk A240; clear A240; by_cases c25 : t476 = true
            ·subst c25; have H1 : (shape_Rank.l0 k2 l1 (wrap64 (x6_2 + (wrap64 (t475 * (rd y469 x26_2))))) y469 (y469.length : Int) (wrap64 (x26_2 + 1)) l0_0 a0_1) = some (r1, r2) := by rw [if_pos rfl] at H; exact H
             clear H; have H := H1; clear H1; have H' := zk H; clear H; have p472 : 0 ≤ (x26_2 : Int) := zT; have q472 : x26_2 < (y469.length : Int) := zT; obtain ⟨ad472, e472, hx472_0⟩ := Kd.at_int (Kd.Q_reads' HO_24.out).2.2 x26_2 p472 q472; cases e472; replace p472 := eq_true p472; replace q472 := eq_true q472; try go_wp2
             have n0_ := zk (Kd.Q_drew HO_24.out); have n1_ := zk (blk_drew BK464.out); have n2_ := zk (below_drew1 HB.out); clear HO_24; clear BK464; clear HB; have HO_24 := n0_; have BK464 := n1_; have HB := n2_; clear n0_ n1_ n2_; have p473 : 0 ≤ (x26_2 : Int) := zT; have q473 : x26_2 < (l0_0.length : Int) := zT; obtain ⟨ad473, A473_0, c473_0, e473, hx473_0, hl473_0, hi473_0⟩ := at_L4 HR0_0.out x26_2 p473 q473; have hw473_0 := hx473_0; cases e473; replace hx473_0 := zcl HB.out hx473_0; have HR473_0 := zk hi473_0; have HC473_0 := zk hl473_0; clear hi473_0 hl473_0; replace p473 := eq_true p473; replace q473 := eq_true q473; have p474 : 0 ≤ (x26_2 : Int) := zT; have q474 : x26_2 < (l1.length : Int) := zT; obtain ⟨ad474, e474, hx474_0⟩ := Kd.at_int HR1.out x26_2 p474 q474; have hw474_0 := hx474_0; cases e474; replace hx474_0 := zcl HB.out hx474_0; replace p474 := eq_true p474; replace q474 := eq_true q474; refine start_ (n := 16) (S := fun w' => w'.cell? ⟨gb464, 0, none⟩ = some (.slice (some ad473) l0_0.length c0_0) ∧ w'.cell? ⟨gb464, 1, none⟩ = some (.int .i64 a0_1) ∧ w'.cell? (ad473.add (x26_2).toNat) = some (.slice A473_0 (rd_L4 l0_0 x26_2).length c473_0) ∧ w'.cell? (ad474.add (x26_2).toNat) = some (.int .u8 (rd l1 x26_2))) (ds := []) #[false, false, false, false, false, false, false, false, false, false, false, false, false, false, false, false] zz rfl rfl ⟨(blk_cell BK464.out 0).trans rfl, (blk_cell BK464.out 1).trans rfl, (zcl HB.out hw473_0), (zcl HB.out hw474_0)⟩ (fun hHeld => ?_); refine with_tabW shape_Rank.tab7 shape_Rank.bits7 (fun HT_ HW_ => ?_); generalize wr.drew = w26 at HO_24 BK464 HB HR473_0 hx473_0 hx474_0 hHeld ⊢; refine zp 0 (some 32) (v := ?_) (a' := ?_) (bz 16 1) rfl rfl HT_.out zz zQ ?_ ?_ ?_; rotate_left
             ·intro w'; go_simp; with_reducible rfl
             rotate_left
             ·simp only [Act.put, zv, i64_w, i32_w]; rfl
             refine zp 2 (some 34) (v := ?_) (a' := ?_) (bz 16 5) rfl rfl HT_.out zz zQ ?_ ?_ ?_; rotate_left
             ·intro w'; go_simp; with_reducible rfl
             rotate_left
             ·simp only [Act.put, zv, i64_w, i32_w]; rfl
             refine zp 5 (some 37) (v := ?_) (a' := ?_) (bz 16 37) rfl rfl HT_.out zz zQ ?_ ?_ ?_; rotate_left
             ·intro w'; go_simp; with_reducible rfl
             rotate_left
             ·simp only [Act.put, zv, i64_w, i32_w]; rfl
             refine zp 6 (some 38) (v := ?_) (a' := ?_) (bz 16 101) rfl rfl HT_.out zz zQ ?_ ?_ ?_; rotate_left
             ·intro w'; go_simp; with_reducible rfl
             rotate_left
             ·simp only [Act.put, zv, i64_w, i32_w]; rfl
             refine zp 7 (some 39) (v := ?_) (a' := ?_) (bz 16 229) rfl rfl HT_.out zz zQ ?_ ?_ ?_; rotate_left
             ·intro w'; go_simp; with_reducible rfl
             rotate_left
             ·simp only [Act.put, zv, i64_w, i32_w]; rfl
             refine take_ (i := 1) (N := some 33) (v := ?_) (a' := ?_) (bz 16 231) rfl rfl (take_ofW HT_.out HW_.out zz) zQ (Or.inl ⟨by rfl, ?_⟩) hHeld ?_ ?_; rotate_left
             ·rintro w' ⟨s0, s1, s2, s3⟩; go_simp; with_reducible rfl
             rotate_left
             ·simp only [Act.put, zv, i64_w, i32_w]; rfl
             refine zp 3 (some 35) (v := ?_) (a' := ?_) (bz 16 239) rfl rfl HT_.out zz zQ ?_ ?_ ?_; rotate_left
             ·intro w'; go_simp; with_reducible rfl
             rotate_left
             ·simp only [Act.put, zv, i64_w, i32_w]; rfl
             refine take_ (i := 4) (N := some 36) (v := ?_) (a' := ?_) (bz 16 255) rfl rfl (take_ofW HT_.out HW_.out zz) zQ (Or.inl ⟨by rfl, ?_⟩) hHeld ?_ ?_; rotate_left
             ·rintro w' ⟨s0, s1, s2, s3⟩; go_simp; with_reducible rfl
             rotate_left
             ·simp only [Act.put, zv, i64_w, i32_w]; rfl
             refine take_ (i := 8) (N := some 40) (v := ?_) (a' := ?_) (bz 16 511) rfl rfl (take_ofW HT_.out HW_.out zz) zQ (Or.inl ⟨by rfl, ?_⟩) hHeld ?_ ?_; rotate_left
             ·rintro w' ⟨s0, s1, s2, s3⟩; go_simp; with_reducible rfl
             rotate_left
             ·simp only [Act.put, zv, i64_w, i32_w]; rfl
             refine zp 9 (some 41) (v := ?_) (a' := ?_) (bz 16 1023) rfl rfl HT_.out zz zQ ?_ ?_ ?_; rotate_left
             ·intro w'; go_simp; with_reducible rfl
             rotate_left
             ·simp only [Act.put, zv, i64_w, i32_w]; rfl
             refine one_ (i := 10) (N := some 42) (bz 16 2047) rfl rfl (one_of HT_.out zz) (by decide) (fun K hK => ?_); refine goes_ Try.func77 zz rfl #[.slice A473_0 (rd_L4 l0_0 x26_2).length c473_0, .int .i64 (wrap64 (rd l1 x26_2))] (by rfl) rfl rfl zM ?_; with_reducible refine (spans_Rank.calls k2 _ _ (rd_L4 l0_0 x26_2) (wrap64 (rd l1 x26_2)) t475 true _ ?side1 ?side2 A24.out).mono ?_; (case side1 => exact zc (Kd.C_below HR473_0.out HB.out))
             (case side2 => exact HC473_0.out)
             rintro e w27 ⟨rfl, hb⟩; refine ⟨_, rfl, ?_⟩; have n0_ := zk (Kd.Q_below (by (with_reducible repeat (first | apply Kd.Q_alloc | apply Kd.Q_drewN | apply Kd.Q_drew)); exact HO_24.out) hb); have n1_ := zk (zbb BK464.out hb); have n2_ := zk (below_step (zU HB.out) hb); clear HO_24; clear BK464; clear HB; have HO_24 := n0_; have BK464 := n1_; have HB := n2_; clear n0_ n1_ n2_; (try clear hb); (try clear hb2); (try clear hk); (try clear hi); refine hK.out _ _ ⟨(blk_cell BK464.out 0).trans rfl, (blk_cell BK464.out 1).trans rfl, (zcl HB.out hw473_0), (zcl HB.out hw474_0)⟩ (fun hHeld => ?_); clear hK K; refine norm_ (a' := ?_) ?_ ?_; rotate_left
             ·show Act.put _ (some 42) _ = _; simp only [Act.put, zv, i64_w, i32_w]; rfl
             refine zp 11 (some 31) (v := ?_) (a' := ?_) (bz 16 4095) rfl rfl HT_.out zz zQ ?_ ?_ ?_; rotate_left
             ·intro w'; go_simp; with_reducible rfl
             rotate_left
             ·simp only [Act.put, zv, i64_w, i32_w]; rfl
             refine zp 12 (some 43) (v := ?_) (a' := ?_) (bz 16 8191) rfl rfl HT_.out zz zQ ?_ ?_ ?_; rotate_left
             ·intro w'; go_simp; with_reducible rfl
             rotate_left
             ·simp only [Act.put, zv, i64_w, i32_w]; rfl
             refine zp 13 (some 44) (v := ?_) (a' := ?_) (bz 16 16383) rfl rfl HT_.out zz zQ ?_ ?_ ?_; rotate_left
             ·intro w'; go_simp; with_reducible rfl
             rotate_left
             ·simp only [Act.put, zv, i64_w, i32_w]; rfl
             refine zp 14 (some 9) (v := ?_) (a' := ?_) (bz 16 32767) rfl rfl HT_.out zz zQ ?_ ?_ ?_; rotate_left
             ·intro w'; go_simp; with_reducible rfl
             rotate_left
             ·simp only [Act.put, zv, i64_w, i32_w]; rfl
             refine zp 15 (some 10) (v := ?_) (a' := ?_) (bz 16 65535) rfl rfl HT_.out zz zQ ?_ ?_ ?_; rotate_left
             ·intro w'; go_simp; with_reducible rfl
             rotate_left
             ·simp only [Act.put, zv, i64_w, i32_w]; rfl
             refine done_ (done_of HT_.out zz) ?_; try go_wp2
             go_roundg k2
             case measure => have := HJ2.out; have := HK2.out; omega
             case rel => exact ⟨(wrap64 (x6_2 + (wrap64 (t475 * (rd y469 x26_2))))), (wrap64 (x26_2 + 1)), zR, zR, H', ⟨by have := HJ2.out; have := HK2.out; omega⟩, ⟨by (with_reducible repeat (first | apply Kd.Q_alloc | apply Kd.Q_drewN | apply Kd.Q_drew)); exact HO_24.out⟩, ⟨zb BK464.out⟩, ⟨zU HB.out⟩⟩
            ·replace c25 := Bool.eq_false_iff.mpr c25; subst c25; have H1 : (some (0, false)) = some (r1, r2) := by rw [if_neg (show ¬ (false = true) by decide)] at H; exact H
             clear H; have H := H1; clear H1; simp only [Option.some.injEq, Prod.mk.injEq] at H; obtain ⟨rfl, rfl⟩ := H; have p472 : 0 ≤ (x26_2 : Int) := zT; have q472 : x26_2 < (y469.length : Int) := zT; obtain ⟨ad472, e472, hx472_0⟩ := Kd.at_int (Kd.Q_reads' HO_24.out).2.2 x26_2 p472 q472; cases e472; replace p472 := eq_true p472; replace q472 := eq_true q472; try go_wp2
             have n0_ := zk (Kd.Q_drew HO_24.out); have n1_ := zk (blk_drew BK464.out); have n2_ := zk (below_drew1 HB.out); clear HO_24; clear BK464; clear HB; have HO_24 := n0_; have BK464 := n1_; have HB := n2_; clear n0_ n1_ n2_; have p473 : 0 ≤ (x26_2 : Int) := zT; have q473 : x26_2 < (l0_0.length : Int) := zT; obtain ⟨ad473, A473_0, c473_0, e473, hx473_0, hl473_0, hi473_0⟩ := at_L4 HR0_0.out x26_2 p473 q473; have hw473_0 := hx473_0; cases e473; replace hx473_0 := zcl HB.out hx473_0; have HR473_0 := zk hi473_0; have HC473_0 := zk hl473_0; clear hi473_0 hl473_0; replace p473 := eq_true p473; replace q473 := eq_true q473; have p474 : 0 ≤ (x26_2 : Int) := zT; have q474 : x26_2 < (l1.length : Int) := zT; obtain ⟨ad474, e474, hx474_0⟩ := Kd.at_int HR1.out x26_2 p474 q474; have hw474_0 := hx474_0; cases e474; replace hx474_0 := zcl HB.out hx474_0; replace p474 := eq_true p474; replace q474 := eq_true q474; refine start_ (n := 16) (S := fun w' => w'.cell? ⟨gb464, 0, none⟩ = some (.slice (some ad473) l0_0.length c0_0) ∧ w'.cell? ⟨gb464, 1, none⟩ = some (.int .i64 a0_1) ∧ w'.cell? (ad473.add (x26_2).toNat) = some (.slice A473_0 (rd_L4 l0_0 x26_2).length c473_0) ∧ w'.cell? (ad474.add (x26_2).toNat) = some (.int .u8 (rd l1 x26_2))) (ds := []) #[false, false, false, false, false, false, false, false, false, false, false, false, false, false, false, false] zz rfl rfl ⟨(blk_cell BK464.out 0).trans rfl, (blk_cell BK464.out 1).trans rfl, (zcl HB.out hw473_0), (zcl HB.out hw474_0)⟩ (fun hHeld => ?_); refine with_tabW shape_Rank.tab7 shape_Rank.bits7 (fun HT_ HW_ => ?_); generalize wr.drew = w28 at HO_24 BK464 HB HR473_0 hx473_0 hx474_0 hHeld ⊢; refine zp 0 (some 32) (v := ?_) (a' := ?_) (bz 16 1) rfl rfl HT_.out zz zQ ?_ ?_ ?_; rotate_left
             ·intro w'; go_simp; with_reducible rfl
             rotate_left
             ·simp only [Act.put, zv, i64_w, i32_w]; rfl
             refine zp 2 (some 34) (v := ?_) (a' := ?_) (bz 16 5) rfl rfl HT_.out zz zQ ?_ ?_ ?_; rotate_left
             ·intro w'; go_simp; with_reducible rfl
             rotate_left
             ·simp only [Act.put, zv, i64_w, i32_w]; rfl
             refine zp 5 (some 37) (v := ?_) (a' := ?_) (bz 16 37) rfl rfl HT_.out zz zQ ?_ ?_ ?_; rotate_left
             ·intro w'; go_simp; with_reducible rfl
             rotate_left
             ·simp only [Act.put, zv, i64_w, i32_w]; rfl
             refine zp 6 (some 38) (v := ?_) (a' := ?_) (bz 16 101) rfl rfl HT_.out zz zQ ?_ ?_ ?_; rotate_left
             ·intro w'; go_simp; with_reducible rfl
             rotate_left
             ·simp only [Act.put, zv, i64_w, i32_w]; rfl
             refine zp 7 (some 39) (v := ?_) (a' := ?_) (bz 16 229) rfl rfl HT_.out zz zQ ?_ ?_ ?_; rotate_left
             ·intro w'; go_simp; with_reducible rfl
             rotate_left
             ·simp only [Act.put, zv, i64_w, i32_w]; rfl
             refine take_ (i := 1) (N := some 33) (v := ?_) (a' := ?_) (bz 16 231) rfl rfl (take_ofW HT_.out HW_.out zz) zQ (Or.inl ⟨by rfl, ?_⟩) hHeld ?_ ?_; rotate_left
             ·rintro w' ⟨s0, s1, s2, s3⟩; go_simp; with_reducible rfl
             rotate_left
             ·simp only [Act.put, zv, i64_w, i32_w]; rfl
             refine zp 3 (some 35) (v := ?_) (a' := ?_) (bz 16 239) rfl rfl HT_.out zz zQ ?_ ?_ ?_; rotate_left
             ·intro w'; go_simp; with_reducible rfl
             rotate_left
             ·simp only [Act.put, zv, i64_w, i32_w]; rfl
             refine take_ (i := 4) (N := some 36) (v := ?_) (a' := ?_) (bz 16 255) rfl rfl (take_ofW HT_.out HW_.out zz) zQ (Or.inl ⟨by rfl, ?_⟩) hHeld ?_ ?_; rotate_left
             ·rintro w' ⟨s0, s1, s2, s3⟩; go_simp; with_reducible rfl
             rotate_left
             ·simp only [Act.put, zv, i64_w, i32_w]; rfl
             refine take_ (i := 8) (N := some 40) (v := ?_) (a' := ?_) (bz 16 511) rfl rfl (take_ofW HT_.out HW_.out zz) zQ (Or.inl ⟨by rfl, ?_⟩) hHeld ?_ ?_; rotate_left
             ·rintro w' ⟨s0, s1, s2, s3⟩; go_simp; with_reducible rfl
             rotate_left
             ·simp only [Act.put, zv, i64_w, i32_w]; rfl
             refine zp 9 (some 41) (v := ?_) (a' := ?_) (bz 16 1023) rfl rfl HT_.out zz zQ ?_ ?_ ?_; rotate_left
             ·intro w'; go_simp; with_reducible rfl
             rotate_left
             ·simp only [Act.put, zv, i64_w, i32_w]; rfl
             refine one_ (i := 10) (N := some 42) (bz 16 2047) rfl rfl (one_of HT_.out zz) (by decide) (fun K hK => ?_); refine goes_ Try.func77 zz rfl #[.slice A473_0 (rd_L4 l0_0 x26_2).length c473_0, .int .i64 (wrap64 (rd l1 x26_2))] (by rfl) rfl rfl zM ?_; with_reducible refine (spans_Rank.calls k2 _ _ (rd_L4 l0_0 x26_2) (wrap64 (rd l1 x26_2)) t475 false _ ?side1 ?side2 A24.out).mono ?_; (case side1 => exact zc (Kd.C_below HR473_0.out HB.out))
             (case side2 => exact HC473_0.out)
             rintro e w29 ⟨rfl, hb⟩; refine ⟨_, rfl, ?_⟩; have n0_ := zk (Kd.Q_below (by (with_reducible repeat (first | apply Kd.Q_alloc | apply Kd.Q_drewN | apply Kd.Q_drew)); exact HO_24.out) hb); have n1_ := zk (zbb BK464.out hb); have n2_ := zk (below_step (zU HB.out) hb); clear HO_24; clear BK464; clear HB; have HO_24 := n0_; have BK464 := n1_; have HB := n2_; clear n0_ n1_ n2_; (try clear hb); (try clear hb2); (try clear hk); (try clear hi); refine hK.out _ _ ⟨(blk_cell BK464.out 0).trans rfl, (blk_cell BK464.out 1).trans rfl, (zcl HB.out hw473_0), (zcl HB.out hw474_0)⟩ (fun hHeld => ?_); clear hK K; refine norm_ (a' := ?_) ?_ ?_; rotate_left
             ·show Act.put _ (some 42) _ = _; simp only [Act.put, zv, i64_w, i32_w]; rfl
             refine zp 11 (some 31) (v := ?_) (a' := ?_) (bz 16 4095) rfl rfl HT_.out zz zQ ?_ ?_ ?_; rotate_left
             ·intro w'; go_simp; with_reducible rfl
             rotate_left
             ·simp only [Act.put, zv, i64_w, i32_w]; rfl
             refine zp 12 (some 43) (v := ?_) (a' := ?_) (bz 16 8191) rfl rfl HT_.out zz zQ ?_ ?_ ?_; rotate_left
             ·intro w'; go_simp; with_reducible rfl
             rotate_left
             ·simp only [Act.put, zv, i64_w, i32_w]; rfl
             refine zp 13 (some 44) (v := ?_) (a' := ?_) (bz 16 16383) rfl rfl HT_.out zz zQ ?_ ?_ ?_; rotate_left
             ·intro w'; go_simp; with_reducible rfl
             rotate_left
             ·simp only [Act.put, zv, i64_w, i32_w]; rfl
             refine zp 14 (some 9) (v := ?_) (a' := ?_) (bz 16 32767) rfl rfl HT_.out zz zQ ?_ ?_ ?_; rotate_left
             ·intro w'; go_simp; with_reducible rfl
             rotate_left
             ·simp only [Act.put, zv, i64_w, i32_w]; rfl
             refine zp 15 (some 10) (v := ?_) (a' := ?_) (bz 16 65535) rfl rfl HT_.out zz zQ ?_ ?_ ?_; rotate_left
             ·intro w'; go_simp; with_reducible rfl
             rotate_left
             ·simp only [Act.put, zv, i64_w, i32_w]; rfl
             refine done_ (done_of HT_.out zz) ?_; try go_wp2
             go_ret2
             exact ⟨ze, zU HB.out⟩
           ·rw [if_neg c23] at H; exact absurd H (by simp)
          ·rw [if_neg c22] at H; exact absurd H (by simp)
         ·rw [if_neg c21] at H; exact absurd H (by simp)
        ·rw [if_neg c20] at H; exact absurd H (by simp)
       ·rw [if_neg c19] at H; have c19b0 : decide (x26_2 < (y469.length : Int)) = false := decide_eq_false c19; clear c19; simp only [Option.some.injEq, Prod.mk.injEq] at H; obtain ⟨rfl, rfl⟩ := H; go_wp2
        go_ret2
        exact ⟨ze, zU HB.out⟩
    ·rw [if_neg c14] at H; exact absurd H (by simp)
def cloneSpan.f (l0 : List (S34)) : Option (List (S34)) := if l0.length < 8796093022208 then some l0 else none
set_option maxHeartbeats 8000000 in
set_option maxRecDepth 100000 in
theorem cloneSpan.calls (A0 : Option Addr) (c0 : Nat) (l0 r : List (S34)) (w : World) (hr0 : Kd.C k34 w A0 l0.length l0) (hc0 : l0.length ≤ c0) (h : cloneSpan.f l0 = some r) :
 Calls Try.prog 117 #[.slice A0 l0.length c0] w fun e w' => ∃ v0_ : Value, e = .returned v0_ ∧ Kd.R k34 34 w' w.heap.size (fun _ => True) v0_ r ∧ Below w.heap.size w w' := by
 unfold cloneSpan.f at h; split at h
 case isFalse => cases h
 case isTrue hbig =>
 obtain rfl := Option.some.inj h; have HR0 := zk hr0; have HL := zk hbig; have q22 : ∀ (w : World) (a : Option Addr) (n c n' c' : Nat), (binOp .eql 22 (.slice a n c) (.slice none n' c')).run Try.prog w = .ok (.bool a.isNone) w := fun w a n c n' c' => Lib.run_eql_slice_nil w _ _ a n c n' c' Try.underlying22
 clear h hbig hc0; cases A0 with
 | none =>
  have h0 : l0 = [] := by
   rcases Nat.eq_zero_or_pos l0.length with h0 | hp
   ·exact List.eq_nil_of_length_eq_zero h0
   ·obtain ⟨ad, e, _⟩ := hr0.2.2 hp; cases e
  subst h0; clear hr0 HR0 HL; go_enter Try.func117, Try.ntmps117
  go_wp2
  go_ret
  exact ⟨_, rfl, Kd.R_nil _ _ _ _ _, Below.refl _ _⟩
 | some ad =>
  clear hr0; have HB := zk (Below.refl w.heap.size w); go_enter Try.func117, Try.ntmps117
  go_wp2_with (first
   | ((with_reducible refine gate_dst (N := 5) rfl ?_); refine Kd.R_lit k34 _ 34 ?hg (N := 5) ?hd (xs := ([] : List (S34))) (inner := []) (ok := fun _ => True) (okp := fun _ => True) ?hr ?hp (fun _ hk => hk) trivial (Below.refl _ _) (Nat.le_refl _) (by simp) ?_; (case hd => rfl); (case hg => rfl); (case hr => first | (go_simp; done) | (go_simp; rfl)); (case hp => exact (Reps.none _ _)); intro v3 w3 ho4 hb hg_ hnew_; clear hg_ hnew_; have HO4 := zk (Kd.R_lower ho4 (below_size HB.out)); replace HB := zk (below_step HB.out hb);  clear hb ho4)
   | ((with_reducible refine gate_builtin (b := .append) (xs := #[.tmp 5, .tmp 6]) rfl ?_); at_builtin; refine Kd.R_append_rows k34 (w0 := w) w.heap.size rfl (.tmp 5) (.tmp 6) 22 34 (.agg #[(.int .i64 0), (.int .i64 0)]) 16 rfl Try.underlying22 info34 rfl (by decide) (by omega) v3 [] l0 _ _ _ (fun _ => True) (fun _ => False) rfl rfl ?aO ?aR (fun _ _ h => h) (fun _ h => h.elim) ?aF ?aB ?aS ?aL ?_; (case aR => exact (Kd.C_below HR0.out HB.out)); (case aB => exact HB.out); (case aF => exact (fun _ _ => trivial)); (case aO => exact HO4.out); (case aS => exact (below_size HB.out)); (case aL => have := HL.out; simp only [List.length_nil]; omega); intro v5 w5 ho hb hg hat; rw [List.nil_append] at ho; have n0_ := zk hb; have n1_ := zk ho; clear HB; clear HO4; have HB := n0_; have HO5 := n1_; clear n0_ n1_; clear ho hb hg hat))
  go_ret
  exact ⟨_, rfl, HO5.out, HB.out⟩
end Go.Proofs.Ytoljcfocgaonpaa.I
