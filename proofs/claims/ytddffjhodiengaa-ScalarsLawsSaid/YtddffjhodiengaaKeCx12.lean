/- Words and walks of this claim, of the text Cx12. -/
import Derived.Test.YtddffjhodiengaaKeCx0
import Derived.Test.YtddffjhodiengaaKeCx3
namespace Go.Proofs.Ytddffjhodiengaa.C
open Go.RowKit Go.Proofs.YtddffjhodiengaaW.PrintWords Go.Proofs.YtddffjhodiengaaW.PrintLast Go.Proofs.YtddffjhodiengaaW.PrintMore
attribute [local go_sem] max2_int min2_int max_two min_two max_three min_three max_four min_four
set_option linter.unusedVariables false
set_option linter.unusedSimpArgs false
mutual
def sets_Meet.l0 : Nat → List (S72) → List (S72) → List (S72) → Option ((List (S72)))
  | 0, _, _, _ => none
  | k + 1, x0, x1, x5 => if (x0.length : Int) > 0 then (sets_Meet.j1 k x0 x1 x5 (decide ((x1.length : Int) > 0))) else (sets_Meet.j1 k x0 x1 x5 false)
def sets_Meet.j1 : Nat → List (S72) → List (S72) → List (S72) → Bool → Option ((List (S72)))
  | 0, _, _, _, _ => none
  | k + 1, x0, x1, x5, x15 => if x15 = true then (if 0 < (x0.length : Int) then (if 0 < (x1.length : Int) then (if (mx ((rd_T72 x0 0).f0) ((rd_T72 x1 0).f0)) ≤ (mn ((rd_T72 x0 0).f1) ((rd_T72 x1 0).f1)) then (if x5.length < 8796093022208 then ((some (x5 ++ [(⟨mx ((rd_T72 x0 0).f0) ((rd_T72 x1 0).f0), mn ((rd_T72 x0 0).f1) ((rd_T72 x1 0).f1)⟩ : S72)] : List (S72))).bind fun y418 => (if ((rd_T72 x0 0).f1) < ((rd_T72 x1 0).f1) then (if 1 ≤ (x0.length : Int) then (sets_Meet.l0 k (x0.drop 1) x1 y418) else (none)) else (if 1 ≤ (x1.length : Int) then (sets_Meet.l0 k x0 (x1.drop 1) y418) else (none)))) else (none)) else (if ((rd_T72 x0 0).f1) < ((rd_T72 x1 0).f1) then (if 1 ≤ (x0.length : Int) then (sets_Meet.l0 k (x0.drop 1) x1 x5) else (none)) else (if 1 ≤ (x1.length : Int) then (sets_Meet.l0 k x0 (x1.drop 1) x5) else (none)))) else (none)) else (none)) else (some x5)
end
def sets_Meet.f (k : Nat) (l0 : List (S72)) (l1 : List (S72)) : Option ((List (S72))) := sets_Meet.l0 k l0 l1 ([] : List (S72))
set_option maxHeartbeats 8000000 in
set_option maxRecDepth 100000 in
theorem sets_Meet.calls (k : Nat) (P0_ : Nat → Prop) (A0 : Option Addr) (c0 : Nat) (l0 : List (S72)) (P1_ : Nat → Prop) (A1 : Option Addr) (c1 : Nat) (l1 : List (S72)) (r : List (S72)) (w : World) (hs0 : Kd.V k72 72 w w.heap.size (fun k_ => P0_ k_) (.slice A0 l0.length c0) l0) (hs1 : Kd.V k72 72 w w.heap.size (fun k_ => P1_ k_) (.slice A1 l1.length c1) l1) (h : sets_Meet.f k l0 l1 = some r) :
    Calls Try.prog 84 #[.slice A0 l0.length c0, .slice A1 l1.length c1] w fun e w' => ∃ v0_ : Value, e = .returned (v0_) ∧ Kd.R k72 72 w' w.heap.size (fun k_ => (w.heap.size ≤ k_)) v0_ r ∧ Below w.heap.size w w' := by
  have hu72 := Try.underlying72
  have HO0 := Aside0.mk (show Kd.V k72 72 w w.heap.size (fun k_ => ((P0_ k_ ∨ P1_ k_) ∨ w.heap.size ≤ k_)) (.slice A0 l0.length c0) l0 from Kd.V_mono hs0 (fun k_ hk => .inl (.inl hk)))
  have HO1 := Aside0.mk (show Kd.V k72 72 w w.heap.size (fun k_ => ((P0_ k_ ∨ P1_ k_) ∨ w.heap.size ≤ k_)) (.slice A1 l1.length c1) l1 from Kd.V_mono hs1 (fun k_ hk => .inl (.inr hk)))
  have HB := Aside0.mk (Below.refl w.heap.size w)
  have H : (sets_Meet.l0 k l0 l1 ([] : List (S72))) = some r := h
  clear h
  have H' := Aside0.mk H
  clear H
  go_enter Try.func84, Try.ntmps84
  go_wp2
  repeat (go_quiet (fail); try go_wp2)
  go_loopg [0, 1, 5] k (fun kq v0 v1 v5 w' => ∃ (x0_1 : List (S72)) (x1_1 : List (S72)) (x5_1 : List (S72)), Aside0 (sets_Meet.l0 kq x0_1 x1_1 x5_1 = some r) ∧ Aside0 (kq ≤ k) ∧ Aside0 (Kd.V k72 72 w' w.heap.size (fun k_ => ((P0_ k_ ∨ P1_ k_) ∨ w.heap.size ≤ k_) ∧ some k_ ≠ (v5 : Value).ownBlock) v0 x0_1) ∧ Aside0 (Kd.V k72 72 w' w.heap.size (fun k_ => ((P0_ k_ ∨ P1_ k_) ∨ w.heap.size ≤ k_) ∧ some k_ ≠ (v5 : Value).ownBlock) v1 x1_1) ∧ Aside0 (Kd.R k72 72 w' w.heap.size (fun k_ => (w.heap.size ≤ k_)) v5 x5_1) ∧ Aside0 (Below w.heap.size w w'))
  case atStart => exact ⟨(l0), (l1), (([] : List (S72))), H', ⟨Nat.le_refl _⟩, ⟨by (with_reducible repeat (first | apply Kd.V_alloc | apply Kd.V_drewN | apply Kd.V_drew)); exact Kd.V_mono HO0.out (fun _ hk => ⟨hk, (by simp [Value.ownBlock])⟩)⟩, ⟨by (with_reducible repeat (first | apply Kd.V_alloc | apply Kd.V_drewN | apply Kd.V_drew)); exact Kd.V_mono HO1.out (fun _ hk => ⟨hk, (by simp [Value.ownBlock])⟩)⟩, ⟨by first | exact Kd.R_nil _ _ _ _ _ | exact Kd.N_nil _ _ _ _ _ | exact Kd.V_nil _ _ _ _ _ | exact Kd.Q_nil _ _ _ _ _ | exact Kd.S_nil _ _ _ _ _⟩, ⟨by repeat (first | (with_reducible first | exact HB.out | apply below_alloc | apply pw_below_drewN | apply below_drew1) | exact HB.out)⟩⟩
  case round =>
    clear H'
    try clear c1
    try clear p2
    obtain ⟨x0_1, x1_1, x5_1, HA, HK1, HO_0, HO_1, HO_5, HB⟩ := hrel
    cases gk with
    | zero => exact absurd HA.out (by simp [sets_Meet.l0])
    | succ k1 =>
      have H := HA.out
      clear HA
      simp only [sets_Meet.l0] at H
      have HC3 := Aside0.mk H
      clear H
      go_upto_region 2 with (fail)
      repeat (go_quiet (fail); go_upto_region 2 with (fail))
      go_cut [15] (fun v15 wc => ∃ (kq : Nat) (x15_2 : Bool), v15 = .bool x15_2 ∧ Aside0 (sets_Meet.j1 kq x0_1 x1_1 x5_1 x15_2 = some r) ∧ Aside0 (kq ≤ k1) ∧ Aside0 (Kd.V k72 72 wc w.heap.size (fun k_ => ((P0_ k_ ∨ P1_ k_) ∨ w.heap.size ≤ k_) ∧ some k_ ≠ (u5 : Value).ownBlock) u0 x0_1) ∧ Aside0 (Kd.V k72 72 wc w.heap.size (fun k_ => ((P0_ k_ ∨ P1_ k_) ∨ w.heap.size ≤ k_) ∧ some k_ ≠ (u5 : Value).ownBlock) u1 x1_1) ∧ Aside0 (Kd.R k72 72 wc w.heap.size (fun k_ => (w.heap.size ≤ k_)) u5 x5_1) ∧ Aside0 (Below w.heap.size w wc))
      case first =>
        have H := HC3.out
        clear HC3
        by_cases c4 : (x0_1.length : Int) > 0
        · rw [if_pos c4] at H
          have c4b0 : decide (0 < (x0_1.length : Int)) = true := decide_eq_true c4
          have c4b1 : decide (0 < x0_1.length) = true := decide_eq_true (by omega)
          clear c4
          (first | rw [c4b0] | (simp only [i64_w, i32_w]; rw [c4b0]) | skip)
          have H' := Aside0.mk H
          clear H
          obtain ⟨Ao5, co5, eo5⟩ := Kd.V_slice HO_0.out
          subst eo5
          obtain ⟨Ao6, co6, eo6⟩ := Kd.V_slice HO_1.out
          subst eo6
          go_wp2
          repeat (go_quiet (fail); try go_wp2)
          go_meet
          case rel => exact ⟨_, (decide ((x1_1.length : Int) > 0)), (by first | rfl | (simp; done) | (simp [*]; done)), H', ⟨by have := HK1.out; first | omega | exact Nat.le_refl _⟩, ⟨by (with_reducible repeat (first | apply Kd.V_alloc | apply Kd.V_drewN | apply Kd.V_drew)); exact HO_0.out⟩, ⟨by (with_reducible repeat (first | apply Kd.V_alloc | apply Kd.V_drewN | apply Kd.V_drew)); exact HO_1.out⟩, ⟨by (with_reducible repeat (first | apply Kd.R_alloc | apply Kd.R_drewN | apply Kd.R_drew)); exact HO_5.out⟩, ⟨by repeat (first | (with_reducible first | exact HB.out | apply below_alloc | apply pw_below_drewN | apply below_drew1) | exact HB.out)⟩⟩
        · rw [if_neg c4] at H
          have c4b0 : decide (0 < (x0_1.length : Int)) = false := decide_eq_false c4
          have c4b1 : decide (0 < x0_1.length) = false := decide_eq_false (by omega)
          clear c4
          (first | rw [c4b0] | (simp only [i64_w, i32_w]; rw [c4b0]) | skip)
          have H' := Aside0.mk H
          clear H
          obtain ⟨Ao7, co7, eo7⟩ := Kd.V_slice HO_0.out
          subst eo7
          go_wp2
          repeat (go_quiet (fail); try go_wp2)
          go_meet
          case rel => exact ⟨_, (false), (by first | rfl | (simp; done) | (simp [*]; done)), H', ⟨by have := HK1.out; first | omega | exact Nat.le_refl _⟩, ⟨by (with_reducible repeat (first | apply Kd.V_alloc | apply Kd.V_drewN | apply Kd.V_drew)); exact HO_0.out⟩, ⟨by (with_reducible repeat (first | apply Kd.V_alloc | apply Kd.V_drewN | apply Kd.V_drew)); exact HO_1.out⟩, ⟨by (with_reducible repeat (first | apply Kd.R_alloc | apply Kd.R_drewN | apply Kd.R_drew)); exact HO_5.out⟩, ⟨by repeat (first | (with_reducible first | exact HB.out | apply below_alloc | apply pw_below_drewN | apply below_drew1) | exact HB.out)⟩⟩
      case rest =>
        clear HC3
        try clear c1
        try clear p2
        try clear c4
        try clear c4b0
        try clear c4b1
        try clear p2
        obtain ⟨kq, x15_2, rfl, HA, HJ2, HO_0, HO_1, HO_5, HB⟩ := hcut
        cases kq with
        | zero => exact absurd HA.out (by simp [sets_Meet.j1])
        | succ kj2 =>
          have H := HA.out
          clear HA
          simp only [sets_Meet.j1] at H
          by_cases c8 : x15_2 = true
          · subst c8
            have H1 : (if 0 < (x0_1.length : Int) then (if 0 < (x1_1.length : Int) then (if (mx ((rd_T72 x0_1 0).f0) ((rd_T72 x1_1 0).f0)) ≤ (mn ((rd_T72 x0_1 0).f1) ((rd_T72 x1_1 0).f1)) then (if x5_1.length < 8796093022208 then ((some (x5_1 ++ [(⟨mx ((rd_T72 x0_1 0).f0) ((rd_T72 x1_1 0).f0), mn ((rd_T72 x0_1 0).f1) ((rd_T72 x1_1 0).f1)⟩ : S72)] : List (S72))).bind fun y418 => (if ((rd_T72 x0_1 0).f1) < ((rd_T72 x1_1 0).f1) then (if 1 ≤ (x0_1.length : Int) then (sets_Meet.l0 kj2 (x0_1.drop 1) x1_1 y418) else (none)) else (if 1 ≤ (x1_1.length : Int) then (sets_Meet.l0 kj2 x0_1 (x1_1.drop 1) y418) else (none)))) else (none)) else (if ((rd_T72 x0_1 0).f1) < ((rd_T72 x1_1 0).f1) then (if 1 ≤ (x0_1.length : Int) then (sets_Meet.l0 kj2 (x0_1.drop 1) x1_1 x5_1) else (none)) else (if 1 ≤ (x1_1.length : Int) then (sets_Meet.l0 kj2 x0_1 (x1_1.drop 1) x5_1) else (none)))) else (none)) else (none)) = some r := by rw [if_pos rfl] at H; exact H
            clear H
            have H := H1
            clear H1
            by_cases c9 : 0 < (x0_1.length : Int)
            · rw [if_pos c9] at H
              have c9b0 : decide (0 < (x0_1.length : Int)) = true := decide_eq_true c9
              have c9b1 : decide (0 < x0_1.length) = true := decide_eq_true (by omega)
              clear c9
              by_cases c10 : 0 < (x1_1.length : Int)
              · rw [if_pos c10] at H
                have c10b0 : decide (0 < (x1_1.length : Int)) = true := decide_eq_true c10
                have c10b1 : decide (0 < x1_1.length) = true := decide_eq_true (by omega)
                clear c10
                obtain ⟨ji11, hji11⟩ : ∃ j_ : Int, (mx ((rd_T72 x0_1 0).f0) ((rd_T72 x1_1 0).f0)) = j_ := ⟨_, rfl⟩
                replace H : (if (ji11) ≤ (mn ((rd_T72 x0_1 0).f1) ((rd_T72 x1_1 0).f1)) then (if x5_1.length < 8796093022208 then ((some (x5_1 ++ [(⟨ji11, mn ((rd_T72 x0_1 0).f1) ((rd_T72 x1_1 0).f1)⟩ : S72)] : List (S72))).bind fun y418 => (if ((rd_T72 x0_1 0).f1) < ((rd_T72 x1_1 0).f1) then (if 1 ≤ (x0_1.length : Int) then (sets_Meet.l0 kj2 (x0_1.drop 1) x1_1 y418) else (none)) else (if 1 ≤ (x1_1.length : Int) then (sets_Meet.l0 kj2 x0_1 (x1_1.drop 1) y418) else (none)))) else (none)) else (if ((rd_T72 x0_1 0).f1) < ((rd_T72 x1_1 0).f1) then (if 1 ≤ (x0_1.length : Int) then (sets_Meet.l0 kj2 (x0_1.drop 1) x1_1 x5_1) else (none)) else (if 1 ≤ (x1_1.length : Int) then (sets_Meet.l0 kj2 x0_1 (x1_1.drop 1) x5_1) else (none)))) = some r := by first | (rw [hji11] at H; exact H) | (simp only [hji11] at H ⊢; exact H)
                have hji11_ : (if ((rd_T72 x0_1 0).f0) < ((rd_T72 x1_1 0).f0) then ((rd_T72 x1_1 0).f0) else ((rd_T72 x0_1 0).f0)) = ji11 := hji11
                obtain ⟨ji12, hji12⟩ : ∃ j_ : Int, (mn ((rd_T72 x0_1 0).f1) ((rd_T72 x1_1 0).f1)) = j_ := ⟨_, rfl⟩
                replace H : (if (ji11) ≤ (ji12) then (if x5_1.length < 8796093022208 then ((some (x5_1 ++ [(⟨ji11, ji12⟩ : S72)] : List (S72))).bind fun y418 => (if ((rd_T72 x0_1 0).f1) < ((rd_T72 x1_1 0).f1) then (if 1 ≤ (x0_1.length : Int) then (sets_Meet.l0 kj2 (x0_1.drop 1) x1_1 y418) else (none)) else (if 1 ≤ (x1_1.length : Int) then (sets_Meet.l0 kj2 x0_1 (x1_1.drop 1) y418) else (none)))) else (none)) else (if ((rd_T72 x0_1 0).f1) < ((rd_T72 x1_1 0).f1) then (if 1 ≤ (x0_1.length : Int) then (sets_Meet.l0 kj2 (x0_1.drop 1) x1_1 x5_1) else (none)) else (if 1 ≤ (x1_1.length : Int) then (sets_Meet.l0 kj2 x0_1 (x1_1.drop 1) x5_1) else (none)))) = some r := by first | (rw [hji12] at H; exact H) | (simp only [hji12] at H ⊢; exact H)
                have hji12_ : (if ((rd_T72 x1_1 0).f1) < ((rd_T72 x0_1 0).f1) then ((rd_T72 x1_1 0).f1) else ((rd_T72 x0_1 0).f1)) = ji12 := hji12
                by_cases c13 : (ji11) ≤ (ji12)
                · rw [if_pos c13] at H
                  have c13b0 : decide ((ji11) ≤ (ji12)) = true := decide_eq_true c13
                  clear c13
                  by_cases c14 : x5_1.length < 8796093022208
                  · rw [if_pos c14] at H
                    have LMc14 := Aside0.mk c14
                    clear c14
                    obtain ⟨y418, hy418⟩ : ∃ y_ : List (S72), y_ = (x5_1 ++ [(⟨ji11, ji12⟩ : S72)]) := ⟨_, rfl⟩
                    replace H : (if ((rd_T72 x0_1 0).f1) < ((rd_T72 x1_1 0).f1) then (if 1 ≤ (x0_1.length : Int) then (sets_Meet.l0 kj2 (x0_1.drop 1) x1_1 y418) else (none)) else (if 1 ≤ (x1_1.length : Int) then (sets_Meet.l0 kj2 x0_1 (x1_1.drop 1) y418) else (none))) = some r := by first | (rw [hy418]; with_reducible exact H) | (have H2_ := (Option.bind_some _ _).symm.trans H; rw [hy418]; with_reducible exact H2_) | (have H2_ := (Option.bind_some _ _).symm.trans H; with_reducible exact H2_) | with_reducible exact H | (rw [hy418]; exact H) | exact H
                    have Ny418 := Aside0.mk hy418
                    clear hy418
                    by_cases c15 : ((rd_T72 x0_1 0).f1) < ((rd_T72 x1_1 0).f1)
                    · rw [if_pos c15] at H
                      have c15b0 : decide (((rd_T72 x0_1 0).f1) < ((rd_T72 x1_1 0).f1)) = true := decide_eq_true c15
                      clear c15
                      by_cases c16 : 1 ≤ (x0_1.length : Int)
                      · rw [if_pos c16] at H
                        have c16b0 := eq_true c16
                        have c16b1 : decide (1 ≤ (x0_1.length : Int)) = true := decide_eq_true c16
                        clear c16
                        obtain ⟨y423, hy423⟩ : ∃ y_ : List (S72), y_ = (x0_1.drop 1) := ⟨_, rfl⟩
                        replace H : (sets_Meet.l0 kj2 y423 x1_1 y418) = some r := by first | (rw [hy423]; with_reducible exact H) | (have H2_ := (Option.bind_some _ _).symm.trans H; rw [hy423]; with_reducible exact H2_) | (have H2_ := (Option.bind_some _ _).symm.trans H; with_reducible exact H2_) | with_reducible exact H | (rw [hy423]; exact H) | exact H
                        have Ny423 := Aside0.mk hy423
                        clear hy423
                        have H' := Aside0.mk H
                        clear H
                        obtain ⟨Ao17, co17, eo17⟩ := Kd.V_slice HO_0.out
                        subst eo17
                        have p414 : 0 ≤ (0 : Int) := (by omega)
                        have q414 : 0 < (x0_1.length : Int) := of_decide_eq_true (by first | (with_reducible assumption) | assumption)
                        obtain ⟨ad414, e414, hx414_0, hx414_1⟩ := at_T72 (Kd.V_reads' HO_0.out).2.2 0 p414 q414
                        cases e414
                        have qi414 : (0 < x0_1.length) = True := eq_true (by omega)
                        (try rw [show ((0 : Int)).toNat = 0 from rfl] at hx414_0)
                        (try rw [show 0 * 2 = 0 from rfl] at hx414_0)
                        (try rw [Addr.add_zero'] at hx414_0)
                        (try rw [show ((0 : Int)).toNat = 0 from rfl] at hx414_1)
                        (try rw [show 0 * 2 = 0 from rfl] at hx414_1)
                        (try rw [Addr.add_zero'] at hx414_1)
                        replace p414 := eq_true p414
                        replace q414 := eq_true q414
                        obtain ⟨Ao18, co18, eo18⟩ := Kd.V_slice HO_1.out
                        subst eo18
                        have p415 : 0 ≤ (0 : Int) := (by omega)
                        have q415 : 0 < (x1_1.length : Int) := of_decide_eq_true (by first | (with_reducible assumption) | assumption)
                        obtain ⟨ad415, e415, hx415_0, hx415_1⟩ := at_T72 (Kd.V_reads' HO_1.out).2.2 0 p415 q415
                        cases e415
                        have qi415 : (0 < x1_1.length) = True := eq_true (by omega)
                        (try rw [show ((0 : Int)).toNat = 0 from rfl] at hx415_0)
                        (try rw [show 0 * 2 = 0 from rfl] at hx415_0)
                        (try rw [Addr.add_zero'] at hx415_0)
                        (try rw [show ((0 : Int)).toNat = 0 from rfl] at hx415_1)
                        (try rw [show 0 * 2 = 0 from rfl] at hx415_1)
                        (try rw [Addr.add_zero'] at hx415_1)
                        replace p415 := eq_true p415
                        replace q415 := eq_true q415
                        have p416 : 0 ≤ (0 : Int) := (by omega)
                        have q416 : 0 < (x0_1.length : Int) := of_decide_eq_true (by first | (with_reducible assumption) | assumption)
                        obtain ⟨ad416, e416, hx416_0, hx416_1⟩ := at_T72 (Kd.V_reads' HO_0.out).2.2 0 p416 q416
                        obtain rfl : ad414 = ad416 := (by injection e416)
                        have qi416 : (0 < x0_1.length) = True := eq_true (by omega)
                        (try rw [show ((0 : Int)).toNat = 0 from rfl] at hx416_0)
                        (try rw [show 0 * 2 = 0 from rfl] at hx416_0)
                        (try rw [Addr.add_zero'] at hx416_0)
                        (try rw [show ((0 : Int)).toNat = 0 from rfl] at hx416_1)
                        (try rw [show 0 * 2 = 0 from rfl] at hx416_1)
                        (try rw [Addr.add_zero'] at hx416_1)
                        replace p416 := eq_true p416
                        replace q416 := eq_true q416
                        have p417 : 0 ≤ (0 : Int) := (by omega)
                        have q417 : 0 < (x1_1.length : Int) := of_decide_eq_true (by first | (with_reducible assumption) | assumption)
                        obtain ⟨ad417, e417, hx417_0, hx417_1⟩ := at_T72 (Kd.V_reads' HO_1.out).2.2 0 p417 q417
                        obtain rfl : ad415 = ad417 := (by injection e417)
                        have qi417 : (0 < x1_1.length) = True := eq_true (by omega)
                        (try rw [show ((0 : Int)).toNat = 0 from rfl] at hx417_0)
                        (try rw [show 0 * 2 = 0 from rfl] at hx417_0)
                        (try rw [Addr.add_zero'] at hx417_0)
                        (try rw [show ((0 : Int)).toNat = 0 from rfl] at hx417_1)
                        (try rw [show 0 * 2 = 0 from rfl] at hx417_1)
                        (try rw [Addr.add_zero'] at hx417_1)
                        replace p417 := eq_true p417
                        replace q417 := eq_true q417
                        go_wp2_with (first | ((with_reducible refine gate_builtin (b := .append) (xs := #[.tmp 37, .tmp 41]) rfl ?_); (try (refine gate_guard (by rfl) ?_; dsimp only)); at_builtin; refine Kd.R_append k72 (w0 := w) w.heap.size rfl (.tmp 37) (.tmp 41) 69 72 (.agg #[(.int .i64 0), (.int .i64 0)]) 16 rfl Try.underlying69 info72 rfl (by decide) (by omega) u5 x5_1 (⟨ji11, ji12⟩ : S72) [.int .i64 ji11, .int .i64 ji12] (fun k_ => (w.heap.size ≤ k_)) (fun _ => False) rfl rfl ?aP (fun _ hk => hk.elim) ?aF ?aO ?aB ?aS ?aL ?_; (case aP => exact k72_mkM _ _ _ (⟨ji11, ji12⟩ : S72)); (case aB => exact (by repeat (first | (with_reducible first | exact HB.out | apply below_alloc | apply pw_below_drewN | apply below_drew1) | exact HB.out))); (case aF => exact (fun k_ hk => (Nat.le_trans (below_size (by repeat (first | (with_reducible first | exact HB.out | apply below_alloc | apply pw_below_drewN | apply below_drew1) | exact HB.out))) hk))); (case aO => exact (by (with_reducible repeat (first | apply Kd.R_alloc | apply Kd.R_drewN | apply Kd.R_drew)); exact HO_5.out)); (case aS => exact (below_size (by repeat (first | (with_reducible first | exact HB.out | apply below_alloc | apply pw_below_drewN | apply below_drew1) | exact HB.out)))); (case aL => have := LMc14.out; omega); intro v419 w19 ho hb hg hat; rw [← Ny418.out] at ho; have n0_ := Aside0.mk (Kd.V_afterv (ok := (fun k_ => ((P0_ k_ ∨ P1_ k_) ∨ w.heap.size ≤ k_))) (by (with_reducible repeat (first | apply Kd.V_alloc | apply Kd.V_drewN | apply Kd.V_drew)); exact HO_0.out) hg hat); have n1_ := Aside0.mk (Kd.V_afterv (ok := (fun k_ => ((P0_ k_ ∨ P1_ k_) ∨ w.heap.size ≤ k_))) (by (with_reducible repeat (first | apply Kd.V_alloc | apply Kd.V_drewN | apply Kd.V_drew)); exact HO_1.out) hg hat); have n2_ := Aside0.mk (hb); have n3_ := Aside0.mk (ho); clear HO_0; clear HO_1; clear HB; clear HO_5; have HO_0 := n0_; have HO_1 := n1_; have HB := n2_; have HO420 := n3_; clear n0_ n1_ n2_ n3_; clear ho hb hg hat; have p421 : 0 ≤ (0 : Int) := (by omega); have q421 : 0 < (x0_1.length : Int) := of_decide_eq_true (by first | (with_reducible assumption) | assumption); obtain ⟨ad421, e421, hx421_0, hx421_1⟩ := at_T72 (Kd.V_reads' HO_0.out).2.2 0 p421 q421; obtain rfl : ad414 = ad421 := (by injection e421); have qi421 : (0 < x0_1.length) = True := eq_true (by omega); (try rw [show ((0 : Int)).toNat = 0 from rfl] at hx421_0); (try rw [show 0 * 2 = 0 from rfl] at hx421_0); (try rw [Addr.add_zero'] at hx421_0); (try rw [show ((0 : Int)).toNat = 0 from rfl] at hx421_1); (try rw [show 0 * 2 = 0 from rfl] at hx421_1); (try rw [Addr.add_zero'] at hx421_1); replace p421 := eq_true p421; replace q421 := eq_true q421; have p422 : 0 ≤ (0 : Int) := (by omega); have q422 : 0 < (x1_1.length : Int) := of_decide_eq_true (by first | (with_reducible assumption) | assumption); obtain ⟨ad422, e422, hx422_0, hx422_1⟩ := at_T72 (Kd.V_reads' HO_1.out).2.2 0 p422 q422; obtain rfl : ad415 = ad422 := (by injection e422); have qi422 : (0 < x1_1.length) = True := eq_true (by omega); (try rw [show ((0 : Int)).toNat = 0 from rfl] at hx422_0); (try rw [show 0 * 2 = 0 from rfl] at hx422_0); (try rw [Addr.add_zero'] at hx422_0); (try rw [show ((0 : Int)).toNat = 0 from rfl] at hx422_1); (try rw [show 0 * 2 = 0 from rfl] at hx422_1); (try rw [Addr.add_zero'] at hx422_1); replace p422 := eq_true p422; replace q422 := eq_true q422; have q20 : (1 : Int) ≤ ((x0_1.length : Int) : Int) := of_decide_eq_true (by first | (with_reducible assumption) | assumption); obtain ⟨i020, hi020, _, hsz20, _⟩ := info_parts info72; have hroom20 : x0_1.length ≤ co17 := (Kd.V_reads' HO_0.out).2.1; have hC20 : Kd.F k72 _ _ (some ad414) x0_1.length x0_1 := (Kd.V_at (base := w.heap.size) HO_0.out).2.2; have hcut20 := cut_from (P := Try.prog) 69 72 .i64 Try.underlying69 hi020 2 hsz20 (some ad414) x0_1.length co17 1 (by omega) q20; have hr20 := Kd.F_cut (m := (1 : Int).toNat) (c := co17) hC20 (by omega) hroom20; obtain ⟨A20, hA20⟩ : ∃ A1, A1 = (if co17 = (1 : Int).toNat then (some ad414) else ((some ad414) : Option Addr).map (·.add ((1 : Int).toNat * 2))) := ⟨_, rfl⟩; obtain ⟨c20, hc20⟩ : ∃ c1, c1 = co17 - (1 : Int).toNat := ⟨_, rfl⟩; have hy20 : y423.length = x0_1.length - (1 : Int).toNat := (by rw [Ny423.out, List.length_drop] <;> omega); rw [show (x0_1).drop (1 : Int).toNat = y423 from Ny423.out.symm] at hr20; replace hr20 : Kd.F k72 _ _ A20 y423.length y423 := (by rw [hA20]; exact hr20); rw [← hy20, ← hA20, ← hc20] at hcut20; have HO427 := Aside0.mk (show Kd.V k72 72 _ w.heap.size _ (.slice A20 y423.length c20) y423 from Kd.V_mk (by rw [hy20, hc20]; exact Nat.sub_le_sub_right hroom20 _) hr20); have HC427 := Aside0.mk (show y423.length ≤ c20 from by rw [hy20, hc20]; exact Nat.sub_le_sub_right hroom20 _); clear hr20 hC20 hroom20 hi020 hsz20 hc20; have KY20 := Aside0.mk hy20; have KA20 := Aside0.mk hA20; clear hy20 hA20; replace q20 := eq_true q20))
                        repeat (go_quiet (first | ((with_reducible refine gate_builtin (b := .append) (xs := #[.tmp 37, .tmp 41]) rfl ?_); (try (refine gate_guard (by rfl) ?_; dsimp only)); at_builtin; refine Kd.R_append k72 (w0 := w) w.heap.size rfl (.tmp 37) (.tmp 41) 69 72 (.agg #[(.int .i64 0), (.int .i64 0)]) 16 rfl Try.underlying69 info72 rfl (by decide) (by omega) u5 x5_1 (⟨ji11, ji12⟩ : S72) [.int .i64 ji11, .int .i64 ji12] (fun k_ => (w.heap.size ≤ k_)) (fun _ => False) rfl rfl ?aP (fun _ hk => hk.elim) ?aF ?aO ?aB ?aS ?aL ?_; (case aP => exact k72_mkM _ _ _ (⟨ji11, ji12⟩ : S72)); (case aB => exact (by repeat (first | (with_reducible first | exact HB.out | apply below_alloc | apply pw_below_drewN | apply below_drew1) | exact HB.out))); (case aF => exact (fun k_ hk => (Nat.le_trans (below_size (by repeat (first | (with_reducible first | exact HB.out | apply below_alloc | apply pw_below_drewN | apply below_drew1) | exact HB.out))) hk))); (case aO => exact (by (with_reducible repeat (first | apply Kd.R_alloc | apply Kd.R_drewN | apply Kd.R_drew)); exact HO_5.out)); (case aS => exact (below_size (by repeat (first | (with_reducible first | exact HB.out | apply below_alloc | apply pw_below_drewN | apply below_drew1) | exact HB.out)))); (case aL => have := LMc14.out; omega); intro v419 w19 ho hb hg hat; rw [← Ny418.out] at ho; have n0_ := Aside0.mk (Kd.V_afterv (ok := (fun k_ => ((P0_ k_ ∨ P1_ k_) ∨ w.heap.size ≤ k_))) (by (with_reducible repeat (first | apply Kd.V_alloc | apply Kd.V_drewN | apply Kd.V_drew)); exact HO_0.out) hg hat); have n1_ := Aside0.mk (Kd.V_afterv (ok := (fun k_ => ((P0_ k_ ∨ P1_ k_) ∨ w.heap.size ≤ k_))) (by (with_reducible repeat (first | apply Kd.V_alloc | apply Kd.V_drewN | apply Kd.V_drew)); exact HO_1.out) hg hat); have n2_ := Aside0.mk (hb); have n3_ := Aside0.mk (ho); clear HO_0; clear HO_1; clear HB; clear HO_5; have HO_0 := n0_; have HO_1 := n1_; have HB := n2_; have HO420 := n3_; clear n0_ n1_ n2_ n3_; clear ho hb hg hat; have p421 : 0 ≤ (0 : Int) := (by omega); have q421 : 0 < (x0_1.length : Int) := of_decide_eq_true (by first | (with_reducible assumption) | assumption); obtain ⟨ad421, e421, hx421_0, hx421_1⟩ := at_T72 (Kd.V_reads' HO_0.out).2.2 0 p421 q421; obtain rfl : ad414 = ad421 := (by injection e421); have qi421 : (0 < x0_1.length) = True := eq_true (by omega); (try rw [show ((0 : Int)).toNat = 0 from rfl] at hx421_0); (try rw [show 0 * 2 = 0 from rfl] at hx421_0); (try rw [Addr.add_zero'] at hx421_0); (try rw [show ((0 : Int)).toNat = 0 from rfl] at hx421_1); (try rw [show 0 * 2 = 0 from rfl] at hx421_1); (try rw [Addr.add_zero'] at hx421_1); replace p421 := eq_true p421; replace q421 := eq_true q421; have p422 : 0 ≤ (0 : Int) := (by omega); have q422 : 0 < (x1_1.length : Int) := of_decide_eq_true (by first | (with_reducible assumption) | assumption); obtain ⟨ad422, e422, hx422_0, hx422_1⟩ := at_T72 (Kd.V_reads' HO_1.out).2.2 0 p422 q422; obtain rfl : ad415 = ad422 := (by injection e422); have qi422 : (0 < x1_1.length) = True := eq_true (by omega); (try rw [show ((0 : Int)).toNat = 0 from rfl] at hx422_0); (try rw [show 0 * 2 = 0 from rfl] at hx422_0); (try rw [Addr.add_zero'] at hx422_0); (try rw [show ((0 : Int)).toNat = 0 from rfl] at hx422_1); (try rw [show 0 * 2 = 0 from rfl] at hx422_1); (try rw [Addr.add_zero'] at hx422_1); replace p422 := eq_true p422; replace q422 := eq_true q422; have q20 : (1 : Int) ≤ ((x0_1.length : Int) : Int) := of_decide_eq_true (by first | (with_reducible assumption) | assumption); obtain ⟨i020, hi020, _, hsz20, _⟩ := info_parts info72; have hroom20 : x0_1.length ≤ co17 := (Kd.V_reads' HO_0.out).2.1; have hC20 : Kd.F k72 _ _ (some ad414) x0_1.length x0_1 := (Kd.V_at (base := w.heap.size) HO_0.out).2.2; have hcut20 := cut_from (P := Try.prog) 69 72 .i64 Try.underlying69 hi020 2 hsz20 (some ad414) x0_1.length co17 1 (by omega) q20; have hr20 := Kd.F_cut (m := (1 : Int).toNat) (c := co17) hC20 (by omega) hroom20; obtain ⟨A20, hA20⟩ : ∃ A1, A1 = (if co17 = (1 : Int).toNat then (some ad414) else ((some ad414) : Option Addr).map (·.add ((1 : Int).toNat * 2))) := ⟨_, rfl⟩; obtain ⟨c20, hc20⟩ : ∃ c1, c1 = co17 - (1 : Int).toNat := ⟨_, rfl⟩; have hy20 : y423.length = x0_1.length - (1 : Int).toNat := (by rw [Ny423.out, List.length_drop] <;> omega); rw [show (x0_1).drop (1 : Int).toNat = y423 from Ny423.out.symm] at hr20; replace hr20 : Kd.F k72 _ _ A20 y423.length y423 := (by rw [hA20]; exact hr20); rw [← hy20, ← hA20, ← hc20] at hcut20; have HO427 := Aside0.mk (show Kd.V k72 72 _ w.heap.size _ (.slice A20 y423.length c20) y423 from Kd.V_mk (by rw [hy20, hc20]; exact Nat.sub_le_sub_right hroom20 _) hr20); have HC427 := Aside0.mk (show y423.length ≤ c20 from by rw [hy20, hc20]; exact Nat.sub_le_sub_right hroom20 _); clear hr20 hC20 hroom20 hi020 hsz20 hc20; have KY20 := Aside0.mk hy20; have KA20 := Aside0.mk hA20; clear hy20 hA20; replace q20 := eq_true q20)); try go_wp2_with (first | ((with_reducible refine gate_builtin (b := .append) (xs := #[.tmp 37, .tmp 41]) rfl ?_); (try (refine gate_guard (by rfl) ?_; dsimp only)); at_builtin; refine Kd.R_append k72 (w0 := w) w.heap.size rfl (.tmp 37) (.tmp 41) 69 72 (.agg #[(.int .i64 0), (.int .i64 0)]) 16 rfl Try.underlying69 info72 rfl (by decide) (by omega) u5 x5_1 (⟨ji11, ji12⟩ : S72) [.int .i64 ji11, .int .i64 ji12] (fun k_ => (w.heap.size ≤ k_)) (fun _ => False) rfl rfl ?aP (fun _ hk => hk.elim) ?aF ?aO ?aB ?aS ?aL ?_; (case aP => exact k72_mkM _ _ _ (⟨ji11, ji12⟩ : S72)); (case aB => exact (by repeat (first | (with_reducible first | exact HB.out | apply below_alloc | apply pw_below_drewN | apply below_drew1) | exact HB.out))); (case aF => exact (fun k_ hk => (Nat.le_trans (below_size (by repeat (first | (with_reducible first | exact HB.out | apply below_alloc | apply pw_below_drewN | apply below_drew1) | exact HB.out))) hk))); (case aO => exact (by (with_reducible repeat (first | apply Kd.R_alloc | apply Kd.R_drewN | apply Kd.R_drew)); exact HO_5.out)); (case aS => exact (below_size (by repeat (first | (with_reducible first | exact HB.out | apply below_alloc | apply pw_below_drewN | apply below_drew1) | exact HB.out)))); (case aL => have := LMc14.out; omega); intro v419 w19 ho hb hg hat; rw [← Ny418.out] at ho; have n0_ := Aside0.mk (Kd.V_afterv (ok := (fun k_ => ((P0_ k_ ∨ P1_ k_) ∨ w.heap.size ≤ k_))) (by (with_reducible repeat (first | apply Kd.V_alloc | apply Kd.V_drewN | apply Kd.V_drew)); exact HO_0.out) hg hat); have n1_ := Aside0.mk (Kd.V_afterv (ok := (fun k_ => ((P0_ k_ ∨ P1_ k_) ∨ w.heap.size ≤ k_))) (by (with_reducible repeat (first | apply Kd.V_alloc | apply Kd.V_drewN | apply Kd.V_drew)); exact HO_1.out) hg hat); have n2_ := Aside0.mk (hb); have n3_ := Aside0.mk (ho); clear HO_0; clear HO_1; clear HB; clear HO_5; have HO_0 := n0_; have HO_1 := n1_; have HB := n2_; have HO420 := n3_; clear n0_ n1_ n2_ n3_; clear ho hb hg hat; have p421 : 0 ≤ (0 : Int) := (by omega); have q421 : 0 < (x0_1.length : Int) := of_decide_eq_true (by first | (with_reducible assumption) | assumption); obtain ⟨ad421, e421, hx421_0, hx421_1⟩ := at_T72 (Kd.V_reads' HO_0.out).2.2 0 p421 q421; obtain rfl : ad414 = ad421 := (by injection e421); have qi421 : (0 < x0_1.length) = True := eq_true (by omega); (try rw [show ((0 : Int)).toNat = 0 from rfl] at hx421_0); (try rw [show 0 * 2 = 0 from rfl] at hx421_0); (try rw [Addr.add_zero'] at hx421_0); (try rw [show ((0 : Int)).toNat = 0 from rfl] at hx421_1); (try rw [show 0 * 2 = 0 from rfl] at hx421_1); (try rw [Addr.add_zero'] at hx421_1); replace p421 := eq_true p421; replace q421 := eq_true q421; have p422 : 0 ≤ (0 : Int) := (by omega); have q422 : 0 < (x1_1.length : Int) := of_decide_eq_true (by first | (with_reducible assumption) | assumption); obtain ⟨ad422, e422, hx422_0, hx422_1⟩ := at_T72 (Kd.V_reads' HO_1.out).2.2 0 p422 q422; obtain rfl : ad415 = ad422 := (by injection e422); have qi422 : (0 < x1_1.length) = True := eq_true (by omega); (try rw [show ((0 : Int)).toNat = 0 from rfl] at hx422_0); (try rw [show 0 * 2 = 0 from rfl] at hx422_0); (try rw [Addr.add_zero'] at hx422_0); (try rw [show ((0 : Int)).toNat = 0 from rfl] at hx422_1); (try rw [show 0 * 2 = 0 from rfl] at hx422_1); (try rw [Addr.add_zero'] at hx422_1); replace p422 := eq_true p422; replace q422 := eq_true q422; have q20 : (1 : Int) ≤ ((x0_1.length : Int) : Int) := of_decide_eq_true (by first | (with_reducible assumption) | assumption); obtain ⟨i020, hi020, _, hsz20, _⟩ := info_parts info72; have hroom20 : x0_1.length ≤ co17 := (Kd.V_reads' HO_0.out).2.1; have hC20 : Kd.F k72 _ _ (some ad414) x0_1.length x0_1 := (Kd.V_at (base := w.heap.size) HO_0.out).2.2; have hcut20 := cut_from (P := Try.prog) 69 72 .i64 Try.underlying69 hi020 2 hsz20 (some ad414) x0_1.length co17 1 (by omega) q20; have hr20 := Kd.F_cut (m := (1 : Int).toNat) (c := co17) hC20 (by omega) hroom20; obtain ⟨A20, hA20⟩ : ∃ A1, A1 = (if co17 = (1 : Int).toNat then (some ad414) else ((some ad414) : Option Addr).map (·.add ((1 : Int).toNat * 2))) := ⟨_, rfl⟩; obtain ⟨c20, hc20⟩ : ∃ c1, c1 = co17 - (1 : Int).toNat := ⟨_, rfl⟩; have hy20 : y423.length = x0_1.length - (1 : Int).toNat := (by rw [Ny423.out, List.length_drop] <;> omega); rw [show (x0_1).drop (1 : Int).toNat = y423 from Ny423.out.symm] at hr20; replace hr20 : Kd.F k72 _ _ A20 y423.length y423 := (by rw [hA20]; exact hr20); rw [← hy20, ← hA20, ← hc20] at hcut20; have HO427 := Aside0.mk (show Kd.V k72 72 _ w.heap.size _ (.slice A20 y423.length c20) y423 from Kd.V_mk (by rw [hy20, hc20]; exact Nat.sub_le_sub_right hroom20 _) hr20); have HC427 := Aside0.mk (show y423.length ≤ c20 from by rw [hy20, hc20]; exact Nat.sub_le_sub_right hroom20 _); clear hr20 hC20 hroom20 hi020 hsz20 hc20; have KY20 := Aside0.mk hy20; have KA20 := Aside0.mk hA20; clear hy20 hA20; replace q20 := eq_true q20)))
                        go_roundg kj2
                        case measure => have := HK1.out; have := HJ2.out; omega
                        case rel => exact ⟨(y423), (x1_1), (y418), H', ⟨by have := HK1.out; have := HJ2.out; omega⟩, ⟨by (with_reducible repeat (first | apply Kd.V_alloc | apply Kd.V_drewN | apply Kd.V_drew)); exact HO427.out⟩, ⟨by (with_reducible repeat (first | apply Kd.V_alloc | apply Kd.V_drewN | apply Kd.V_drew)); exact HO_1.out⟩, ⟨by (with_reducible repeat (first | apply Kd.R_alloc | apply Kd.R_drewN | apply Kd.R_drew)); exact HO420.out⟩, ⟨by repeat (first | (with_reducible first | exact HB.out | apply below_alloc | apply pw_below_drewN | apply below_drew1) | exact HB.out)⟩⟩
                      · rw [if_neg c16] at H
                        exact absurd H (by simp)
                    · rw [if_neg c15] at H
                      have c15b0 : decide (((rd_T72 x0_1 0).f1) < ((rd_T72 x1_1 0).f1)) = false := decide_eq_false c15
                      clear c15
                      by_cases c21 : 1 ≤ (x1_1.length : Int)
                      · rw [if_pos c21] at H
                        have c21b0 := eq_true c21
                        have c21b1 : decide (1 ≤ (x1_1.length : Int)) = true := decide_eq_true c21
                        clear c21
                        obtain ⟨y428, hy428⟩ : ∃ y_ : List (S72), y_ = (x1_1.drop 1) := ⟨_, rfl⟩
                        replace H : (sets_Meet.l0 kj2 x0_1 y428 y418) = some r := by first | (rw [hy428]; with_reducible exact H) | (have H2_ := (Option.bind_some _ _).symm.trans H; rw [hy428]; with_reducible exact H2_) | (have H2_ := (Option.bind_some _ _).symm.trans H; with_reducible exact H2_) | with_reducible exact H | (rw [hy428]; exact H) | exact H
                        have Ny428 := Aside0.mk hy428
                        clear hy428
                        have H' := Aside0.mk H
                        clear H
                        obtain ⟨Ao22, co22, eo22⟩ := Kd.V_slice HO_0.out
                        subst eo22
                        have p414 : 0 ≤ (0 : Int) := (by omega)
                        have q414 : 0 < (x0_1.length : Int) := of_decide_eq_true (by first | (with_reducible assumption) | assumption)
                        obtain ⟨ad414, e414, hx414_0, hx414_1⟩ := at_T72 (Kd.V_reads' HO_0.out).2.2 0 p414 q414
                        cases e414
                        have qi414 : (0 < x0_1.length) = True := eq_true (by omega)
                        (try rw [show ((0 : Int)).toNat = 0 from rfl] at hx414_0)
                        (try rw [show 0 * 2 = 0 from rfl] at hx414_0)
                        (try rw [Addr.add_zero'] at hx414_0)
                        (try rw [show ((0 : Int)).toNat = 0 from rfl] at hx414_1)
                        (try rw [show 0 * 2 = 0 from rfl] at hx414_1)
                        (try rw [Addr.add_zero'] at hx414_1)
                        replace p414 := eq_true p414
                        replace q414 := eq_true q414
                        obtain ⟨Ao23, co23, eo23⟩ := Kd.V_slice HO_1.out
                        subst eo23
                        have p415 : 0 ≤ (0 : Int) := (by omega)
                        have q415 : 0 < (x1_1.length : Int) := of_decide_eq_true (by first | (with_reducible assumption) | assumption)
                        obtain ⟨ad415, e415, hx415_0, hx415_1⟩ := at_T72 (Kd.V_reads' HO_1.out).2.2 0 p415 q415
                        cases e415
                        have qi415 : (0 < x1_1.length) = True := eq_true (by omega)
                        (try rw [show ((0 : Int)).toNat = 0 from rfl] at hx415_0)
                        (try rw [show 0 * 2 = 0 from rfl] at hx415_0)
                        (try rw [Addr.add_zero'] at hx415_0)
                        (try rw [show ((0 : Int)).toNat = 0 from rfl] at hx415_1)
                        (try rw [show 0 * 2 = 0 from rfl] at hx415_1)
                        (try rw [Addr.add_zero'] at hx415_1)
                        replace p415 := eq_true p415
                        replace q415 := eq_true q415
                        have p416 : 0 ≤ (0 : Int) := (by omega)
                        have q416 : 0 < (x0_1.length : Int) := of_decide_eq_true (by first | (with_reducible assumption) | assumption)
                        obtain ⟨ad416, e416, hx416_0, hx416_1⟩ := at_T72 (Kd.V_reads' HO_0.out).2.2 0 p416 q416
                        obtain rfl : ad414 = ad416 := (by injection e416)
                        have qi416 : (0 < x0_1.length) = True := eq_true (by omega)
                        (try rw [show ((0 : Int)).toNat = 0 from rfl] at hx416_0)
                        (try rw [show 0 * 2 = 0 from rfl] at hx416_0)
                        (try rw [Addr.add_zero'] at hx416_0)
                        (try rw [show ((0 : Int)).toNat = 0 from rfl] at hx416_1)
                        (try rw [show 0 * 2 = 0 from rfl] at hx416_1)
                        (try rw [Addr.add_zero'] at hx416_1)
                        replace p416 := eq_true p416
                        replace q416 := eq_true q416
                        have p417 : 0 ≤ (0 : Int) := (by omega)
                        have q417 : 0 < (x1_1.length : Int) := of_decide_eq_true (by first | (with_reducible assumption) | assumption)
                        obtain ⟨ad417, e417, hx417_0, hx417_1⟩ := at_T72 (Kd.V_reads' HO_1.out).2.2 0 p417 q417
                        obtain rfl : ad415 = ad417 := (by injection e417)
                        have qi417 : (0 < x1_1.length) = True := eq_true (by omega)
                        (try rw [show ((0 : Int)).toNat = 0 from rfl] at hx417_0)
                        (try rw [show 0 * 2 = 0 from rfl] at hx417_0)
                        (try rw [Addr.add_zero'] at hx417_0)
                        (try rw [show ((0 : Int)).toNat = 0 from rfl] at hx417_1)
                        (try rw [show 0 * 2 = 0 from rfl] at hx417_1)
                        (try rw [Addr.add_zero'] at hx417_1)
                        replace p417 := eq_true p417
                        replace q417 := eq_true q417
                        go_wp2_with (first | ((with_reducible refine gate_builtin (b := .append) (xs := #[.tmp 37, .tmp 41]) rfl ?_); (try (refine gate_guard (by rfl) ?_; dsimp only)); at_builtin; refine Kd.R_append k72 (w0 := w) w.heap.size rfl (.tmp 37) (.tmp 41) 69 72 (.agg #[(.int .i64 0), (.int .i64 0)]) 16 rfl Try.underlying69 info72 rfl (by decide) (by omega) u5 x5_1 (⟨ji11, ji12⟩ : S72) [.int .i64 ji11, .int .i64 ji12] (fun k_ => (w.heap.size ≤ k_)) (fun _ => False) rfl rfl ?aP (fun _ hk => hk.elim) ?aF ?aO ?aB ?aS ?aL ?_; (case aP => exact k72_mkM _ _ _ (⟨ji11, ji12⟩ : S72)); (case aB => exact (by repeat (first | (with_reducible first | exact HB.out | apply below_alloc | apply pw_below_drewN | apply below_drew1) | exact HB.out))); (case aF => exact (fun k_ hk => (Nat.le_trans (below_size (by repeat (first | (with_reducible first | exact HB.out | apply below_alloc | apply pw_below_drewN | apply below_drew1) | exact HB.out))) hk))); (case aO => exact (by (with_reducible repeat (first | apply Kd.R_alloc | apply Kd.R_drewN | apply Kd.R_drew)); exact HO_5.out)); (case aS => exact (below_size (by repeat (first | (with_reducible first | exact HB.out | apply below_alloc | apply pw_below_drewN | apply below_drew1) | exact HB.out)))); (case aL => have := LMc14.out; omega); intro v419 w24 ho hb hg hat; rw [← Ny418.out] at ho; have n0_ := Aside0.mk (Kd.V_afterv (ok := (fun k_ => ((P0_ k_ ∨ P1_ k_) ∨ w.heap.size ≤ k_))) (by (with_reducible repeat (first | apply Kd.V_alloc | apply Kd.V_drewN | apply Kd.V_drew)); exact HO_0.out) hg hat); have n1_ := Aside0.mk (Kd.V_afterv (ok := (fun k_ => ((P0_ k_ ∨ P1_ k_) ∨ w.heap.size ≤ k_))) (by (with_reducible repeat (first | apply Kd.V_alloc | apply Kd.V_drewN | apply Kd.V_drew)); exact HO_1.out) hg hat); have n2_ := Aside0.mk (hb); have n3_ := Aside0.mk (ho); clear HO_0; clear HO_1; clear HB; clear HO_5; have HO_0 := n0_; have HO_1 := n1_; have HB := n2_; have HO420 := n3_; clear n0_ n1_ n2_ n3_; clear ho hb hg hat; have p421 : 0 ≤ (0 : Int) := (by omega); have q421 : 0 < (x0_1.length : Int) := of_decide_eq_true (by first | (with_reducible assumption) | assumption); obtain ⟨ad421, e421, hx421_0, hx421_1⟩ := at_T72 (Kd.V_reads' HO_0.out).2.2 0 p421 q421; obtain rfl : ad414 = ad421 := (by injection e421); have qi421 : (0 < x0_1.length) = True := eq_true (by omega); (try rw [show ((0 : Int)).toNat = 0 from rfl] at hx421_0); (try rw [show 0 * 2 = 0 from rfl] at hx421_0); (try rw [Addr.add_zero'] at hx421_0); (try rw [show ((0 : Int)).toNat = 0 from rfl] at hx421_1); (try rw [show 0 * 2 = 0 from rfl] at hx421_1); (try rw [Addr.add_zero'] at hx421_1); replace p421 := eq_true p421; replace q421 := eq_true q421; have p422 : 0 ≤ (0 : Int) := (by omega); have q422 : 0 < (x1_1.length : Int) := of_decide_eq_true (by first | (with_reducible assumption) | assumption); obtain ⟨ad422, e422, hx422_0, hx422_1⟩ := at_T72 (Kd.V_reads' HO_1.out).2.2 0 p422 q422; obtain rfl : ad415 = ad422 := (by injection e422); have qi422 : (0 < x1_1.length) = True := eq_true (by omega); (try rw [show ((0 : Int)).toNat = 0 from rfl] at hx422_0); (try rw [show 0 * 2 = 0 from rfl] at hx422_0); (try rw [Addr.add_zero'] at hx422_0); (try rw [show ((0 : Int)).toNat = 0 from rfl] at hx422_1); (try rw [show 0 * 2 = 0 from rfl] at hx422_1); (try rw [Addr.add_zero'] at hx422_1); replace p422 := eq_true p422; replace q422 := eq_true q422; have q25 : (1 : Int) ≤ ((x1_1.length : Int) : Int) := of_decide_eq_true (by first | (with_reducible assumption) | assumption); obtain ⟨i025, hi025, _, hsz25, _⟩ := info_parts info72; have hroom25 : x1_1.length ≤ co23 := (Kd.V_reads' HO_1.out).2.1; have hC25 : Kd.F k72 _ _ (some ad415) x1_1.length x1_1 := (Kd.V_at (base := w.heap.size) HO_1.out).2.2; have hcut25 := cut_from (P := Try.prog) 69 72 .i64 Try.underlying69 hi025 2 hsz25 (some ad415) x1_1.length co23 1 (by omega) q25; have hr25 := Kd.F_cut (m := (1 : Int).toNat) (c := co23) hC25 (by omega) hroom25; obtain ⟨A25, hA25⟩ : ∃ A1, A1 = (if co23 = (1 : Int).toNat then (some ad415) else ((some ad415) : Option Addr).map (·.add ((1 : Int).toNat * 2))) := ⟨_, rfl⟩; obtain ⟨c25, hc25⟩ : ∃ c1, c1 = co23 - (1 : Int).toNat := ⟨_, rfl⟩; have hy25 : y428.length = x1_1.length - (1 : Int).toNat := (by rw [Ny428.out, List.length_drop] <;> omega); rw [show (x1_1).drop (1 : Int).toNat = y428 from Ny428.out.symm] at hr25; replace hr25 : Kd.F k72 _ _ A25 y428.length y428 := (by rw [hA25]; exact hr25); rw [← hy25, ← hA25, ← hc25] at hcut25; have HO432 := Aside0.mk (show Kd.V k72 72 _ w.heap.size _ (.slice A25 y428.length c25) y428 from Kd.V_mk (by rw [hy25, hc25]; exact Nat.sub_le_sub_right hroom25 _) hr25); have HC432 := Aside0.mk (show y428.length ≤ c25 from by rw [hy25, hc25]; exact Nat.sub_le_sub_right hroom25 _); clear hr25 hC25 hroom25 hi025 hsz25 hc25; have KY25 := Aside0.mk hy25; have KA25 := Aside0.mk hA25; clear hy25 hA25; replace q25 := eq_true q25))
                        repeat (go_quiet (first | ((with_reducible refine gate_builtin (b := .append) (xs := #[.tmp 37, .tmp 41]) rfl ?_); (try (refine gate_guard (by rfl) ?_; dsimp only)); at_builtin; refine Kd.R_append k72 (w0 := w) w.heap.size rfl (.tmp 37) (.tmp 41) 69 72 (.agg #[(.int .i64 0), (.int .i64 0)]) 16 rfl Try.underlying69 info72 rfl (by decide) (by omega) u5 x5_1 (⟨ji11, ji12⟩ : S72) [.int .i64 ji11, .int .i64 ji12] (fun k_ => (w.heap.size ≤ k_)) (fun _ => False) rfl rfl ?aP (fun _ hk => hk.elim) ?aF ?aO ?aB ?aS ?aL ?_; (case aP => exact k72_mkM _ _ _ (⟨ji11, ji12⟩ : S72)); (case aB => exact (by repeat (first | (with_reducible first | exact HB.out | apply below_alloc | apply pw_below_drewN | apply below_drew1) | exact HB.out))); (case aF => exact (fun k_ hk => (Nat.le_trans (below_size (by repeat (first | (with_reducible first | exact HB.out | apply below_alloc | apply pw_below_drewN | apply below_drew1) | exact HB.out))) hk))); (case aO => exact (by (with_reducible repeat (first | apply Kd.R_alloc | apply Kd.R_drewN | apply Kd.R_drew)); exact HO_5.out)); (case aS => exact (below_size (by repeat (first | (with_reducible first | exact HB.out | apply below_alloc | apply pw_below_drewN | apply below_drew1) | exact HB.out)))); (case aL => have := LMc14.out; omega); intro v419 w24 ho hb hg hat; rw [← Ny418.out] at ho; have n0_ := Aside0.mk (Kd.V_afterv (ok := (fun k_ => ((P0_ k_ ∨ P1_ k_) ∨ w.heap.size ≤ k_))) (by (with_reducible repeat (first | apply Kd.V_alloc | apply Kd.V_drewN | apply Kd.V_drew)); exact HO_0.out) hg hat); have n1_ := Aside0.mk (Kd.V_afterv (ok := (fun k_ => ((P0_ k_ ∨ P1_ k_) ∨ w.heap.size ≤ k_))) (by (with_reducible repeat (first | apply Kd.V_alloc | apply Kd.V_drewN | apply Kd.V_drew)); exact HO_1.out) hg hat); have n2_ := Aside0.mk (hb); have n3_ := Aside0.mk (ho); clear HO_0; clear HO_1; clear HB; clear HO_5; have HO_0 := n0_; have HO_1 := n1_; have HB := n2_; have HO420 := n3_; clear n0_ n1_ n2_ n3_; clear ho hb hg hat; have p421 : 0 ≤ (0 : Int) := (by omega); have q421 : 0 < (x0_1.length : Int) := of_decide_eq_true (by first | (with_reducible assumption) | assumption); obtain ⟨ad421, e421, hx421_0, hx421_1⟩ := at_T72 (Kd.V_reads' HO_0.out).2.2 0 p421 q421; obtain rfl : ad414 = ad421 := (by injection e421); have qi421 : (0 < x0_1.length) = True := eq_true (by omega); (try rw [show ((0 : Int)).toNat = 0 from rfl] at hx421_0); (try rw [show 0 * 2 = 0 from rfl] at hx421_0); (try rw [Addr.add_zero'] at hx421_0); (try rw [show ((0 : Int)).toNat = 0 from rfl] at hx421_1); (try rw [show 0 * 2 = 0 from rfl] at hx421_1); (try rw [Addr.add_zero'] at hx421_1); replace p421 := eq_true p421; replace q421 := eq_true q421; have p422 : 0 ≤ (0 : Int) := (by omega); have q422 : 0 < (x1_1.length : Int) := of_decide_eq_true (by first | (with_reducible assumption) | assumption); obtain ⟨ad422, e422, hx422_0, hx422_1⟩ := at_T72 (Kd.V_reads' HO_1.out).2.2 0 p422 q422; obtain rfl : ad415 = ad422 := (by injection e422); have qi422 : (0 < x1_1.length) = True := eq_true (by omega); (try rw [show ((0 : Int)).toNat = 0 from rfl] at hx422_0); (try rw [show 0 * 2 = 0 from rfl] at hx422_0); (try rw [Addr.add_zero'] at hx422_0); (try rw [show ((0 : Int)).toNat = 0 from rfl] at hx422_1); (try rw [show 0 * 2 = 0 from rfl] at hx422_1); (try rw [Addr.add_zero'] at hx422_1); replace p422 := eq_true p422; replace q422 := eq_true q422; have q25 : (1 : Int) ≤ ((x1_1.length : Int) : Int) := of_decide_eq_true (by first | (with_reducible assumption) | assumption); obtain ⟨i025, hi025, _, hsz25, _⟩ := info_parts info72; have hroom25 : x1_1.length ≤ co23 := (Kd.V_reads' HO_1.out).2.1; have hC25 : Kd.F k72 _ _ (some ad415) x1_1.length x1_1 := (Kd.V_at (base := w.heap.size) HO_1.out).2.2; have hcut25 := cut_from (P := Try.prog) 69 72 .i64 Try.underlying69 hi025 2 hsz25 (some ad415) x1_1.length co23 1 (by omega) q25; have hr25 := Kd.F_cut (m := (1 : Int).toNat) (c := co23) hC25 (by omega) hroom25; obtain ⟨A25, hA25⟩ : ∃ A1, A1 = (if co23 = (1 : Int).toNat then (some ad415) else ((some ad415) : Option Addr).map (·.add ((1 : Int).toNat * 2))) := ⟨_, rfl⟩; obtain ⟨c25, hc25⟩ : ∃ c1, c1 = co23 - (1 : Int).toNat := ⟨_, rfl⟩; have hy25 : y428.length = x1_1.length - (1 : Int).toNat := (by rw [Ny428.out, List.length_drop] <;> omega); rw [show (x1_1).drop (1 : Int).toNat = y428 from Ny428.out.symm] at hr25; replace hr25 : Kd.F k72 _ _ A25 y428.length y428 := (by rw [hA25]; exact hr25); rw [← hy25, ← hA25, ← hc25] at hcut25; have HO432 := Aside0.mk (show Kd.V k72 72 _ w.heap.size _ (.slice A25 y428.length c25) y428 from Kd.V_mk (by rw [hy25, hc25]; exact Nat.sub_le_sub_right hroom25 _) hr25); have HC432 := Aside0.mk (show y428.length ≤ c25 from by rw [hy25, hc25]; exact Nat.sub_le_sub_right hroom25 _); clear hr25 hC25 hroom25 hi025 hsz25 hc25; have KY25 := Aside0.mk hy25; have KA25 := Aside0.mk hA25; clear hy25 hA25; replace q25 := eq_true q25)); try go_wp2_with (first | ((with_reducible refine gate_builtin (b := .append) (xs := #[.tmp 37, .tmp 41]) rfl ?_); (try (refine gate_guard (by rfl) ?_; dsimp only)); at_builtin; refine Kd.R_append k72 (w0 := w) w.heap.size rfl (.tmp 37) (.tmp 41) 69 72 (.agg #[(.int .i64 0), (.int .i64 0)]) 16 rfl Try.underlying69 info72 rfl (by decide) (by omega) u5 x5_1 (⟨ji11, ji12⟩ : S72) [.int .i64 ji11, .int .i64 ji12] (fun k_ => (w.heap.size ≤ k_)) (fun _ => False) rfl rfl ?aP (fun _ hk => hk.elim) ?aF ?aO ?aB ?aS ?aL ?_; (case aP => exact k72_mkM _ _ _ (⟨ji11, ji12⟩ : S72)); (case aB => exact (by repeat (first | (with_reducible first | exact HB.out | apply below_alloc | apply pw_below_drewN | apply below_drew1) | exact HB.out))); (case aF => exact (fun k_ hk => (Nat.le_trans (below_size (by repeat (first | (with_reducible first | exact HB.out | apply below_alloc | apply pw_below_drewN | apply below_drew1) | exact HB.out))) hk))); (case aO => exact (by (with_reducible repeat (first | apply Kd.R_alloc | apply Kd.R_drewN | apply Kd.R_drew)); exact HO_5.out)); (case aS => exact (below_size (by repeat (first | (with_reducible first | exact HB.out | apply below_alloc | apply pw_below_drewN | apply below_drew1) | exact HB.out)))); (case aL => have := LMc14.out; omega); intro v419 w24 ho hb hg hat; rw [← Ny418.out] at ho; have n0_ := Aside0.mk (Kd.V_afterv (ok := (fun k_ => ((P0_ k_ ∨ P1_ k_) ∨ w.heap.size ≤ k_))) (by (with_reducible repeat (first | apply Kd.V_alloc | apply Kd.V_drewN | apply Kd.V_drew)); exact HO_0.out) hg hat); have n1_ := Aside0.mk (Kd.V_afterv (ok := (fun k_ => ((P0_ k_ ∨ P1_ k_) ∨ w.heap.size ≤ k_))) (by (with_reducible repeat (first | apply Kd.V_alloc | apply Kd.V_drewN | apply Kd.V_drew)); exact HO_1.out) hg hat); have n2_ := Aside0.mk (hb); have n3_ := Aside0.mk (ho); clear HO_0; clear HO_1; clear HB; clear HO_5; have HO_0 := n0_; have HO_1 := n1_; have HB := n2_; have HO420 := n3_; clear n0_ n1_ n2_ n3_; clear ho hb hg hat; have p421 : 0 ≤ (0 : Int) := (by omega); have q421 : 0 < (x0_1.length : Int) := of_decide_eq_true (by first | (with_reducible assumption) | assumption); obtain ⟨ad421, e421, hx421_0, hx421_1⟩ := at_T72 (Kd.V_reads' HO_0.out).2.2 0 p421 q421; obtain rfl : ad414 = ad421 := (by injection e421); have qi421 : (0 < x0_1.length) = True := eq_true (by omega); (try rw [show ((0 : Int)).toNat = 0 from rfl] at hx421_0); (try rw [show 0 * 2 = 0 from rfl] at hx421_0); (try rw [Addr.add_zero'] at hx421_0); (try rw [show ((0 : Int)).toNat = 0 from rfl] at hx421_1); (try rw [show 0 * 2 = 0 from rfl] at hx421_1); (try rw [Addr.add_zero'] at hx421_1); replace p421 := eq_true p421; replace q421 := eq_true q421; have p422 : 0 ≤ (0 : Int) := (by omega); have q422 : 0 < (x1_1.length : Int) := of_decide_eq_true (by first | (with_reducible assumption) | assumption); obtain ⟨ad422, e422, hx422_0, hx422_1⟩ := at_T72 (Kd.V_reads' HO_1.out).2.2 0 p422 q422; obtain rfl : ad415 = ad422 := (by injection e422); have qi422 : (0 < x1_1.length) = True := eq_true (by omega); (try rw [show ((0 : Int)).toNat = 0 from rfl] at hx422_0); (try rw [show 0 * 2 = 0 from rfl] at hx422_0); (try rw [Addr.add_zero'] at hx422_0); (try rw [show ((0 : Int)).toNat = 0 from rfl] at hx422_1); (try rw [show 0 * 2 = 0 from rfl] at hx422_1); (try rw [Addr.add_zero'] at hx422_1); replace p422 := eq_true p422; replace q422 := eq_true q422; have q25 : (1 : Int) ≤ ((x1_1.length : Int) : Int) := of_decide_eq_true (by first | (with_reducible assumption) | assumption); obtain ⟨i025, hi025, _, hsz25, _⟩ := info_parts info72; have hroom25 : x1_1.length ≤ co23 := (Kd.V_reads' HO_1.out).2.1; have hC25 : Kd.F k72 _ _ (some ad415) x1_1.length x1_1 := (Kd.V_at (base := w.heap.size) HO_1.out).2.2; have hcut25 := cut_from (P := Try.prog) 69 72 .i64 Try.underlying69 hi025 2 hsz25 (some ad415) x1_1.length co23 1 (by omega) q25; have hr25 := Kd.F_cut (m := (1 : Int).toNat) (c := co23) hC25 (by omega) hroom25; obtain ⟨A25, hA25⟩ : ∃ A1, A1 = (if co23 = (1 : Int).toNat then (some ad415) else ((some ad415) : Option Addr).map (·.add ((1 : Int).toNat * 2))) := ⟨_, rfl⟩; obtain ⟨c25, hc25⟩ : ∃ c1, c1 = co23 - (1 : Int).toNat := ⟨_, rfl⟩; have hy25 : y428.length = x1_1.length - (1 : Int).toNat := (by rw [Ny428.out, List.length_drop] <;> omega); rw [show (x1_1).drop (1 : Int).toNat = y428 from Ny428.out.symm] at hr25; replace hr25 : Kd.F k72 _ _ A25 y428.length y428 := (by rw [hA25]; exact hr25); rw [← hy25, ← hA25, ← hc25] at hcut25; have HO432 := Aside0.mk (show Kd.V k72 72 _ w.heap.size _ (.slice A25 y428.length c25) y428 from Kd.V_mk (by rw [hy25, hc25]; exact Nat.sub_le_sub_right hroom25 _) hr25); have HC432 := Aside0.mk (show y428.length ≤ c25 from by rw [hy25, hc25]; exact Nat.sub_le_sub_right hroom25 _); clear hr25 hC25 hroom25 hi025 hsz25 hc25; have KY25 := Aside0.mk hy25; have KA25 := Aside0.mk hA25; clear hy25 hA25; replace q25 := eq_true q25)))
                        go_roundg kj2
                        case measure => have := HK1.out; have := HJ2.out; omega
                        case rel => exact ⟨(x0_1), (y428), (y418), H', ⟨by have := HK1.out; have := HJ2.out; omega⟩, ⟨by (with_reducible repeat (first | apply Kd.V_alloc | apply Kd.V_drewN | apply Kd.V_drew)); exact HO_0.out⟩, ⟨by (with_reducible repeat (first | apply Kd.V_alloc | apply Kd.V_drewN | apply Kd.V_drew)); exact HO432.out⟩, ⟨by (with_reducible repeat (first | apply Kd.R_alloc | apply Kd.R_drewN | apply Kd.R_drew)); exact HO420.out⟩, ⟨by repeat (first | (with_reducible first | exact HB.out | apply below_alloc | apply pw_below_drewN | apply below_drew1) | exact HB.out)⟩⟩
                      · rw [if_neg c21] at H
                        exact absurd H (by simp)
                  · rw [if_neg c14] at H
                    exact absurd H (by simp)
                · rw [if_neg c13] at H
                  have c13b0 : decide ((ji11) ≤ (ji12)) = false := decide_eq_false c13
                  clear c13
                  by_cases c26 : ((rd_T72 x0_1 0).f1) < ((rd_T72 x1_1 0).f1)
                  · rw [if_pos c26] at H
                    have c26b0 : decide (((rd_T72 x0_1 0).f1) < ((rd_T72 x1_1 0).f1)) = true := decide_eq_true c26
                    clear c26
                    by_cases c27 : 1 ≤ (x0_1.length : Int)
                    · rw [if_pos c27] at H
                      have c27b0 := eq_true c27
                      have c27b1 : decide (1 ≤ (x0_1.length : Int)) = true := decide_eq_true c27
                      clear c27
                      obtain ⟨y435, hy435⟩ : ∃ y_ : List (S72), y_ = (x0_1.drop 1) := ⟨_, rfl⟩
                      replace H : (sets_Meet.l0 kj2 y435 x1_1 x5_1) = some r := by first | (rw [hy435]; with_reducible exact H) | (have H2_ := (Option.bind_some _ _).symm.trans H; rw [hy435]; with_reducible exact H2_) | (have H2_ := (Option.bind_some _ _).symm.trans H; with_reducible exact H2_) | with_reducible exact H | (rw [hy435]; exact H) | exact H
                      have Ny435 := Aside0.mk hy435
                      clear hy435
                      have H' := Aside0.mk H
                      clear H
                      obtain ⟨Ao28, co28, eo28⟩ := Kd.V_slice HO_0.out
                      subst eo28
                      have p414 : 0 ≤ (0 : Int) := (by omega)
                      have q414 : 0 < (x0_1.length : Int) := of_decide_eq_true (by first | (with_reducible assumption) | assumption)
                      obtain ⟨ad414, e414, hx414_0, hx414_1⟩ := at_T72 (Kd.V_reads' HO_0.out).2.2 0 p414 q414
                      cases e414
                      have qi414 : (0 < x0_1.length) = True := eq_true (by omega)
                      (try rw [show ((0 : Int)).toNat = 0 from rfl] at hx414_0)
                      (try rw [show 0 * 2 = 0 from rfl] at hx414_0)
                      (try rw [Addr.add_zero'] at hx414_0)
                      (try rw [show ((0 : Int)).toNat = 0 from rfl] at hx414_1)
                      (try rw [show 0 * 2 = 0 from rfl] at hx414_1)
                      (try rw [Addr.add_zero'] at hx414_1)
                      replace p414 := eq_true p414
                      replace q414 := eq_true q414
                      obtain ⟨Ao29, co29, eo29⟩ := Kd.V_slice HO_1.out
                      subst eo29
                      have p415 : 0 ≤ (0 : Int) := (by omega)
                      have q415 : 0 < (x1_1.length : Int) := of_decide_eq_true (by first | (with_reducible assumption) | assumption)
                      obtain ⟨ad415, e415, hx415_0, hx415_1⟩ := at_T72 (Kd.V_reads' HO_1.out).2.2 0 p415 q415
                      cases e415
                      have qi415 : (0 < x1_1.length) = True := eq_true (by omega)
                      (try rw [show ((0 : Int)).toNat = 0 from rfl] at hx415_0)
                      (try rw [show 0 * 2 = 0 from rfl] at hx415_0)
                      (try rw [Addr.add_zero'] at hx415_0)
                      (try rw [show ((0 : Int)).toNat = 0 from rfl] at hx415_1)
                      (try rw [show 0 * 2 = 0 from rfl] at hx415_1)
                      (try rw [Addr.add_zero'] at hx415_1)
                      replace p415 := eq_true p415
                      replace q415 := eq_true q415
                      have p416 : 0 ≤ (0 : Int) := (by omega)
                      have q416 : 0 < (x0_1.length : Int) := of_decide_eq_true (by first | (with_reducible assumption) | assumption)
                      obtain ⟨ad416, e416, hx416_0, hx416_1⟩ := at_T72 (Kd.V_reads' HO_0.out).2.2 0 p416 q416
                      obtain rfl : ad414 = ad416 := (by injection e416)
                      have qi416 : (0 < x0_1.length) = True := eq_true (by omega)
                      (try rw [show ((0 : Int)).toNat = 0 from rfl] at hx416_0)
                      (try rw [show 0 * 2 = 0 from rfl] at hx416_0)
                      (try rw [Addr.add_zero'] at hx416_0)
                      (try rw [show ((0 : Int)).toNat = 0 from rfl] at hx416_1)
                      (try rw [show 0 * 2 = 0 from rfl] at hx416_1)
                      (try rw [Addr.add_zero'] at hx416_1)
                      replace p416 := eq_true p416
                      replace q416 := eq_true q416
                      have p417 : 0 ≤ (0 : Int) := (by omega)
                      have q417 : 0 < (x1_1.length : Int) := of_decide_eq_true (by first | (with_reducible assumption) | assumption)
                      obtain ⟨ad417, e417, hx417_0, hx417_1⟩ := at_T72 (Kd.V_reads' HO_1.out).2.2 0 p417 q417
                      obtain rfl : ad415 = ad417 := (by injection e417)
                      have qi417 : (0 < x1_1.length) = True := eq_true (by omega)
                      (try rw [show ((0 : Int)).toNat = 0 from rfl] at hx417_0)
                      (try rw [show 0 * 2 = 0 from rfl] at hx417_0)
                      (try rw [Addr.add_zero'] at hx417_0)
                      (try rw [show ((0 : Int)).toNat = 0 from rfl] at hx417_1)
                      (try rw [show 0 * 2 = 0 from rfl] at hx417_1)
                      (try rw [Addr.add_zero'] at hx417_1)
                      replace p417 := eq_true p417
                      replace q417 := eq_true q417
                      have p433 : 0 ≤ (0 : Int) := (by omega)
                      have q433 : 0 < (x0_1.length : Int) := of_decide_eq_true (by first | (with_reducible assumption) | assumption)
                      obtain ⟨ad433, e433, hx433_0, hx433_1⟩ := at_T72 (Kd.V_reads' HO_0.out).2.2 0 p433 q433
                      obtain rfl : ad414 = ad433 := (by injection e433)
                      have qi433 : (0 < x0_1.length) = True := eq_true (by omega)
                      (try rw [show ((0 : Int)).toNat = 0 from rfl] at hx433_0)
                      (try rw [show 0 * 2 = 0 from rfl] at hx433_0)
                      (try rw [Addr.add_zero'] at hx433_0)
                      (try rw [show ((0 : Int)).toNat = 0 from rfl] at hx433_1)
                      (try rw [show 0 * 2 = 0 from rfl] at hx433_1)
                      (try rw [Addr.add_zero'] at hx433_1)
                      replace p433 := eq_true p433
                      replace q433 := eq_true q433
                      have p434 : 0 ≤ (0 : Int) := (by omega)
                      have q434 : 0 < (x1_1.length : Int) := of_decide_eq_true (by first | (with_reducible assumption) | assumption)
                      obtain ⟨ad434, e434, hx434_0, hx434_1⟩ := at_T72 (Kd.V_reads' HO_1.out).2.2 0 p434 q434
                      obtain rfl : ad415 = ad434 := (by injection e434)
                      have qi434 : (0 < x1_1.length) = True := eq_true (by omega)
                      (try rw [show ((0 : Int)).toNat = 0 from rfl] at hx434_0)
                      (try rw [show 0 * 2 = 0 from rfl] at hx434_0)
                      (try rw [Addr.add_zero'] at hx434_0)
                      (try rw [show ((0 : Int)).toNat = 0 from rfl] at hx434_1)
                      (try rw [show 0 * 2 = 0 from rfl] at hx434_1)
                      (try rw [Addr.add_zero'] at hx434_1)
                      replace p434 := eq_true p434
                      replace q434 := eq_true q434
                      have q30 : (1 : Int) ≤ ((x0_1.length : Int) : Int) := of_decide_eq_true (by first | (with_reducible assumption) | assumption)
                      obtain ⟨i030, hi030, _, hsz30, _⟩ := info_parts info72
                      have hroom30 : x0_1.length ≤ co28 := (Kd.V_reads' HO_0.out).2.1
                      have hC30 : Kd.F k72 _ _ (some ad414) x0_1.length x0_1 := (Kd.V_at (base := w.heap.size) HO_0.out).2.2
                      have hcut30 := cut_from (P := Try.prog) 69 72 .i64 Try.underlying69 hi030 2 hsz30 (some ad414) x0_1.length co28 1 (by omega) q30
                      have hr30 := Kd.F_cut (m := (1 : Int).toNat) (c := co28) hC30 (by omega) hroom30
                      obtain ⟨A30, hA30⟩ : ∃ A1, A1 = (if co28 = (1 : Int).toNat then (some ad414) else ((some ad414) : Option Addr).map (·.add ((1 : Int).toNat * 2))) := ⟨_, rfl⟩
                      obtain ⟨c30, hc30⟩ : ∃ c1, c1 = co28 - (1 : Int).toNat := ⟨_, rfl⟩
                      have hy30 : y435.length = x0_1.length - (1 : Int).toNat := (by rw [Ny435.out, List.length_drop] <;> omega)
                      rw [show (x0_1).drop (1 : Int).toNat = y435 from Ny435.out.symm] at hr30
                      replace hr30 : Kd.F k72 _ _ A30 y435.length y435 := (by rw [hA30]; exact hr30)
                      rw [← hy30, ← hA30, ← hc30] at hcut30
                      have HO439 := Aside0.mk (show Kd.V k72 72 _ w.heap.size _ (.slice A30 y435.length c30) y435 from Kd.V_mk (by rw [hy30, hc30]; exact Nat.sub_le_sub_right hroom30 _) hr30)
                      have HC439 := Aside0.mk (show y435.length ≤ c30 from by rw [hy30, hc30]; exact Nat.sub_le_sub_right hroom30 _)
                      clear hr30 hC30 hroom30 hi030 hsz30 hc30
                      have KY30 := Aside0.mk hy30
                      have KA30 := Aside0.mk hA30
                      clear hy30 hA30
                      replace q30 := eq_true q30
                      go_wp2
                      repeat (go_quiet (fail); try go_wp2)
                      go_roundg kj2
                      case measure => have := HK1.out; have := HJ2.out; omega
                      case rel => exact ⟨(y435), (x1_1), (x5_1), H', ⟨by have := HK1.out; have := HJ2.out; omega⟩, ⟨by (with_reducible repeat (first | apply Kd.V_alloc | apply Kd.V_drewN | apply Kd.V_drew)); exact HO439.out⟩, ⟨by (with_reducible repeat (first | apply Kd.V_alloc | apply Kd.V_drewN | apply Kd.V_drew)); exact HO_1.out⟩, ⟨by (with_reducible repeat (first | apply Kd.R_alloc | apply Kd.R_drewN | apply Kd.R_drew)); exact HO_5.out⟩, ⟨by repeat (first | (with_reducible first | exact HB.out | apply below_alloc | apply pw_below_drewN | apply below_drew1) | exact HB.out)⟩⟩
                    · rw [if_neg c27] at H
                      exact absurd H (by simp)
                  · rw [if_neg c26] at H
                    have c26b0 : decide (((rd_T72 x0_1 0).f1) < ((rd_T72 x1_1 0).f1)) = false := decide_eq_false c26
                    clear c26
                    by_cases c31 : 1 ≤ (x1_1.length : Int)
                    · rw [if_pos c31] at H
                      have c31b0 := eq_true c31
                      have c31b1 : decide (1 ≤ (x1_1.length : Int)) = true := decide_eq_true c31
                      clear c31
                      obtain ⟨y440, hy440⟩ : ∃ y_ : List (S72), y_ = (x1_1.drop 1) := ⟨_, rfl⟩
                      replace H : (sets_Meet.l0 kj2 x0_1 y440 x5_1) = some r := by first | (rw [hy440]; with_reducible exact H) | (have H2_ := (Option.bind_some _ _).symm.trans H; rw [hy440]; with_reducible exact H2_) | (have H2_ := (Option.bind_some _ _).symm.trans H; with_reducible exact H2_) | with_reducible exact H | (rw [hy440]; exact H) | exact H
                      have Ny440 := Aside0.mk hy440
                      clear hy440
                      have H' := Aside0.mk H
                      clear H
                      obtain ⟨Ao32, co32, eo32⟩ := Kd.V_slice HO_0.out
                      subst eo32
                      have p414 : 0 ≤ (0 : Int) := (by omega)
                      have q414 : 0 < (x0_1.length : Int) := of_decide_eq_true (by first | (with_reducible assumption) | assumption)
                      obtain ⟨ad414, e414, hx414_0, hx414_1⟩ := at_T72 (Kd.V_reads' HO_0.out).2.2 0 p414 q414
                      cases e414
                      have qi414 : (0 < x0_1.length) = True := eq_true (by omega)
                      (try rw [show ((0 : Int)).toNat = 0 from rfl] at hx414_0)
                      (try rw [show 0 * 2 = 0 from rfl] at hx414_0)
                      (try rw [Addr.add_zero'] at hx414_0)
                      (try rw [show ((0 : Int)).toNat = 0 from rfl] at hx414_1)
                      (try rw [show 0 * 2 = 0 from rfl] at hx414_1)
                      (try rw [Addr.add_zero'] at hx414_1)
                      replace p414 := eq_true p414
                      replace q414 := eq_true q414
                      obtain ⟨Ao33, co33, eo33⟩ := Kd.V_slice HO_1.out
                      subst eo33
                      have p415 : 0 ≤ (0 : Int) := (by omega)
                      have q415 : 0 < (x1_1.length : Int) := of_decide_eq_true (by first | (with_reducible assumption) | assumption)
                      obtain ⟨ad415, e415, hx415_0, hx415_1⟩ := at_T72 (Kd.V_reads' HO_1.out).2.2 0 p415 q415
                      cases e415
                      have qi415 : (0 < x1_1.length) = True := eq_true (by omega)
                      (try rw [show ((0 : Int)).toNat = 0 from rfl] at hx415_0)
                      (try rw [show 0 * 2 = 0 from rfl] at hx415_0)
                      (try rw [Addr.add_zero'] at hx415_0)
                      (try rw [show ((0 : Int)).toNat = 0 from rfl] at hx415_1)
                      (try rw [show 0 * 2 = 0 from rfl] at hx415_1)
                      (try rw [Addr.add_zero'] at hx415_1)
                      replace p415 := eq_true p415
                      replace q415 := eq_true q415
                      have p416 : 0 ≤ (0 : Int) := (by omega)
                      have q416 : 0 < (x0_1.length : Int) := of_decide_eq_true (by first | (with_reducible assumption) | assumption)
                      obtain ⟨ad416, e416, hx416_0, hx416_1⟩ := at_T72 (Kd.V_reads' HO_0.out).2.2 0 p416 q416
                      obtain rfl : ad414 = ad416 := (by injection e416)
                      have qi416 : (0 < x0_1.length) = True := eq_true (by omega)
                      (try rw [show ((0 : Int)).toNat = 0 from rfl] at hx416_0)
                      (try rw [show 0 * 2 = 0 from rfl] at hx416_0)
                      (try rw [Addr.add_zero'] at hx416_0)
                      (try rw [show ((0 : Int)).toNat = 0 from rfl] at hx416_1)
                      (try rw [show 0 * 2 = 0 from rfl] at hx416_1)
                      (try rw [Addr.add_zero'] at hx416_1)
                      replace p416 := eq_true p416
                      replace q416 := eq_true q416
                      have p417 : 0 ≤ (0 : Int) := (by omega)
                      have q417 : 0 < (x1_1.length : Int) := of_decide_eq_true (by first | (with_reducible assumption) | assumption)
                      obtain ⟨ad417, e417, hx417_0, hx417_1⟩ := at_T72 (Kd.V_reads' HO_1.out).2.2 0 p417 q417
                      obtain rfl : ad415 = ad417 := (by injection e417)
                      have qi417 : (0 < x1_1.length) = True := eq_true (by omega)
                      (try rw [show ((0 : Int)).toNat = 0 from rfl] at hx417_0)
                      (try rw [show 0 * 2 = 0 from rfl] at hx417_0)
                      (try rw [Addr.add_zero'] at hx417_0)
                      (try rw [show ((0 : Int)).toNat = 0 from rfl] at hx417_1)
                      (try rw [show 0 * 2 = 0 from rfl] at hx417_1)
                      (try rw [Addr.add_zero'] at hx417_1)
                      replace p417 := eq_true p417
                      replace q417 := eq_true q417
                      have p433 : 0 ≤ (0 : Int) := (by omega)
                      have q433 : 0 < (x0_1.length : Int) := of_decide_eq_true (by first | (with_reducible assumption) | assumption)
                      obtain ⟨ad433, e433, hx433_0, hx433_1⟩ := at_T72 (Kd.V_reads' HO_0.out).2.2 0 p433 q433
                      obtain rfl : ad414 = ad433 := (by injection e433)
                      have qi433 : (0 < x0_1.length) = True := eq_true (by omega)
                      (try rw [show ((0 : Int)).toNat = 0 from rfl] at hx433_0)
                      (try rw [show 0 * 2 = 0 from rfl] at hx433_0)
                      (try rw [Addr.add_zero'] at hx433_0)
                      (try rw [show ((0 : Int)).toNat = 0 from rfl] at hx433_1)
                      (try rw [show 0 * 2 = 0 from rfl] at hx433_1)
                      (try rw [Addr.add_zero'] at hx433_1)
                      replace p433 := eq_true p433
                      replace q433 := eq_true q433
                      have p434 : 0 ≤ (0 : Int) := (by omega)
                      have q434 : 0 < (x1_1.length : Int) := of_decide_eq_true (by first | (with_reducible assumption) | assumption)
                      obtain ⟨ad434, e434, hx434_0, hx434_1⟩ := at_T72 (Kd.V_reads' HO_1.out).2.2 0 p434 q434
                      obtain rfl : ad415 = ad434 := (by injection e434)
                      have qi434 : (0 < x1_1.length) = True := eq_true (by omega)
                      (try rw [show ((0 : Int)).toNat = 0 from rfl] at hx434_0)
                      (try rw [show 0 * 2 = 0 from rfl] at hx434_0)
                      (try rw [Addr.add_zero'] at hx434_0)
                      (try rw [show ((0 : Int)).toNat = 0 from rfl] at hx434_1)
                      (try rw [show 0 * 2 = 0 from rfl] at hx434_1)
                      (try rw [Addr.add_zero'] at hx434_1)
                      replace p434 := eq_true p434
                      replace q434 := eq_true q434
                      have q34 : (1 : Int) ≤ ((x1_1.length : Int) : Int) := of_decide_eq_true (by first | (with_reducible assumption) | assumption)
                      obtain ⟨i034, hi034, _, hsz34, _⟩ := info_parts info72
                      have hroom34 : x1_1.length ≤ co33 := (Kd.V_reads' HO_1.out).2.1
                      have hC34 : Kd.F k72 _ _ (some ad415) x1_1.length x1_1 := (Kd.V_at (base := w.heap.size) HO_1.out).2.2
                      have hcut34 := cut_from (P := Try.prog) 69 72 .i64 Try.underlying69 hi034 2 hsz34 (some ad415) x1_1.length co33 1 (by omega) q34
                      have hr34 := Kd.F_cut (m := (1 : Int).toNat) (c := co33) hC34 (by omega) hroom34
                      obtain ⟨A34, hA34⟩ : ∃ A1, A1 = (if co33 = (1 : Int).toNat then (some ad415) else ((some ad415) : Option Addr).map (·.add ((1 : Int).toNat * 2))) := ⟨_, rfl⟩
                      obtain ⟨c34, hc34⟩ : ∃ c1, c1 = co33 - (1 : Int).toNat := ⟨_, rfl⟩
                      have hy34 : y440.length = x1_1.length - (1 : Int).toNat := (by rw [Ny440.out, List.length_drop] <;> omega)
                      rw [show (x1_1).drop (1 : Int).toNat = y440 from Ny440.out.symm] at hr34
                      replace hr34 : Kd.F k72 _ _ A34 y440.length y440 := (by rw [hA34]; exact hr34)
                      rw [← hy34, ← hA34, ← hc34] at hcut34
                      have HO444 := Aside0.mk (show Kd.V k72 72 _ w.heap.size _ (.slice A34 y440.length c34) y440 from Kd.V_mk (by rw [hy34, hc34]; exact Nat.sub_le_sub_right hroom34 _) hr34)
                      have HC444 := Aside0.mk (show y440.length ≤ c34 from by rw [hy34, hc34]; exact Nat.sub_le_sub_right hroom34 _)
                      clear hr34 hC34 hroom34 hi034 hsz34 hc34
                      have KY34 := Aside0.mk hy34
                      have KA34 := Aside0.mk hA34
                      clear hy34 hA34
                      replace q34 := eq_true q34
                      go_wp2
                      repeat (go_quiet (fail); try go_wp2)
                      go_roundg kj2
                      case measure => have := HK1.out; have := HJ2.out; omega
                      case rel => exact ⟨(x0_1), (y440), (x5_1), H', ⟨by have := HK1.out; have := HJ2.out; omega⟩, ⟨by (with_reducible repeat (first | apply Kd.V_alloc | apply Kd.V_drewN | apply Kd.V_drew)); exact HO_0.out⟩, ⟨by (with_reducible repeat (first | apply Kd.V_alloc | apply Kd.V_drewN | apply Kd.V_drew)); exact HO444.out⟩, ⟨by (with_reducible repeat (first | apply Kd.R_alloc | apply Kd.R_drewN | apply Kd.R_drew)); exact HO_5.out⟩, ⟨by repeat (first | (with_reducible first | exact HB.out | apply below_alloc | apply pw_below_drewN | apply below_drew1) | exact HB.out)⟩⟩
                    · rw [if_neg c31] at H
                      exact absurd H (by simp)
              · rw [if_neg c10] at H
                exact absurd H (by simp)
            · rw [if_neg c9] at H
              exact absurd H (by simp)
          · replace c8 := Bool.eq_false_iff.mpr c8
            subst c8
            have H1 : (some x5_1) = some r := by rw [if_neg (show ¬ (false = true) by decide)] at H; exact H
            clear H
            have H := H1
            clear H1
            obtain rfl := Option.some.inj H
            go_wp2
            repeat (go_quiet (fail); try go_wp2)
            go_ret
            exact ⟨_, by first | rfl | (simp [errW_none, errW_some] <;> rfl) | (simp [*, errW_none, errW_some] <;> rfl), by (with_reducible repeat (first | apply Kd.R_alloc | apply Kd.R_drewN | apply Kd.R_drew)); exact HO_5.out, by repeat (first | (with_reducible first | exact HB.out | apply below_alloc | apply pw_below_drewN | apply below_drew1) | exact HB.out)⟩
def scalars_Meet.f (k : Nat) (l0 : List (S56)) (l1 : List (S56)) : Option ((List (S56))) := (scalars_set.f k l0).bind fun t445 => ((scalars_set.f k l1).bind fun t448 => ((sets_Meet.f k t445 t448).bind fun t451 => ((scalars_back.f k t451).bind fun t454 => (some t454))))
set_option maxHeartbeats 8000000 in
set_option maxRecDepth 100000 in
theorem scalars_Meet.calls (k : Nat) (A0 : Option Addr) (c0 : Nat) (l0 : List (S56)) (A1 : Option Addr) (c1 : Nat) (l1 : List (S56)) (r : List (S56)) (w : World) (hr0 : Kd.C k56 w A0 l0.length l0) (hc0 : l0.length ≤ c0) (hr1 : Kd.C k56 w A1 l1.length l1) (hc1 : l1.length ≤ c1) (h : scalars_Meet.f k l0 l1 = some r) :
    Calls Try.prog 61 #[.slice A0 l0.length c0, .slice A1 l1.length c1] w fun e w' => ∃ v0_ : Value, e = .returned (v0_) ∧ Kd.R k56 56 w' w.heap.size (fun _ => True) v0_ r ∧ Below w.heap.size w w' := by
  have HR0 := Aside0.mk hr0
  have HC0 := Aside0.mk hc0
  clear hr0 hc0
  have HR1 := Aside0.mk hr1
  have HC1 := Aside0.mk hc1
  clear hr1 hc1
  have HB := Aside0.mk (Below.refl w.heap.size w)
  have H : ((scalars_set.f k l0).bind fun t445 => ((scalars_set.f k l1).bind fun t448 => ((sets_Meet.f k t445 t448).bind fun t451 => ((scalars_back.f k t451).bind fun t454 => (some t454))))) = some r := h
  clear h
  replace H := Option.bind_eq_some_iff.mp H
  obtain ⟨t445, A30, H⟩ := H
  replace H : ((scalars_set.f k l1).bind fun t448 => ((sets_Meet.f k t445 t448).bind fun t451 => ((scalars_back.f k t451).bind fun t454 => (some t454)))) = some r := H
  have A3 := Aside0.mk A30
  clear A30
  replace H := Option.bind_eq_some_iff.mp H
  obtain ⟨t448, A40, H⟩ := H
  replace H : ((sets_Meet.f k t445 t448).bind fun t451 => ((scalars_back.f k t451).bind fun t454 => (some t454))) = some r := H
  have A4 := Aside0.mk A40
  clear A40
  replace H := Option.bind_eq_some_iff.mp H
  obtain ⟨t451, A50, H⟩ := H
  replace H : ((scalars_back.f k t451).bind fun t454 => (some t454)) = some r := H
  have A5 := Aside0.mk A50
  clear A50
  replace H := Option.bind_eq_some_iff.mp H
  obtain ⟨t454, A60, H⟩ := H
  replace H : (some t454) = some r := H
  have A6 := Aside0.mk A60
  clear A60
  obtain rfl := Option.some.inj H
  go_enter Try.func61, Try.ntmps61
  go_wp2_with (first | ((with_reducible refine gate_callee (f := 78) rfl ?_); refine goesL_ (some 6) rfl rfl Try.func78 (by kernel_rfl) rfl #[.slice A0 l0.length c0] rfl (by (try simp only [List.map_toArray, List.map_cons, List.map_nil]); first | done | rfl | (simp only [List.length_drop, List.length_take]; rfl)) ?_; (with_reducible refine (scalars_set.calls k _ _ l0 t445 _ ?side1 ?side2 A3.out).mono ?_); (case side1 => repeat (first | exact HR0.out | (with_reducible refine Kd.C_alloc ?_ _) | (with_reducible refine Kd.C_drewN ?_ _) | (with_reducible refine Kd.C_drew ?_))); (case side2 => exact HC0.out); rintro e w7 ⟨v446, rfl, ho0, hb⟩; refine ⟨_, rfl, ?_⟩; have n0_ := Aside0.mk (Kd.R_lower ho0 (below_size (by repeat (first | (with_reducible first | exact HB.out | apply below_alloc | apply pw_below_drewN | apply below_drew1) | exact HB.out)))); have n1_ := Aside0.mk (below_step (by repeat (first | (with_reducible first | exact HB.out | apply below_alloc | apply pw_below_drewN | apply below_drew1) | exact HB.out)) hb); clear HB; have HO447 := n0_; have HB := n1_; clear n0_ n1_; (try clear hb); (try clear hb2); (try clear hk); (try clear hi); (try clear ho0)) | ((with_reducible refine gate_callee (f := 78) rfl ?_); refine goesL_ (some 8) rfl rfl Try.func78 (by kernel_rfl) rfl #[.slice A1 l1.length c1] rfl (by (try simp only [List.map_toArray, List.map_cons, List.map_nil]); first | done | rfl | (simp only [List.length_drop, List.length_take]; rfl)) ?_; (with_reducible refine (scalars_set.calls k _ _ l1 t448 _ ?side1 ?side2 A4.out).mono ?_); (case side1 => repeat (first | exact (Kd.C_below HR1.out HB.out) | (with_reducible refine Kd.C_alloc ?_ _) | (with_reducible refine Kd.C_drewN ?_ _) | (with_reducible refine Kd.C_drew ?_))); (case side2 => exact HC1.out); rintro e w8 ⟨v449, rfl, ho0, hb⟩; refine ⟨_, rfl, ?_⟩; have n0_ := Aside0.mk (Kd.R_elder' (by (with_reducible repeat (first | apply Kd.R_alloc | apply Kd.R_drewN | apply Kd.R_drew)); exact HO447.out) (Kd.R_base ho0) hb); have n1_ := Aside0.mk (Kd.R_lower (Kd.R_new' ho0 (Kd.R_lt (by (with_reducible repeat (first | apply Kd.R_alloc | apply Kd.R_drewN | apply Kd.R_drew)); exact HO447.out))) (below_size (by repeat (first | (with_reducible first | exact HB.out | apply below_alloc | apply pw_below_drewN | apply below_drew1) | exact HB.out)))); have n2_ := Aside0.mk (below_step (by repeat (first | (with_reducible first | exact HB.out | apply below_alloc | apply pw_below_drewN | apply below_drew1) | exact HB.out)) hb); clear HO447; clear HB; have HO447 := n0_; have HO450 := n1_; have HB := n2_; clear n0_ n1_ n2_; (try clear hb); (try clear hb2); (try clear hk); (try clear hi); (try clear ho0); obtain ⟨Ao9, co9, eo9⟩ := Kd.R_slice HO447.out; subst eo9; obtain ⟨Ao10, co10, eo10⟩ := Kd.R_slice HO450.out; subst eo10) | ((with_reducible refine gate_callee (f := 84) rfl ?_); refine goesL_ (some 9) rfl rfl Try.func84 (by kernel_rfl) rfl #[.slice Ao9 t445.length co9, .slice Ao10 t448.length co10] rfl (by (try simp only [List.map_toArray, List.map_cons, List.map_nil]); first | done | rfl | (simp only [List.length_drop, List.length_take]; rfl)) ?_; (with_reducible refine (sets_Meet.calls k (fun k_ => some k_ = (.slice Ao9 t445.length co9 : Value).ownBlock) _ _ t445 (fun k_ => some k_ = (.slice Ao10 t448.length co10 : Value).ownBlock) _ _ t448 t451 _ ?side1 ?side2 A5.out).mono ?_); (case side1 => exact Kd.R_V (Kd.R_tight rfl (HO447.out))); (case side2 => exact Kd.R_V (Kd.R_tight rfl (HO450.out))); rintro e w11 ⟨v452, rfl, ho0, hb⟩; refine ⟨_, rfl, ?_⟩; have n0_ := Aside0.mk (Kd.R_elder' (by (with_reducible repeat (first | apply Kd.R_alloc | apply Kd.R_drewN | apply Kd.R_drew)); exact HO447.out) (Kd.R_base ho0) hb); have n1_ := Aside0.mk (Kd.R_elder' (by (with_reducible repeat (first | apply Kd.R_alloc | apply Kd.R_drewN | apply Kd.R_drew)); exact HO450.out) (Kd.R_base ho0) hb); have n2_ := Aside0.mk (Kd.R_lower (Kd.R_new' (Kd.R_new' (Kd.R_mono (ok' := fun k_ => True) ho0 (fun _ hk_ => trivial)) (Kd.R_lt (by (with_reducible repeat (first | apply Kd.R_alloc | apply Kd.R_drewN | apply Kd.R_drew)); exact HO447.out))) (Kd.R_lt (by (with_reducible repeat (first | apply Kd.R_alloc | apply Kd.R_drewN | apply Kd.R_drew)); exact HO450.out))) (below_size (by repeat (first | (with_reducible first | exact HB.out | apply below_alloc | apply pw_below_drewN | apply below_drew1) | exact HB.out)))); have n3_ := Aside0.mk (below_step (by repeat (first | (with_reducible first | exact HB.out | apply below_alloc | apply pw_below_drewN | apply below_drew1) | exact HB.out)) hb); clear HO447; clear HO450; clear HB; have HO447 := n0_; have HO450 := n1_; have HO453 := n2_; have HB := n3_; clear n0_ n1_ n2_ n3_; (try clear hb); (try clear hb2); (try clear hk); (try clear hi); (try clear ho0); obtain ⟨Ao12, co12, eo12⟩ := Kd.R_slice HO453.out; subst eo12) | ((with_reducible refine gate_callee (f := 72) rfl ?_); refine goesL_ (some 10) rfl rfl Try.func72 (by kernel_rfl) rfl #[.slice Ao12 t451.length co12] rfl (by (try simp only [List.map_toArray, List.map_cons, List.map_nil]); first | done | rfl | (simp only [List.length_drop, List.length_take]; rfl)) ?_; (with_reducible refine (scalars_back.calls k _ _ t451 t454 _ ?side1 ?side2 A6.out).mono ?_); (case side1 => repeat (first | exact (Kd.R_reads' HO453.out).2.2 | (with_reducible refine Kd.C_alloc ?_ _) | (with_reducible refine Kd.C_drewN ?_ _) | (with_reducible refine Kd.C_drew ?_))); (case side2 => exact (Kd.R_reads' HO453.out).2.1); rintro e w13 ⟨v455, rfl, ho0, hb⟩; refine ⟨_, rfl, ?_⟩; have n0_ := Aside0.mk (Kd.R_below (by (with_reducible repeat (first | apply Kd.R_alloc | apply Kd.R_drewN | apply Kd.R_drew)); exact HO447.out) hb); have n1_ := Aside0.mk (Kd.R_below (by (with_reducible repeat (first | apply Kd.R_alloc | apply Kd.R_drewN | apply Kd.R_drew)); exact HO450.out) hb); have n2_ := Aside0.mk (Kd.R_below (by (with_reducible repeat (first | apply Kd.R_alloc | apply Kd.R_drewN | apply Kd.R_drew)); exact HO453.out) hb); have n3_ := Aside0.mk (Kd.R_lower ho0 (below_size (by repeat (first | (with_reducible first | exact HB.out | apply below_alloc | apply pw_below_drewN | apply below_drew1) | exact HB.out)))); have n4_ := Aside0.mk (below_step (by repeat (first | (with_reducible first | exact HB.out | apply below_alloc | apply pw_below_drewN | apply below_drew1) | exact HB.out)) hb); clear HO447; clear HO450; clear HO453; clear HB; have HO447 := n0_; have HO450 := n1_; have HO453 := n2_; have HO456 := n3_; have HB := n4_; clear n0_ n1_ n2_ n3_ n4_; (try clear hb); (try clear hb2); (try clear hk); (try clear hi); (try clear ho0)))
  go_ret
  exact ⟨_, by first | rfl | (simp [errW_none, errW_some] <;> rfl) | (simp [*, errW_none, errW_some] <;> rfl), by (with_reducible repeat (first | apply Kd.R_alloc | apply Kd.R_drewN | apply Kd.R_drew)); exact HO456.out, by repeat (first | (with_reducible first | exact HB.out | apply below_alloc | apply pw_below_drewN | apply below_drew1) | exact HB.out)⟩
def sets_Not.l0 : Nat → Int → List (S72) → Int → List (S72) → Int → Int → Option ((List (S72)))
  | 0, _, _, _, _, _, _ => none
  | k + 1, x1, x5, x6, x9, x10, x11 => if x11 < x10 then (if 0 ≤ x11 then (if x11 < (x9.length : Int) then (if ((rd_T72 x9 x11).f0) > x6 then (if x5.length < 8796093022208 then (sets_Not.l0 k x1 (x5 ++ [(⟨x6, wrap64 (((rd_T72 x9 x11).f0) - 1)⟩ : S72)]) (wrap64 (((rd_T72 x9 x11).f1) + 1)) x9 x10 (wrap64 (x11 + 1))) else (none)) else (sets_Not.l0 k x1 x5 (wrap64 (((rd_T72 x9 x11).f1) + 1)) x9 x10 (wrap64 (x11 + 1)))) else (none)) else (none)) else (if x6 ≤ x1 then (if x5.length < 8796093022208 then (some (x5 ++ [(⟨x6, x1⟩ : S72)])) else (none)) else (some x5))
def sets_Not.f (k : Nat) (l0 : List (S72)) (a1 : Int) : Option ((List (S72))) := sets_Not.l0 k a1 ([] : List (S72)) 0 l0 (l0.length : Int) 0
set_option maxHeartbeats 8000000 in
set_option maxRecDepth 100000 in
theorem sets_Not.calls (k : Nat) (A0 : Option Addr) (c0 : Nat) (l0 : List (S72)) (a1 : Int) (r : List (S72)) (w : World) (hr0 : Kd.C k72 w A0 l0.length l0) (hc0 : l0.length ≤ c0) (h : sets_Not.f k l0 a1 = some r) :
    Calls Try.prog 85 #[.slice A0 l0.length c0, .int .i64 a1] w fun e w' => ∃ v0_ : Value, e = .returned (v0_) ∧ Kd.R k72 72 w' w.heap.size (fun _ => True) v0_ r ∧ Below w.heap.size w w' := by
  have hu72 := Try.underlying72
  have HR0 := Aside0.mk hr0
  have HC0 := Aside0.mk hc0
  clear hr0 hc0
  have HB := Aside0.mk (Below.refl w.heap.size w)
  have H : (sets_Not.l0 k a1 ([] : List (S72)) 0 l0 (l0.length : Int) 0) = some r := h
  clear h
  have H' := Aside0.mk H
  clear H
  go_enter Try.func85, Try.ntmps85
  go_wp2
  go_loopg [5, 6, 11] k (fun kq v5 v6 v11 w' => ∃ (x5_1 : List (S72)) (x6_1 : Int) (x11_1 : Int), v6 = .int .i64 x6_1 ∧ v11 = .int .i64 x11_1 ∧ Aside0 (sets_Not.l0 kq a1 x5_1 x6_1 l0 (l0.length : Int) x11_1 = some r) ∧ Aside0 (kq ≤ k) ∧ Aside0 (Kd.R k72 72 w' w.heap.size (fun _ => True) v5 x5_1) ∧ Aside0 (Below w.heap.size w w'))
  case atStart => exact ⟨(([] : List (S72))), (0), (0), (by first | rfl | (simp; done) | (simp [*]; done)), (by first | rfl | (simp; done) | (simp [*]; done)), H', ⟨Nat.le_refl _⟩, ⟨by first | exact Kd.R_nil _ _ _ _ _ | exact Kd.N_nil _ _ _ _ _ | exact Kd.V_nil _ _ _ _ _ | exact Kd.Q_nil _ _ _ _ _ | exact Kd.S_nil _ _ _ _ _⟩, ⟨by repeat (first | (with_reducible first | exact HB.out | apply below_alloc | apply pw_below_drewN | apply below_drew1) | exact HB.out)⟩⟩
  case round =>
    clear H'
    try clear p2
    obtain ⟨x5_1, x6_1, x11_1, rfl, rfl, HA, HK1, HO_5, HB⟩ := hrel
    cases gk with
    | zero => exact absurd HA.out (by simp [sets_Not.l0])
    | succ k1 =>
      have H := HA.out
      clear HA
      simp only [sets_Not.l0] at H
      by_cases c3 : x11_1 < (l0.length : Int)
      · rw [if_pos c3] at H
        have c3b0 : decide (x11_1 < (l0.length : Int)) = true := decide_eq_true c3
        clear c3
        by_cases c4 : 0 ≤ x11_1
        · rw [if_pos c4] at H
          have c4b0 : decide (0 ≤ x11_1) = true := decide_eq_true c4
          clear c4
          by_cases c5 : x11_1 < (l0.length : Int)
          · rw [if_pos c5] at H
            have c5b0 : decide (x11_1 < (l0.length : Int)) = true := decide_eq_true c5
            clear c5
            by_cases c6 : ((rd_T72 l0 x11_1).f0) > x6_1
            · rw [if_pos c6] at H
              have c6b0 : decide (x6_1 < ((rd_T72 l0 x11_1).f0)) = true := decide_eq_true c6
              clear c6
              by_cases c7 : x5_1.length < 8796093022208
              · rw [if_pos c7] at H
                have LMc7 := Aside0.mk c7
                clear c7
                obtain ⟨y459, hy459⟩ : ∃ y_ : List (S72), y_ = (x5_1 ++ [(⟨x6_1, wrap64 (((rd_T72 l0 x11_1).f0) - 1)⟩ : S72)]) := ⟨_, rfl⟩
                replace H : (sets_Not.l0 k1 a1 y459 (wrap64 (((rd_T72 l0 x11_1).f1) + 1)) l0 (l0.length : Int) (wrap64 (x11_1 + 1))) = some r := by first | (rw [hy459]; with_reducible exact H) | (have H2_ := (Option.bind_some _ _).symm.trans H; rw [hy459]; with_reducible exact H2_) | (have H2_ := (Option.bind_some _ _).symm.trans H; with_reducible exact H2_) | with_reducible exact H | (rw [hy459]; exact H) | exact H
                have Ny459 := Aside0.mk hy459
                clear hy459
                have H' := Aside0.mk H
                clear H
                have p457 : 0 ≤ (x11_1 : Int) := of_decide_eq_true (by first | (with_reducible assumption) | assumption)
                have q457 : x11_1 < (l0.length : Int) := of_decide_eq_true (by first | (with_reducible assumption) | assumption)
                obtain ⟨ad457, e457, hx457_0, hx457_1⟩ := at_T72 HR0.out x11_1 p457 q457
                cases e457
                replace hx457_0 := (HB.out.cell (World.block_lt_of_cell? w _ hx457_0)).trans hx457_0
                replace hx457_1 := (HB.out.cell (World.block_lt_of_cell? w _ hx457_1)).trans hx457_1
                replace p457 := eq_true p457
                replace q457 := eq_true q457
                go_wp2_with (first | ((with_reducible refine gate_dst (N := 8) rfl ?_); refine box_event ?hg (N := 8) ?hd (cs := #[.int .i64 0, .int .i64 0]) (t := 72) ?hr ?_; (case hd => rfl); (case hg => rfl); (case hr => first | (go_simp; done) | (go_simp; rfl)); intro gb458 hg w8 hbox hb; have n0_ := Aside0.mk (Kd.R_below (Kd.R_elderB (by (with_reducible repeat (first | apply Kd.R_alloc | apply Kd.R_drewN | apply Kd.R_drew)); exact HO_5.out) gb458 (Nat.le_of_eq hg.symm)) hb); have n1_ := Aside0.mk (below_step (by repeat (first | (with_reducible first | exact HB.out | apply below_alloc | apply pw_below_drewN | apply below_drew1) | exact HB.out)) hb); have n2_ := Aside0.mk (hbox); have n3_ := Aside0.mk ((by rw [hg]; exact (below_size (by repeat (first | (with_reducible first | exact HB.out | apply below_alloc | apply pw_below_drewN | apply below_drew1) | exact HB.out))) : w.heap.size ≤ gb458)); have n4_ := Aside0.mk ((by rw [hg]; exact (below_size (by repeat (first | (with_reducible first | exact HB.out | apply below_alloc | apply pw_below_drewN | apply below_drew1) | exact HB.out))) : w.heap.size ≤ gb458)); clear HO_5; clear HB; have HO_5 := n0_; have HB := n1_; have BK458 := n2_; have GW458 := n3_; have GE458 := n4_; clear n0_ n1_ n2_ n3_ n4_; clear hb hbox hg; have hcz9_0 : w8.cell? ⟨gb458, 0, none⟩ = some (.int .i64 0) := (blk_cell BK458.out 0).trans rfl; have hcz9_1 : w8.cell? ⟨gb458, 1, none⟩ = some (.int .i64 0) := (blk_cell BK458.out 1).trans rfl; have hfz9_0 := blk_frozen BK458.out 0; have hfz9_1 := blk_frozen BK458.out 1) | ((with_reducible refine gate_builtin (b := .append) (xs := #[.tmp 19, .tmp 25]) rfl ?_); at_builtin; refine Kd.R_append k72 (w0 := w) w.heap.size rfl (.tmp 19) (.tmp 25) 69 72 (.agg #[(.int .i64 0), (.int .i64 0)]) 16 rfl Try.underlying69 info72 rfl (by decide) (by omega) u5 x5_1 (⟨x6_1, wrap64 (((rd_T72 l0 x11_1).f0) - 1)⟩ : S72) [.int .i64 x6_1, .int .i64 (wrap64 (((rd_T72 l0 x11_1).f0) - 1))] (fun k_ => k_ ≠ gb458) (fun _ => False) rfl (by first | (go_simp; done) | (go_simp; rfl)) ?aP (fun _ hk => hk.elim) ?aF ?aO ?aB ?aS ?aL ?_; (case aP => exact k72_mkM _ _ _ (⟨x6_1, wrap64 (((rd_T72 l0 x11_1).f0) - 1)⟩ : S72)); (case aB => exact (by repeat (first | (with_reducible first | exact HB.out | apply below_alloc | apply pw_below_drewN | apply below_drew1 | refine below_set ?_ GE458.out) | exact HB.out))); (case aF => exact (fun k_ hk => Kd.freshB (g := gb458) (o := .cells #[.int .i64 ((rd_T72 l0 x11_1).f0), .int .i64 ((rd_T72 l0 x11_1).f1)] 72 (0, 0)) (by (with_reducible repeat (first | refine blk_drewN ?_ _ | refine blk_drew ?_ | refine blk_alloc ?_ _)); refine blk_put (cs := #[.int .i64 ((rd_T72 l0 x11_1).f0), .int .i64 0]) ?_ 1 _ rfl; (with_reducible repeat (first | refine blk_drewN ?_ _ | refine blk_drew ?_ | refine blk_alloc ?_ _)); refine blk_put (cs := #[.int .i64 0, .int .i64 0]) ?_ 0 _ rfl; (with_reducible repeat (first | refine blk_drewN ?_ _ | refine blk_drew ?_ | refine blk_alloc ?_ _)); exact BK458.out) k_ hk)); (case aO => exact (by (with_reducible repeat (first | apply Kd.R_alloc | apply Kd.R_drewN | apply Kd.R_drew)); exact Kd.R_mono (Kd.R_far (p := ⟨gb458, 1, none⟩) (Kd.R_far (p := ⟨gb458, 0, none⟩) (Kd.R_mono HO_5.out (fun k_ hk => (⟨hk, hk.2⟩ : _ ∧ k_ ≠ gb458))) (fun _ hk => hk.2) (.int .i64 ((rd_T72 l0 x11_1).f0))) (fun _ hk => hk.2) (.int .i64 ((rd_T72 l0 x11_1).f1))) (fun _ hk => hk.1.2))); (case aS => exact (below_size (by repeat (first | (with_reducible first | exact HB.out | apply below_alloc | apply pw_below_drewN | apply below_drew1 | refine below_set ?_ GE458.out) | exact HB.out)))); (case aL => have := LMc7.out; omega); intro v460 w10 ho hb hg hat; rw [← Ny459.out] at ho; have n0_ := Aside0.mk (blk_grown (g := gb458) (o := .cells #[.int .i64 ((rd_T72 l0 x11_1).f0), .int .i64 ((rd_T72 l0 x11_1).f1)] 72 (0, 0)) (by (with_reducible repeat (first | refine blk_drewN ?_ _ | refine blk_drew ?_ | refine blk_alloc ?_ _)); refine blk_put (cs := #[.int .i64 ((rd_T72 l0 x11_1).f0), .int .i64 0]) ?_ 1 _ rfl; (with_reducible repeat (first | refine blk_drewN ?_ _ | refine blk_drew ?_ | refine blk_alloc ?_ _)); refine blk_put (cs := #[.int .i64 0, .int .i64 0]) ?_ 0 _ rfl; (with_reducible repeat (first | refine blk_drewN ?_ _ | refine blk_drew ?_ | refine blk_alloc ?_ _)); exact BK458.out) hg (Kd.R_away HO_5.out (fun _ hk => hk.2))); have n1_ := Aside0.mk (hb); have n2_ := Aside0.mk (ho); clear BK458; clear HB; clear HO_5; have BK458 := n0_; have HB := n1_; have HO461 := n2_; clear n0_ n1_ n2_; clear ho hb hg hat; have hcz11_0 : w10.cell? ⟨gb458, 0, none⟩ = some (.int .i64 ((rd_T72 l0 x11_1).f0)) := (blk_cell BK458.out 0).trans rfl; have hcz11_1 : w10.cell? ⟨gb458, 1, none⟩ = some (.int .i64 ((rd_T72 l0 x11_1).f1)) := (blk_cell BK458.out 1).trans rfl; have hfz11_0 := blk_frozen BK458.out 0; have hfz11_1 := blk_frozen BK458.out 1))
                go_roundg k1
                case measure => have := HK1.out; omega
                case rel => exact ⟨(y459), (wrap64 (((rd_T72 l0 x11_1).f1) + 1)), (wrap64 (x11_1 + 1)), (by first | rfl | (simp; done) | (simp [*]; done)), (by first | rfl | (simp; done) | (simp [*]; done)), H', ⟨by have := HK1.out; omega⟩, ⟨by (with_reducible repeat (first | apply Kd.R_alloc | apply Kd.R_drewN | apply Kd.R_drew)); exact Kd.R_mono HO461.out (fun _ hk => trivial)⟩, ⟨by repeat (first | (with_reducible first | exact HB.out | apply below_alloc | apply pw_below_drewN | apply below_drew1 | refine below_set ?_ GE458.out) | exact HB.out)⟩⟩
              · rw [if_neg c7] at H
                exact absurd H (by simp)
            · rw [if_neg c6] at H
              have c6b0 : decide (x6_1 < ((rd_T72 l0 x11_1).f0)) = false := decide_eq_false c6
              clear c6
              have H' := Aside0.mk H
              clear H
              have p457 : 0 ≤ (x11_1 : Int) := of_decide_eq_true (by first | (with_reducible assumption) | assumption)
              have q457 : x11_1 < (l0.length : Int) := of_decide_eq_true (by first | (with_reducible assumption) | assumption)
              obtain ⟨ad457, e457, hx457_0, hx457_1⟩ := at_T72 HR0.out x11_1 p457 q457
              cases e457
              replace hx457_0 := (HB.out.cell (World.block_lt_of_cell? w _ hx457_0)).trans hx457_0
              replace hx457_1 := (HB.out.cell (World.block_lt_of_cell? w _ hx457_1)).trans hx457_1
              replace p457 := eq_true p457
              replace q457 := eq_true q457
              go_wp2_with (first | ((with_reducible refine gate_dst (N := 8) rfl ?_); refine box_event ?hg (N := 8) ?hd (cs := #[.int .i64 0, .int .i64 0]) (t := 72) ?hr ?_; (case hd => rfl); (case hg => rfl); (case hr => first | (go_simp; done) | (go_simp; rfl)); intro gb458 hg w12 hbox hb; have n0_ := Aside0.mk (Kd.R_below (Kd.R_elderB (by (with_reducible repeat (first | apply Kd.R_alloc | apply Kd.R_drewN | apply Kd.R_drew)); exact HO_5.out) gb458 (Nat.le_of_eq hg.symm)) hb); have n1_ := Aside0.mk (below_step (by repeat (first | (with_reducible first | exact HB.out | apply below_alloc | apply pw_below_drewN | apply below_drew1) | exact HB.out)) hb); have n2_ := Aside0.mk (hbox); have n3_ := Aside0.mk ((by rw [hg]; exact (below_size (by repeat (first | (with_reducible first | exact HB.out | apply below_alloc | apply pw_below_drewN | apply below_drew1) | exact HB.out))) : w.heap.size ≤ gb458)); have n4_ := Aside0.mk ((by rw [hg]; exact (below_size (by repeat (first | (with_reducible first | exact HB.out | apply below_alloc | apply pw_below_drewN | apply below_drew1) | exact HB.out))) : w.heap.size ≤ gb458)); clear HO_5; clear HB; have HO_5 := n0_; have HB := n1_; have BK458 := n2_; have GW458 := n3_; have GE458 := n4_; clear n0_ n1_ n2_ n3_ n4_; clear hb hbox hg; have hcz13_0 : w12.cell? ⟨gb458, 0, none⟩ = some (.int .i64 0) := (blk_cell BK458.out 0).trans rfl; have hcz13_1 : w12.cell? ⟨gb458, 1, none⟩ = some (.int .i64 0) := (blk_cell BK458.out 1).trans rfl; have hfz13_0 := blk_frozen BK458.out 0; have hfz13_1 := blk_frozen BK458.out 1))
              go_roundg k1
              case measure => have := HK1.out; omega
              case rel => exact ⟨(x5_1), (wrap64 (((rd_T72 l0 x11_1).f1) + 1)), (wrap64 (x11_1 + 1)), (by first | rfl | (simp; done) | (simp [*]; done)), (by first | rfl | (simp; done) | (simp [*]; done)), H', ⟨by have := HK1.out; omega⟩, ⟨by (with_reducible repeat (first | apply Kd.R_alloc | apply Kd.R_drewN | apply Kd.R_drew)); exact Kd.R_mono (Kd.R_far (p := ⟨gb458, 1, none⟩) (Kd.R_far (p := ⟨gb458, 0, none⟩) (Kd.R_mono HO_5.out (fun k_ hk => (⟨hk, hk.2⟩ : _ ∧ k_ ≠ gb458))) (fun _ hk => hk.2) (.int .i64 ((rd_T72 l0 x11_1).f0))) (fun _ hk => hk.2) (.int .i64 ((rd_T72 l0 x11_1).f1))) (fun _ hk => trivial)⟩, ⟨by repeat (first | (with_reducible first | exact HB.out | apply below_alloc | apply pw_below_drewN | apply below_drew1 | refine below_set ?_ GE458.out) | exact HB.out)⟩⟩
          · rw [if_neg c5] at H
            exact absurd H (by simp)
        · rw [if_neg c4] at H
          exact absurd H (by simp)
      · rw [if_neg c3] at H
        have c3b0 : decide (x11_1 < (l0.length : Int)) = false := decide_eq_false c3
        clear c3
        by_cases c14 : x6_1 ≤ a1
        · rw [if_pos c14] at H
          have c14b0 : decide (x6_1 ≤ a1) = true := decide_eq_true c14
          clear c14
          by_cases c15 : x5_1.length < 8796093022208
          · rw [if_pos c15] at H
            have LMc15 := Aside0.mk c15
            clear c15
            obtain ⟨y462, hy462⟩ : ∃ y_ : List (S72), y_ = (x5_1 ++ [(⟨x6_1, a1⟩ : S72)]) := ⟨_, rfl⟩
            replace H : (some y462) = some r := by first | (rw [hy462]; with_reducible exact H) | (have H2_ := (Option.bind_some _ _).symm.trans H; rw [hy462]; with_reducible exact H2_) | (have H2_ := (Option.bind_some _ _).symm.trans H; with_reducible exact H2_) | with_reducible exact H | (rw [hy462]; exact H) | exact H
            have Ny462 := Aside0.mk hy462
            clear hy462
            obtain rfl := Option.some.inj H
            go_wp2_with (first | ((with_reducible refine gate_builtin (b := .append) (xs := #[.tmp 34, .tmp 38]) rfl ?_); at_builtin; refine Kd.R_append k72 (w0 := w) w.heap.size rfl (.tmp 34) (.tmp 38) 69 72 (.agg #[(.int .i64 0), (.int .i64 0)]) 16 rfl Try.underlying69 info72 rfl (by decide) (by omega) u5 x5_1 (⟨x6_1, a1⟩ : S72) [.int .i64 x6_1, .int .i64 a1] (fun _ => True) (fun _ => False) rfl rfl ?aP (fun _ hk => hk.elim) ?aF ?aO ?aB ?aS ?aL ?_; (case aP => exact k72_mkM _ _ _ (⟨x6_1, a1⟩ : S72)); (case aB => exact (by repeat (first | (with_reducible first | exact HB.out | apply below_alloc | apply pw_below_drewN | apply below_drew1) | exact HB.out))); (case aF => exact (fun _ _ => trivial)); (case aO => exact (by (with_reducible repeat (first | apply Kd.R_alloc | apply Kd.R_drewN | apply Kd.R_drew)); exact HO_5.out)); (case aS => exact (below_size (by repeat (first | (with_reducible first | exact HB.out | apply below_alloc | apply pw_below_drewN | apply below_drew1) | exact HB.out)))); (case aL => have := LMc15.out; omega); intro v463 w16 ho hb hg hat; rw [← Ny462.out] at ho; have n0_ := Aside0.mk (hb); have n1_ := Aside0.mk (ho); clear HB; clear HO_5; have HB := n0_; have HO464 := n1_; clear n0_ n1_; clear ho hb hg hat))
            go_ret
            exact ⟨_, by first | rfl | (simp [errW_none, errW_some] <;> rfl) | (simp [*, errW_none, errW_some] <;> rfl), by (with_reducible repeat (first | apply Kd.R_alloc | apply Kd.R_drewN | apply Kd.R_drew)); exact HO464.out, by repeat (first | (with_reducible first | exact HB.out | apply below_alloc | apply pw_below_drewN | apply below_drew1) | exact HB.out)⟩
          · rw [if_neg c15] at H
            exact absurd H (by simp)
        · rw [if_neg c14] at H
          have c14b0 : decide (x6_1 ≤ a1) = false := decide_eq_false c14
          clear c14
          obtain rfl := Option.some.inj H
          go_wp2
          go_ret
          exact ⟨_, by first | rfl | (simp [errW_none, errW_some] <;> rfl) | (simp [*, errW_none, errW_some] <;> rfl), by (with_reducible repeat (first | apply Kd.R_alloc | apply Kd.R_drewN | apply Kd.R_drew)); exact HO_5.out, by repeat (first | (with_reducible first | exact HB.out | apply below_alloc | apply pw_below_drewN | apply below_drew1) | exact HB.out)⟩
def scalars_Minus.f (k : Nat) (l0 : List (S56)) (l1 : List (S56)) : Option ((List (S56))) := (scalars_set.f k l0).bind fun t465 => ((scalars_set.f k l1).bind fun t468 => ((sets_Not.f k t468 1073741823).bind fun t471 => ((sets_Meet.f k t465 t471).bind fun t474 => ((scalars_back.f k t474).bind fun t477 => (some t477)))))
set_option maxHeartbeats 8000000 in
set_option maxRecDepth 100000 in
theorem scalars_Minus.calls (k : Nat) (A0 : Option Addr) (c0 : Nat) (l0 : List (S56)) (A1 : Option Addr) (c1 : Nat) (l1 : List (S56)) (r : List (S56)) (w : World) (hr0 : Kd.C k56 w A0 l0.length l0) (hc0 : l0.length ≤ c0) (hr1 : Kd.C k56 w A1 l1.length l1) (hc1 : l1.length ≤ c1) (h : scalars_Minus.f k l0 l1 = some r) :
    Calls Try.prog 62 #[.slice A0 l0.length c0, .slice A1 l1.length c1] w fun e w' => ∃ v0_ : Value, e = .returned (v0_) ∧ Kd.R k56 56 w' w.heap.size (fun _ => True) v0_ r ∧ Below w.heap.size w w' := by
  have HR0 := Aside0.mk hr0
  have HC0 := Aside0.mk hc0
  clear hr0 hc0
  have HR1 := Aside0.mk hr1
  have HC1 := Aside0.mk hc1
  clear hr1 hc1
  have HB := Aside0.mk (Below.refl w.heap.size w)
  have H : ((scalars_set.f k l0).bind fun t465 => ((scalars_set.f k l1).bind fun t468 => ((sets_Not.f k t468 1073741823).bind fun t471 => ((sets_Meet.f k t465 t471).bind fun t474 => ((scalars_back.f k t474).bind fun t477 => (some t477)))))) = some r := h
  clear h
  replace H := Option.bind_eq_some_iff.mp H
  obtain ⟨t465, A30, H⟩ := H
  replace H : ((scalars_set.f k l1).bind fun t468 => ((sets_Not.f k t468 1073741823).bind fun t471 => ((sets_Meet.f k t465 t471).bind fun t474 => ((scalars_back.f k t474).bind fun t477 => (some t477))))) = some r := H
  have A3 := Aside0.mk A30
  clear A30
  replace H := Option.bind_eq_some_iff.mp H
  obtain ⟨t468, A40, H⟩ := H
  replace H : ((sets_Not.f k t468 1073741823).bind fun t471 => ((sets_Meet.f k t465 t471).bind fun t474 => ((scalars_back.f k t474).bind fun t477 => (some t477)))) = some r := H
  have A4 := Aside0.mk A40
  clear A40
  replace H := Option.bind_eq_some_iff.mp H
  obtain ⟨t471, A50, H⟩ := H
  replace H : ((sets_Meet.f k t465 t471).bind fun t474 => ((scalars_back.f k t474).bind fun t477 => (some t477))) = some r := H
  have A5 := Aside0.mk A50
  clear A50
  replace H := Option.bind_eq_some_iff.mp H
  obtain ⟨t474, A60, H⟩ := H
  replace H : ((scalars_back.f k t474).bind fun t477 => (some t477)) = some r := H
  have A6 := Aside0.mk A60
  clear A60
  replace H := Option.bind_eq_some_iff.mp H
  obtain ⟨t477, A70, H⟩ := H
  replace H : (some t477) = some r := H
  have A7 := Aside0.mk A70
  clear A70
  obtain rfl := Option.some.inj H
  go_enter Try.func62, Try.ntmps62
  go_wp2_with (first | ((with_reducible refine gate_callee (f := 78) rfl ?_); refine goesL_ (some 6) rfl rfl Try.func78 (by kernel_rfl) rfl #[.slice A0 l0.length c0] rfl (by (try simp only [List.map_toArray, List.map_cons, List.map_nil]); first | done | rfl | (simp only [List.length_drop, List.length_take]; rfl)) ?_; (with_reducible refine (scalars_set.calls k _ _ l0 t465 _ ?side1 ?side2 A3.out).mono ?_); (case side1 => repeat (first | exact HR0.out | (with_reducible refine Kd.C_alloc ?_ _) | (with_reducible refine Kd.C_drewN ?_ _) | (with_reducible refine Kd.C_drew ?_))); (case side2 => exact HC0.out); rintro e w8 ⟨v466, rfl, ho0, hb⟩; refine ⟨_, rfl, ?_⟩; have n0_ := Aside0.mk (Kd.R_lower ho0 (below_size (by repeat (first | (with_reducible first | exact HB.out | apply below_alloc | apply pw_below_drewN | apply below_drew1) | exact HB.out)))); have n1_ := Aside0.mk (below_step (by repeat (first | (with_reducible first | exact HB.out | apply below_alloc | apply pw_below_drewN | apply below_drew1) | exact HB.out)) hb); clear HB; have HO467 := n0_; have HB := n1_; clear n0_ n1_; (try clear hb); (try clear hb2); (try clear hk); (try clear hi); (try clear ho0)) | ((with_reducible refine gate_callee (f := 78) rfl ?_); refine goesL_ (some 8) rfl rfl Try.func78 (by kernel_rfl) rfl #[.slice A1 l1.length c1] rfl (by (try simp only [List.map_toArray, List.map_cons, List.map_nil]); first | done | rfl | (simp only [List.length_drop, List.length_take]; rfl)) ?_; (with_reducible refine (scalars_set.calls k _ _ l1 t468 _ ?side1 ?side2 A4.out).mono ?_); (case side1 => repeat (first | exact (Kd.C_below HR1.out HB.out) | (with_reducible refine Kd.C_alloc ?_ _) | (with_reducible refine Kd.C_drewN ?_ _) | (with_reducible refine Kd.C_drew ?_))); (case side2 => exact HC1.out); rintro e w9 ⟨v469, rfl, ho0, hb⟩; refine ⟨_, rfl, ?_⟩; have n0_ := Aside0.mk (Kd.R_elder' (by (with_reducible repeat (first | apply Kd.R_alloc | apply Kd.R_drewN | apply Kd.R_drew)); exact HO467.out) (Kd.R_base ho0) hb); have n1_ := Aside0.mk (Kd.R_lower (Kd.R_new' ho0 (Kd.R_lt (by (with_reducible repeat (first | apply Kd.R_alloc | apply Kd.R_drewN | apply Kd.R_drew)); exact HO467.out))) (below_size (by repeat (first | (with_reducible first | exact HB.out | apply below_alloc | apply pw_below_drewN | apply below_drew1) | exact HB.out)))); have n2_ := Aside0.mk (below_step (by repeat (first | (with_reducible first | exact HB.out | apply below_alloc | apply pw_below_drewN | apply below_drew1) | exact HB.out)) hb); clear HO467; clear HB; have HO467 := n0_; have HO470 := n1_; have HB := n2_; clear n0_ n1_ n2_; (try clear hb); (try clear hb2); (try clear hk); (try clear hi); (try clear ho0); obtain ⟨Ao10, co10, eo10⟩ := Kd.R_slice HO470.out; subst eo10) | ((with_reducible refine gate_callee (f := 85) rfl ?_); refine goesL_ (some 9) rfl rfl Try.func85 (by kernel_rfl) rfl #[.slice Ao10 t468.length co10, .int .i64 1073741823] rfl (by (try simp only [List.map_toArray, List.map_cons, List.map_nil]); first | done | rfl | (simp only [List.length_drop, List.length_take]; rfl)) ?_; (with_reducible refine (sets_Not.calls k _ _ t468 1073741823 t471 _ ?side1 ?side2 A5.out).mono ?_); (case side1 => repeat (first | exact (Kd.R_reads' HO470.out).2.2 | (with_reducible refine Kd.C_alloc ?_ _) | (with_reducible refine Kd.C_drewN ?_ _) | (with_reducible refine Kd.C_drew ?_))); (case side2 => exact (Kd.R_reads' HO470.out).2.1); rintro e w11 ⟨v472, rfl, ho0, hb⟩; refine ⟨_, rfl, ?_⟩; have n0_ := Aside0.mk (Kd.R_elder' (by (with_reducible repeat (first | apply Kd.R_alloc | apply Kd.R_drewN | apply Kd.R_drew)); exact HO467.out) (Kd.R_base ho0) hb); have n1_ := Aside0.mk (Kd.R_elder' (by (with_reducible repeat (first | apply Kd.R_alloc | apply Kd.R_drewN | apply Kd.R_drew)); exact HO470.out) (Kd.R_base ho0) hb); have n2_ := Aside0.mk (Kd.R_lower (Kd.R_new' (Kd.R_new' ho0 (Kd.R_lt (by (with_reducible repeat (first | apply Kd.R_alloc | apply Kd.R_drewN | apply Kd.R_drew)); exact HO467.out))) (Kd.R_lt (by (with_reducible repeat (first | apply Kd.R_alloc | apply Kd.R_drewN | apply Kd.R_drew)); exact HO470.out))) (below_size (by repeat (first | (with_reducible first | exact HB.out | apply below_alloc | apply pw_below_drewN | apply below_drew1) | exact HB.out)))); have n3_ := Aside0.mk (below_step (by repeat (first | (with_reducible first | exact HB.out | apply below_alloc | apply pw_below_drewN | apply below_drew1) | exact HB.out)) hb); clear HO467; clear HO470; clear HB; have HO467 := n0_; have HO470 := n1_; have HO473 := n2_; have HB := n3_; clear n0_ n1_ n2_ n3_; (try clear hb); (try clear hb2); (try clear hk); (try clear hi); (try clear ho0); obtain ⟨Ao12, co12, eo12⟩ := Kd.R_slice HO467.out; subst eo12; obtain ⟨Ao13, co13, eo13⟩ := Kd.R_slice HO473.out; subst eo13) | ((with_reducible refine gate_callee (f := 84) rfl ?_); refine goesL_ (some 10) rfl rfl Try.func84 (by kernel_rfl) rfl #[.slice Ao12 t465.length co12, .slice Ao13 t471.length co13] rfl (by (try simp only [List.map_toArray, List.map_cons, List.map_nil]); first | done | rfl | (simp only [List.length_drop, List.length_take]; rfl)) ?_; (with_reducible refine (sets_Meet.calls k (fun k_ => some k_ = (.slice Ao12 t465.length co12 : Value).ownBlock) _ _ t465 (fun k_ => some k_ = (.slice Ao13 t471.length co13 : Value).ownBlock) _ _ t471 t474 _ ?side1 ?side2 A6.out).mono ?_); (case side1 => exact Kd.R_V (Kd.R_tight rfl (HO467.out))); (case side2 => exact Kd.R_V (Kd.R_tight rfl (HO473.out))); rintro e w14 ⟨v475, rfl, ho0, hb⟩; refine ⟨_, rfl, ?_⟩; have n0_ := Aside0.mk (Kd.R_elder' (by (with_reducible repeat (first | apply Kd.R_alloc | apply Kd.R_drewN | apply Kd.R_drew)); exact HO467.out) (Kd.R_base ho0) hb); have n1_ := Aside0.mk (Kd.R_elder' (by (with_reducible repeat (first | apply Kd.R_alloc | apply Kd.R_drewN | apply Kd.R_drew)); exact HO470.out) (Kd.R_base ho0) hb); have n2_ := Aside0.mk (Kd.R_elder' (by (with_reducible repeat (first | apply Kd.R_alloc | apply Kd.R_drewN | apply Kd.R_drew)); exact HO473.out) (Kd.R_base ho0) hb); have n3_ := Aside0.mk (Kd.R_lower (Kd.R_new' (Kd.R_new' (Kd.R_new' (Kd.R_mono (ok' := fun k_ => True) ho0 (fun _ hk_ => trivial)) (Kd.R_lt (by (with_reducible repeat (first | apply Kd.R_alloc | apply Kd.R_drewN | apply Kd.R_drew)); exact HO467.out))) (Kd.R_lt (by (with_reducible repeat (first | apply Kd.R_alloc | apply Kd.R_drewN | apply Kd.R_drew)); exact HO470.out))) (Kd.R_lt (by (with_reducible repeat (first | apply Kd.R_alloc | apply Kd.R_drewN | apply Kd.R_drew)); exact HO473.out))) (below_size (by repeat (first | (with_reducible first | exact HB.out | apply below_alloc | apply pw_below_drewN | apply below_drew1) | exact HB.out)))); have n4_ := Aside0.mk (below_step (by repeat (first | (with_reducible first | exact HB.out | apply below_alloc | apply pw_below_drewN | apply below_drew1) | exact HB.out)) hb); clear HO467; clear HO470; clear HO473; clear HB; have HO467 := n0_; have HO470 := n1_; have HO473 := n2_; have HO476 := n3_; have HB := n4_; clear n0_ n1_ n2_ n3_ n4_; (try clear hb); (try clear hb2); (try clear hk); (try clear hi); (try clear ho0); obtain ⟨Ao15, co15, eo15⟩ := Kd.R_slice HO476.out; subst eo15) | ((with_reducible refine gate_callee (f := 72) rfl ?_); refine goesL_ (some 11) rfl rfl Try.func72 (by kernel_rfl) rfl #[.slice Ao15 t474.length co15] rfl (by (try simp only [List.map_toArray, List.map_cons, List.map_nil]); first | done | rfl | (simp only [List.length_drop, List.length_take]; rfl)) ?_; (with_reducible refine (scalars_back.calls k _ _ t474 t477 _ ?side1 ?side2 A7.out).mono ?_); (case side1 => repeat (first | exact (Kd.R_reads' HO476.out).2.2 | (with_reducible refine Kd.C_alloc ?_ _) | (with_reducible refine Kd.C_drewN ?_ _) | (with_reducible refine Kd.C_drew ?_))); (case side2 => exact (Kd.R_reads' HO476.out).2.1); rintro e w16 ⟨v478, rfl, ho0, hb⟩; refine ⟨_, rfl, ?_⟩; have n0_ := Aside0.mk (Kd.R_below (by (with_reducible repeat (first | apply Kd.R_alloc | apply Kd.R_drewN | apply Kd.R_drew)); exact HO467.out) hb); have n1_ := Aside0.mk (Kd.R_below (by (with_reducible repeat (first | apply Kd.R_alloc | apply Kd.R_drewN | apply Kd.R_drew)); exact HO470.out) hb); have n2_ := Aside0.mk (Kd.R_below (by (with_reducible repeat (first | apply Kd.R_alloc | apply Kd.R_drewN | apply Kd.R_drew)); exact HO473.out) hb); have n3_ := Aside0.mk (Kd.R_below (by (with_reducible repeat (first | apply Kd.R_alloc | apply Kd.R_drewN | apply Kd.R_drew)); exact HO476.out) hb); have n4_ := Aside0.mk (Kd.R_lower ho0 (below_size (by repeat (first | (with_reducible first | exact HB.out | apply below_alloc | apply pw_below_drewN | apply below_drew1) | exact HB.out)))); have n5_ := Aside0.mk (below_step (by repeat (first | (with_reducible first | exact HB.out | apply below_alloc | apply pw_below_drewN | apply below_drew1) | exact HB.out)) hb); clear HO467; clear HO470; clear HO473; clear HO476; clear HB; have HO467 := n0_; have HO470 := n1_; have HO473 := n2_; have HO476 := n3_; have HO479 := n4_; have HB := n5_; clear n0_ n1_ n2_ n3_ n4_ n5_; (try clear hb); (try clear hb2); (try clear hk); (try clear hi); (try clear ho0)))
  go_ret
  exact ⟨_, by first | rfl | (simp [errW_none, errW_some] <;> rfl) | (simp [*, errW_none, errW_some] <;> rfl), by (with_reducible repeat (first | apply Kd.R_alloc | apply Kd.R_drewN | apply Kd.R_drew)); exact HO479.out, by repeat (first | (with_reducible first | exact HB.out | apply below_alloc | apply pw_below_drewN | apply below_drew1) | exact HB.out)⟩
end Go.Proofs.Ytddffjhodiengaa.C
