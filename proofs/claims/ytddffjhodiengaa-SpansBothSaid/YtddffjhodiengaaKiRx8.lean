/- Words and walks of this claim, of the text Rx8. -/
import Derived.Test.YtddffjhodiengaaKiRx0
import Derived.Test.YtddffjhodiengaaKiRx2
import Derived.Test.YtddffjhodiengaaKiRx4
namespace Go.Proofs.Ytddffjhodiengaa.R
open Go.RowKit Go.Proofs.YtddffjhodiengaaW.PrintWords Go.Proofs.YtddffjhodiengaaW.PrintLast Go.Proofs.YtddffjhodiengaaW.PrintMore
attribute [local go_sem] max2_int min2_int max_two min_two max_three min_three max_four min_four
set_option linter.unusedVariables false
set_option linter.unusedSimpArgs false
mutual
def sets_Meet.l0 : Nat → List (S72) → List (S72) → List (S72) → Option ((List (S72)))
  | 0, _, _, _ => none
  | k + 1, x0, x1, x5 => if (x0.length : Int) > 0 then (sets_Meet.j1 k x0 x1 x5 (decide ((x1.length : Int) > 0))) else (sets_Meet.j1 k x0 x1 x5 false)
def sets_Meet.j1 : Nat → List (S72) → List (S72) → List (S72) → Bool → Option ((List (S72)))
  | 0, _, _, _, _ => none
  | k + 1, x0, x1, x5, x15 => if x15 = true then (if 0 < (x0.length : Int) then (if 0 < (x1.length : Int) then (if (mx ((rd_T72 x0 0).f0) ((rd_T72 x1 0).f0)) ≤ (mn ((rd_T72 x0 0).f1) ((rd_T72 x1 0).f1)) then (if x5.length < 8796093022208 then ((some (x5 ++ [(⟨mx ((rd_T72 x0 0).f0) ((rd_T72 x1 0).f0), mn ((rd_T72 x0 0).f1) ((rd_T72 x1 0).f1)⟩ : S72)] : List (S72))).bind fun y266 => (if ((rd_T72 x0 0).f1) < ((rd_T72 x1 0).f1) then (if 1 ≤ (x0.length : Int) then (sets_Meet.l0 k (x0.drop 1) x1 y266) else (none)) else (if 1 ≤ (x1.length : Int) then (sets_Meet.l0 k x0 (x1.drop 1) y266) else (none)))) else (none)) else (if ((rd_T72 x0 0).f1) < ((rd_T72 x1 0).f1) then (if 1 ≤ (x0.length : Int) then (sets_Meet.l0 k (x0.drop 1) x1 x5) else (none)) else (if 1 ≤ (x1.length : Int) then (sets_Meet.l0 k x0 (x1.drop 1) x5) else (none)))) else (none)) else (none)) else (some x5)
end
def sets_Meet.f (k : Nat) (l0 : List (S72)) (l1 : List (S72)) : Option ((List (S72))) := sets_Meet.l0 k l0 l1 ([] : List (S72))
set_option maxHeartbeats 8000000 in
set_option maxRecDepth 100000 in
theorem sets_Meet.calls (k : Nat) (P0_ : Nat → Prop) (A0 : Option Addr) (c0 : Nat) (l0 : List (S72)) (P1_ : Nat → Prop) (A1 : Option Addr) (c1 : Nat) (l1 : List (S72)) (r : List (S72)) (w : World) (hs0 : Kd.V k72 72 w w.heap.size (fun k_ => P0_ k_) (.slice A0 l0.length c0) l0) (hs1 : Kd.V k72 72 w w.heap.size (fun k_ => P1_ k_) (.slice A1 l1.length c1) l1) (h : sets_Meet.f k l0 l1 = some r) :
    Calls Try.prog 84 #[.slice A0 l0.length c0, .slice A1 l1.length c1] w fun e w' => ∃ v0_ : Value, e = .returned (v0_) ∧ Kd.R k72 72 w' w.heap.size (fun k_ => (w.heap.size ≤ k_)) v0_ r ∧ Below w.heap.size w w' := by
  have hu72 := Try.underlying72
  have HO0 := Aside0.mk (show Kd.V k72 72 w w.heap.size (fun k_ => ((P0_ k_ ∨ P1_ k_) ∨ w.heap.size ≤ k_)) (.slice A0 l0.length c0) l0 from Kd.V_mono hs0 (fun k_ hk => .inl (.inl hk)))
  have HO1 := Aside0.mk (show Kd.V k72 72 w w.heap.size (fun k_ => ((P0_ k_ ∨ P1_ k_) ∨ w.heap.size ≤ k_)) (.slice A1 l1.length c1) l1 from Kd.V_mono hs1 (fun k_ hk => .inl (.inr hk)))
  have HB := Aside0.mk (Below.refl w.heap.size w)
  have H : (sets_Meet.l0 k l0 l1 ([] : List (S72))) = some r := h
  clear h
  have H' := Aside0.mk H
  clear H
  go_enter Try.func84, Try.ntmps84
  go_wp2
  repeat (go_quiet (fail); try go_wp2)
  go_loopg [0, 1, 5] k (fun kq v0 v1 v5 w' => ∃ (x0_1 : List (S72)) (x1_1 : List (S72)) (x5_1 : List (S72)), Aside0 (sets_Meet.l0 kq x0_1 x1_1 x5_1 = some r) ∧ Aside0 (kq ≤ k) ∧ Aside0 (Kd.V k72 72 w' w.heap.size (fun k_ => ((P0_ k_ ∨ P1_ k_) ∨ w.heap.size ≤ k_) ∧ some k_ ≠ (v5 : Value).ownBlock) v0 x0_1) ∧ Aside0 (Kd.V k72 72 w' w.heap.size (fun k_ => ((P0_ k_ ∨ P1_ k_) ∨ w.heap.size ≤ k_) ∧ some k_ ≠ (v5 : Value).ownBlock) v1 x1_1) ∧ Aside0 (Kd.R k72 72 w' w.heap.size (fun k_ => (w.heap.size ≤ k_)) v5 x5_1) ∧ Aside0 (Below w.heap.size w w'))
  case atStart => exact ⟨(l0), (l1), (([] : List (S72))), H', ⟨Nat.le_refl _⟩, ⟨by (with_reducible repeat (first | apply Kd.V_alloc | apply Kd.V_drewN | apply Kd.V_drew)); exact Kd.V_mono HO0.out (fun _ hk => ⟨hk, (by simp [Value.ownBlock])⟩)⟩, ⟨by (with_reducible repeat (first | apply Kd.V_alloc | apply Kd.V_drewN | apply Kd.V_drew)); exact Kd.V_mono HO1.out (fun _ hk => ⟨hk, (by simp [Value.ownBlock])⟩)⟩, ⟨by first | exact Kd.R_nil _ _ _ _ _ | exact Kd.N_nil _ _ _ _ _ | exact Kd.V_nil _ _ _ _ _ | exact Kd.Q_nil _ _ _ _ _ | exact Kd.S_nil _ _ _ _ _⟩, ⟨by repeat (first | (with_reducible first | exact HB.out | apply below_alloc | apply pw_below_drewN | apply below_drew1) | exact HB.out)⟩⟩
  case round =>
    clear H'
    try clear c1
    try clear p2
    obtain ⟨x0_1, x1_1, x5_1, HA, HK1, HO_0, HO_1, HO_5, HB⟩ := hrel
    cases gk with
    | zero => exact absurd HA.out (by simp [sets_Meet.l0])
    | succ k1 =>
      have H := HA.out
      clear HA
      simp only [sets_Meet.l0] at H
      have HC3 := Aside0.mk H
      clear H
      go_upto_region 2 with (fail)
      repeat (go_quiet (fail); go_upto_region 2 with (fail))
      go_cut [15] (fun v15 wc => ∃ (kq : Nat) (x15_2 : Bool), v15 = .bool x15_2 ∧ Aside0 (sets_Meet.j1 kq x0_1 x1_1 x5_1 x15_2 = some r) ∧ Aside0 (kq ≤ k1) ∧ Aside0 (Kd.V k72 72 wc w.heap.size (fun k_ => ((P0_ k_ ∨ P1_ k_) ∨ w.heap.size ≤ k_) ∧ some k_ ≠ (u5 : Value).ownBlock) u0 x0_1) ∧ Aside0 (Kd.V k72 72 wc w.heap.size (fun k_ => ((P0_ k_ ∨ P1_ k_) ∨ w.heap.size ≤ k_) ∧ some k_ ≠ (u5 : Value).ownBlock) u1 x1_1) ∧ Aside0 (Kd.R k72 72 wc w.heap.size (fun k_ => (w.heap.size ≤ k_)) u5 x5_1) ∧ Aside0 (Below w.heap.size w wc))
      case first =>
        have H := HC3.out
        clear HC3
        by_cases c4 : (x0_1.length : Int) > 0
        · rw [if_pos c4] at H
          have c4b0 : decide (0 < (x0_1.length : Int)) = true := decide_eq_true c4
          have c4b1 : decide (0 < x0_1.length) = true := decide_eq_true (by omega)
          clear c4
          (first | rw [c4b0] | (simp only [i64_w, i32_w]; rw [c4b0]) | skip)
          have H' := Aside0.mk H
          clear H
          obtain ⟨Ao5, co5, eo5⟩ := Kd.V_slice HO_0.out
          subst eo5
          obtain ⟨Ao6, co6, eo6⟩ := Kd.V_slice HO_1.out
          subst eo6
          go_wp2
          repeat (go_quiet (fail); try go_wp2)
          go_meet
          case rel => exact ⟨_, (decide ((x1_1.length : Int) > 0)), (by first | rfl | (simp; done) | (simp [*]; done)), H', ⟨by have := HK1.out; first | omega | exact Nat.le_refl _⟩, ⟨by (with_reducible repeat (first | apply Kd.V_alloc | apply Kd.V_drewN | apply Kd.V_drew)); exact HO_0.out⟩, ⟨by (with_reducible repeat (first | apply Kd.V_alloc | apply Kd.V_drewN | apply Kd.V_drew)); exact HO_1.out⟩, ⟨by (with_reducible repeat (first | apply Kd.R_alloc | apply Kd.R_drewN | apply Kd.R_drew)); exact HO_5.out⟩, ⟨by repeat (first | (with_reducible first | exact HB.out | apply below_alloc | apply pw_below_drewN | apply below_drew1) | exact HB.out)⟩⟩
        · rw [if_neg c4] at H
          have c4b0 : decide (0 < (x0_1.length : Int)) = false := decide_eq_false c4
          have c4b1 : decide (0 < x0_1.length) = false := decide_eq_false (by omega)
          clear c4
          (first | rw [c4b0] | (simp only [i64_w, i32_w]; rw [c4b0]) | skip)
          have H' := Aside0.mk H
          clear H
          obtain ⟨Ao7, co7, eo7⟩ := Kd.V_slice HO_0.out
          subst eo7
          go_wp2
          repeat (go_quiet (fail); try go_wp2)
          go_meet
          case rel => exact ⟨_, (false), (by first | rfl | (simp; done) | (simp [*]; done)), H', ⟨by have := HK1.out; first | omega | exact Nat.le_refl _⟩, ⟨by (with_reducible repeat (first | apply Kd.V_alloc | apply Kd.V_drewN | apply Kd.V_drew)); exact HO_0.out⟩, ⟨by (with_reducible repeat (first | apply Kd.V_alloc | apply Kd.V_drewN | apply Kd.V_drew)); exact HO_1.out⟩, ⟨by (with_reducible repeat (first | apply Kd.R_alloc | apply Kd.R_drewN | apply Kd.R_drew)); exact HO_5.out⟩, ⟨by repeat (first | (with_reducible first | exact HB.out | apply below_alloc | apply pw_below_drewN | apply below_drew1) | exact HB.out)⟩⟩
      case rest =>
        clear HC3
        try clear c1
        try clear p2
        try clear c4
        try clear c4b0
        try clear c4b1
        try clear p2
        obtain ⟨kq, x15_2, rfl, HA, HJ2, HO_0, HO_1, HO_5, HB⟩ := hcut
        cases kq with
        | zero => exact absurd HA.out (by simp [sets_Meet.j1])
        | succ kj2 =>
          have H := HA.out
          clear HA
          simp only [sets_Meet.j1] at H
          by_cases c8 : x15_2 = true
          · subst c8
            have H1 : (if 0 < (x0_1.length : Int) then (if 0 < (x1_1.length : Int) then (if (mx ((rd_T72 x0_1 0).f0) ((rd_T72 x1_1 0).f0)) ≤ (mn ((rd_T72 x0_1 0).f1) ((rd_T72 x1_1 0).f1)) then (if x5_1.length < 8796093022208 then ((some (x5_1 ++ [(⟨mx ((rd_T72 x0_1 0).f0) ((rd_T72 x1_1 0).f0), mn ((rd_T72 x0_1 0).f1) ((rd_T72 x1_1 0).f1)⟩ : S72)] : List (S72))).bind fun y266 => (if ((rd_T72 x0_1 0).f1) < ((rd_T72 x1_1 0).f1) then (if 1 ≤ (x0_1.length : Int) then (sets_Meet.l0 kj2 (x0_1.drop 1) x1_1 y266) else (none)) else (if 1 ≤ (x1_1.length : Int) then (sets_Meet.l0 kj2 x0_1 (x1_1.drop 1) y266) else (none)))) else (none)) else (if ((rd_T72 x0_1 0).f1) < ((rd_T72 x1_1 0).f1) then (if 1 ≤ (x0_1.length : Int) then (sets_Meet.l0 kj2 (x0_1.drop 1) x1_1 x5_1) else (none)) else (if 1 ≤ (x1_1.length : Int) then (sets_Meet.l0 kj2 x0_1 (x1_1.drop 1) x5_1) else (none)))) else (none)) else (none)) = some r := by rw [if_pos rfl] at H; exact H
            clear H
            have H := H1
            clear H1
            by_cases c9 : 0 < (x0_1.length : Int)
            · rw [if_pos c9] at H
              have c9b0 : decide (0 < (x0_1.length : Int)) = true := decide_eq_true c9
              have c9b1 : decide (0 < x0_1.length) = true := decide_eq_true (by omega)
              clear c9
              by_cases c10 : 0 < (x1_1.length : Int)
              · rw [if_pos c10] at H
                have c10b0 : decide (0 < (x1_1.length : Int)) = true := decide_eq_true c10
                have c10b1 : decide (0 < x1_1.length) = true := decide_eq_true (by omega)
                clear c10
                obtain ⟨ji11, hji11⟩ : ∃ j_ : Int, (mx ((rd_T72 x0_1 0).f0) ((rd_T72 x1_1 0).f0)) = j_ := ⟨_, rfl⟩
                replace H : (if (ji11) ≤ (mn ((rd_T72 x0_1 0).f1) ((rd_T72 x1_1 0).f1)) then (if x5_1.length < 8796093022208 then ((some (x5_1 ++ [(⟨ji11, mn ((rd_T72 x0_1 0).f1) ((rd_T72 x1_1 0).f1)⟩ : S72)] : List (S72))).bind fun y266 => (if ((rd_T72 x0_1 0).f1) < ((rd_T72 x1_1 0).f1) then (if 1 ≤ (x0_1.length : Int) then (sets_Meet.l0 kj2 (x0_1.drop 1) x1_1 y266) else (none)) else (if 1 ≤ (x1_1.length : Int) then (sets_Meet.l0 kj2 x0_1 (x1_1.drop 1) y266) else (none)))) else (none)) else (if ((rd_T72 x0_1 0).f1) < ((rd_T72 x1_1 0).f1) then (if 1 ≤ (x0_1.length : Int) then (sets_Meet.l0 kj2 (x0_1.drop 1) x1_1 x5_1) else (none)) else (if 1 ≤ (x1_1.length : Int) then (sets_Meet.l0 kj2 x0_1 (x1_1.drop 1) x5_1) else (none)))) = some r := by first | (rw [hji11] at H; exact H) | (simp only [hji11] at H ⊢; exact H)
                have hji11_ : (if ((rd_T72 x0_1 0).f0) < ((rd_T72 x1_1 0).f0) then ((rd_T72 x1_1 0).f0) else ((rd_T72 x0_1 0).f0)) = ji11 := hji11
                obtain ⟨ji12, hji12⟩ : ∃ j_ : Int, (mn ((rd_T72 x0_1 0).f1) ((rd_T72 x1_1 0).f1)) = j_ := ⟨_, rfl⟩
                replace H : (if (ji11) ≤ (ji12) then (if x5_1.length < 8796093022208 then ((some (x5_1 ++ [(⟨ji11, ji12⟩ : S72)] : List (S72))).bind fun y266 => (if ((rd_T72 x0_1 0).f1) < ((rd_T72 x1_1 0).f1) then (if 1 ≤ (x0_1.length : Int) then (sets_Meet.l0 kj2 (x0_1.drop 1) x1_1 y266) else (none)) else (if 1 ≤ (x1_1.length : Int) then (sets_Meet.l0 kj2 x0_1 (x1_1.drop 1) y266) else (none)))) else (none)) else (if ((rd_T72 x0_1 0).f1) < ((rd_T72 x1_1 0).f1) then (if 1 ≤ (x0_1.length : Int) then (sets_Meet.l0 kj2 (x0_1.drop 1) x1_1 x5_1) else (none)) else (if 1 ≤ (x1_1.length : Int) then (sets_Meet.l0 kj2 x0_1 (x1_1.drop 1) x5_1) else (none)))) = some r := by first | (rw [hji12] at H; exact H) | (simp only [hji12] at H ⊢; exact H)
                have hji12_ : (if ((rd_T72 x1_1 0).f1) < ((rd_T72 x0_1 0).f1) then ((rd_T72 x1_1 0).f1) else ((rd_T72 x0_1 0).f1)) = ji12 := hji12
                by_cases c13 : (ji11) ≤ (ji12)
                · rw [if_pos c13] at H
                  have c13b0 : decide ((ji11) ≤ (ji12)) = true := decide_eq_true c13
                  clear c13
                  by_cases c14 : x5_1.length < 8796093022208
                  · rw [if_pos c14] at H
                    have LMc14 := Aside0.mk c14
                    clear c14
                    obtain ⟨y266, hy266⟩ : ∃ y_ : List (S72), y_ = (x5_1 ++ [(⟨ji11, ji12⟩ : S72)]) := ⟨_, rfl⟩
                    replace H : (if ((rd_T72 x0_1 0).f1) < ((rd_T72 x1_1 0).f1) then (if 1 ≤ (x0_1.length : Int) then (sets_Meet.l0 kj2 (x0_1.drop 1) x1_1 y266) else (none)) else (if 1 ≤ (x1_1.length : Int) then (sets_Meet.l0 kj2 x0_1 (x1_1.drop 1) y266) else (none))) = some r := by first | (rw [hy266]; with_reducible exact H) | (have H2_ := (Option.bind_some _ _).symm.trans H; rw [hy266]; with_reducible exact H2_) | (have H2_ := (Option.bind_some _ _).symm.trans H; with_reducible exact H2_) | with_reducible exact H | (rw [hy266]; exact H) | exact H
                    have Ny266 := Aside0.mk hy266
                    clear hy266
                    by_cases c15 : ((rd_T72 x0_1 0).f1) < ((rd_T72 x1_1 0).f1)
                    · rw [if_pos c15] at H
                      have c15b0 : decide (((rd_T72 x0_1 0).f1) < ((rd_T72 x1_1 0).f1)) = true := decide_eq_true c15
                      clear c15
                      by_cases c16 : 1 ≤ (x0_1.length : Int)
                      · rw [if_pos c16] at H
                        have c16b0 := eq_true c16
                        have c16b1 : decide (1 ≤ (x0_1.length : Int)) = true := decide_eq_true c16
                        clear c16
                        obtain ⟨y271, hy271⟩ : ∃ y_ : List (S72), y_ = (x0_1.drop 1) := ⟨_, rfl⟩
                        replace H : (sets_Meet.l0 kj2 y271 x1_1 y266) = some r := by first | (rw [hy271]; with_reducible exact H) | (have H2_ := (Option.bind_some _ _).symm.trans H; rw [hy271]; with_reducible exact H2_) | (have H2_ := (Option.bind_some _ _).symm.trans H; with_reducible exact H2_) | with_reducible exact H | (rw [hy271]; exact H) | exact H
                        have Ny271 := Aside0.mk hy271
                        clear hy271
                        have H' := Aside0.mk H
                        clear H
                        obtain ⟨Ao17, co17, eo17⟩ := Kd.V_slice HO_0.out
                        subst eo17
                        have p262 : 0 ≤ (0 : Int) := (by omega)
                        have q262 : 0 < (x0_1.length : Int) := of_decide_eq_true (by first | (with_reducible assumption) | assumption)
                        obtain ⟨ad262, e262, hx262_0, hx262_1⟩ := at_T72 (Kd.V_reads' HO_0.out).2.2 0 p262 q262
                        cases e262
                        have qi262 : (0 < x0_1.length) = True := eq_true (by omega)
                        (try rw [show ((0 : Int)).toNat = 0 from rfl] at hx262_0)
                        (try rw [show 0 * 2 = 0 from rfl] at hx262_0)
                        (try rw [Addr.add_zero'] at hx262_0)
                        (try rw [show ((0 : Int)).toNat = 0 from rfl] at hx262_1)
                        (try rw [show 0 * 2 = 0 from rfl] at hx262_1)
                        (try rw [Addr.add_zero'] at hx262_1)
                        replace p262 := eq_true p262
                        replace q262 := eq_true q262
                        obtain ⟨Ao18, co18, eo18⟩ := Kd.V_slice HO_1.out
                        subst eo18
                        have p263 : 0 ≤ (0 : Int) := (by omega)
                        have q263 : 0 < (x1_1.length : Int) := of_decide_eq_true (by first | (with_reducible assumption) | assumption)
                        obtain ⟨ad263, e263, hx263_0, hx263_1⟩ := at_T72 (Kd.V_reads' HO_1.out).2.2 0 p263 q263
                        cases e263
                        have qi263 : (0 < x1_1.length) = True := eq_true (by omega)
                        (try rw [show ((0 : Int)).toNat = 0 from rfl] at hx263_0)
                        (try rw [show 0 * 2 = 0 from rfl] at hx263_0)
                        (try rw [Addr.add_zero'] at hx263_0)
                        (try rw [show ((0 : Int)).toNat = 0 from rfl] at hx263_1)
                        (try rw [show 0 * 2 = 0 from rfl] at hx263_1)
                        (try rw [Addr.add_zero'] at hx263_1)
                        replace p263 := eq_true p263
                        replace q263 := eq_true q263
                        have p264 : 0 ≤ (0 : Int) := (by omega)
                        have q264 : 0 < (x0_1.length : Int) := of_decide_eq_true (by first | (with_reducible assumption) | assumption)
                        obtain ⟨ad264, e264, hx264_0, hx264_1⟩ := at_T72 (Kd.V_reads' HO_0.out).2.2 0 p264 q264
                        obtain rfl : ad262 = ad264 := (by injection e264)
                        have qi264 : (0 < x0_1.length) = True := eq_true (by omega)
                        (try rw [show ((0 : Int)).toNat = 0 from rfl] at hx264_0)
                        (try rw [show 0 * 2 = 0 from rfl] at hx264_0)
                        (try rw [Addr.add_zero'] at hx264_0)
                        (try rw [show ((0 : Int)).toNat = 0 from rfl] at hx264_1)
                        (try rw [show 0 * 2 = 0 from rfl] at hx264_1)
                        (try rw [Addr.add_zero'] at hx264_1)
                        replace p264 := eq_true p264
                        replace q264 := eq_true q264
                        have p265 : 0 ≤ (0 : Int) := (by omega)
                        have q265 : 0 < (x1_1.length : Int) := of_decide_eq_true (by first | (with_reducible assumption) | assumption)
                        obtain ⟨ad265, e265, hx265_0, hx265_1⟩ := at_T72 (Kd.V_reads' HO_1.out).2.2 0 p265 q265
                        obtain rfl : ad263 = ad265 := (by injection e265)
                        have qi265 : (0 < x1_1.length) = True := eq_true (by omega)
                        (try rw [show ((0 : Int)).toNat = 0 from rfl] at hx265_0)
                        (try rw [show 0 * 2 = 0 from rfl] at hx265_0)
                        (try rw [Addr.add_zero'] at hx265_0)
                        (try rw [show ((0 : Int)).toNat = 0 from rfl] at hx265_1)
                        (try rw [show 0 * 2 = 0 from rfl] at hx265_1)
                        (try rw [Addr.add_zero'] at hx265_1)
                        replace p265 := eq_true p265
                        replace q265 := eq_true q265
                        go_wp2_with (first | ((with_reducible refine gate_builtin (b := .append) (xs := #[.tmp 37, .tmp 41]) rfl ?_); (try (refine gate_guard (by rfl) ?_; dsimp only)); at_builtin; refine Kd.R_append k72 (w0 := w) w.heap.size rfl (.tmp 37) (.tmp 41) 69 72 (.agg #[(.int .i64 0), (.int .i64 0)]) 16 rfl Try.underlying69 info72 rfl (by decide) (by omega) u5 x5_1 (⟨ji11, ji12⟩ : S72) [.int .i64 ji11, .int .i64 ji12] (fun k_ => (w.heap.size ≤ k_)) (fun _ => False) rfl rfl ?aP (fun _ hk => hk.elim) ?aF ?aO ?aB ?aS ?aL ?_; (case aP => exact k72_mkM _ _ _ (⟨ji11, ji12⟩ : S72)); (case aB => exact (by repeat (first | (with_reducible first | exact HB.out | apply below_alloc | apply pw_below_drewN | apply below_drew1) | exact HB.out))); (case aF => exact (fun k_ hk => (Nat.le_trans (below_size (by repeat (first | (with_reducible first | exact HB.out | apply below_alloc | apply pw_below_drewN | apply below_drew1) | exact HB.out))) hk))); (case aO => exact (by (with_reducible repeat (first | apply Kd.R_alloc | apply Kd.R_drewN | apply Kd.R_drew)); exact HO_5.out)); (case aS => exact (below_size (by repeat (first | (with_reducible first | exact HB.out | apply below_alloc | apply pw_below_drewN | apply below_drew1) | exact HB.out)))); (case aL => have := LMc14.out; omega); intro v267 w19 ho hb hg hat; rw [← Ny266.out] at ho; have n0_ := Aside0.mk (Kd.V_afterv (ok := (fun k_ => ((P0_ k_ ∨ P1_ k_) ∨ w.heap.size ≤ k_))) (by (with_reducible repeat (first | apply Kd.V_alloc | apply Kd.V_drewN | apply Kd.V_drew)); exact HO_0.out) hg hat); have n1_ := Aside0.mk (Kd.V_afterv (ok := (fun k_ => ((P0_ k_ ∨ P1_ k_) ∨ w.heap.size ≤ k_))) (by (with_reducible repeat (first | apply Kd.V_alloc | apply Kd.V_drewN | apply Kd.V_drew)); exact HO_1.out) hg hat); have n2_ := Aside0.mk (hb); have n3_ := Aside0.mk (ho); clear HO_0; clear HO_1; clear HB; clear HO_5; have HO_0 := n0_; have HO_1 := n1_; have HB := n2_; have HO268 := n3_; clear n0_ n1_ n2_ n3_; clear ho hb hg hat; have p269 : 0 ≤ (0 : Int) := (by omega); have q269 : 0 < (x0_1.length : Int) := of_decide_eq_true (by first | (with_reducible assumption) | assumption); obtain ⟨ad269, e269, hx269_0, hx269_1⟩ := at_T72 (Kd.V_reads' HO_0.out).2.2 0 p269 q269; obtain rfl : ad262 = ad269 := (by injection e269); have qi269 : (0 < x0_1.length) = True := eq_true (by omega); (try rw [show ((0 : Int)).toNat = 0 from rfl] at hx269_0); (try rw [show 0 * 2 = 0 from rfl] at hx269_0); (try rw [Addr.add_zero'] at hx269_0); (try rw [show ((0 : Int)).toNat = 0 from rfl] at hx269_1); (try rw [show 0 * 2 = 0 from rfl] at hx269_1); (try rw [Addr.add_zero'] at hx269_1); replace p269 := eq_true p269; replace q269 := eq_true q269; have p270 : 0 ≤ (0 : Int) := (by omega); have q270 : 0 < (x1_1.length : Int) := of_decide_eq_true (by first | (with_reducible assumption) | assumption); obtain ⟨ad270, e270, hx270_0, hx270_1⟩ := at_T72 (Kd.V_reads' HO_1.out).2.2 0 p270 q270; obtain rfl : ad263 = ad270 := (by injection e270); have qi270 : (0 < x1_1.length) = True := eq_true (by omega); (try rw [show ((0 : Int)).toNat = 0 from rfl] at hx270_0); (try rw [show 0 * 2 = 0 from rfl] at hx270_0); (try rw [Addr.add_zero'] at hx270_0); (try rw [show ((0 : Int)).toNat = 0 from rfl] at hx270_1); (try rw [show 0 * 2 = 0 from rfl] at hx270_1); (try rw [Addr.add_zero'] at hx270_1); replace p270 := eq_true p270; replace q270 := eq_true q270; have q20 : (1 : Int) ≤ ((x0_1.length : Int) : Int) := of_decide_eq_true (by first | (with_reducible assumption) | assumption); obtain ⟨i020, hi020, _, hsz20, _⟩ := info_parts info72; have hroom20 : x0_1.length ≤ co17 := (Kd.V_reads' HO_0.out).2.1; have hC20 : Kd.F k72 _ _ (some ad262) x0_1.length x0_1 := (Kd.V_at (base := w.heap.size) HO_0.out).2.2; have hcut20 := cut_from (P := Try.prog) 69 72 .i64 Try.underlying69 hi020 2 hsz20 (some ad262) x0_1.length co17 1 (by omega) q20; have hr20 := Kd.F_cut (m := (1 : Int).toNat) (c := co17) hC20 (by omega) hroom20; obtain ⟨A20, hA20⟩ : ∃ A1, A1 = (if co17 = (1 : Int).toNat then (some ad262) else ((some ad262) : Option Addr).map (·.add ((1 : Int).toNat * 2))) := ⟨_, rfl⟩; obtain ⟨c20, hc20⟩ : ∃ c1, c1 = co17 - (1 : Int).toNat := ⟨_, rfl⟩; have hy20 : y271.length = x0_1.length - (1 : Int).toNat := (by rw [Ny271.out, List.length_drop] <;> omega); rw [show (x0_1).drop (1 : Int).toNat = y271 from Ny271.out.symm] at hr20; replace hr20 : Kd.F k72 _ _ A20 y271.length y271 := (by rw [hA20]; exact hr20); rw [← hy20, ← hA20, ← hc20] at hcut20; have HO275 := Aside0.mk (show Kd.V k72 72 _ w.heap.size _ (.slice A20 y271.length c20) y271 from Kd.V_mk (by rw [hy20, hc20]; exact Nat.sub_le_sub_right hroom20 _) hr20); have HC275 := Aside0.mk (show y271.length ≤ c20 from by rw [hy20, hc20]; exact Nat.sub_le_sub_right hroom20 _); clear hr20 hC20 hroom20 hi020 hsz20 hc20; have KY20 := Aside0.mk hy20; have KA20 := Aside0.mk hA20; clear hy20 hA20; replace q20 := eq_true q20))
                        repeat (go_quiet (first | ((with_reducible refine gate_builtin (b := .append) (xs := #[.tmp 37, .tmp 41]) rfl ?_); (try (refine gate_guard (by rfl) ?_; dsimp only)); at_builtin; refine Kd.R_append k72 (w0 := w) w.heap.size rfl (.tmp 37) (.tmp 41) 69 72 (.agg #[(.int .i64 0), (.int .i64 0)]) 16 rfl Try.underlying69 info72 rfl (by decide) (by omega) u5 x5_1 (⟨ji11, ji12⟩ : S72) [.int .i64 ji11, .int .i64 ji12] (fun k_ => (w.heap.size ≤ k_)) (fun _ => False) rfl rfl ?aP (fun _ hk => hk.elim) ?aF ?aO ?aB ?aS ?aL ?_; (case aP => exact k72_mkM _ _ _ (⟨ji11, ji12⟩ : S72)); (case aB => exact (by repeat (first | (with_reducible first | exact HB.out | apply below_alloc | apply pw_below_drewN | apply below_drew1) | exact HB.out))); (case aF => exact (fun k_ hk => (Nat.le_trans (below_size (by repeat (first | (with_reducible first | exact HB.out | apply below_alloc | apply pw_below_drewN | apply below_drew1) | exact HB.out))) hk))); (case aO => exact (by (with_reducible repeat (first | apply Kd.R_alloc | apply Kd.R_drewN | apply Kd.R_drew)); exact HO_5.out)); (case aS => exact (below_size (by repeat (first | (with_reducible first | exact HB.out | apply below_alloc | apply pw_below_drewN | apply below_drew1) | exact HB.out)))); (case aL => have := LMc14.out; omega); intro v267 w19 ho hb hg hat; rw [← Ny266.out] at ho; have n0_ := Aside0.mk (Kd.V_afterv (ok := (fun k_ => ((P0_ k_ ∨ P1_ k_) ∨ w.heap.size ≤ k_))) (by (with_reducible repeat (first | apply Kd.V_alloc | apply Kd.V_drewN | apply Kd.V_drew)); exact HO_0.out) hg hat); have n1_ := Aside0.mk (Kd.V_afterv (ok := (fun k_ => ((P0_ k_ ∨ P1_ k_) ∨ w.heap.size ≤ k_))) (by (with_reducible repeat (first | apply Kd.V_alloc | apply Kd.V_drewN | apply Kd.V_drew)); exact HO_1.out) hg hat); have n2_ := Aside0.mk (hb); have n3_ := Aside0.mk (ho); clear HO_0; clear HO_1; clear HB; clear HO_5; have HO_0 := n0_; have HO_1 := n1_; have HB := n2_; have HO268 := n3_; clear n0_ n1_ n2_ n3_; clear ho hb hg hat; have p269 : 0 ≤ (0 : Int) := (by omega); have q269 : 0 < (x0_1.length : Int) := of_decide_eq_true (by first | (with_reducible assumption) | assumption); obtain ⟨ad269, e269, hx269_0, hx269_1⟩ := at_T72 (Kd.V_reads' HO_0.out).2.2 0 p269 q269; obtain rfl : ad262 = ad269 := (by injection e269); have qi269 : (0 < x0_1.length) = True := eq_true (by omega); (try rw [show ((0 : Int)).toNat = 0 from rfl] at hx269_0); (try rw [show 0 * 2 = 0 from rfl] at hx269_0); (try rw [Addr.add_zero'] at hx269_0); (try rw [show ((0 : Int)).toNat = 0 from rfl] at hx269_1); (try rw [show 0 * 2 = 0 from rfl] at hx269_1); (try rw [Addr.add_zero'] at hx269_1); replace p269 := eq_true p269; replace q269 := eq_true q269; have p270 : 0 ≤ (0 : Int) := (by omega); have q270 : 0 < (x1_1.length : Int) := of_decide_eq_true (by first | (with_reducible assumption) | assumption); obtain ⟨ad270, e270, hx270_0, hx270_1⟩ := at_T72 (Kd.V_reads' HO_1.out).2.2 0 p270 q270; obtain rfl : ad263 = ad270 := (by injection e270); have qi270 : (0 < x1_1.length) = True := eq_true (by omega); (try rw [show ((0 : Int)).toNat = 0 from rfl] at hx270_0); (try rw [show 0 * 2 = 0 from rfl] at hx270_0); (try rw [Addr.add_zero'] at hx270_0); (try rw [show ((0 : Int)).toNat = 0 from rfl] at hx270_1); (try rw [show 0 * 2 = 0 from rfl] at hx270_1); (try rw [Addr.add_zero'] at hx270_1); replace p270 := eq_true p270; replace q270 := eq_true q270; have q20 : (1 : Int) ≤ ((x0_1.length : Int) : Int) := of_decide_eq_true (by first | (with_reducible assumption) | assumption); obtain ⟨i020, hi020, _, hsz20, _⟩ := info_parts info72; have hroom20 : x0_1.length ≤ co17 := (Kd.V_reads' HO_0.out).2.1; have hC20 : Kd.F k72 _ _ (some ad262) x0_1.length x0_1 := (Kd.V_at (base := w.heap.size) HO_0.out).2.2; have hcut20 := cut_from (P := Try.prog) 69 72 .i64 Try.underlying69 hi020 2 hsz20 (some ad262) x0_1.length co17 1 (by omega) q20; have hr20 := Kd.F_cut (m := (1 : Int).toNat) (c := co17) hC20 (by omega) hroom20; obtain ⟨A20, hA20⟩ : ∃ A1, A1 = (if co17 = (1 : Int).toNat then (some ad262) else ((some ad262) : Option Addr).map (·.add ((1 : Int).toNat * 2))) := ⟨_, rfl⟩; obtain ⟨c20, hc20⟩ : ∃ c1, c1 = co17 - (1 : Int).toNat := ⟨_, rfl⟩; have hy20 : y271.length = x0_1.length - (1 : Int).toNat := (by rw [Ny271.out, List.length_drop] <;> omega); rw [show (x0_1).drop (1 : Int).toNat = y271 from Ny271.out.symm] at hr20; replace hr20 : Kd.F k72 _ _ A20 y271.length y271 := (by rw [hA20]; exact hr20); rw [← hy20, ← hA20, ← hc20] at hcut20; have HO275 := Aside0.mk (show Kd.V k72 72 _ w.heap.size _ (.slice A20 y271.length c20) y271 from Kd.V_mk (by rw [hy20, hc20]; exact Nat.sub_le_sub_right hroom20 _) hr20); have HC275 := Aside0.mk (show y271.length ≤ c20 from by rw [hy20, hc20]; exact Nat.sub_le_sub_right hroom20 _); clear hr20 hC20 hroom20 hi020 hsz20 hc20; have KY20 := Aside0.mk hy20; have KA20 := Aside0.mk hA20; clear hy20 hA20; replace q20 := eq_true q20)); try go_wp2_with (first | ((with_reducible refine gate_builtin (b := .append) (xs := #[.tmp 37, .tmp 41]) rfl ?_); (try (refine gate_guard (by rfl) ?_; dsimp only)); at_builtin; refine Kd.R_append k72 (w0 := w) w.heap.size rfl (.tmp 37) (.tmp 41) 69 72 (.agg #[(.int .i64 0), (.int .i64 0)]) 16 rfl Try.underlying69 info72 rfl (by decide) (by omega) u5 x5_1 (⟨ji11, ji12⟩ : S72) [.int .i64 ji11, .int .i64 ji12] (fun k_ => (w.heap.size ≤ k_)) (fun _ => False) rfl rfl ?aP (fun _ hk => hk.elim) ?aF ?aO ?aB ?aS ?aL ?_; (case aP => exact k72_mkM _ _ _ (⟨ji11, ji12⟩ : S72)); (case aB => exact (by repeat (first | (with_reducible first | exact HB.out | apply below_alloc | apply pw_below_drewN | apply below_drew1) | exact HB.out))); (case aF => exact (fun k_ hk => (Nat.le_trans (below_size (by repeat (first | (with_reducible first | exact HB.out | apply below_alloc | apply pw_below_drewN | apply below_drew1) | exact HB.out))) hk))); (case aO => exact (by (with_reducible repeat (first | apply Kd.R_alloc | apply Kd.R_drewN | apply Kd.R_drew)); exact HO_5.out)); (case aS => exact (below_size (by repeat (first | (with_reducible first | exact HB.out | apply below_alloc | apply pw_below_drewN | apply below_drew1) | exact HB.out)))); (case aL => have := LMc14.out; omega); intro v267 w19 ho hb hg hat; rw [← Ny266.out] at ho; have n0_ := Aside0.mk (Kd.V_afterv (ok := (fun k_ => ((P0_ k_ ∨ P1_ k_) ∨ w.heap.size ≤ k_))) (by (with_reducible repeat (first | apply Kd.V_alloc | apply Kd.V_drewN | apply Kd.V_drew)); exact HO_0.out) hg hat); have n1_ := Aside0.mk (Kd.V_afterv (ok := (fun k_ => ((P0_ k_ ∨ P1_ k_) ∨ w.heap.size ≤ k_))) (by (with_reducible repeat (first | apply Kd.V_alloc | apply Kd.V_drewN | apply Kd.V_drew)); exact HO_1.out) hg hat); have n2_ := Aside0.mk (hb); have n3_ := Aside0.mk (ho); clear HO_0; clear HO_1; clear HB; clear HO_5; have HO_0 := n0_; have HO_1 := n1_; have HB := n2_; have HO268 := n3_; clear n0_ n1_ n2_ n3_; clear ho hb hg hat; have p269 : 0 ≤ (0 : Int) := (by omega); have q269 : 0 < (x0_1.length : Int) := of_decide_eq_true (by first | (with_reducible assumption) | assumption); obtain ⟨ad269, e269, hx269_0, hx269_1⟩ := at_T72 (Kd.V_reads' HO_0.out).2.2 0 p269 q269; obtain rfl : ad262 = ad269 := (by injection e269); have qi269 : (0 < x0_1.length) = True := eq_true (by omega); (try rw [show ((0 : Int)).toNat = 0 from rfl] at hx269_0); (try rw [show 0 * 2 = 0 from rfl] at hx269_0); (try rw [Addr.add_zero'] at hx269_0); (try rw [show ((0 : Int)).toNat = 0 from rfl] at hx269_1); (try rw [show 0 * 2 = 0 from rfl] at hx269_1); (try rw [Addr.add_zero'] at hx269_1); replace p269 := eq_true p269; replace q269 := eq_true q269; have p270 : 0 ≤ (0 : Int) := (by omega); have q270 : 0 < (x1_1.length : Int) := of_decide_eq_true (by first | (with_reducible assumption) | assumption); obtain ⟨ad270, e270, hx270_0, hx270_1⟩ := at_T72 (Kd.V_reads' HO_1.out).2.2 0 p270 q270; obtain rfl : ad263 = ad270 := (by injection e270); have qi270 : (0 < x1_1.length) = True := eq_true (by omega); (try rw [show ((0 : Int)).toNat = 0 from rfl] at hx270_0); (try rw [show 0 * 2 = 0 from rfl] at hx270_0); (try rw [Addr.add_zero'] at hx270_0); (try rw [show ((0 : Int)).toNat = 0 from rfl] at hx270_1); (try rw [show 0 * 2 = 0 from rfl] at hx270_1); (try rw [Addr.add_zero'] at hx270_1); replace p270 := eq_true p270; replace q270 := eq_true q270; have q20 : (1 : Int) ≤ ((x0_1.length : Int) : Int) := of_decide_eq_true (by first | (with_reducible assumption) | assumption); obtain ⟨i020, hi020, _, hsz20, _⟩ := info_parts info72; have hroom20 : x0_1.length ≤ co17 := (Kd.V_reads' HO_0.out).2.1; have hC20 : Kd.F k72 _ _ (some ad262) x0_1.length x0_1 := (Kd.V_at (base := w.heap.size) HO_0.out).2.2; have hcut20 := cut_from (P := Try.prog) 69 72 .i64 Try.underlying69 hi020 2 hsz20 (some ad262) x0_1.length co17 1 (by omega) q20; have hr20 := Kd.F_cut (m := (1 : Int).toNat) (c := co17) hC20 (by omega) hroom20; obtain ⟨A20, hA20⟩ : ∃ A1, A1 = (if co17 = (1 : Int).toNat then (some ad262) else ((some ad262) : Option Addr).map (·.add ((1 : Int).toNat * 2))) := ⟨_, rfl⟩; obtain ⟨c20, hc20⟩ : ∃ c1, c1 = co17 - (1 : Int).toNat := ⟨_, rfl⟩; have hy20 : y271.length = x0_1.length - (1 : Int).toNat := (by rw [Ny271.out, List.length_drop] <;> omega); rw [show (x0_1).drop (1 : Int).toNat = y271 from Ny271.out.symm] at hr20; replace hr20 : Kd.F k72 _ _ A20 y271.length y271 := (by rw [hA20]; exact hr20); rw [← hy20, ← hA20, ← hc20] at hcut20; have HO275 := Aside0.mk (show Kd.V k72 72 _ w.heap.size _ (.slice A20 y271.length c20) y271 from Kd.V_mk (by rw [hy20, hc20]; exact Nat.sub_le_sub_right hroom20 _) hr20); have HC275 := Aside0.mk (show y271.length ≤ c20 from by rw [hy20, hc20]; exact Nat.sub_le_sub_right hroom20 _); clear hr20 hC20 hroom20 hi020 hsz20 hc20; have KY20 := Aside0.mk hy20; have KA20 := Aside0.mk hA20; clear hy20 hA20; replace q20 := eq_true q20)))
                        go_roundg kj2
                        case measure => have := HK1.out; have := HJ2.out; omega
                        case rel => exact ⟨(y271), (x1_1), (y266), H', ⟨by have := HK1.out; have := HJ2.out; omega⟩, ⟨by (with_reducible repeat (first | apply Kd.V_alloc | apply Kd.V_drewN | apply Kd.V_drew)); exact HO275.out⟩, ⟨by (with_reducible repeat (first | apply Kd.V_alloc | apply Kd.V_drewN | apply Kd.V_drew)); exact HO_1.out⟩, ⟨by (with_reducible repeat (first | apply Kd.R_alloc | apply Kd.R_drewN | apply Kd.R_drew)); exact HO268.out⟩, ⟨by repeat (first | (with_reducible first | exact HB.out | apply below_alloc | apply pw_below_drewN | apply below_drew1) | exact HB.out)⟩⟩
                      · rw [if_neg c16] at H
                        exact absurd H (by simp)
                    · rw [if_neg c15] at H
                      have c15b0 : decide (((rd_T72 x0_1 0).f1) < ((rd_T72 x1_1 0).f1)) = false := decide_eq_false c15
                      clear c15
                      by_cases c21 : 1 ≤ (x1_1.length : Int)
                      · rw [if_pos c21] at H
                        have c21b0 := eq_true c21
                        have c21b1 : decide (1 ≤ (x1_1.length : Int)) = true := decide_eq_true c21
                        clear c21
                        obtain ⟨y276, hy276⟩ : ∃ y_ : List (S72), y_ = (x1_1.drop 1) := ⟨_, rfl⟩
                        replace H : (sets_Meet.l0 kj2 x0_1 y276 y266) = some r := by first | (rw [hy276]; with_reducible exact H) | (have H2_ := (Option.bind_some _ _).symm.trans H; rw [hy276]; with_reducible exact H2_) | (have H2_ := (Option.bind_some _ _).symm.trans H; with_reducible exact H2_) | with_reducible exact H | (rw [hy276]; exact H) | exact H
                        have Ny276 := Aside0.mk hy276
                        clear hy276
                        have H' := Aside0.mk H
                        clear H
                        obtain ⟨Ao22, co22, eo22⟩ := Kd.V_slice HO_0.out
                        subst eo22
                        have p262 : 0 ≤ (0 : Int) := (by omega)
                        have q262 : 0 < (x0_1.length : Int) := of_decide_eq_true (by first | (with_reducible assumption) | assumption)
                        obtain ⟨ad262, e262, hx262_0, hx262_1⟩ := at_T72 (Kd.V_reads' HO_0.out).2.2 0 p262 q262
                        cases e262
                        have qi262 : (0 < x0_1.length) = True := eq_true (by omega)
                        (try rw [show ((0 : Int)).toNat = 0 from rfl] at hx262_0)
                        (try rw [show 0 * 2 = 0 from rfl] at hx262_0)
                        (try rw [Addr.add_zero'] at hx262_0)
                        (try rw [show ((0 : Int)).toNat = 0 from rfl] at hx262_1)
                        (try rw [show 0 * 2 = 0 from rfl] at hx262_1)
                        (try rw [Addr.add_zero'] at hx262_1)
                        replace p262 := eq_true p262
                        replace q262 := eq_true q262
                        obtain ⟨Ao23, co23, eo23⟩ := Kd.V_slice HO_1.out
                        subst eo23
                        have p263 : 0 ≤ (0 : Int) := (by omega)
                        have q263 : 0 < (x1_1.length : Int) := of_decide_eq_true (by first | (with_reducible assumption) | assumption)
                        obtain ⟨ad263, e263, hx263_0, hx263_1⟩ := at_T72 (Kd.V_reads' HO_1.out).2.2 0 p263 q263
                        cases e263
                        have qi263 : (0 < x1_1.length) = True := eq_true (by omega)
                        (try rw [show ((0 : Int)).toNat = 0 from rfl] at hx263_0)
                        (try rw [show 0 * 2 = 0 from rfl] at hx263_0)
                        (try rw [Addr.add_zero'] at hx263_0)
                        (try rw [show ((0 : Int)).toNat = 0 from rfl] at hx263_1)
                        (try rw [show 0 * 2 = 0 from rfl] at hx263_1)
                        (try rw [Addr.add_zero'] at hx263_1)
                        replace p263 := eq_true p263
                        replace q263 := eq_true q263
                        have p264 : 0 ≤ (0 : Int) := (by omega)
                        have q264 : 0 < (x0_1.length : Int) := of_decide_eq_true (by first | (with_reducible assumption) | assumption)
                        obtain ⟨ad264, e264, hx264_0, hx264_1⟩ := at_T72 (Kd.V_reads' HO_0.out).2.2 0 p264 q264
                        obtain rfl : ad262 = ad264 := (by injection e264)
                        have qi264 : (0 < x0_1.length) = True := eq_true (by omega)
                        (try rw [show ((0 : Int)).toNat = 0 from rfl] at hx264_0)
                        (try rw [show 0 * 2 = 0 from rfl] at hx264_0)
                        (try rw [Addr.add_zero'] at hx264_0)
                        (try rw [show ((0 : Int)).toNat = 0 from rfl] at hx264_1)
                        (try rw [show 0 * 2 = 0 from rfl] at hx264_1)
                        (try rw [Addr.add_zero'] at hx264_1)
                        replace p264 := eq_true p264
                        replace q264 := eq_true q264
                        have p265 : 0 ≤ (0 : Int) := (by omega)
                        have q265 : 0 < (x1_1.length : Int) := of_decide_eq_true (by first | (with_reducible assumption) | assumption)
                        obtain ⟨ad265, e265, hx265_0, hx265_1⟩ := at_T72 (Kd.V_reads' HO_1.out).2.2 0 p265 q265
                        obtain rfl : ad263 = ad265 := (by injection e265)
                        have qi265 : (0 < x1_1.length) = True := eq_true (by omega)
                        (try rw [show ((0 : Int)).toNat = 0 from rfl] at hx265_0)
                        (try rw [show 0 * 2 = 0 from rfl] at hx265_0)
                        (try rw [Addr.add_zero'] at hx265_0)
                        (try rw [show ((0 : Int)).toNat = 0 from rfl] at hx265_1)
                        (try rw [show 0 * 2 = 0 from rfl] at hx265_1)
                        (try rw [Addr.add_zero'] at hx265_1)
                        replace p265 := eq_true p265
                        replace q265 := eq_true q265
                        go_wp2_with (first | ((with_reducible refine gate_builtin (b := .append) (xs := #[.tmp 37, .tmp 41]) rfl ?_); (try (refine gate_guard (by rfl) ?_; dsimp only)); at_builtin; refine Kd.R_append k72 (w0 := w) w.heap.size rfl (.tmp 37) (.tmp 41) 69 72 (.agg #[(.int .i64 0), (.int .i64 0)]) 16 rfl Try.underlying69 info72 rfl (by decide) (by omega) u5 x5_1 (⟨ji11, ji12⟩ : S72) [.int .i64 ji11, .int .i64 ji12] (fun k_ => (w.heap.size ≤ k_)) (fun _ => False) rfl rfl ?aP (fun _ hk => hk.elim) ?aF ?aO ?aB ?aS ?aL ?_; (case aP => exact k72_mkM _ _ _ (⟨ji11, ji12⟩ : S72)); (case aB => exact (by repeat (first | (with_reducible first | exact HB.out | apply below_alloc | apply pw_below_drewN | apply below_drew1) | exact HB.out))); (case aF => exact (fun k_ hk => (Nat.le_trans (below_size (by repeat (first | (with_reducible first | exact HB.out | apply below_alloc | apply pw_below_drewN | apply below_drew1) | exact HB.out))) hk))); (case aO => exact (by (with_reducible repeat (first | apply Kd.R_alloc | apply Kd.R_drewN | apply Kd.R_drew)); exact HO_5.out)); (case aS => exact (below_size (by repeat (first | (with_reducible first | exact HB.out | apply below_alloc | apply pw_below_drewN | apply below_drew1) | exact HB.out)))); (case aL => have := LMc14.out; omega); intro v267 w24 ho hb hg hat; rw [← Ny266.out] at ho; have n0_ := Aside0.mk (Kd.V_afterv (ok := (fun k_ => ((P0_ k_ ∨ P1_ k_) ∨ w.heap.size ≤ k_))) (by (with_reducible repeat (first | apply Kd.V_alloc | apply Kd.V_drewN | apply Kd.V_drew)); exact HO_0.out) hg hat); have n1_ := Aside0.mk (Kd.V_afterv (ok := (fun k_ => ((P0_ k_ ∨ P1_ k_) ∨ w.heap.size ≤ k_))) (by (with_reducible repeat (first | apply Kd.V_alloc | apply Kd.V_drewN | apply Kd.V_drew)); exact HO_1.out) hg hat); have n2_ := Aside0.mk (hb); have n3_ := Aside0.mk (ho); clear HO_0; clear HO_1; clear HB; clear HO_5; have HO_0 := n0_; have HO_1 := n1_; have HB := n2_; have HO268 := n3_; clear n0_ n1_ n2_ n3_; clear ho hb hg hat; have p269 : 0 ≤ (0 : Int) := (by omega); have q269 : 0 < (x0_1.length : Int) := of_decide_eq_true (by first | (with_reducible assumption) | assumption); obtain ⟨ad269, e269, hx269_0, hx269_1⟩ := at_T72 (Kd.V_reads' HO_0.out).2.2 0 p269 q269; obtain rfl : ad262 = ad269 := (by injection e269); have qi269 : (0 < x0_1.length) = True := eq_true (by omega); (try rw [show ((0 : Int)).toNat = 0 from rfl] at hx269_0); (try rw [show 0 * 2 = 0 from rfl] at hx269_0); (try rw [Addr.add_zero'] at hx269_0); (try rw [show ((0 : Int)).toNat = 0 from rfl] at hx269_1); (try rw [show 0 * 2 = 0 from rfl] at hx269_1); (try rw [Addr.add_zero'] at hx269_1); replace p269 := eq_true p269; replace q269 := eq_true q269; have p270 : 0 ≤ (0 : Int) := (by omega); have q270 : 0 < (x1_1.length : Int) := of_decide_eq_true (by first | (with_reducible assumption) | assumption); obtain ⟨ad270, e270, hx270_0, hx270_1⟩ := at_T72 (Kd.V_reads' HO_1.out).2.2 0 p270 q270; obtain rfl : ad263 = ad270 := (by injection e270); have qi270 : (0 < x1_1.length) = True := eq_true (by omega); (try rw [show ((0 : Int)).toNat = 0 from rfl] at hx270_0); (try rw [show 0 * 2 = 0 from rfl] at hx270_0); (try rw [Addr.add_zero'] at hx270_0); (try rw [show ((0 : Int)).toNat = 0 from rfl] at hx270_1); (try rw [show 0 * 2 = 0 from rfl] at hx270_1); (try rw [Addr.add_zero'] at hx270_1); replace p270 := eq_true p270; replace q270 := eq_true q270; have q25 : (1 : Int) ≤ ((x1_1.length : Int) : Int) := of_decide_eq_true (by first | (with_reducible assumption) | assumption); obtain ⟨i025, hi025, _, hsz25, _⟩ := info_parts info72; have hroom25 : x1_1.length ≤ co23 := (Kd.V_reads' HO_1.out).2.1; have hC25 : Kd.F k72 _ _ (some ad263) x1_1.length x1_1 := (Kd.V_at (base := w.heap.size) HO_1.out).2.2; have hcut25 := cut_from (P := Try.prog) 69 72 .i64 Try.underlying69 hi025 2 hsz25 (some ad263) x1_1.length co23 1 (by omega) q25; have hr25 := Kd.F_cut (m := (1 : Int).toNat) (c := co23) hC25 (by omega) hroom25; obtain ⟨A25, hA25⟩ : ∃ A1, A1 = (if co23 = (1 : Int).toNat then (some ad263) else ((some ad263) : Option Addr).map (·.add ((1 : Int).toNat * 2))) := ⟨_, rfl⟩; obtain ⟨c25, hc25⟩ : ∃ c1, c1 = co23 - (1 : Int).toNat := ⟨_, rfl⟩; have hy25 : y276.length = x1_1.length - (1 : Int).toNat := (by rw [Ny276.out, List.length_drop] <;> omega); rw [show (x1_1).drop (1 : Int).toNat = y276 from Ny276.out.symm] at hr25; replace hr25 : Kd.F k72 _ _ A25 y276.length y276 := (by rw [hA25]; exact hr25); rw [← hy25, ← hA25, ← hc25] at hcut25; have HO280 := Aside0.mk (show Kd.V k72 72 _ w.heap.size _ (.slice A25 y276.length c25) y276 from Kd.V_mk (by rw [hy25, hc25]; exact Nat.sub_le_sub_right hroom25 _) hr25); have HC280 := Aside0.mk (show y276.length ≤ c25 from by rw [hy25, hc25]; exact Nat.sub_le_sub_right hroom25 _); clear hr25 hC25 hroom25 hi025 hsz25 hc25; have KY25 := Aside0.mk hy25; have KA25 := Aside0.mk hA25; clear hy25 hA25; replace q25 := eq_true q25))
                        repeat (go_quiet (first | ((with_reducible refine gate_builtin (b := .append) (xs := #[.tmp 37, .tmp 41]) rfl ?_); (try (refine gate_guard (by rfl) ?_; dsimp only)); at_builtin; refine Kd.R_append k72 (w0 := w) w.heap.size rfl (.tmp 37) (.tmp 41) 69 72 (.agg #[(.int .i64 0), (.int .i64 0)]) 16 rfl Try.underlying69 info72 rfl (by decide) (by omega) u5 x5_1 (⟨ji11, ji12⟩ : S72) [.int .i64 ji11, .int .i64 ji12] (fun k_ => (w.heap.size ≤ k_)) (fun _ => False) rfl rfl ?aP (fun _ hk => hk.elim) ?aF ?aO ?aB ?aS ?aL ?_; (case aP => exact k72_mkM _ _ _ (⟨ji11, ji12⟩ : S72)); (case aB => exact (by repeat (first | (with_reducible first | exact HB.out | apply below_alloc | apply pw_below_drewN | apply below_drew1) | exact HB.out))); (case aF => exact (fun k_ hk => (Nat.le_trans (below_size (by repeat (first | (with_reducible first | exact HB.out | apply below_alloc | apply pw_below_drewN | apply below_drew1) | exact HB.out))) hk))); (case aO => exact (by (with_reducible repeat (first | apply Kd.R_alloc | apply Kd.R_drewN | apply Kd.R_drew)); exact HO_5.out)); (case aS => exact (below_size (by repeat (first | (with_reducible first | exact HB.out | apply below_alloc | apply pw_below_drewN | apply below_drew1) | exact HB.out)))); (case aL => have := LMc14.out; omega); intro v267 w24 ho hb hg hat; rw [← Ny266.out] at ho; have n0_ := Aside0.mk (Kd.V_afterv (ok := (fun k_ => ((P0_ k_ ∨ P1_ k_) ∨ w.heap.size ≤ k_))) (by (with_reducible repeat (first | apply Kd.V_alloc | apply Kd.V_drewN | apply Kd.V_drew)); exact HO_0.out) hg hat); have n1_ := Aside0.mk (Kd.V_afterv (ok := (fun k_ => ((P0_ k_ ∨ P1_ k_) ∨ w.heap.size ≤ k_))) (by (with_reducible repeat (first | apply Kd.V_alloc | apply Kd.V_drewN | apply Kd.V_drew)); exact HO_1.out) hg hat); have n2_ := Aside0.mk (hb); have n3_ := Aside0.mk (ho); clear HO_0; clear HO_1; clear HB; clear HO_5; have HO_0 := n0_; have HO_1 := n1_; have HB := n2_; have HO268 := n3_; clear n0_ n1_ n2_ n3_; clear ho hb hg hat; have p269 : 0 ≤ (0 : Int) := (by omega); have q269 : 0 < (x0_1.length : Int) := of_decide_eq_true (by first | (with_reducible assumption) | assumption); obtain ⟨ad269, e269, hx269_0, hx269_1⟩ := at_T72 (Kd.V_reads' HO_0.out).2.2 0 p269 q269; obtain rfl : ad262 = ad269 := (by injection e269); have qi269 : (0 < x0_1.length) = True := eq_true (by omega); (try rw [show ((0 : Int)).toNat = 0 from rfl] at hx269_0); (try rw [show 0 * 2 = 0 from rfl] at hx269_0); (try rw [Addr.add_zero'] at hx269_0); (try rw [show ((0 : Int)).toNat = 0 from rfl] at hx269_1); (try rw [show 0 * 2 = 0 from rfl] at hx269_1); (try rw [Addr.add_zero'] at hx269_1); replace p269 := eq_true p269; replace q269 := eq_true q269; have p270 : 0 ≤ (0 : Int) := (by omega); have q270 : 0 < (x1_1.length : Int) := of_decide_eq_true (by first | (with_reducible assumption) | assumption); obtain ⟨ad270, e270, hx270_0, hx270_1⟩ := at_T72 (Kd.V_reads' HO_1.out).2.2 0 p270 q270; obtain rfl : ad263 = ad270 := (by injection e270); have qi270 : (0 < x1_1.length) = True := eq_true (by omega); (try rw [show ((0 : Int)).toNat = 0 from rfl] at hx270_0); (try rw [show 0 * 2 = 0 from rfl] at hx270_0); (try rw [Addr.add_zero'] at hx270_0); (try rw [show ((0 : Int)).toNat = 0 from rfl] at hx270_1); (try rw [show 0 * 2 = 0 from rfl] at hx270_1); (try rw [Addr.add_zero'] at hx270_1); replace p270 := eq_true p270; replace q270 := eq_true q270; have q25 : (1 : Int) ≤ ((x1_1.length : Int) : Int) := of_decide_eq_true (by first | (with_reducible assumption) | assumption); obtain ⟨i025, hi025, _, hsz25, _⟩ := info_parts info72; have hroom25 : x1_1.length ≤ co23 := (Kd.V_reads' HO_1.out).2.1; have hC25 : Kd.F k72 _ _ (some ad263) x1_1.length x1_1 := (Kd.V_at (base := w.heap.size) HO_1.out).2.2; have hcut25 := cut_from (P := Try.prog) 69 72 .i64 Try.underlying69 hi025 2 hsz25 (some ad263) x1_1.length co23 1 (by omega) q25; have hr25 := Kd.F_cut (m := (1 : Int).toNat) (c := co23) hC25 (by omega) hroom25; obtain ⟨A25, hA25⟩ : ∃ A1, A1 = (if co23 = (1 : Int).toNat then (some ad263) else ((some ad263) : Option Addr).map (·.add ((1 : Int).toNat * 2))) := ⟨_, rfl⟩; obtain ⟨c25, hc25⟩ : ∃ c1, c1 = co23 - (1 : Int).toNat := ⟨_, rfl⟩; have hy25 : y276.length = x1_1.length - (1 : Int).toNat := (by rw [Ny276.out, List.length_drop] <;> omega); rw [show (x1_1).drop (1 : Int).toNat = y276 from Ny276.out.symm] at hr25; replace hr25 : Kd.F k72 _ _ A25 y276.length y276 := (by rw [hA25]; exact hr25); rw [← hy25, ← hA25, ← hc25] at hcut25; have HO280 := Aside0.mk (show Kd.V k72 72 _ w.heap.size _ (.slice A25 y276.length c25) y276 from Kd.V_mk (by rw [hy25, hc25]; exact Nat.sub_le_sub_right hroom25 _) hr25); have HC280 := Aside0.mk (show y276.length ≤ c25 from by rw [hy25, hc25]; exact Nat.sub_le_sub_right hroom25 _); clear hr25 hC25 hroom25 hi025 hsz25 hc25; have KY25 := Aside0.mk hy25; have KA25 := Aside0.mk hA25; clear hy25 hA25; replace q25 := eq_true q25)); try go_wp2_with (first | ((with_reducible refine gate_builtin (b := .append) (xs := #[.tmp 37, .tmp 41]) rfl ?_); (try (refine gate_guard (by rfl) ?_; dsimp only)); at_builtin; refine Kd.R_append k72 (w0 := w) w.heap.size rfl (.tmp 37) (.tmp 41) 69 72 (.agg #[(.int .i64 0), (.int .i64 0)]) 16 rfl Try.underlying69 info72 rfl (by decide) (by omega) u5 x5_1 (⟨ji11, ji12⟩ : S72) [.int .i64 ji11, .int .i64 ji12] (fun k_ => (w.heap.size ≤ k_)) (fun _ => False) rfl rfl ?aP (fun _ hk => hk.elim) ?aF ?aO ?aB ?aS ?aL ?_; (case aP => exact k72_mkM _ _ _ (⟨ji11, ji12⟩ : S72)); (case aB => exact (by repeat (first | (with_reducible first | exact HB.out | apply below_alloc | apply pw_below_drewN | apply below_drew1) | exact HB.out))); (case aF => exact (fun k_ hk => (Nat.le_trans (below_size (by repeat (first | (with_reducible first | exact HB.out | apply below_alloc | apply pw_below_drewN | apply below_drew1) | exact HB.out))) hk))); (case aO => exact (by (with_reducible repeat (first | apply Kd.R_alloc | apply Kd.R_drewN | apply Kd.R_drew)); exact HO_5.out)); (case aS => exact (below_size (by repeat (first | (with_reducible first | exact HB.out | apply below_alloc | apply pw_below_drewN | apply below_drew1) | exact HB.out)))); (case aL => have := LMc14.out; omega); intro v267 w24 ho hb hg hat; rw [← Ny266.out] at ho; have n0_ := Aside0.mk (Kd.V_afterv (ok := (fun k_ => ((P0_ k_ ∨ P1_ k_) ∨ w.heap.size ≤ k_))) (by (with_reducible repeat (first | apply Kd.V_alloc | apply Kd.V_drewN | apply Kd.V_drew)); exact HO_0.out) hg hat); have n1_ := Aside0.mk (Kd.V_afterv (ok := (fun k_ => ((P0_ k_ ∨ P1_ k_) ∨ w.heap.size ≤ k_))) (by (with_reducible repeat (first | apply Kd.V_alloc | apply Kd.V_drewN | apply Kd.V_drew)); exact HO_1.out) hg hat); have n2_ := Aside0.mk (hb); have n3_ := Aside0.mk (ho); clear HO_0; clear HO_1; clear HB; clear HO_5; have HO_0 := n0_; have HO_1 := n1_; have HB := n2_; have HO268 := n3_; clear n0_ n1_ n2_ n3_; clear ho hb hg hat; have p269 : 0 ≤ (0 : Int) := (by omega); have q269 : 0 < (x0_1.length : Int) := of_decide_eq_true (by first | (with_reducible assumption) | assumption); obtain ⟨ad269, e269, hx269_0, hx269_1⟩ := at_T72 (Kd.V_reads' HO_0.out).2.2 0 p269 q269; obtain rfl : ad262 = ad269 := (by injection e269); have qi269 : (0 < x0_1.length) = True := eq_true (by omega); (try rw [show ((0 : Int)).toNat = 0 from rfl] at hx269_0); (try rw [show 0 * 2 = 0 from rfl] at hx269_0); (try rw [Addr.add_zero'] at hx269_0); (try rw [show ((0 : Int)).toNat = 0 from rfl] at hx269_1); (try rw [show 0 * 2 = 0 from rfl] at hx269_1); (try rw [Addr.add_zero'] at hx269_1); replace p269 := eq_true p269; replace q269 := eq_true q269; have p270 : 0 ≤ (0 : Int) := (by omega); have q270 : 0 < (x1_1.length : Int) := of_decide_eq_true (by first | (with_reducible assumption) | assumption); obtain ⟨ad270, e270, hx270_0, hx270_1⟩ := at_T72 (Kd.V_reads' HO_1.out).2.2 0 p270 q270; obtain rfl : ad263 = ad270 := (by injection e270); have qi270 : (0 < x1_1.length) = True := eq_true (by omega); (try rw [show ((0 : Int)).toNat = 0 from rfl] at hx270_0); (try rw [show 0 * 2 = 0 from rfl] at hx270_0); (try rw [Addr.add_zero'] at hx270_0); (try rw [show ((0 : Int)).toNat = 0 from rfl] at hx270_1); (try rw [show 0 * 2 = 0 from rfl] at hx270_1); (try rw [Addr.add_zero'] at hx270_1); replace p270 := eq_true p270; replace q270 := eq_true q270; have q25 : (1 : Int) ≤ ((x1_1.length : Int) : Int) := of_decide_eq_true (by first | (with_reducible assumption) | assumption); obtain ⟨i025, hi025, _, hsz25, _⟩ := info_parts info72; have hroom25 : x1_1.length ≤ co23 := (Kd.V_reads' HO_1.out).2.1; have hC25 : Kd.F k72 _ _ (some ad263) x1_1.length x1_1 := (Kd.V_at (base := w.heap.size) HO_1.out).2.2; have hcut25 := cut_from (P := Try.prog) 69 72 .i64 Try.underlying69 hi025 2 hsz25 (some ad263) x1_1.length co23 1 (by omega) q25; have hr25 := Kd.F_cut (m := (1 : Int).toNat) (c := co23) hC25 (by omega) hroom25; obtain ⟨A25, hA25⟩ : ∃ A1, A1 = (if co23 = (1 : Int).toNat then (some ad263) else ((some ad263) : Option Addr).map (·.add ((1 : Int).toNat * 2))) := ⟨_, rfl⟩; obtain ⟨c25, hc25⟩ : ∃ c1, c1 = co23 - (1 : Int).toNat := ⟨_, rfl⟩; have hy25 : y276.length = x1_1.length - (1 : Int).toNat := (by rw [Ny276.out, List.length_drop] <;> omega); rw [show (x1_1).drop (1 : Int).toNat = y276 from Ny276.out.symm] at hr25; replace hr25 : Kd.F k72 _ _ A25 y276.length y276 := (by rw [hA25]; exact hr25); rw [← hy25, ← hA25, ← hc25] at hcut25; have HO280 := Aside0.mk (show Kd.V k72 72 _ w.heap.size _ (.slice A25 y276.length c25) y276 from Kd.V_mk (by rw [hy25, hc25]; exact Nat.sub_le_sub_right hroom25 _) hr25); have HC280 := Aside0.mk (show y276.length ≤ c25 from by rw [hy25, hc25]; exact Nat.sub_le_sub_right hroom25 _); clear hr25 hC25 hroom25 hi025 hsz25 hc25; have KY25 := Aside0.mk hy25; have KA25 := Aside0.mk hA25; clear hy25 hA25; replace q25 := eq_true q25)))
                        go_roundg kj2
                        case measure => have := HK1.out; have := HJ2.out; omega
                        case rel => exact ⟨(x0_1), (y276), (y266), H', ⟨by have := HK1.out; have := HJ2.out; omega⟩, ⟨by (with_reducible repeat (first | apply Kd.V_alloc | apply Kd.V_drewN | apply Kd.V_drew)); exact HO_0.out⟩, ⟨by (with_reducible repeat (first | apply Kd.V_alloc | apply Kd.V_drewN | apply Kd.V_drew)); exact HO280.out⟩, ⟨by (with_reducible repeat (first | apply Kd.R_alloc | apply Kd.R_drewN | apply Kd.R_drew)); exact HO268.out⟩, ⟨by repeat (first | (with_reducible first | exact HB.out | apply below_alloc | apply pw_below_drewN | apply below_drew1) | exact HB.out)⟩⟩
                      · rw [if_neg c21] at H
                        exact absurd H (by simp)
                  · rw [if_neg c14] at H
                    exact absurd H (by simp)
                · rw [if_neg c13] at H
                  have c13b0 : decide ((ji11) ≤ (ji12)) = false := decide_eq_false c13
                  clear c13
                  by_cases c26 : ((rd_T72 x0_1 0).f1) < ((rd_T72 x1_1 0).f1)
                  · rw [if_pos c26] at H
                    have c26b0 : decide (((rd_T72 x0_1 0).f1) < ((rd_T72 x1_1 0).f1)) = true := decide_eq_true c26
                    clear c26
                    by_cases c27 : 1 ≤ (x0_1.length : Int)
                    · rw [if_pos c27] at H
                      have c27b0 := eq_true c27
                      have c27b1 : decide (1 ≤ (x0_1.length : Int)) = true := decide_eq_true c27
                      clear c27
                      obtain ⟨y283, hy283⟩ : ∃ y_ : List (S72), y_ = (x0_1.drop 1) := ⟨_, rfl⟩
                      replace H : (sets_Meet.l0 kj2 y283 x1_1 x5_1) = some r := by first | (rw [hy283]; with_reducible exact H) | (have H2_ := (Option.bind_some _ _).symm.trans H; rw [hy283]; with_reducible exact H2_) | (have H2_ := (Option.bind_some _ _).symm.trans H; with_reducible exact H2_) | with_reducible exact H | (rw [hy283]; exact H) | exact H
                      have Ny283 := Aside0.mk hy283
                      clear hy283
                      have H' := Aside0.mk H
                      clear H
                      obtain ⟨Ao28, co28, eo28⟩ := Kd.V_slice HO_0.out
                      subst eo28
                      have p262 : 0 ≤ (0 : Int) := (by omega)
                      have q262 : 0 < (x0_1.length : Int) := of_decide_eq_true (by first | (with_reducible assumption) | assumption)
                      obtain ⟨ad262, e262, hx262_0, hx262_1⟩ := at_T72 (Kd.V_reads' HO_0.out).2.2 0 p262 q262
                      cases e262
                      have qi262 : (0 < x0_1.length) = True := eq_true (by omega)
                      (try rw [show ((0 : Int)).toNat = 0 from rfl] at hx262_0)
                      (try rw [show 0 * 2 = 0 from rfl] at hx262_0)
                      (try rw [Addr.add_zero'] at hx262_0)
                      (try rw [show ((0 : Int)).toNat = 0 from rfl] at hx262_1)
                      (try rw [show 0 * 2 = 0 from rfl] at hx262_1)
                      (try rw [Addr.add_zero'] at hx262_1)
                      replace p262 := eq_true p262
                      replace q262 := eq_true q262
                      obtain ⟨Ao29, co29, eo29⟩ := Kd.V_slice HO_1.out
                      subst eo29
                      have p263 : 0 ≤ (0 : Int) := (by omega)
                      have q263 : 0 < (x1_1.length : Int) := of_decide_eq_true (by first | (with_reducible assumption) | assumption)
                      obtain ⟨ad263, e263, hx263_0, hx263_1⟩ := at_T72 (Kd.V_reads' HO_1.out).2.2 0 p263 q263
                      cases e263
                      have qi263 : (0 < x1_1.length) = True := eq_true (by omega)
                      (try rw [show ((0 : Int)).toNat = 0 from rfl] at hx263_0)
                      (try rw [show 0 * 2 = 0 from rfl] at hx263_0)
                      (try rw [Addr.add_zero'] at hx263_0)
                      (try rw [show ((0 : Int)).toNat = 0 from rfl] at hx263_1)
                      (try rw [show 0 * 2 = 0 from rfl] at hx263_1)
                      (try rw [Addr.add_zero'] at hx263_1)
                      replace p263 := eq_true p263
                      replace q263 := eq_true q263
                      have p264 : 0 ≤ (0 : Int) := (by omega)
                      have q264 : 0 < (x0_1.length : Int) := of_decide_eq_true (by first | (with_reducible assumption) | assumption)
                      obtain ⟨ad264, e264, hx264_0, hx264_1⟩ := at_T72 (Kd.V_reads' HO_0.out).2.2 0 p264 q264
                      obtain rfl : ad262 = ad264 := (by injection e264)
                      have qi264 : (0 < x0_1.length) = True := eq_true (by omega)
                      (try rw [show ((0 : Int)).toNat = 0 from rfl] at hx264_0)
                      (try rw [show 0 * 2 = 0 from rfl] at hx264_0)
                      (try rw [Addr.add_zero'] at hx264_0)
                      (try rw [show ((0 : Int)).toNat = 0 from rfl] at hx264_1)
                      (try rw [show 0 * 2 = 0 from rfl] at hx264_1)
                      (try rw [Addr.add_zero'] at hx264_1)
                      replace p264 := eq_true p264
                      replace q264 := eq_true q264
                      have p265 : 0 ≤ (0 : Int) := (by omega)
                      have q265 : 0 < (x1_1.length : Int) := of_decide_eq_true (by first | (with_reducible assumption) | assumption)
                      obtain ⟨ad265, e265, hx265_0, hx265_1⟩ := at_T72 (Kd.V_reads' HO_1.out).2.2 0 p265 q265
                      obtain rfl : ad263 = ad265 := (by injection e265)
                      have qi265 : (0 < x1_1.length) = True := eq_true (by omega)
                      (try rw [show ((0 : Int)).toNat = 0 from rfl] at hx265_0)
                      (try rw [show 0 * 2 = 0 from rfl] at hx265_0)
                      (try rw [Addr.add_zero'] at hx265_0)
                      (try rw [show ((0 : Int)).toNat = 0 from rfl] at hx265_1)
                      (try rw [show 0 * 2 = 0 from rfl] at hx265_1)
                      (try rw [Addr.add_zero'] at hx265_1)
                      replace p265 := eq_true p265
                      replace q265 := eq_true q265
                      have p281 : 0 ≤ (0 : Int) := (by omega)
                      have q281 : 0 < (x0_1.length : Int) := of_decide_eq_true (by first | (with_reducible assumption) | assumption)
                      obtain ⟨ad281, e281, hx281_0, hx281_1⟩ := at_T72 (Kd.V_reads' HO_0.out).2.2 0 p281 q281
                      obtain rfl : ad262 = ad281 := (by injection e281)
                      have qi281 : (0 < x0_1.length) = True := eq_true (by omega)
                      (try rw [show ((0 : Int)).toNat = 0 from rfl] at hx281_0)
                      (try rw [show 0 * 2 = 0 from rfl] at hx281_0)
                      (try rw [Addr.add_zero'] at hx281_0)
                      (try rw [show ((0 : Int)).toNat = 0 from rfl] at hx281_1)
                      (try rw [show 0 * 2 = 0 from rfl] at hx281_1)
                      (try rw [Addr.add_zero'] at hx281_1)
                      replace p281 := eq_true p281
                      replace q281 := eq_true q281
                      have p282 : 0 ≤ (0 : Int) := (by omega)
                      have q282 : 0 < (x1_1.length : Int) := of_decide_eq_true (by first | (with_reducible assumption) | assumption)
                      obtain ⟨ad282, e282, hx282_0, hx282_1⟩ := at_T72 (Kd.V_reads' HO_1.out).2.2 0 p282 q282
                      obtain rfl : ad263 = ad282 := (by injection e282)
                      have qi282 : (0 < x1_1.length) = True := eq_true (by omega)
                      (try rw [show ((0 : Int)).toNat = 0 from rfl] at hx282_0)
                      (try rw [show 0 * 2 = 0 from rfl] at hx282_0)
                      (try rw [Addr.add_zero'] at hx282_0)
                      (try rw [show ((0 : Int)).toNat = 0 from rfl] at hx282_1)
                      (try rw [show 0 * 2 = 0 from rfl] at hx282_1)
                      (try rw [Addr.add_zero'] at hx282_1)
                      replace p282 := eq_true p282
                      replace q282 := eq_true q282
                      have q30 : (1 : Int) ≤ ((x0_1.length : Int) : Int) := of_decide_eq_true (by first | (with_reducible assumption) | assumption)
                      obtain ⟨i030, hi030, _, hsz30, _⟩ := info_parts info72
                      have hroom30 : x0_1.length ≤ co28 := (Kd.V_reads' HO_0.out).2.1
                      have hC30 : Kd.F k72 _ _ (some ad262) x0_1.length x0_1 := (Kd.V_at (base := w.heap.size) HO_0.out).2.2
                      have hcut30 := cut_from (P := Try.prog) 69 72 .i64 Try.underlying69 hi030 2 hsz30 (some ad262) x0_1.length co28 1 (by omega) q30
                      have hr30 := Kd.F_cut (m := (1 : Int).toNat) (c := co28) hC30 (by omega) hroom30
                      obtain ⟨A30, hA30⟩ : ∃ A1, A1 = (if co28 = (1 : Int).toNat then (some ad262) else ((some ad262) : Option Addr).map (·.add ((1 : Int).toNat * 2))) := ⟨_, rfl⟩
                      obtain ⟨c30, hc30⟩ : ∃ c1, c1 = co28 - (1 : Int).toNat := ⟨_, rfl⟩
                      have hy30 : y283.length = x0_1.length - (1 : Int).toNat := (by rw [Ny283.out, List.length_drop] <;> omega)
                      rw [show (x0_1).drop (1 : Int).toNat = y283 from Ny283.out.symm] at hr30
                      replace hr30 : Kd.F k72 _ _ A30 y283.length y283 := (by rw [hA30]; exact hr30)
                      rw [← hy30, ← hA30, ← hc30] at hcut30
                      have HO287 := Aside0.mk (show Kd.V k72 72 _ w.heap.size _ (.slice A30 y283.length c30) y283 from Kd.V_mk (by rw [hy30, hc30]; exact Nat.sub_le_sub_right hroom30 _) hr30)
                      have HC287 := Aside0.mk (show y283.length ≤ c30 from by rw [hy30, hc30]; exact Nat.sub_le_sub_right hroom30 _)
                      clear hr30 hC30 hroom30 hi030 hsz30 hc30
                      have KY30 := Aside0.mk hy30
                      have KA30 := Aside0.mk hA30
                      clear hy30 hA30
                      replace q30 := eq_true q30
                      go_wp2
                      repeat (go_quiet (fail); try go_wp2)
                      go_roundg kj2
                      case measure => have := HK1.out; have := HJ2.out; omega
                      case rel => exact ⟨(y283), (x1_1), (x5_1), H', ⟨by have := HK1.out; have := HJ2.out; omega⟩, ⟨by (with_reducible repeat (first | apply Kd.V_alloc | apply Kd.V_drewN | apply Kd.V_drew)); exact HO287.out⟩, ⟨by (with_reducible repeat (first | apply Kd.V_alloc | apply Kd.V_drewN | apply Kd.V_drew)); exact HO_1.out⟩, ⟨by (with_reducible repeat (first | apply Kd.R_alloc | apply Kd.R_drewN | apply Kd.R_drew)); exact HO_5.out⟩, ⟨by repeat (first | (with_reducible first | exact HB.out | apply below_alloc | apply pw_below_drewN | apply below_drew1) | exact HB.out)⟩⟩
                    · rw [if_neg c27] at H
                      exact absurd H (by simp)
                  · rw [if_neg c26] at H
                    have c26b0 : decide (((rd_T72 x0_1 0).f1) < ((rd_T72 x1_1 0).f1)) = false := decide_eq_false c26
                    clear c26
                    by_cases c31 : 1 ≤ (x1_1.length : Int)
                    · rw [if_pos c31] at H
                      have c31b0 := eq_true c31
                      have c31b1 : decide (1 ≤ (x1_1.length : Int)) = true := decide_eq_true c31
                      clear c31
                      obtain ⟨y288, hy288⟩ : ∃ y_ : List (S72), y_ = (x1_1.drop 1) := ⟨_, rfl⟩
                      replace H : (sets_Meet.l0 kj2 x0_1 y288 x5_1) = some r := by first | (rw [hy288]; with_reducible exact H) | (have H2_ := (Option.bind_some _ _).symm.trans H; rw [hy288]; with_reducible exact H2_) | (have H2_ := (Option.bind_some _ _).symm.trans H; with_reducible exact H2_) | with_reducible exact H | (rw [hy288]; exact H) | exact H
                      have Ny288 := Aside0.mk hy288
                      clear hy288
                      have H' := Aside0.mk H
                      clear H
                      obtain ⟨Ao32, co32, eo32⟩ := Kd.V_slice HO_0.out
                      subst eo32
                      have p262 : 0 ≤ (0 : Int) := (by omega)
                      have q262 : 0 < (x0_1.length : Int) := of_decide_eq_true (by first | (with_reducible assumption) | assumption)
                      obtain ⟨ad262, e262, hx262_0, hx262_1⟩ := at_T72 (Kd.V_reads' HO_0.out).2.2 0 p262 q262
                      cases e262
                      have qi262 : (0 < x0_1.length) = True := eq_true (by omega)
                      (try rw [show ((0 : Int)).toNat = 0 from rfl] at hx262_0)
                      (try rw [show 0 * 2 = 0 from rfl] at hx262_0)
                      (try rw [Addr.add_zero'] at hx262_0)
                      (try rw [show ((0 : Int)).toNat = 0 from rfl] at hx262_1)
                      (try rw [show 0 * 2 = 0 from rfl] at hx262_1)
                      (try rw [Addr.add_zero'] at hx262_1)
                      replace p262 := eq_true p262
                      replace q262 := eq_true q262
                      obtain ⟨Ao33, co33, eo33⟩ := Kd.V_slice HO_1.out
                      subst eo33
                      have p263 : 0 ≤ (0 : Int) := (by omega)
                      have q263 : 0 < (x1_1.length : Int) := of_decide_eq_true (by first | (with_reducible assumption) | assumption)
                      obtain ⟨ad263, e263, hx263_0, hx263_1⟩ := at_T72 (Kd.V_reads' HO_1.out).2.2 0 p263 q263
                      cases e263
                      have qi263 : (0 < x1_1.length) = True := eq_true (by omega)
                      (try rw [show ((0 : Int)).toNat = 0 from rfl] at hx263_0)
                      (try rw [show 0 * 2 = 0 from rfl] at hx263_0)
                      (try rw [Addr.add_zero'] at hx263_0)
                      (try rw [show ((0 : Int)).toNat = 0 from rfl] at hx263_1)
                      (try rw [show 0 * 2 = 0 from rfl] at hx263_1)
                      (try rw [Addr.add_zero'] at hx263_1)
                      replace p263 := eq_true p263
                      replace q263 := eq_true q263
                      have p264 : 0 ≤ (0 : Int) := (by omega)
                      have q264 : 0 < (x0_1.length : Int) := of_decide_eq_true (by first | (with_reducible assumption) | assumption)
                      obtain ⟨ad264, e264, hx264_0, hx264_1⟩ := at_T72 (Kd.V_reads' HO_0.out).2.2 0 p264 q264
                      obtain rfl : ad262 = ad264 := (by injection e264)
                      have qi264 : (0 < x0_1.length) = True := eq_true (by omega)
                      (try rw [show ((0 : Int)).toNat = 0 from rfl] at hx264_0)
                      (try rw [show 0 * 2 = 0 from rfl] at hx264_0)
                      (try rw [Addr.add_zero'] at hx264_0)
                      (try rw [show ((0 : Int)).toNat = 0 from rfl] at hx264_1)
                      (try rw [show 0 * 2 = 0 from rfl] at hx264_1)
                      (try rw [Addr.add_zero'] at hx264_1)
                      replace p264 := eq_true p264
                      replace q264 := eq_true q264
                      have p265 : 0 ≤ (0 : Int) := (by omega)
                      have q265 : 0 < (x1_1.length : Int) := of_decide_eq_true (by first | (with_reducible assumption) | assumption)
                      obtain ⟨ad265, e265, hx265_0, hx265_1⟩ := at_T72 (Kd.V_reads' HO_1.out).2.2 0 p265 q265
                      obtain rfl : ad263 = ad265 := (by injection e265)
                      have qi265 : (0 < x1_1.length) = True := eq_true (by omega)
                      (try rw [show ((0 : Int)).toNat = 0 from rfl] at hx265_0)
                      (try rw [show 0 * 2 = 0 from rfl] at hx265_0)
                      (try rw [Addr.add_zero'] at hx265_0)
                      (try rw [show ((0 : Int)).toNat = 0 from rfl] at hx265_1)
                      (try rw [show 0 * 2 = 0 from rfl] at hx265_1)
                      (try rw [Addr.add_zero'] at hx265_1)
                      replace p265 := eq_true p265
                      replace q265 := eq_true q265
                      have p281 : 0 ≤ (0 : Int) := (by omega)
                      have q281 : 0 < (x0_1.length : Int) := of_decide_eq_true (by first | (with_reducible assumption) | assumption)
                      obtain ⟨ad281, e281, hx281_0, hx281_1⟩ := at_T72 (Kd.V_reads' HO_0.out).2.2 0 p281 q281
                      obtain rfl : ad262 = ad281 := (by injection e281)
                      have qi281 : (0 < x0_1.length) = True := eq_true (by omega)
                      (try rw [show ((0 : Int)).toNat = 0 from rfl] at hx281_0)
                      (try rw [show 0 * 2 = 0 from rfl] at hx281_0)
                      (try rw [Addr.add_zero'] at hx281_0)
                      (try rw [show ((0 : Int)).toNat = 0 from rfl] at hx281_1)
                      (try rw [show 0 * 2 = 0 from rfl] at hx281_1)
                      (try rw [Addr.add_zero'] at hx281_1)
                      replace p281 := eq_true p281
                      replace q281 := eq_true q281
                      have p282 : 0 ≤ (0 : Int) := (by omega)
                      have q282 : 0 < (x1_1.length : Int) := of_decide_eq_true (by first | (with_reducible assumption) | assumption)
                      obtain ⟨ad282, e282, hx282_0, hx282_1⟩ := at_T72 (Kd.V_reads' HO_1.out).2.2 0 p282 q282
                      obtain rfl : ad263 = ad282 := (by injection e282)
                      have qi282 : (0 < x1_1.length) = True := eq_true (by omega)
                      (try rw [show ((0 : Int)).toNat = 0 from rfl] at hx282_0)
                      (try rw [show 0 * 2 = 0 from rfl] at hx282_0)
                      (try rw [Addr.add_zero'] at hx282_0)
                      (try rw [show ((0 : Int)).toNat = 0 from rfl] at hx282_1)
                      (try rw [show 0 * 2 = 0 from rfl] at hx282_1)
                      (try rw [Addr.add_zero'] at hx282_1)
                      replace p282 := eq_true p282
                      replace q282 := eq_true q282
                      have q34 : (1 : Int) ≤ ((x1_1.length : Int) : Int) := of_decide_eq_true (by first | (with_reducible assumption) | assumption)
                      obtain ⟨i034, hi034, _, hsz34, _⟩ := info_parts info72
                      have hroom34 : x1_1.length ≤ co33 := (Kd.V_reads' HO_1.out).2.1
                      have hC34 : Kd.F k72 _ _ (some ad263) x1_1.length x1_1 := (Kd.V_at (base := w.heap.size) HO_1.out).2.2
                      have hcut34 := cut_from (P := Try.prog) 69 72 .i64 Try.underlying69 hi034 2 hsz34 (some ad263) x1_1.length co33 1 (by omega) q34
                      have hr34 := Kd.F_cut (m := (1 : Int).toNat) (c := co33) hC34 (by omega) hroom34
                      obtain ⟨A34, hA34⟩ : ∃ A1, A1 = (if co33 = (1 : Int).toNat then (some ad263) else ((some ad263) : Option Addr).map (·.add ((1 : Int).toNat * 2))) := ⟨_, rfl⟩
                      obtain ⟨c34, hc34⟩ : ∃ c1, c1 = co33 - (1 : Int).toNat := ⟨_, rfl⟩
                      have hy34 : y288.length = x1_1.length - (1 : Int).toNat := (by rw [Ny288.out, List.length_drop] <;> omega)
                      rw [show (x1_1).drop (1 : Int).toNat = y288 from Ny288.out.symm] at hr34
                      replace hr34 : Kd.F k72 _ _ A34 y288.length y288 := (by rw [hA34]; exact hr34)
                      rw [← hy34, ← hA34, ← hc34] at hcut34
                      have HO292 := Aside0.mk (show Kd.V k72 72 _ w.heap.size _ (.slice A34 y288.length c34) y288 from Kd.V_mk (by rw [hy34, hc34]; exact Nat.sub_le_sub_right hroom34 _) hr34)
                      have HC292 := Aside0.mk (show y288.length ≤ c34 from by rw [hy34, hc34]; exact Nat.sub_le_sub_right hroom34 _)
                      clear hr34 hC34 hroom34 hi034 hsz34 hc34
                      have KY34 := Aside0.mk hy34
                      have KA34 := Aside0.mk hA34
                      clear hy34 hA34
                      replace q34 := eq_true q34
                      go_wp2
                      repeat (go_quiet (fail); try go_wp2)
                      go_roundg kj2
                      case measure => have := HK1.out; have := HJ2.out; omega
                      case rel => exact ⟨(x0_1), (y288), (x5_1), H', ⟨by have := HK1.out; have := HJ2.out; omega⟩, ⟨by (with_reducible repeat (first | apply Kd.V_alloc | apply Kd.V_drewN | apply Kd.V_drew)); exact HO_0.out⟩, ⟨by (with_reducible repeat (first | apply Kd.V_alloc | apply Kd.V_drewN | apply Kd.V_drew)); exact HO292.out⟩, ⟨by (with_reducible repeat (first | apply Kd.R_alloc | apply Kd.R_drewN | apply Kd.R_drew)); exact HO_5.out⟩, ⟨by repeat (first | (with_reducible first | exact HB.out | apply below_alloc | apply pw_below_drewN | apply below_drew1) | exact HB.out)⟩⟩
                    · rw [if_neg c31] at H
                      exact absurd H (by simp)
              · rw [if_neg c10] at H
                exact absurd H (by simp)
            · rw [if_neg c9] at H
              exact absurd H (by simp)
          · replace c8 := Bool.eq_false_iff.mpr c8
            subst c8
            have H1 : (some x5_1) = some r := by rw [if_neg (show ¬ (false = true) by decide)] at H; exact H
            clear H
            have H := H1
            clear H1
            obtain rfl := Option.some.inj H
            go_wp2
            repeat (go_quiet (fail); try go_wp2)
            go_ret
            exact ⟨_, by first | rfl | (simp [errW_none, errW_some] <;> rfl) | (simp [*, errW_none, errW_some] <;> rfl), by (with_reducible repeat (first | apply Kd.R_alloc | apply Kd.R_drewN | apply Kd.R_drew)); exact HO_5.out, by repeat (first | (with_reducible first | exact HB.out | apply below_alloc | apply pw_below_drewN | apply below_drew1) | exact HB.out)⟩
def spans_Meet.f (k : Nat) (l0 : List (S49)) (l1 : List (S49)) : Option ((List (S49))) := (spans_set.f k l0).bind fun t293 => ((spans_set.f k l1).bind fun t296 => ((sets_Meet.f k t293 t296).bind fun t299 => ((spans_back.f k t299).bind fun t302 => (some t302))))
set_option maxHeartbeats 8000000 in
set_option maxRecDepth 100000 in
theorem spans_Meet.calls (k : Nat) (A0 : Option Addr) (c0 : Nat) (l0 : List (S49)) (A1 : Option Addr) (c1 : Nat) (l1 : List (S49)) (r : List (S49)) (w : World) (hr0 : Kd.C k49 w A0 l0.length l0) (hc0 : l0.length ≤ c0) (hr1 : Kd.C k49 w A1 l1.length l1) (hc1 : l1.length ≤ c1) (h : spans_Meet.f k l0 l1 = some r) :
    Calls Try.prog 53 #[.slice A0 l0.length c0, .slice A1 l1.length c1] w fun e w' => ∃ v0_ : Value, e = .returned (v0_) ∧ Kd.R k49 49 w' w.heap.size (fun _ => True) v0_ r ∧ Below w.heap.size w w' := by
  have HR0 := Aside0.mk hr0
  have HC0 := Aside0.mk hc0
  clear hr0 hc0
  have HR1 := Aside0.mk hr1
  have HC1 := Aside0.mk hc1
  clear hr1 hc1
  have HB := Aside0.mk (Below.refl w.heap.size w)
  have H : ((spans_set.f k l0).bind fun t293 => ((spans_set.f k l1).bind fun t296 => ((sets_Meet.f k t293 t296).bind fun t299 => ((spans_back.f k t299).bind fun t302 => (some t302))))) = some r := h
  clear h
  replace H := Option.bind_eq_some_iff.mp H
  obtain ⟨t293, A30, H⟩ := H
  replace H : ((spans_set.f k l1).bind fun t296 => ((sets_Meet.f k t293 t296).bind fun t299 => ((spans_back.f k t299).bind fun t302 => (some t302)))) = some r := H
  have A3 := Aside0.mk A30
  clear A30
  replace H := Option.bind_eq_some_iff.mp H
  obtain ⟨t296, A40, H⟩ := H
  replace H : ((sets_Meet.f k t293 t296).bind fun t299 => ((spans_back.f k t299).bind fun t302 => (some t302))) = some r := H
  have A4 := Aside0.mk A40
  clear A40
  replace H := Option.bind_eq_some_iff.mp H
  obtain ⟨t299, A50, H⟩ := H
  replace H : ((spans_back.f k t299).bind fun t302 => (some t302)) = some r := H
  have A5 := Aside0.mk A50
  clear A50
  replace H := Option.bind_eq_some_iff.mp H
  obtain ⟨t302, A60, H⟩ := H
  replace H : (some t302) = some r := H
  have A6 := Aside0.mk A60
  clear A60
  obtain rfl := Option.some.inj H
  go_enter Try.func53, Try.ntmps53
  go_wp2_with (first | ((with_reducible refine gate_callee (f := 76) rfl ?_); refine goesL_ (some 6) rfl rfl Try.func76 (by kernel_rfl) rfl #[.slice A0 l0.length c0] rfl (by (try simp only [List.map_toArray, List.map_cons, List.map_nil]); first | done | rfl | (simp only [List.length_drop, List.length_take]; rfl)) ?_; (with_reducible refine (spans_set.calls k _ _ l0 t293 _ ?side1 ?side2 A3.out).mono ?_); (case side1 => repeat (first | exact HR0.out | (with_reducible refine Kd.C_alloc ?_ _) | (with_reducible refine Kd.C_drewN ?_ _) | (with_reducible refine Kd.C_drew ?_))); (case side2 => exact HC0.out); rintro e w7 ⟨v294, rfl, ho0, hb⟩; refine ⟨_, rfl, ?_⟩; have n0_ := Aside0.mk (Kd.R_lower ho0 (below_size (by repeat (first | (with_reducible first | exact HB.out | apply below_alloc | apply pw_below_drewN | apply below_drew1) | exact HB.out)))); have n1_ := Aside0.mk (below_step (by repeat (first | (with_reducible first | exact HB.out | apply below_alloc | apply pw_below_drewN | apply below_drew1) | exact HB.out)) hb); clear HB; have HO295 := n0_; have HB := n1_; clear n0_ n1_; (try clear hb); (try clear hb2); (try clear hk); (try clear hi); (try clear ho0)) | ((with_reducible refine gate_callee (f := 76) rfl ?_); refine goesL_ (some 8) rfl rfl Try.func76 (by kernel_rfl) rfl #[.slice A1 l1.length c1] rfl (by (try simp only [List.map_toArray, List.map_cons, List.map_nil]); first | done | rfl | (simp only [List.length_drop, List.length_take]; rfl)) ?_; (with_reducible refine (spans_set.calls k _ _ l1 t296 _ ?side1 ?side2 A4.out).mono ?_); (case side1 => repeat (first | exact (Kd.C_below HR1.out HB.out) | (with_reducible refine Kd.C_alloc ?_ _) | (with_reducible refine Kd.C_drewN ?_ _) | (with_reducible refine Kd.C_drew ?_))); (case side2 => exact HC1.out); rintro e w8 ⟨v297, rfl, ho0, hb⟩; refine ⟨_, rfl, ?_⟩; have n0_ := Aside0.mk (Kd.R_elder' (by (with_reducible repeat (first | apply Kd.R_alloc | apply Kd.R_drewN | apply Kd.R_drew)); exact HO295.out) (Kd.R_base ho0) hb); have n1_ := Aside0.mk (Kd.R_lower (Kd.R_new' ho0 (Kd.R_lt (by (with_reducible repeat (first | apply Kd.R_alloc | apply Kd.R_drewN | apply Kd.R_drew)); exact HO295.out))) (below_size (by repeat (first | (with_reducible first | exact HB.out | apply below_alloc | apply pw_below_drewN | apply below_drew1) | exact HB.out)))); have n2_ := Aside0.mk (below_step (by repeat (first | (with_reducible first | exact HB.out | apply below_alloc | apply pw_below_drewN | apply below_drew1) | exact HB.out)) hb); clear HO295; clear HB; have HO295 := n0_; have HO298 := n1_; have HB := n2_; clear n0_ n1_ n2_; (try clear hb); (try clear hb2); (try clear hk); (try clear hi); (try clear ho0); obtain ⟨Ao9, co9, eo9⟩ := Kd.R_slice HO295.out; subst eo9; obtain ⟨Ao10, co10, eo10⟩ := Kd.R_slice HO298.out; subst eo10) | ((with_reducible refine gate_callee (f := 84) rfl ?_); refine goesL_ (some 9) rfl rfl Try.func84 (by kernel_rfl) rfl #[.slice Ao9 t293.length co9, .slice Ao10 t296.length co10] rfl (by (try simp only [List.map_toArray, List.map_cons, List.map_nil]); first | done | rfl | (simp only [List.length_drop, List.length_take]; rfl)) ?_; (with_reducible refine (sets_Meet.calls k (fun k_ => some k_ = (.slice Ao9 t293.length co9 : Value).ownBlock) _ _ t293 (fun k_ => some k_ = (.slice Ao10 t296.length co10 : Value).ownBlock) _ _ t296 t299 _ ?side1 ?side2 A5.out).mono ?_); (case side1 => exact Kd.R_V (Kd.R_tight rfl (HO295.out))); (case side2 => exact Kd.R_V (Kd.R_tight rfl (HO298.out))); rintro e w11 ⟨v300, rfl, ho0, hb⟩; refine ⟨_, rfl, ?_⟩; have n0_ := Aside0.mk (Kd.R_elder' (by (with_reducible repeat (first | apply Kd.R_alloc | apply Kd.R_drewN | apply Kd.R_drew)); exact HO295.out) (Kd.R_base ho0) hb); have n1_ := Aside0.mk (Kd.R_elder' (by (with_reducible repeat (first | apply Kd.R_alloc | apply Kd.R_drewN | apply Kd.R_drew)); exact HO298.out) (Kd.R_base ho0) hb); have n2_ := Aside0.mk (Kd.R_lower (Kd.R_new' (Kd.R_new' (Kd.R_mono (ok' := fun k_ => True) ho0 (fun _ hk_ => trivial)) (Kd.R_lt (by (with_reducible repeat (first | apply Kd.R_alloc | apply Kd.R_drewN | apply Kd.R_drew)); exact HO295.out))) (Kd.R_lt (by (with_reducible repeat (first | apply Kd.R_alloc | apply Kd.R_drewN | apply Kd.R_drew)); exact HO298.out))) (below_size (by repeat (first | (with_reducible first | exact HB.out | apply below_alloc | apply pw_below_drewN | apply below_drew1) | exact HB.out)))); have n3_ := Aside0.mk (below_step (by repeat (first | (with_reducible first | exact HB.out | apply below_alloc | apply pw_below_drewN | apply below_drew1) | exact HB.out)) hb); clear HO295; clear HO298; clear HB; have HO295 := n0_; have HO298 := n1_; have HO301 := n2_; have HB := n3_; clear n0_ n1_ n2_ n3_; (try clear hb); (try clear hb2); (try clear hk); (try clear hi); (try clear ho0); obtain ⟨Ao12, co12, eo12⟩ := Kd.R_slice HO301.out; subst eo12) | ((with_reducible refine gate_callee (f := 67) rfl ?_); refine goesL_ (some 10) rfl rfl Try.func67 (by kernel_rfl) rfl #[.slice Ao12 t299.length co12] rfl (by (try simp only [List.map_toArray, List.map_cons, List.map_nil]); first | done | rfl | (simp only [List.length_drop, List.length_take]; rfl)) ?_; (with_reducible refine (spans_back.calls k _ _ t299 t302 _ ?side1 ?side2 A6.out).mono ?_); (case side1 => repeat (first | exact (Kd.R_reads' HO301.out).2.2 | (with_reducible refine Kd.C_alloc ?_ _) | (with_reducible refine Kd.C_drewN ?_ _) | (with_reducible refine Kd.C_drew ?_))); (case side2 => exact (Kd.R_reads' HO301.out).2.1); rintro e w13 ⟨v303, rfl, ho0, hb⟩; refine ⟨_, rfl, ?_⟩; have n0_ := Aside0.mk (Kd.R_below (by (with_reducible repeat (first | apply Kd.R_alloc | apply Kd.R_drewN | apply Kd.R_drew)); exact HO295.out) hb); have n1_ := Aside0.mk (Kd.R_below (by (with_reducible repeat (first | apply Kd.R_alloc | apply Kd.R_drewN | apply Kd.R_drew)); exact HO298.out) hb); have n2_ := Aside0.mk (Kd.R_below (by (with_reducible repeat (first | apply Kd.R_alloc | apply Kd.R_drewN | apply Kd.R_drew)); exact HO301.out) hb); have n3_ := Aside0.mk (Kd.R_lower ho0 (below_size (by repeat (first | (with_reducible first | exact HB.out | apply below_alloc | apply pw_below_drewN | apply below_drew1) | exact HB.out)))); have n4_ := Aside0.mk (below_step (by repeat (first | (with_reducible first | exact HB.out | apply below_alloc | apply pw_below_drewN | apply below_drew1) | exact HB.out)) hb); clear HO295; clear HO298; clear HO301; clear HB; have HO295 := n0_; have HO298 := n1_; have HO301 := n2_; have HO304 := n3_; have HB := n4_; clear n0_ n1_ n2_ n3_ n4_; (try clear hb); (try clear hb2); (try clear hk); (try clear hi); (try clear ho0)))
  go_ret
  exact ⟨_, by first | rfl | (simp [errW_none, errW_some] <;> rfl) | (simp [*, errW_none, errW_some] <;> rfl), by (with_reducible repeat (first | apply Kd.R_alloc | apply Kd.R_drewN | apply Kd.R_drew)); exact HO304.out, by repeat (first | (with_reducible first | exact HB.out | apply below_alloc | apply pw_below_drewN | apply below_drew1) | exact HB.out)⟩
def sets_Not.l0 : Nat → Int → List (S72) → Int → List (S72) → Int → Int → Option ((List (S72)))
  | 0, _, _, _, _, _, _ => none
  | k + 1, x1, x5, x6, x9, x10, x11 => if x11 < x10 then (if 0 ≤ x11 then (if x11 < (x9.length : Int) then (if ((rd_T72 x9 x11).f0) > x6 then (if x5.length < 8796093022208 then (sets_Not.l0 k x1 (x5 ++ [(⟨x6, wrap64 (((rd_T72 x9 x11).f0) - 1)⟩ : S72)]) (wrap64 (((rd_T72 x9 x11).f1) + 1)) x9 x10 (wrap64 (x11 + 1))) else (none)) else (sets_Not.l0 k x1 x5 (wrap64 (((rd_T72 x9 x11).f1) + 1)) x9 x10 (wrap64 (x11 + 1)))) else (none)) else (none)) else (if x6 ≤ x1 then (if x5.length < 8796093022208 then (some (x5 ++ [(⟨x6, x1⟩ : S72)])) else (none)) else (some x5))
def sets_Not.f (k : Nat) (l0 : List (S72)) (a1 : Int) : Option ((List (S72))) := sets_Not.l0 k a1 ([] : List (S72)) 0 l0 (l0.length : Int) 0
set_option maxHeartbeats 8000000 in
set_option maxRecDepth 100000 in
theorem sets_Not.calls (k : Nat) (A0 : Option Addr) (c0 : Nat) (l0 : List (S72)) (a1 : Int) (r : List (S72)) (w : World) (hr0 : Kd.C k72 w A0 l0.length l0) (hc0 : l0.length ≤ c0) (h : sets_Not.f k l0 a1 = some r) :
    Calls Try.prog 85 #[.slice A0 l0.length c0, .int .i64 a1] w fun e w' => ∃ v0_ : Value, e = .returned (v0_) ∧ Kd.R k72 72 w' w.heap.size (fun _ => True) v0_ r ∧ Below w.heap.size w w' := by
  have hu72 := Try.underlying72
  have HR0 := Aside0.mk hr0
  have HC0 := Aside0.mk hc0
  clear hr0 hc0
  have HB := Aside0.mk (Below.refl w.heap.size w)
  have H : (sets_Not.l0 k a1 ([] : List (S72)) 0 l0 (l0.length : Int) 0) = some r := h
  clear h
  have H' := Aside0.mk H
  clear H
  go_enter Try.func85, Try.ntmps85
  go_wp2
  go_loopg [5, 6, 11] k (fun kq v5 v6 v11 w' => ∃ (x5_1 : List (S72)) (x6_1 : Int) (x11_1 : Int), v6 = .int .i64 x6_1 ∧ v11 = .int .i64 x11_1 ∧ Aside0 (sets_Not.l0 kq a1 x5_1 x6_1 l0 (l0.length : Int) x11_1 = some r) ∧ Aside0 (kq ≤ k) ∧ Aside0 (Kd.R k72 72 w' w.heap.size (fun _ => True) v5 x5_1) ∧ Aside0 (Below w.heap.size w w'))
  case atStart => exact ⟨(([] : List (S72))), (0), (0), (by first | rfl | (simp; done) | (simp [*]; done)), (by first | rfl | (simp; done) | (simp [*]; done)), H', ⟨Nat.le_refl _⟩, ⟨by first | exact Kd.R_nil _ _ _ _ _ | exact Kd.N_nil _ _ _ _ _ | exact Kd.V_nil _ _ _ _ _ | exact Kd.Q_nil _ _ _ _ _ | exact Kd.S_nil _ _ _ _ _⟩, ⟨by repeat (first | (with_reducible first | exact HB.out | apply below_alloc | apply pw_below_drewN | apply below_drew1) | exact HB.out)⟩⟩
  case round =>
    clear H'
    try clear p2
    obtain ⟨x5_1, x6_1, x11_1, rfl, rfl, HA, HK1, HO_5, HB⟩ := hrel
    cases gk with
    | zero => exact absurd HA.out (by simp [sets_Not.l0])
    | succ k1 =>
      have H := HA.out
      clear HA
      simp only [sets_Not.l0] at H
      by_cases c3 : x11_1 < (l0.length : Int)
      · rw [if_pos c3] at H
        have c3b0 : decide (x11_1 < (l0.length : Int)) = true := decide_eq_true c3
        clear c3
        by_cases c4 : 0 ≤ x11_1
        · rw [if_pos c4] at H
          have c4b0 : decide (0 ≤ x11_1) = true := decide_eq_true c4
          clear c4
          by_cases c5 : x11_1 < (l0.length : Int)
          · rw [if_pos c5] at H
            have c5b0 : decide (x11_1 < (l0.length : Int)) = true := decide_eq_true c5
            clear c5
            by_cases c6 : ((rd_T72 l0 x11_1).f0) > x6_1
            · rw [if_pos c6] at H
              have c6b0 : decide (x6_1 < ((rd_T72 l0 x11_1).f0)) = true := decide_eq_true c6
              clear c6
              by_cases c7 : x5_1.length < 8796093022208
              · rw [if_pos c7] at H
                have LMc7 := Aside0.mk c7
                clear c7
                obtain ⟨y307, hy307⟩ : ∃ y_ : List (S72), y_ = (x5_1 ++ [(⟨x6_1, wrap64 (((rd_T72 l0 x11_1).f0) - 1)⟩ : S72)]) := ⟨_, rfl⟩
                replace H : (sets_Not.l0 k1 a1 y307 (wrap64 (((rd_T72 l0 x11_1).f1) + 1)) l0 (l0.length : Int) (wrap64 (x11_1 + 1))) = some r := by first | (rw [hy307]; with_reducible exact H) | (have H2_ := (Option.bind_some _ _).symm.trans H; rw [hy307]; with_reducible exact H2_) | (have H2_ := (Option.bind_some _ _).symm.trans H; with_reducible exact H2_) | with_reducible exact H | (rw [hy307]; exact H) | exact H
                have Ny307 := Aside0.mk hy307
                clear hy307
                have H' := Aside0.mk H
                clear H
                have p305 : 0 ≤ (x11_1 : Int) := of_decide_eq_true (by first | (with_reducible assumption) | assumption)
                have q305 : x11_1 < (l0.length : Int) := of_decide_eq_true (by first | (with_reducible assumption) | assumption)
                obtain ⟨ad305, e305, hx305_0, hx305_1⟩ := at_T72 HR0.out x11_1 p305 q305
                cases e305
                replace hx305_0 := (HB.out.cell (World.block_lt_of_cell? w _ hx305_0)).trans hx305_0
                replace hx305_1 := (HB.out.cell (World.block_lt_of_cell? w _ hx305_1)).trans hx305_1
                replace p305 := eq_true p305
                replace q305 := eq_true q305
                go_wp2_with (first | ((with_reducible refine gate_dst (N := 8) rfl ?_); refine box_event ?hg (N := 8) ?hd (cs := #[.int .i64 0, .int .i64 0]) (t := 72) ?hr ?_; (case hd => rfl); (case hg => rfl); (case hr => first | (go_simp; done) | (go_simp; rfl)); intro gb306 hg w8 hbox hb; have n0_ := Aside0.mk (Kd.R_below (Kd.R_elderB (by (with_reducible repeat (first | apply Kd.R_alloc | apply Kd.R_drewN | apply Kd.R_drew)); exact HO_5.out) gb306 (Nat.le_of_eq hg.symm)) hb); have n1_ := Aside0.mk (below_step (by repeat (first | (with_reducible first | exact HB.out | apply below_alloc | apply pw_below_drewN | apply below_drew1) | exact HB.out)) hb); have n2_ := Aside0.mk (hbox); have n3_ := Aside0.mk ((by rw [hg]; exact (below_size (by repeat (first | (with_reducible first | exact HB.out | apply below_alloc | apply pw_below_drewN | apply below_drew1) | exact HB.out))) : w.heap.size ≤ gb306)); have n4_ := Aside0.mk ((by rw [hg]; exact (below_size (by repeat (first | (with_reducible first | exact HB.out | apply below_alloc | apply pw_below_drewN | apply below_drew1) | exact HB.out))) : w.heap.size ≤ gb306)); clear HO_5; clear HB; have HO_5 := n0_; have HB := n1_; have BK306 := n2_; have GW306 := n3_; have GE306 := n4_; clear n0_ n1_ n2_ n3_ n4_; clear hb hbox hg; have hcz9_0 : w8.cell? ⟨gb306, 0, none⟩ = some (.int .i64 0) := (blk_cell BK306.out 0).trans rfl; have hcz9_1 : w8.cell? ⟨gb306, 1, none⟩ = some (.int .i64 0) := (blk_cell BK306.out 1).trans rfl; have hfz9_0 := blk_frozen BK306.out 0; have hfz9_1 := blk_frozen BK306.out 1) | ((with_reducible refine gate_builtin (b := .append) (xs := #[.tmp 19, .tmp 25]) rfl ?_); at_builtin; refine Kd.R_append k72 (w0 := w) w.heap.size rfl (.tmp 19) (.tmp 25) 69 72 (.agg #[(.int .i64 0), (.int .i64 0)]) 16 rfl Try.underlying69 info72 rfl (by decide) (by omega) u5 x5_1 (⟨x6_1, wrap64 (((rd_T72 l0 x11_1).f0) - 1)⟩ : S72) [.int .i64 x6_1, .int .i64 (wrap64 (((rd_T72 l0 x11_1).f0) - 1))] (fun k_ => k_ ≠ gb306) (fun _ => False) rfl (by first | (go_simp; done) | (go_simp; rfl)) ?aP (fun _ hk => hk.elim) ?aF ?aO ?aB ?aS ?aL ?_; (case aP => exact k72_mkM _ _ _ (⟨x6_1, wrap64 (((rd_T72 l0 x11_1).f0) - 1)⟩ : S72)); (case aB => exact (by repeat (first | (with_reducible first | exact HB.out | apply below_alloc | apply pw_below_drewN | apply below_drew1 | refine below_set ?_ GE306.out) | exact HB.out))); (case aF => exact (fun k_ hk => Kd.freshB (g := gb306) (o := .cells #[.int .i64 ((rd_T72 l0 x11_1).f0), .int .i64 ((rd_T72 l0 x11_1).f1)] 72 (0, 0)) (by (with_reducible repeat (first | refine blk_drewN ?_ _ | refine blk_drew ?_ | refine blk_alloc ?_ _)); refine blk_put (cs := #[.int .i64 ((rd_T72 l0 x11_1).f0), .int .i64 0]) ?_ 1 _ rfl; (with_reducible repeat (first | refine blk_drewN ?_ _ | refine blk_drew ?_ | refine blk_alloc ?_ _)); refine blk_put (cs := #[.int .i64 0, .int .i64 0]) ?_ 0 _ rfl; (with_reducible repeat (first | refine blk_drewN ?_ _ | refine blk_drew ?_ | refine blk_alloc ?_ _)); exact BK306.out) k_ hk)); (case aO => exact (by (with_reducible repeat (first | apply Kd.R_alloc | apply Kd.R_drewN | apply Kd.R_drew)); exact Kd.R_mono (Kd.R_far (p := ⟨gb306, 1, none⟩) (Kd.R_far (p := ⟨gb306, 0, none⟩) (Kd.R_mono HO_5.out (fun k_ hk => (⟨hk, hk.2⟩ : _ ∧ k_ ≠ gb306))) (fun _ hk => hk.2) (.int .i64 ((rd_T72 l0 x11_1).f0))) (fun _ hk => hk.2) (.int .i64 ((rd_T72 l0 x11_1).f1))) (fun _ hk => hk.1.2))); (case aS => exact (below_size (by repeat (first | (with_reducible first | exact HB.out | apply below_alloc | apply pw_below_drewN | apply below_drew1 | refine below_set ?_ GE306.out) | exact HB.out)))); (case aL => have := LMc7.out; omega); intro v308 w10 ho hb hg hat; rw [← Ny307.out] at ho; have n0_ := Aside0.mk (blk_grown (g := gb306) (o := .cells #[.int .i64 ((rd_T72 l0 x11_1).f0), .int .i64 ((rd_T72 l0 x11_1).f1)] 72 (0, 0)) (by (with_reducible repeat (first | refine blk_drewN ?_ _ | refine blk_drew ?_ | refine blk_alloc ?_ _)); refine blk_put (cs := #[.int .i64 ((rd_T72 l0 x11_1).f0), .int .i64 0]) ?_ 1 _ rfl; (with_reducible repeat (first | refine blk_drewN ?_ _ | refine blk_drew ?_ | refine blk_alloc ?_ _)); refine blk_put (cs := #[.int .i64 0, .int .i64 0]) ?_ 0 _ rfl; (with_reducible repeat (first | refine blk_drewN ?_ _ | refine blk_drew ?_ | refine blk_alloc ?_ _)); exact BK306.out) hg (Kd.R_away HO_5.out (fun _ hk => hk.2))); have n1_ := Aside0.mk (hb); have n2_ := Aside0.mk (ho); clear BK306; clear HB; clear HO_5; have BK306 := n0_; have HB := n1_; have HO309 := n2_; clear n0_ n1_ n2_; clear ho hb hg hat; have hcz11_0 : w10.cell? ⟨gb306, 0, none⟩ = some (.int .i64 ((rd_T72 l0 x11_1).f0)) := (blk_cell BK306.out 0).trans rfl; have hcz11_1 : w10.cell? ⟨gb306, 1, none⟩ = some (.int .i64 ((rd_T72 l0 x11_1).f1)) := (blk_cell BK306.out 1).trans rfl; have hfz11_0 := blk_frozen BK306.out 0; have hfz11_1 := blk_frozen BK306.out 1))
                go_roundg k1
                case measure => have := HK1.out; omega
                case rel => exact ⟨(y307), (wrap64 (((rd_T72 l0 x11_1).f1) + 1)), (wrap64 (x11_1 + 1)), (by first | rfl | (simp; done) | (simp [*]; done)), (by first | rfl | (simp; done) | (simp [*]; done)), H', ⟨by have := HK1.out; omega⟩, ⟨by (with_reducible repeat (first | apply Kd.R_alloc | apply Kd.R_drewN | apply Kd.R_drew)); exact Kd.R_mono HO309.out (fun _ hk => trivial)⟩, ⟨by repeat (first | (with_reducible first | exact HB.out | apply below_alloc | apply pw_below_drewN | apply below_drew1 | refine below_set ?_ GE306.out) | exact HB.out)⟩⟩
              · rw [if_neg c7] at H
                exact absurd H (by simp)
            · rw [if_neg c6] at H
              have c6b0 : decide (x6_1 < ((rd_T72 l0 x11_1).f0)) = false := decide_eq_false c6
              clear c6
              have H' := Aside0.mk H
              clear H
              have p305 : 0 ≤ (x11_1 : Int) := of_decide_eq_true (by first | (with_reducible assumption) | assumption)
              have q305 : x11_1 < (l0.length : Int) := of_decide_eq_true (by first | (with_reducible assumption) | assumption)
              obtain ⟨ad305, e305, hx305_0, hx305_1⟩ := at_T72 HR0.out x11_1 p305 q305
              cases e305
              replace hx305_0 := (HB.out.cell (World.block_lt_of_cell? w _ hx305_0)).trans hx305_0
              replace hx305_1 := (HB.out.cell (World.block_lt_of_cell? w _ hx305_1)).trans hx305_1
              replace p305 := eq_true p305
              replace q305 := eq_true q305
              go_wp2_with (first | ((with_reducible refine gate_dst (N := 8) rfl ?_); refine box_event ?hg (N := 8) ?hd (cs := #[.int .i64 0, .int .i64 0]) (t := 72) ?hr ?_; (case hd => rfl); (case hg => rfl); (case hr => first | (go_simp; done) | (go_simp; rfl)); intro gb306 hg w12 hbox hb; have n0_ := Aside0.mk (Kd.R_below (Kd.R_elderB (by (with_reducible repeat (first | apply Kd.R_alloc | apply Kd.R_drewN | apply Kd.R_drew)); exact HO_5.out) gb306 (Nat.le_of_eq hg.symm)) hb); have n1_ := Aside0.mk (below_step (by repeat (first | (with_reducible first | exact HB.out | apply below_alloc | apply pw_below_drewN | apply below_drew1) | exact HB.out)) hb); have n2_ := Aside0.mk (hbox); have n3_ := Aside0.mk ((by rw [hg]; exact (below_size (by repeat (first | (with_reducible first | exact HB.out | apply below_alloc | apply pw_below_drewN | apply below_drew1) | exact HB.out))) : w.heap.size ≤ gb306)); have n4_ := Aside0.mk ((by rw [hg]; exact (below_size (by repeat (first | (with_reducible first | exact HB.out | apply below_alloc | apply pw_below_drewN | apply below_drew1) | exact HB.out))) : w.heap.size ≤ gb306)); clear HO_5; clear HB; have HO_5 := n0_; have HB := n1_; have BK306 := n2_; have GW306 := n3_; have GE306 := n4_; clear n0_ n1_ n2_ n3_ n4_; clear hb hbox hg; have hcz13_0 : w12.cell? ⟨gb306, 0, none⟩ = some (.int .i64 0) := (blk_cell BK306.out 0).trans rfl; have hcz13_1 : w12.cell? ⟨gb306, 1, none⟩ = some (.int .i64 0) := (blk_cell BK306.out 1).trans rfl; have hfz13_0 := blk_frozen BK306.out 0; have hfz13_1 := blk_frozen BK306.out 1))
              go_roundg k1
              case measure => have := HK1.out; omega
              case rel => exact ⟨(x5_1), (wrap64 (((rd_T72 l0 x11_1).f1) + 1)), (wrap64 (x11_1 + 1)), (by first | rfl | (simp; done) | (simp [*]; done)), (by first | rfl | (simp; done) | (simp [*]; done)), H', ⟨by have := HK1.out; omega⟩, ⟨by (with_reducible repeat (first | apply Kd.R_alloc | apply Kd.R_drewN | apply Kd.R_drew)); exact Kd.R_mono (Kd.R_far (p := ⟨gb306, 1, none⟩) (Kd.R_far (p := ⟨gb306, 0, none⟩) (Kd.R_mono HO_5.out (fun k_ hk => (⟨hk, hk.2⟩ : _ ∧ k_ ≠ gb306))) (fun _ hk => hk.2) (.int .i64 ((rd_T72 l0 x11_1).f0))) (fun _ hk => hk.2) (.int .i64 ((rd_T72 l0 x11_1).f1))) (fun _ hk => trivial)⟩, ⟨by repeat (first | (with_reducible first | exact HB.out | apply below_alloc | apply pw_below_drewN | apply below_drew1 | refine below_set ?_ GE306.out) | exact HB.out)⟩⟩
          · rw [if_neg c5] at H
            exact absurd H (by simp)
        · rw [if_neg c4] at H
          exact absurd H (by simp)
      · rw [if_neg c3] at H
        have c3b0 : decide (x11_1 < (l0.length : Int)) = false := decide_eq_false c3
        clear c3
        by_cases c14 : x6_1 ≤ a1
        · rw [if_pos c14] at H
          have c14b0 : decide (x6_1 ≤ a1) = true := decide_eq_true c14
          clear c14
          by_cases c15 : x5_1.length < 8796093022208
          · rw [if_pos c15] at H
            have LMc15 := Aside0.mk c15
            clear c15
            obtain ⟨y310, hy310⟩ : ∃ y_ : List (S72), y_ = (x5_1 ++ [(⟨x6_1, a1⟩ : S72)]) := ⟨_, rfl⟩
            replace H : (some y310) = some r := by first | (rw [hy310]; with_reducible exact H) | (have H2_ := (Option.bind_some _ _).symm.trans H; rw [hy310]; with_reducible exact H2_) | (have H2_ := (Option.bind_some _ _).symm.trans H; with_reducible exact H2_) | with_reducible exact H | (rw [hy310]; exact H) | exact H
            have Ny310 := Aside0.mk hy310
            clear hy310
            obtain rfl := Option.some.inj H
            go_wp2_with (first | ((with_reducible refine gate_builtin (b := .append) (xs := #[.tmp 34, .tmp 38]) rfl ?_); at_builtin; refine Kd.R_append k72 (w0 := w) w.heap.size rfl (.tmp 34) (.tmp 38) 69 72 (.agg #[(.int .i64 0), (.int .i64 0)]) 16 rfl Try.underlying69 info72 rfl (by decide) (by omega) u5 x5_1 (⟨x6_1, a1⟩ : S72) [.int .i64 x6_1, .int .i64 a1] (fun _ => True) (fun _ => False) rfl rfl ?aP (fun _ hk => hk.elim) ?aF ?aO ?aB ?aS ?aL ?_; (case aP => exact k72_mkM _ _ _ (⟨x6_1, a1⟩ : S72)); (case aB => exact (by repeat (first | (with_reducible first | exact HB.out | apply below_alloc | apply pw_below_drewN | apply below_drew1) | exact HB.out))); (case aF => exact (fun _ _ => trivial)); (case aO => exact (by (with_reducible repeat (first | apply Kd.R_alloc | apply Kd.R_drewN | apply Kd.R_drew)); exact HO_5.out)); (case aS => exact (below_size (by repeat (first | (with_reducible first | exact HB.out | apply below_alloc | apply pw_below_drewN | apply below_drew1) | exact HB.out)))); (case aL => have := LMc15.out; omega); intro v311 w16 ho hb hg hat; rw [← Ny310.out] at ho; have n0_ := Aside0.mk (hb); have n1_ := Aside0.mk (ho); clear HB; clear HO_5; have HB := n0_; have HO312 := n1_; clear n0_ n1_; clear ho hb hg hat))
            go_ret
            exact ⟨_, by first | rfl | (simp [errW_none, errW_some] <;> rfl) | (simp [*, errW_none, errW_some] <;> rfl), by (with_reducible repeat (first | apply Kd.R_alloc | apply Kd.R_drewN | apply Kd.R_drew)); exact HO312.out, by repeat (first | (with_reducible first | exact HB.out | apply below_alloc | apply pw_below_drewN | apply below_drew1) | exact HB.out)⟩
          · rw [if_neg c15] at H
            exact absurd H (by simp)
        · rw [if_neg c14] at H
          have c14b0 : decide (x6_1 ≤ a1) = false := decide_eq_false c14
          clear c14
          obtain rfl := Option.some.inj H
          go_wp2
          go_ret
          exact ⟨_, by first | rfl | (simp [errW_none, errW_some] <;> rfl) | (simp [*, errW_none, errW_some] <;> rfl), by (with_reducible repeat (first | apply Kd.R_alloc | apply Kd.R_drewN | apply Kd.R_drew)); exact HO_5.out, by repeat (first | (with_reducible first | exact HB.out | apply below_alloc | apply pw_below_drewN | apply below_drew1) | exact HB.out)⟩
def spans_Minus.f (k : Nat) (l0 : List (S49)) (l1 : List (S49)) : Option ((List (S49))) := (spans_set.f k l0).bind fun t313 => ((spans_set.f k l1).bind fun t316 => ((sets_Not.f k t316 255).bind fun t319 => ((sets_Meet.f k t313 t319).bind fun t322 => ((spans_back.f k t322).bind fun t325 => (some t325)))))
set_option maxHeartbeats 8000000 in
set_option maxRecDepth 100000 in
theorem spans_Minus.calls (k : Nat) (A0 : Option Addr) (c0 : Nat) (l0 : List (S49)) (A1 : Option Addr) (c1 : Nat) (l1 : List (S49)) (r : List (S49)) (w : World) (hr0 : Kd.C k49 w A0 l0.length l0) (hc0 : l0.length ≤ c0) (hr1 : Kd.C k49 w A1 l1.length l1) (hc1 : l1.length ≤ c1) (h : spans_Minus.f k l0 l1 = some r) :
    Calls Try.prog 54 #[.slice A0 l0.length c0, .slice A1 l1.length c1] w fun e w' => ∃ v0_ : Value, e = .returned (v0_) ∧ Kd.R k49 49 w' w.heap.size (fun _ => True) v0_ r ∧ Below w.heap.size w w' := by
  have HR0 := Aside0.mk hr0
  have HC0 := Aside0.mk hc0
  clear hr0 hc0
  have HR1 := Aside0.mk hr1
  have HC1 := Aside0.mk hc1
  clear hr1 hc1
  have HB := Aside0.mk (Below.refl w.heap.size w)
  have H : ((spans_set.f k l0).bind fun t313 => ((spans_set.f k l1).bind fun t316 => ((sets_Not.f k t316 255).bind fun t319 => ((sets_Meet.f k t313 t319).bind fun t322 => ((spans_back.f k t322).bind fun t325 => (some t325)))))) = some r := h
  clear h
  replace H := Option.bind_eq_some_iff.mp H
  obtain ⟨t313, A30, H⟩ := H
  replace H : ((spans_set.f k l1).bind fun t316 => ((sets_Not.f k t316 255).bind fun t319 => ((sets_Meet.f k t313 t319).bind fun t322 => ((spans_back.f k t322).bind fun t325 => (some t325))))) = some r := H
  have A3 := Aside0.mk A30
  clear A30
  replace H := Option.bind_eq_some_iff.mp H
  obtain ⟨t316, A40, H⟩ := H
  replace H : ((sets_Not.f k t316 255).bind fun t319 => ((sets_Meet.f k t313 t319).bind fun t322 => ((spans_back.f k t322).bind fun t325 => (some t325)))) = some r := H
  have A4 := Aside0.mk A40
  clear A40
  replace H := Option.bind_eq_some_iff.mp H
  obtain ⟨t319, A50, H⟩ := H
  replace H : ((sets_Meet.f k t313 t319).bind fun t322 => ((spans_back.f k t322).bind fun t325 => (some t325))) = some r := H
  have A5 := Aside0.mk A50
  clear A50
  replace H := Option.bind_eq_some_iff.mp H
  obtain ⟨t322, A60, H⟩ := H
  replace H : ((spans_back.f k t322).bind fun t325 => (some t325)) = some r := H
  have A6 := Aside0.mk A60
  clear A60
  replace H := Option.bind_eq_some_iff.mp H
  obtain ⟨t325, A70, H⟩ := H
  replace H : (some t325) = some r := H
  have A7 := Aside0.mk A70
  clear A70
  obtain rfl := Option.some.inj H
  go_enter Try.func54, Try.ntmps54
  go_wp2_with (first | ((with_reducible refine gate_callee (f := 76) rfl ?_); refine goesL_ (some 6) rfl rfl Try.func76 (by kernel_rfl) rfl #[.slice A0 l0.length c0] rfl (by (try simp only [List.map_toArray, List.map_cons, List.map_nil]); first | done | rfl | (simp only [List.length_drop, List.length_take]; rfl)) ?_; (with_reducible refine (spans_set.calls k _ _ l0 t313 _ ?side1 ?side2 A3.out).mono ?_); (case side1 => repeat (first | exact HR0.out | (with_reducible refine Kd.C_alloc ?_ _) | (with_reducible refine Kd.C_drewN ?_ _) | (with_reducible refine Kd.C_drew ?_))); (case side2 => exact HC0.out); rintro e w8 ⟨v314, rfl, ho0, hb⟩; refine ⟨_, rfl, ?_⟩; have n0_ := Aside0.mk (Kd.R_lower ho0 (below_size (by repeat (first | (with_reducible first | exact HB.out | apply below_alloc | apply pw_below_drewN | apply below_drew1) | exact HB.out)))); have n1_ := Aside0.mk (below_step (by repeat (first | (with_reducible first | exact HB.out | apply below_alloc | apply pw_below_drewN | apply below_drew1) | exact HB.out)) hb); clear HB; have HO315 := n0_; have HB := n1_; clear n0_ n1_; (try clear hb); (try clear hb2); (try clear hk); (try clear hi); (try clear ho0)) | ((with_reducible refine gate_callee (f := 76) rfl ?_); refine goesL_ (some 8) rfl rfl Try.func76 (by kernel_rfl) rfl #[.slice A1 l1.length c1] rfl (by (try simp only [List.map_toArray, List.map_cons, List.map_nil]); first | done | rfl | (simp only [List.length_drop, List.length_take]; rfl)) ?_; (with_reducible refine (spans_set.calls k _ _ l1 t316 _ ?side1 ?side2 A4.out).mono ?_); (case side1 => repeat (first | exact (Kd.C_below HR1.out HB.out) | (with_reducible refine Kd.C_alloc ?_ _) | (with_reducible refine Kd.C_drewN ?_ _) | (with_reducible refine Kd.C_drew ?_))); (case side2 => exact HC1.out); rintro e w9 ⟨v317, rfl, ho0, hb⟩; refine ⟨_, rfl, ?_⟩; have n0_ := Aside0.mk (Kd.R_elder' (by (with_reducible repeat (first | apply Kd.R_alloc | apply Kd.R_drewN | apply Kd.R_drew)); exact HO315.out) (Kd.R_base ho0) hb); have n1_ := Aside0.mk (Kd.R_lower (Kd.R_new' ho0 (Kd.R_lt (by (with_reducible repeat (first | apply Kd.R_alloc | apply Kd.R_drewN | apply Kd.R_drew)); exact HO315.out))) (below_size (by repeat (first | (with_reducible first | exact HB.out | apply below_alloc | apply pw_below_drewN | apply below_drew1) | exact HB.out)))); have n2_ := Aside0.mk (below_step (by repeat (first | (with_reducible first | exact HB.out | apply below_alloc | apply pw_below_drewN | apply below_drew1) | exact HB.out)) hb); clear HO315; clear HB; have HO315 := n0_; have HO318 := n1_; have HB := n2_; clear n0_ n1_ n2_; (try clear hb); (try clear hb2); (try clear hk); (try clear hi); (try clear ho0); obtain ⟨Ao10, co10, eo10⟩ := Kd.R_slice HO318.out; subst eo10) | ((with_reducible refine gate_callee (f := 85) rfl ?_); refine goesL_ (some 9) rfl rfl Try.func85 (by kernel_rfl) rfl #[.slice Ao10 t316.length co10, .int .i64 255] rfl (by (try simp only [List.map_toArray, List.map_cons, List.map_nil]); first | done | rfl | (simp only [List.length_drop, List.length_take]; rfl)) ?_; (with_reducible refine (sets_Not.calls k _ _ t316 255 t319 _ ?side1 ?side2 A5.out).mono ?_); (case side1 => repeat (first | exact (Kd.R_reads' HO318.out).2.2 | (with_reducible refine Kd.C_alloc ?_ _) | (with_reducible refine Kd.C_drewN ?_ _) | (with_reducible refine Kd.C_drew ?_))); (case side2 => exact (Kd.R_reads' HO318.out).2.1); rintro e w11 ⟨v320, rfl, ho0, hb⟩; refine ⟨_, rfl, ?_⟩; have n0_ := Aside0.mk (Kd.R_elder' (by (with_reducible repeat (first | apply Kd.R_alloc | apply Kd.R_drewN | apply Kd.R_drew)); exact HO315.out) (Kd.R_base ho0) hb); have n1_ := Aside0.mk (Kd.R_elder' (by (with_reducible repeat (first | apply Kd.R_alloc | apply Kd.R_drewN | apply Kd.R_drew)); exact HO318.out) (Kd.R_base ho0) hb); have n2_ := Aside0.mk (Kd.R_lower (Kd.R_new' (Kd.R_new' ho0 (Kd.R_lt (by (with_reducible repeat (first | apply Kd.R_alloc | apply Kd.R_drewN | apply Kd.R_drew)); exact HO315.out))) (Kd.R_lt (by (with_reducible repeat (first | apply Kd.R_alloc | apply Kd.R_drewN | apply Kd.R_drew)); exact HO318.out))) (below_size (by repeat (first | (with_reducible first | exact HB.out | apply below_alloc | apply pw_below_drewN | apply below_drew1) | exact HB.out)))); have n3_ := Aside0.mk (below_step (by repeat (first | (with_reducible first | exact HB.out | apply below_alloc | apply pw_below_drewN | apply below_drew1) | exact HB.out)) hb); clear HO315; clear HO318; clear HB; have HO315 := n0_; have HO318 := n1_; have HO321 := n2_; have HB := n3_; clear n0_ n1_ n2_ n3_; (try clear hb); (try clear hb2); (try clear hk); (try clear hi); (try clear ho0); obtain ⟨Ao12, co12, eo12⟩ := Kd.R_slice HO315.out; subst eo12; obtain ⟨Ao13, co13, eo13⟩ := Kd.R_slice HO321.out; subst eo13) | ((with_reducible refine gate_callee (f := 84) rfl ?_); refine goesL_ (some 10) rfl rfl Try.func84 (by kernel_rfl) rfl #[.slice Ao12 t313.length co12, .slice Ao13 t319.length co13] rfl (by (try simp only [List.map_toArray, List.map_cons, List.map_nil]); first | done | rfl | (simp only [List.length_drop, List.length_take]; rfl)) ?_; (with_reducible refine (sets_Meet.calls k (fun k_ => some k_ = (.slice Ao12 t313.length co12 : Value).ownBlock) _ _ t313 (fun k_ => some k_ = (.slice Ao13 t319.length co13 : Value).ownBlock) _ _ t319 t322 _ ?side1 ?side2 A6.out).mono ?_); (case side1 => exact Kd.R_V (Kd.R_tight rfl (HO315.out))); (case side2 => exact Kd.R_V (Kd.R_tight rfl (HO321.out))); rintro e w14 ⟨v323, rfl, ho0, hb⟩; refine ⟨_, rfl, ?_⟩; have n0_ := Aside0.mk (Kd.R_elder' (by (with_reducible repeat (first | apply Kd.R_alloc | apply Kd.R_drewN | apply Kd.R_drew)); exact HO315.out) (Kd.R_base ho0) hb); have n1_ := Aside0.mk (Kd.R_elder' (by (with_reducible repeat (first | apply Kd.R_alloc | apply Kd.R_drewN | apply Kd.R_drew)); exact HO318.out) (Kd.R_base ho0) hb); have n2_ := Aside0.mk (Kd.R_elder' (by (with_reducible repeat (first | apply Kd.R_alloc | apply Kd.R_drewN | apply Kd.R_drew)); exact HO321.out) (Kd.R_base ho0) hb); have n3_ := Aside0.mk (Kd.R_lower (Kd.R_new' (Kd.R_new' (Kd.R_new' (Kd.R_mono (ok' := fun k_ => True) ho0 (fun _ hk_ => trivial)) (Kd.R_lt (by (with_reducible repeat (first | apply Kd.R_alloc | apply Kd.R_drewN | apply Kd.R_drew)); exact HO315.out))) (Kd.R_lt (by (with_reducible repeat (first | apply Kd.R_alloc | apply Kd.R_drewN | apply Kd.R_drew)); exact HO318.out))) (Kd.R_lt (by (with_reducible repeat (first | apply Kd.R_alloc | apply Kd.R_drewN | apply Kd.R_drew)); exact HO321.out))) (below_size (by repeat (first | (with_reducible first | exact HB.out | apply below_alloc | apply pw_below_drewN | apply below_drew1) | exact HB.out)))); have n4_ := Aside0.mk (below_step (by repeat (first | (with_reducible first | exact HB.out | apply below_alloc | apply pw_below_drewN | apply below_drew1) | exact HB.out)) hb); clear HO315; clear HO318; clear HO321; clear HB; have HO315 := n0_; have HO318 := n1_; have HO321 := n2_; have HO324 := n3_; have HB := n4_; clear n0_ n1_ n2_ n3_ n4_; (try clear hb); (try clear hb2); (try clear hk); (try clear hi); (try clear ho0); obtain ⟨Ao15, co15, eo15⟩ := Kd.R_slice HO324.out; subst eo15) | ((with_reducible refine gate_callee (f := 67) rfl ?_); refine goesL_ (some 11) rfl rfl Try.func67 (by kernel_rfl) rfl #[.slice Ao15 t322.length co15] rfl (by (try simp only [List.map_toArray, List.map_cons, List.map_nil]); first | done | rfl | (simp only [List.length_drop, List.length_take]; rfl)) ?_; (with_reducible refine (spans_back.calls k _ _ t322 t325 _ ?side1 ?side2 A7.out).mono ?_); (case side1 => repeat (first | exact (Kd.R_reads' HO324.out).2.2 | (with_reducible refine Kd.C_alloc ?_ _) | (with_reducible refine Kd.C_drewN ?_ _) | (with_reducible refine Kd.C_drew ?_))); (case side2 => exact (Kd.R_reads' HO324.out).2.1); rintro e w16 ⟨v326, rfl, ho0, hb⟩; refine ⟨_, rfl, ?_⟩; have n0_ := Aside0.mk (Kd.R_below (by (with_reducible repeat (first | apply Kd.R_alloc | apply Kd.R_drewN | apply Kd.R_drew)); exact HO315.out) hb); have n1_ := Aside0.mk (Kd.R_below (by (with_reducible repeat (first | apply Kd.R_alloc | apply Kd.R_drewN | apply Kd.R_drew)); exact HO318.out) hb); have n2_ := Aside0.mk (Kd.R_below (by (with_reducible repeat (first | apply Kd.R_alloc | apply Kd.R_drewN | apply Kd.R_drew)); exact HO321.out) hb); have n3_ := Aside0.mk (Kd.R_below (by (with_reducible repeat (first | apply Kd.R_alloc | apply Kd.R_drewN | apply Kd.R_drew)); exact HO324.out) hb); have n4_ := Aside0.mk (Kd.R_lower ho0 (below_size (by repeat (first | (with_reducible first | exact HB.out | apply below_alloc | apply pw_below_drewN | apply below_drew1) | exact HB.out)))); have n5_ := Aside0.mk (below_step (by repeat (first | (with_reducible first | exact HB.out | apply below_alloc | apply pw_below_drewN | apply below_drew1) | exact HB.out)) hb); clear HO315; clear HO318; clear HO321; clear HO324; clear HB; have HO315 := n0_; have HO318 := n1_; have HO321 := n2_; have HO324 := n3_; have HO327 := n4_; have HB := n5_; clear n0_ n1_ n2_ n3_ n4_ n5_; (try clear hb); (try clear hb2); (try clear hk); (try clear hi); (try clear ho0)))
  go_ret
  exact ⟨_, by first | rfl | (simp [errW_none, errW_some] <;> rfl) | (simp [*, errW_none, errW_some] <;> rfl), by (with_reducible repeat (first | apply Kd.R_alloc | apply Kd.R_drewN | apply Kd.R_drew)); exact HO327.out, by repeat (first | (with_reducible first | exact HB.out | apply below_alloc | apply pw_below_drewN | apply below_drew1) | exact HB.out)⟩
end Go.Proofs.Ytddffjhodiengaa.R
