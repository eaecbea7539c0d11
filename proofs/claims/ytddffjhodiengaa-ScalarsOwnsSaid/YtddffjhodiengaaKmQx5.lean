/- Words and walks of this claim, of the text Qx5. -/
import Derived.Test.YtddffjhodiengaaKmQx0
import Derived.Test.YtddffjhodiengaaKmQx3
namespace Go.Proofs.Ytddffjhodiengaa.Q
open Go.RowKit Go.Proofs.YtddffjhodiengaaW.PrintWords Go.Proofs.YtddffjhodiengaaW.PrintLast Go.Proofs.YtddffjhodiengaaW.PrintMore
attribute [local go_sem] max2_int min2_int max_two min_two max_three min_three max_four min_four
set_option linter.unusedVariables false
set_option linter.unusedSimpArgs false
mutual
def sets_Meet.l0 : Nat → List (S72) → List (S72) → List (S72) → Option ((List (S72)))
  | 0, _, _, _ => none
  | k + 1, x0, x1, x5 => if (x0.length : Int) > 0 then (sets_Meet.j1 k x0 x1 x5 (decide ((x1.length : Int) > 0))) else (sets_Meet.j1 k x0 x1 x5 false)
def sets_Meet.j1 : Nat → List (S72) → List (S72) → List (S72) → Bool → Option ((List (S72)))
  | 0, _, _, _, _ => none
  | k + 1, x0, x1, x5, x15 => if x15 = true then (if 0 < (x0.length : Int) then (if 0 < (x1.length : Int) then (if (mx ((rd_T72 x0 0).f0) ((rd_T72 x1 0).f0)) ≤ (mn ((rd_T72 x0 0).f1) ((rd_T72 x1 0).f1)) then (if x5.length < 8796093022208 then ((some (x5 ++ [(⟨mx ((rd_T72 x0 0).f0) ((rd_T72 x1 0).f0), mn ((rd_T72 x0 0).f1) ((rd_T72 x1 0).f1)⟩ : S72)] : List (S72))).bind fun y204 => (if ((rd_T72 x0 0).f1) < ((rd_T72 x1 0).f1) then (if 1 ≤ (x0.length : Int) then (sets_Meet.l0 k (x0.drop 1) x1 y204) else (none)) else (if 1 ≤ (x1.length : Int) then (sets_Meet.l0 k x0 (x1.drop 1) y204) else (none)))) else (none)) else (if ((rd_T72 x0 0).f1) < ((rd_T72 x1 0).f1) then (if 1 ≤ (x0.length : Int) then (sets_Meet.l0 k (x0.drop 1) x1 x5) else (none)) else (if 1 ≤ (x1.length : Int) then (sets_Meet.l0 k x0 (x1.drop 1) x5) else (none)))) else (none)) else (none)) else (some x5)
end
def sets_Meet.f (k : Nat) (l0 : List (S72)) (l1 : List (S72)) : Option ((List (S72))) := sets_Meet.l0 k l0 l1 ([] : List (S72))
set_option maxHeartbeats 8000000 in
set_option maxRecDepth 100000 in
theorem sets_Meet.calls (k : Nat) (P0_ : Nat → Prop) (A0 : Option Addr) (c0 : Nat) (l0 : List (S72)) (P1_ : Nat → Prop) (A1 : Option Addr) (c1 : Nat) (l1 : List (S72)) (r : List (S72)) (w : World) (hs0 : Kd.V k72 72 w w.heap.size (fun k_ => P0_ k_) (.slice A0 l0.length c0) l0) (hs1 : Kd.V k72 72 w w.heap.size (fun k_ => P1_ k_) (.slice A1 l1.length c1) l1) (h : sets_Meet.f k l0 l1 = some r) :
    Calls Try.prog 84 #[.slice A0 l0.length c0, .slice A1 l1.length c1] w fun e w' => ∃ v0_ : Value, e = .returned (v0_) ∧ Kd.R k72 72 w' w.heap.size (fun k_ => (w.heap.size ≤ k_)) v0_ r ∧ Below w.heap.size w w' := by
  have hu72 := Try.underlying72
  have HO0 := Aside0.mk (show Kd.V k72 72 w w.heap.size (fun k_ => ((P0_ k_ ∨ P1_ k_) ∨ w.heap.size ≤ k_)) (.slice A0 l0.length c0) l0 from Kd.V_mono hs0 (fun k_ hk => .inl (.inl hk)))
  have HO1 := Aside0.mk (show Kd.V k72 72 w w.heap.size (fun k_ => ((P0_ k_ ∨ P1_ k_) ∨ w.heap.size ≤ k_)) (.slice A1 l1.length c1) l1 from Kd.V_mono hs1 (fun k_ hk => .inl (.inr hk)))
  have HB := Aside0.mk (Below.refl w.heap.size w)
  have H : (sets_Meet.l0 k l0 l1 ([] : List (S72))) = some r := h
  clear h
  have H' := Aside0.mk H
  clear H
  go_enter Try.func84, Try.ntmps84
  go_wp2
  repeat (go_quiet (fail); try go_wp2)
  go_loopg [0, 1, 5] k (fun kq v0 v1 v5 w' => ∃ (x0_1 : List (S72)) (x1_1 : List (S72)) (x5_1 : List (S72)), Aside0 (sets_Meet.l0 kq x0_1 x1_1 x5_1 = some r) ∧ Aside0 (kq ≤ k) ∧ Aside0 (Kd.V k72 72 w' w.heap.size (fun k_ => ((P0_ k_ ∨ P1_ k_) ∨ w.heap.size ≤ k_) ∧ some k_ ≠ (v5 : Value).ownBlock) v0 x0_1) ∧ Aside0 (Kd.V k72 72 w' w.heap.size (fun k_ => ((P0_ k_ ∨ P1_ k_) ∨ w.heap.size ≤ k_) ∧ some k_ ≠ (v5 : Value).ownBlock) v1 x1_1) ∧ Aside0 (Kd.R k72 72 w' w.heap.size (fun k_ => (w.heap.size ≤ k_)) v5 x5_1) ∧ Aside0 (Below w.heap.size w w'))
  case atStart => exact ⟨(l0), (l1), (([] : List (S72))), H', ⟨Nat.le_refl _⟩, ⟨by (with_reducible repeat (first | apply Kd.V_alloc | apply Kd.V_drewN | apply Kd.V_drew)); exact Kd.V_mono HO0.out (fun _ hk => ⟨hk, (by simp [Value.ownBlock])⟩)⟩, ⟨by (with_reducible repeat (first | apply Kd.V_alloc | apply Kd.V_drewN | apply Kd.V_drew)); exact Kd.V_mono HO1.out (fun _ hk => ⟨hk, (by simp [Value.ownBlock])⟩)⟩, ⟨by first | exact Kd.R_nil _ _ _ _ _ | exact Kd.N_nil _ _ _ _ _ | exact Kd.V_nil _ _ _ _ _ | exact Kd.Q_nil _ _ _ _ _ | exact Kd.S_nil _ _ _ _ _⟩, ⟨by repeat (first | (with_reducible first | exact HB.out | apply below_alloc | apply pw_below_drewN | apply below_drew1) | exact HB.out)⟩⟩
  case round =>
    clear H'
    try clear c1
    try clear p2
    obtain ⟨x0_1, x1_1, x5_1, HA, HK1, HO_0, HO_1, HO_5, HB⟩ := hrel
    cases gk with
    | zero => exact absurd HA.out (by simp [sets_Meet.l0])
    | succ k1 =>
      have H := HA.out
      clear HA
      simp only [sets_Meet.l0] at H
      have HC3 := Aside0.mk H
      clear H
      go_upto_region 2 with (fail)
      repeat (go_quiet (fail); go_upto_region 2 with (fail))
      go_cut [15] (fun v15 wc => ∃ (kq : Nat) (x15_2 : Bool), v15 = .bool x15_2 ∧ Aside0 (sets_Meet.j1 kq x0_1 x1_1 x5_1 x15_2 = some r) ∧ Aside0 (kq ≤ k1) ∧ Aside0 (Kd.V k72 72 wc w.heap.size (fun k_ => ((P0_ k_ ∨ P1_ k_) ∨ w.heap.size ≤ k_) ∧ some k_ ≠ (u5 : Value).ownBlock) u0 x0_1) ∧ Aside0 (Kd.V k72 72 wc w.heap.size (fun k_ => ((P0_ k_ ∨ P1_ k_) ∨ w.heap.size ≤ k_) ∧ some k_ ≠ (u5 : Value).ownBlock) u1 x1_1) ∧ Aside0 (Kd.R k72 72 wc w.heap.size (fun k_ => (w.heap.size ≤ k_)) u5 x5_1) ∧ Aside0 (Below w.heap.size w wc))
      case first =>
        have H := HC3.out
        clear HC3
        by_cases c4 : (x0_1.length : Int) > 0
        · rw [if_pos c4] at H
          have c4b0 : decide (0 < (x0_1.length : Int)) = true := decide_eq_true c4
          have c4b1 : decide (0 < x0_1.length) = true := decide_eq_true (by omega)
          clear c4
          (first | rw [c4b0] | (simp only [i64_w, i32_w]; rw [c4b0]) | skip)
          have H' := Aside0.mk H
          clear H
          obtain ⟨Ao5, co5, eo5⟩ := Kd.V_slice HO_0.out
          subst eo5
          obtain ⟨Ao6, co6, eo6⟩ := Kd.V_slice HO_1.out
          subst eo6
          go_wp2
          repeat (go_quiet (fail); try go_wp2)
          go_meet
          case rel => exact ⟨_, (decide ((x1_1.length : Int) > 0)), (by first | rfl | (simp; done) | (simp [*]; done)), H', ⟨by have := HK1.out; first | omega | exact Nat.le_refl _⟩, ⟨by (with_reducible repeat (first | apply Kd.V_alloc | apply Kd.V_drewN | apply Kd.V_drew)); exact HO_0.out⟩, ⟨by (with_reducible repeat (first | apply Kd.V_alloc | apply Kd.V_drewN | apply Kd.V_drew)); exact HO_1.out⟩, ⟨by (with_reducible repeat (first | apply Kd.R_alloc | apply Kd.R_drewN | apply Kd.R_drew)); exact HO_5.out⟩, ⟨by repeat (first | (with_reducible first | exact HB.out | apply below_alloc | apply pw_below_drewN | apply below_drew1) | exact HB.out)⟩⟩
        · rw [if_neg c4] at H
          have c4b0 : decide (0 < (x0_1.length : Int)) = false := decide_eq_false c4
          have c4b1 : decide (0 < x0_1.length) = false := decide_eq_false (by omega)
          clear c4
          (first | rw [c4b0] | (simp only [i64_w, i32_w]; rw [c4b0]) | skip)
          have H' := Aside0.mk H
          clear H
          obtain ⟨Ao7, co7, eo7⟩ := Kd.V_slice HO_0.out
          subst eo7
          go_wp2
          repeat (go_quiet (fail); try go_wp2)
          go_meet
          case rel => exact ⟨_, (false), (by first | rfl | (simp; done) | (simp [*]; done)), H', ⟨by have := HK1.out; first | omega | exact Nat.le_refl _⟩, ⟨by (with_reducible repeat (first | apply Kd.V_alloc | apply Kd.V_drewN | apply Kd.V_drew)); exact HO_0.out⟩, ⟨by (with_reducible repeat (first | apply Kd.V_alloc | apply Kd.V_drewN | apply Kd.V_drew)); exact HO_1.out⟩, ⟨by (with_reducible repeat (first | apply Kd.R_alloc | apply Kd.R_drewN | apply Kd.R_drew)); exact HO_5.out⟩, ⟨by repeat (first | (with_reducible first | exact HB.out | apply below_alloc | apply pw_below_drewN | apply below_drew1) | exact HB.out)⟩⟩
      case rest =>
        clear HC3
        try clear c1
        try clear p2
        try clear c4
        try clear c4b0
        try clear c4b1
        try clear p2
        obtain ⟨kq, x15_2, rfl, HA, HJ2, HO_0, HO_1, HO_5, HB⟩ := hcut
        cases kq with
        | zero => exact absurd HA.out (by simp [sets_Meet.j1])
        | succ kj2 =>
          have H := HA.out
          clear HA
          simp only [sets_Meet.j1] at H
          by_cases c8 : x15_2 = true
          · subst c8
            have H1 : (if 0 < (x0_1.length : Int) then (if 0 < (x1_1.length : Int) then (if (mx ((rd_T72 x0_1 0).f0) ((rd_T72 x1_1 0).f0)) ≤ (mn ((rd_T72 x0_1 0).f1) ((rd_T72 x1_1 0).f1)) then (if x5_1.length < 8796093022208 then ((some (x5_1 ++ [(⟨mx ((rd_T72 x0_1 0).f0) ((rd_T72 x1_1 0).f0), mn ((rd_T72 x0_1 0).f1) ((rd_T72 x1_1 0).f1)⟩ : S72)] : List (S72))).bind fun y204 => (if ((rd_T72 x0_1 0).f1) < ((rd_T72 x1_1 0).f1) then (if 1 ≤ (x0_1.length : Int) then (sets_Meet.l0 kj2 (x0_1.drop 1) x1_1 y204) else (none)) else (if 1 ≤ (x1_1.length : Int) then (sets_Meet.l0 kj2 x0_1 (x1_1.drop 1) y204) else (none)))) else (none)) else (if ((rd_T72 x0_1 0).f1) < ((rd_T72 x1_1 0).f1) then (if 1 ≤ (x0_1.length : Int) then (sets_Meet.l0 kj2 (x0_1.drop 1) x1_1 x5_1) else (none)) else (if 1 ≤ (x1_1.length : Int) then (sets_Meet.l0 kj2 x0_1 (x1_1.drop 1) x5_1) else (none)))) else (none)) else (none)) = some r := by rw [if_pos rfl] at H; exact H
            clear H
            have H := H1
            clear H1
            by_cases c9 : 0 < (x0_1.length : Int)
            · rw [if_pos c9] at H
              have c9b0 : decide (0 < (x0_1.length : Int)) = true := decide_eq_true c9
              have c9b1 : decide (0 < x0_1.length) = true := decide_eq_true (by omega)
              clear c9
              by_cases c10 : 0 < (x1_1.length : Int)
              · rw [if_pos c10] at H
                have c10b0 : decide (0 < (x1_1.length : Int)) = true := decide_eq_true c10
                have c10b1 : decide (0 < x1_1.length) = true := decide_eq_true (by omega)
                clear c10
                obtain ⟨ji11, hji11⟩ : ∃ j_ : Int, (mx ((rd_T72 x0_1 0).f0) ((rd_T72 x1_1 0).f0)) = j_ := ⟨_, rfl⟩
                replace H : (if (ji11) ≤ (mn ((rd_T72 x0_1 0).f1) ((rd_T72 x1_1 0).f1)) then (if x5_1.length < 8796093022208 then ((some (x5_1 ++ [(⟨ji11, mn ((rd_T72 x0_1 0).f1) ((rd_T72 x1_1 0).f1)⟩ : S72)] : List (S72))).bind fun y204 => (if ((rd_T72 x0_1 0).f1) < ((rd_T72 x1_1 0).f1) then (if 1 ≤ (x0_1.length : Int) then (sets_Meet.l0 kj2 (x0_1.drop 1) x1_1 y204) else (none)) else (if 1 ≤ (x1_1.length : Int) then (sets_Meet.l0 kj2 x0_1 (x1_1.drop 1) y204) else (none)))) else (none)) else (if ((rd_T72 x0_1 0).f1) < ((rd_T72 x1_1 0).f1) then (if 1 ≤ (x0_1.length : Int) then (sets_Meet.l0 kj2 (x0_1.drop 1) x1_1 x5_1) else (none)) else (if 1 ≤ (x1_1.length : Int) then (sets_Meet.l0 kj2 x0_1 (x1_1.drop 1) x5_1) else (none)))) = some r := by first | (rw [hji11] at H; exact H) | (simp only [hji11] at H ⊢; exact H)
                have hji11_ : (if ((rd_T72 x0_1 0).f0) < ((rd_T72 x1_1 0).f0) then ((rd_T72 x1_1 0).f0) else ((rd_T72 x0_1 0).f0)) = ji11 := hji11
                obtain ⟨ji12, hji12⟩ : ∃ j_ : Int, (mn ((rd_T72 x0_1 0).f1) ((rd_T72 x1_1 0).f1)) = j_ := ⟨_, rfl⟩
                replace H : (if (ji11) ≤ (ji12) then (if x5_1.length < 8796093022208 then ((some (x5_1 ++ [(⟨ji11, ji12⟩ : S72)] : List (S72))).bind fun y204 => (if ((rd_T72 x0_1 0).f1) < ((rd_T72 x1_1 0).f1) then (if 1 ≤ (x0_1.length : Int) then (sets_Meet.l0 kj2 (x0_1.drop 1) x1_1 y204) else (none)) else (if 1 ≤ (x1_1.length : Int) then (sets_Meet.l0 kj2 x0_1 (x1_1.drop 1) y204) else (none)))) else (none)) else (if ((rd_T72 x0_1 0).f1) < ((rd_T72 x1_1 0).f1) then (if 1 ≤ (x0_1.length : Int) then (sets_Meet.l0 kj2 (x0_1.drop 1) x1_1 x5_1) else (none)) else (if 1 ≤ (x1_1.length : Int) then (sets_Meet.l0 kj2 x0_1 (x1_1.drop 1) x5_1) else (none)))) = some r := by first | (rw [hji12] at H; exact H) | (simp only [hji12] at H ⊢; exact H)
                have hji12_ : (if ((rd_T72 x1_1 0).f1) < ((rd_T72 x0_1 0).f1) then ((rd_T72 x1_1 0).f1) else ((rd_T72 x0_1 0).f1)) = ji12 := hji12
                by_cases c13 : (ji11) ≤ (ji12)
                · rw [if_pos c13] at H
                  have c13b0 : decide ((ji11) ≤ (ji12)) = true := decide_eq_true c13
                  clear c13
                  by_cases c14 : x5_1.length < 8796093022208
                  · rw [if_pos c14] at H
                    have LMc14 := Aside0.mk c14
                    clear c14
                    obtain ⟨y204, hy204⟩ : ∃ y_ : List (S72), y_ = (x5_1 ++ [(⟨ji11, ji12⟩ : S72)]) := ⟨_, rfl⟩
                    replace H : (if ((rd_T72 x0_1 0).f1) < ((rd_T72 x1_1 0).f1) then (if 1 ≤ (x0_1.length : Int) then (sets_Meet.l0 kj2 (x0_1.drop 1) x1_1 y204) else (none)) else (if 1 ≤ (x1_1.length : Int) then (sets_Meet.l0 kj2 x0_1 (x1_1.drop 1) y204) else (none))) = some r := by first | (rw [hy204]; with_reducible exact H) | (have H2_ := (Option.bind_some _ _).symm.trans H; rw [hy204]; with_reducible exact H2_) | (have H2_ := (Option.bind_some _ _).symm.trans H; with_reducible exact H2_) | with_reducible exact H | (rw [hy204]; exact H) | exact H
                    have Ny204 := Aside0.mk hy204
                    clear hy204
                    by_cases c15 : ((rd_T72 x0_1 0).f1) < ((rd_T72 x1_1 0).f1)
                    · rw [if_pos c15] at H
                      have c15b0 : decide (((rd_T72 x0_1 0).f1) < ((rd_T72 x1_1 0).f1)) = true := decide_eq_true c15
                      clear c15
                      by_cases c16 : 1 ≤ (x0_1.length : Int)
                      · rw [if_pos c16] at H
                        have c16b0 := eq_true c16
                        have c16b1 : decide (1 ≤ (x0_1.length : Int)) = true := decide_eq_true c16
                        clear c16
                        obtain ⟨y209, hy209⟩ : ∃ y_ : List (S72), y_ = (x0_1.drop 1) := ⟨_, rfl⟩
                        replace H : (sets_Meet.l0 kj2 y209 x1_1 y204) = some r := by first | (rw [hy209]; with_reducible exact H) | (have H2_ := (Option.bind_some _ _).symm.trans H; rw [hy209]; with_reducible exact H2_) | (have H2_ := (Option.bind_some _ _).symm.trans H; with_reducible exact H2_) | with_reducible exact H | (rw [hy209]; exact H) | exact H
                        have Ny209 := Aside0.mk hy209
                        clear hy209
                        have H' := Aside0.mk H
                        clear H
                        obtain ⟨Ao17, co17, eo17⟩ := Kd.V_slice HO_0.out
                        subst eo17
                        have p200 : 0 ≤ (0 : Int) := (by omega)
                        have q200 : 0 < (x0_1.length : Int) := of_decide_eq_true (by first | (with_reducible assumption) | assumption)
                        obtain ⟨ad200, e200, hx200_0, hx200_1⟩ := at_T72 (Kd.V_reads' HO_0.out).2.2 0 p200 q200
                        cases e200
                        have qi200 : (0 < x0_1.length) = True := eq_true (by omega)
                        (try rw [show ((0 : Int)).toNat = 0 from rfl] at hx200_0)
                        (try rw [show 0 * 2 = 0 from rfl] at hx200_0)
                        (try rw [Addr.add_zero'] at hx200_0)
                        (try rw [show ((0 : Int)).toNat = 0 from rfl] at hx200_1)
                        (try rw [show 0 * 2 = 0 from rfl] at hx200_1)
                        (try rw [Addr.add_zero'] at hx200_1)
                        replace p200 := eq_true p200
                        replace q200 := eq_true q200
                        obtain ⟨Ao18, co18, eo18⟩ := Kd.V_slice HO_1.out
                        subst eo18
                        have p201 : 0 ≤ (0 : Int) := (by omega)
                        have q201 : 0 < (x1_1.length : Int) := of_decide_eq_true (by first | (with_reducible assumption) | assumption)
                        obtain ⟨ad201, e201, hx201_0, hx201_1⟩ := at_T72 (Kd.V_reads' HO_1.out).2.2 0 p201 q201
                        cases e201
                        have qi201 : (0 < x1_1.length) = True := eq_true (by omega)
                        (try rw [show ((0 : Int)).toNat = 0 from rfl] at hx201_0)
                        (try rw [show 0 * 2 = 0 from rfl] at hx201_0)
                        (try rw [Addr.add_zero'] at hx201_0)
                        (try rw [show ((0 : Int)).toNat = 0 from rfl] at hx201_1)
                        (try rw [show 0 * 2 = 0 from rfl] at hx201_1)
                        (try rw [Addr.add_zero'] at hx201_1)
                        replace p201 := eq_true p201
                        replace q201 := eq_true q201
                        have p202 : 0 ≤ (0 : Int) := (by omega)
                        have q202 : 0 < (x0_1.length : Int) := of_decide_eq_true (by first | (with_reducible assumption) | assumption)
                        obtain ⟨ad202, e202, hx202_0, hx202_1⟩ := at_T72 (Kd.V_reads' HO_0.out).2.2 0 p202 q202
                        obtain rfl : ad200 = ad202 := (by injection e202)
                        have qi202 : (0 < x0_1.length) = True := eq_true (by omega)
                        (try rw [show ((0 : Int)).toNat = 0 from rfl] at hx202_0)
                        (try rw [show 0 * 2 = 0 from rfl] at hx202_0)
                        (try rw [Addr.add_zero'] at hx202_0)
                        (try rw [show ((0 : Int)).toNat = 0 from rfl] at hx202_1)
                        (try rw [show 0 * 2 = 0 from rfl] at hx202_1)
                        (try rw [Addr.add_zero'] at hx202_1)
                        replace p202 := eq_true p202
                        replace q202 := eq_true q202
                        have p203 : 0 ≤ (0 : Int) := (by omega)
                        have q203 : 0 < (x1_1.length : Int) := of_decide_eq_true (by first | (with_reducible assumption) | assumption)
                        obtain ⟨ad203, e203, hx203_0, hx203_1⟩ := at_T72 (Kd.V_reads' HO_1.out).2.2 0 p203 q203
                        obtain rfl : ad201 = ad203 := (by injection e203)
                        have qi203 : (0 < x1_1.length) = True := eq_true (by omega)
                        (try rw [show ((0 : Int)).toNat = 0 from rfl] at hx203_0)
                        (try rw [show 0 * 2 = 0 from rfl] at hx203_0)
                        (try rw [Addr.add_zero'] at hx203_0)
                        (try rw [show ((0 : Int)).toNat = 0 from rfl] at hx203_1)
                        (try rw [show 0 * 2 = 0 from rfl] at hx203_1)
                        (try rw [Addr.add_zero'] at hx203_1)
                        replace p203 := eq_true p203
                        replace q203 := eq_true q203
                        go_wp2_with (first | ((with_reducible refine gate_builtin (b := .append) (xs := #[.tmp 37, .tmp 41]) rfl ?_); (try (refine gate_guard (by rfl) ?_; dsimp only)); at_builtin; refine Kd.R_append k72 (w0 := w) w.heap.size rfl (.tmp 37) (.tmp 41) 69 72 (.agg #[(.int .i64 0), (.int .i64 0)]) 16 rfl Try.underlying69 info72 rfl (by decide) (by omega) u5 x5_1 (⟨ji11, ji12⟩ : S72) [.int .i64 ji11, .int .i64 ji12] (fun k_ => (w.heap.size ≤ k_)) (fun _ => False) rfl rfl ?aP (fun _ hk => hk.elim) ?aF ?aO ?aB ?aS ?aL ?_; (case aP => exact k72_mkM _ _ _ (⟨ji11, ji12⟩ : S72)); (case aB => exact (by repeat (first | (with_reducible first | exact HB.out | apply below_alloc | apply pw_below_drewN | apply below_drew1) | exact HB.out))); (case aF => exact (fun k_ hk => (Nat.le_trans (below_size (by repeat (first | (with_reducible first | exact HB.out | apply below_alloc | apply pw_below_drewN | apply below_drew1) | exact HB.out))) hk))); (case aO => exact (by (with_reducible repeat (first | apply Kd.R_alloc | apply Kd.R_drewN | apply Kd.R_drew)); exact HO_5.out)); (case aS => exact (below_size (by repeat (first | (with_reducible first | exact HB.out | apply below_alloc | apply pw_below_drewN | apply below_drew1) | exact HB.out)))); (case aL => have := LMc14.out; omega); intro v205 w19 ho hb hg hat; rw [← Ny204.out] at ho; have n0_ := Aside0.mk (Kd.V_afterv (ok := (fun k_ => ((P0_ k_ ∨ P1_ k_) ∨ w.heap.size ≤ k_))) (by (with_reducible repeat (first | apply Kd.V_alloc | apply Kd.V_drewN | apply Kd.V_drew)); exact HO_0.out) hg hat); have n1_ := Aside0.mk (Kd.V_afterv (ok := (fun k_ => ((P0_ k_ ∨ P1_ k_) ∨ w.heap.size ≤ k_))) (by (with_reducible repeat (first | apply Kd.V_alloc | apply Kd.V_drewN | apply Kd.V_drew)); exact HO_1.out) hg hat); have n2_ := Aside0.mk (hb); have n3_ := Aside0.mk (ho); clear HO_0; clear HO_1; clear HB; clear HO_5; have HO_0 := n0_; have HO_1 := n1_; have HB := n2_; have HO206 := n3_; clear n0_ n1_ n2_ n3_; clear ho hb hg hat; have p207 : 0 ≤ (0 : Int) := (by omega); have q207 : 0 < (x0_1.length : Int) := of_decide_eq_true (by first | (with_reducible assumption) | assumption); obtain ⟨ad207, e207, hx207_0, hx207_1⟩ := at_T72 (Kd.V_reads' HO_0.out).2.2 0 p207 q207; obtain rfl : ad200 = ad207 := (by injection e207); have qi207 : (0 < x0_1.length) = True := eq_true (by omega); (try rw [show ((0 : Int)).toNat = 0 from rfl] at hx207_0); (try rw [show 0 * 2 = 0 from rfl] at hx207_0); (try rw [Addr.add_zero'] at hx207_0); (try rw [show ((0 : Int)).toNat = 0 from rfl] at hx207_1); (try rw [show 0 * 2 = 0 from rfl] at hx207_1); (try rw [Addr.add_zero'] at hx207_1); replace p207 := eq_true p207; replace q207 := eq_true q207; have p208 : 0 ≤ (0 : Int) := (by omega); have q208 : 0 < (x1_1.length : Int) := of_decide_eq_true (by first | (with_reducible assumption) | assumption); obtain ⟨ad208, e208, hx208_0, hx208_1⟩ := at_T72 (Kd.V_reads' HO_1.out).2.2 0 p208 q208; obtain rfl : ad201 = ad208 := (by injection e208); have qi208 : (0 < x1_1.length) = True := eq_true (by omega); (try rw [show ((0 : Int)).toNat = 0 from rfl] at hx208_0); (try rw [show 0 * 2 = 0 from rfl] at hx208_0); (try rw [Addr.add_zero'] at hx208_0); (try rw [show ((0 : Int)).toNat = 0 from rfl] at hx208_1); (try rw [show 0 * 2 = 0 from rfl] at hx208_1); (try rw [Addr.add_zero'] at hx208_1); replace p208 := eq_true p208; replace q208 := eq_true q208; have q20 : (1 : Int) ≤ ((x0_1.length : Int) : Int) := of_decide_eq_true (by first | (with_reducible assumption) | assumption); obtain ⟨i020, hi020, _, hsz20, _⟩ := info_parts info72; have hroom20 : x0_1.length ≤ co17 := (Kd.V_reads' HO_0.out).2.1; have hC20 : Kd.F k72 _ _ (some ad200) x0_1.length x0_1 := (Kd.V_at (base := w.heap.size) HO_0.out).2.2; have hcut20 := cut_from (P := Try.prog) 69 72 .i64 Try.underlying69 hi020 2 hsz20 (some ad200) x0_1.length co17 1 (by omega) q20; have hr20 := Kd.F_cut (m := (1 : Int).toNat) (c := co17) hC20 (by omega) hroom20; obtain ⟨A20, hA20⟩ : ∃ A1, A1 = (if co17 = (1 : Int).toNat then (some ad200) else ((some ad200) : Option Addr).map (·.add ((1 : Int).toNat * 2))) := ⟨_, rfl⟩; obtain ⟨c20, hc20⟩ : ∃ c1, c1 = co17 - (1 : Int).toNat := ⟨_, rfl⟩; have hy20 : y209.length = x0_1.length - (1 : Int).toNat := (by rw [Ny209.out, List.length_drop] <;> omega); rw [show (x0_1).drop (1 : Int).toNat = y209 from Ny209.out.symm] at hr20; replace hr20 : Kd.F k72 _ _ A20 y209.length y209 := (by rw [hA20]; exact hr20); rw [← hy20, ← hA20, ← hc20] at hcut20; have HO213 := Aside0.mk (show Kd.V k72 72 _ w.heap.size _ (.slice A20 y209.length c20) y209 from Kd.V_mk (by rw [hy20, hc20]; exact Nat.sub_le_sub_right hroom20 _) hr20); have HC213 := Aside0.mk (show y209.length ≤ c20 from by rw [hy20, hc20]; exact Nat.sub_le_sub_right hroom20 _); clear hr20 hC20 hroom20 hi020 hsz20 hc20; have KY20 := Aside0.mk hy20; have KA20 := Aside0.mk hA20; clear hy20 hA20; replace q20 := eq_true q20))
                        repeat (go_quiet (first | ((with_reducible refine gate_builtin (b := .append) (xs := #[.tmp 37, .tmp 41]) rfl ?_); (try (refine gate_guard (by rfl) ?_; dsimp only)); at_builtin; refine Kd.R_append k72 (w0 := w) w.heap.size rfl (.tmp 37) (.tmp 41) 69 72 (.agg #[(.int .i64 0), (.int .i64 0)]) 16 rfl Try.underlying69 info72 rfl (by decide) (by omega) u5 x5_1 (⟨ji11, ji12⟩ : S72) [.int .i64 ji11, .int .i64 ji12] (fun k_ => (w.heap.size ≤ k_)) (fun _ => False) rfl rfl ?aP (fun _ hk => hk.elim) ?aF ?aO ?aB ?aS ?aL ?_; (case aP => exact k72_mkM _ _ _ (⟨ji11, ji12⟩ : S72)); (case aB => exact (by repeat (first | (with_reducible first | exact HB.out | apply below_alloc | apply pw_below_drewN | apply below_drew1) | exact HB.out))); (case aF => exact (fun k_ hk => (Nat.le_trans (below_size (by repeat (first | (with_reducible first | exact HB.out | apply below_alloc | apply pw_below_drewN | apply below_drew1) | exact HB.out))) hk))); (case aO => exact (by (with_reducible repeat (first | apply Kd.R_alloc | apply Kd.R_drewN | apply Kd.R_drew)); exact HO_5.out)); (case aS => exact (below_size (by repeat (first | (with_reducible first | exact HB.out | apply below_alloc | apply pw_below_drewN | apply below_drew1) | exact HB.out)))); (case aL => have := LMc14.out; omega); intro v205 w19 ho hb hg hat; rw [← Ny204.out] at ho; have n0_ := Aside0.mk (Kd.V_afterv (ok := (fun k_ => ((P0_ k_ ∨ P1_ k_) ∨ w.heap.size ≤ k_))) (by (with_reducible repeat (first | apply Kd.V_alloc | apply Kd.V_drewN | apply Kd.V_drew)); exact HO_0.out) hg hat); have n1_ := Aside0.mk (Kd.V_afterv (ok := (fun k_ => ((P0_ k_ ∨ P1_ k_) ∨ w.heap.size ≤ k_))) (by (with_reducible repeat (first | apply Kd.V_alloc | apply Kd.V_drewN | apply Kd.V_drew)); exact HO_1.out) hg hat); have n2_ := Aside0.mk (hb); have n3_ := Aside0.mk (ho); clear HO_0; clear HO_1; clear HB; clear HO_5; have HO_0 := n0_; have HO_1 := n1_; have HB := n2_; have HO206 := n3_; clear n0_ n1_ n2_ n3_; clear ho hb hg hat; have p207 : 0 ≤ (0 : Int) := (by omega); have q207 : 0 < (x0_1.length : Int) := of_decide_eq_true (by first | (with_reducible assumption) | assumption); obtain ⟨ad207, e207, hx207_0, hx207_1⟩ := at_T72 (Kd.V_reads' HO_0.out).2.2 0 p207 q207; obtain rfl : ad200 = ad207 := (by injection e207); have qi207 : (0 < x0_1.length) = True := eq_true (by omega); (try rw [show ((0 : Int)).toNat = 0 from rfl] at hx207_0); (try rw [show 0 * 2 = 0 from rfl] at hx207_0); (try rw [Addr.add_zero'] at hx207_0); (try rw [show ((0 : Int)).toNat = 0 from rfl] at hx207_1); (try rw [show 0 * 2 = 0 from rfl] at hx207_1); (try rw [Addr.add_zero'] at hx207_1); replace p207 := eq_true p207; replace q207 := eq_true q207; have p208 : 0 ≤ (0 : Int) := (by omega); have q208 : 0 < (x1_1.length : Int) := of_decide_eq_true (by first | (with_reducible assumption) | assumption); obtain ⟨ad208, e208, hx208_0, hx208_1⟩ := at_T72 (Kd.V_reads' HO_1.out).2.2 0 p208 q208; obtain rfl : ad201 = ad208 := (by injection e208); have qi208 : (0 < x1_1.length) = True := eq_true (by omega); (try rw [show ((0 : Int)).toNat = 0 from rfl] at hx208_0); (try rw [show 0 * 2 = 0 from rfl] at hx208_0); (try rw [Addr.add_zero'] at hx208_0); (try rw [show ((0 : Int)).toNat = 0 from rfl] at hx208_1); (try rw [show 0 * 2 = 0 from rfl] at hx208_1); (try rw [Addr.add_zero'] at hx208_1); replace p208 := eq_true p208; replace q208 := eq_true q208; have q20 : (1 : Int) ≤ ((x0_1.length : Int) : Int) := of_decide_eq_true (by first | (with_reducible assumption) | assumption); obtain ⟨i020, hi020, _, hsz20, _⟩ := info_parts info72; have hroom20 : x0_1.length ≤ co17 := (Kd.V_reads' HO_0.out).2.1; have hC20 : Kd.F k72 _ _ (some ad200) x0_1.length x0_1 := (Kd.V_at (base := w.heap.size) HO_0.out).2.2; have hcut20 := cut_from (P := Try.prog) 69 72 .i64 Try.underlying69 hi020 2 hsz20 (some ad200) x0_1.length co17 1 (by omega) q20; have hr20 := Kd.F_cut (m := (1 : Int).toNat) (c := co17) hC20 (by omega) hroom20; obtain ⟨A20, hA20⟩ : ∃ A1, A1 = (if co17 = (1 : Int).toNat then (some ad200) else ((some ad200) : Option Addr).map (·.add ((1 : Int).toNat * 2))) := ⟨_, rfl⟩; obtain ⟨c20, hc20⟩ : ∃ c1, c1 = co17 - (1 : Int).toNat := ⟨_, rfl⟩; have hy20 : y209.length = x0_1.length - (1 : Int).toNat := (by rw [Ny209.out, List.length_drop] <;> omega); rw [show (x0_1).drop (1 : Int).toNat = y209 from Ny209.out.symm] at hr20; replace hr20 : Kd.F k72 _ _ A20 y209.length y209 := (by rw [hA20]; exact hr20); rw [← hy20, ← hA20, ← hc20] at hcut20; have HO213 := Aside0.mk (show Kd.V k72 72 _ w.heap.size _ (.slice A20 y209.length c20) y209 from Kd.V_mk (by rw [hy20, hc20]; exact Nat.sub_le_sub_right hroom20 _) hr20); have HC213 := Aside0.mk (show y209.length ≤ c20 from by rw [hy20, hc20]; exact Nat.sub_le_sub_right hroom20 _); clear hr20 hC20 hroom20 hi020 hsz20 hc20; have KY20 := Aside0.mk hy20; have KA20 := Aside0.mk hA20; clear hy20 hA20; replace q20 := eq_true q20)); try go_wp2_with (first | ((with_reducible refine gate_builtin (b := .append) (xs := #[.tmp 37, .tmp 41]) rfl ?_); (try (refine gate_guard (by rfl) ?_; dsimp only)); at_builtin; refine Kd.R_append k72 (w0 := w) w.heap.size rfl (.tmp 37) (.tmp 41) 69 72 (.agg #[(.int .i64 0), (.int .i64 0)]) 16 rfl Try.underlying69 info72 rfl (by decide) (by omega) u5 x5_1 (⟨ji11, ji12⟩ : S72) [.int .i64 ji11, .int .i64 ji12] (fun k_ => (w.heap.size ≤ k_)) (fun _ => False) rfl rfl ?aP (fun _ hk => hk.elim) ?aF ?aO ?aB ?aS ?aL ?_; (case aP => exact k72_mkM _ _ _ (⟨ji11, ji12⟩ : S72)); (case aB => exact (by repeat (first | (with_reducible first | exact HB.out | apply below_alloc | apply pw_below_drewN | apply below_drew1) | exact HB.out))); (case aF => exact (fun k_ hk => (Nat.le_trans (below_size (by repeat (first | (with_reducible first | exact HB.out | apply below_alloc | apply pw_below_drewN | apply below_drew1) | exact HB.out))) hk))); (case aO => exact (by (with_reducible repeat (first | apply Kd.R_alloc | apply Kd.R_drewN | apply Kd.R_drew)); exact HO_5.out)); (case aS => exact (below_size (by repeat (first | (with_reducible first | exact HB.out | apply below_alloc | apply pw_below_drewN | apply below_drew1) | exact HB.out)))); (case aL => have := LMc14.out; omega); intro v205 w19 ho hb hg hat; rw [← Ny204.out] at ho; have n0_ := Aside0.mk (Kd.V_afterv (ok := (fun k_ => ((P0_ k_ ∨ P1_ k_) ∨ w.heap.size ≤ k_))) (by (with_reducible repeat (first | apply Kd.V_alloc | apply Kd.V_drewN | apply Kd.V_drew)); exact HO_0.out) hg hat); have n1_ := Aside0.mk (Kd.V_afterv (ok := (fun k_ => ((P0_ k_ ∨ P1_ k_) ∨ w.heap.size ≤ k_))) (by (with_reducible repeat (first | apply Kd.V_alloc | apply Kd.V_drewN | apply Kd.V_drew)); exact HO_1.out) hg hat); have n2_ := Aside0.mk (hb); have n3_ := Aside0.mk (ho); clear HO_0; clear HO_1; clear HB; clear HO_5; have HO_0 := n0_; have HO_1 := n1_; have HB := n2_; have HO206 := n3_; clear n0_ n1_ n2_ n3_; clear ho hb hg hat; have p207 : 0 ≤ (0 : Int) := (by omega); have q207 : 0 < (x0_1.length : Int) := of_decide_eq_true (by first | (with_reducible assumption) | assumption); obtain ⟨ad207, e207, hx207_0, hx207_1⟩ := at_T72 (Kd.V_reads' HO_0.out).2.2 0 p207 q207; obtain rfl : ad200 = ad207 := (by injection e207); have qi207 : (0 < x0_1.length) = True := eq_true (by omega); (try rw [show ((0 : Int)).toNat = 0 from rfl] at hx207_0); (try rw [show 0 * 2 = 0 from rfl] at hx207_0); (try rw [Addr.add_zero'] at hx207_0); (try rw [show ((0 : Int)).toNat = 0 from rfl] at hx207_1); (try rw [show 0 * 2 = 0 from rfl] at hx207_1); (try rw [Addr.add_zero'] at hx207_1); replace p207 := eq_true p207; replace q207 := eq_true q207; have p208 : 0 ≤ (0 : Int) := (by omega); have q208 : 0 < (x1_1.length : Int) := of_decide_eq_true (by first | (with_reducible assumption) | assumption); obtain ⟨ad208, e208, hx208_0, hx208_1⟩ := at_T72 (Kd.V_reads' HO_1.out).2.2 0 p208 q208; obtain rfl : ad201 = ad208 := (by injection e208); have qi208 : (0 < x1_1.length) = True := eq_true (by omega); (try rw [show ((0 : Int)).toNat = 0 from rfl] at hx208_0); (try rw [show 0 * 2 = 0 from rfl] at hx208_0); (try rw [Addr.add_zero'] at hx208_0); (try rw [show ((0 : Int)).toNat = 0 from rfl] at hx208_1); (try rw [show 0 * 2 = 0 from rfl] at hx208_1); (try rw [Addr.add_zero'] at hx208_1); replace p208 := eq_true p208; replace q208 := eq_true q208; have q20 : (1 : Int) ≤ ((x0_1.length : Int) : Int) := of_decide_eq_true (by first | (with_reducible assumption) | assumption); obtain ⟨i020, hi020, _, hsz20, _⟩ := info_parts info72; have hroom20 : x0_1.length ≤ co17 := (Kd.V_reads' HO_0.out).2.1; have hC20 : Kd.F k72 _ _ (some ad200) x0_1.length x0_1 := (Kd.V_at (base := w.heap.size) HO_0.out).2.2; have hcut20 := cut_from (P := Try.prog) 69 72 .i64 Try.underlying69 hi020 2 hsz20 (some ad200) x0_1.length co17 1 (by omega) q20; have hr20 := Kd.F_cut (m := (1 : Int).toNat) (c := co17) hC20 (by omega) hroom20; obtain ⟨A20, hA20⟩ : ∃ A1, A1 = (if co17 = (1 : Int).toNat then (some ad200) else ((some ad200) : Option Addr).map (·.add ((1 : Int).toNat * 2))) := ⟨_, rfl⟩; obtain ⟨c20, hc20⟩ : ∃ c1, c1 = co17 - (1 : Int).toNat := ⟨_, rfl⟩; have hy20 : y209.length = x0_1.length - (1 : Int).toNat := (by rw [Ny209.out, List.length_drop] <;> omega); rw [show (x0_1).drop (1 : Int).toNat = y209 from Ny209.out.symm] at hr20; replace hr20 : Kd.F k72 _ _ A20 y209.length y209 := (by rw [hA20]; exact hr20); rw [← hy20, ← hA20, ← hc20] at hcut20; have HO213 := Aside0.mk (show Kd.V k72 72 _ w.heap.size _ (.slice A20 y209.length c20) y209 from Kd.V_mk (by rw [hy20, hc20]; exact Nat.sub_le_sub_right hroom20 _) hr20); have HC213 := Aside0.mk (show y209.length ≤ c20 from by rw [hy20, hc20]; exact Nat.sub_le_sub_right hroom20 _); clear hr20 hC20 hroom20 hi020 hsz20 hc20; have KY20 := Aside0.mk hy20; have KA20 := Aside0.mk hA20; clear hy20 hA20; replace q20 := eq_true q20)))
                        go_roundg kj2
                        case measure => have := HK1.out; have := HJ2.out; omega
                        case rel => exact ⟨(y209), (x1_1), (y204), H', ⟨by have := HK1.out; have := HJ2.out; omega⟩, ⟨by (with_reducible repeat (first | apply Kd.V_alloc | apply Kd.V_drewN | apply Kd.V_drew)); exact HO213.out⟩, ⟨by (with_reducible repeat (first | apply Kd.V_alloc | apply Kd.V_drewN | apply Kd.V_drew)); exact HO_1.out⟩, ⟨by (with_reducible repeat (first | apply Kd.R_alloc | apply Kd.R_drewN | apply Kd.R_drew)); exact HO206.out⟩, ⟨by repeat (first | (with_reducible first | exact HB.out | apply below_alloc | apply pw_below_drewN | apply below_drew1) | exact HB.out)⟩⟩
                      · rw [if_neg c16] at H
                        exact absurd H (by simp)
                    · rw [if_neg c15] at H
                      have c15b0 : decide (((rd_T72 x0_1 0).f1) < ((rd_T72 x1_1 0).f1)) = false := decide_eq_false c15
                      clear c15
                      by_cases c21 : 1 ≤ (x1_1.length : Int)
                      · rw [if_pos c21] at H
                        have c21b0 := eq_true c21
                        have c21b1 : decide (1 ≤ (x1_1.length : Int)) = true := decide_eq_true c21
                        clear c21
                        obtain ⟨y214, hy214⟩ : ∃ y_ : List (S72), y_ = (x1_1.drop 1) := ⟨_, rfl⟩
                        replace H : (sets_Meet.l0 kj2 x0_1 y214 y204) = some r := by first | (rw [hy214]; with_reducible exact H) | (have H2_ := (Option.bind_some _ _).symm.trans H; rw [hy214]; with_reducible exact H2_) | (have H2_ := (Option.bind_some _ _).symm.trans H; with_reducible exact H2_) | with_reducible exact H | (rw [hy214]; exact H) | exact H
                        have Ny214 := Aside0.mk hy214
                        clear hy214
                        have H' := Aside0.mk H
                        clear H
                        obtain ⟨Ao22, co22, eo22⟩ := Kd.V_slice HO_0.out
                        subst eo22
                        have p200 : 0 ≤ (0 : Int) := (by omega)
                        have q200 : 0 < (x0_1.length : Int) := of_decide_eq_true (by first | (with_reducible assumption) | assumption)
                        obtain ⟨ad200, e200, hx200_0, hx200_1⟩ := at_T72 (Kd.V_reads' HO_0.out).2.2 0 p200 q200
                        cases e200
                        have qi200 : (0 < x0_1.length) = True := eq_true (by omega)
                        (try rw [show ((0 : Int)).toNat = 0 from rfl] at hx200_0)
                        (try rw [show 0 * 2 = 0 from rfl] at hx200_0)
                        (try rw [Addr.add_zero'] at hx200_0)
                        (try rw [show ((0 : Int)).toNat = 0 from rfl] at hx200_1)
                        (try rw [show 0 * 2 = 0 from rfl] at hx200_1)
                        (try rw [Addr.add_zero'] at hx200_1)
                        replace p200 := eq_true p200
                        replace q200 := eq_true q200
                        obtain ⟨Ao23, co23, eo23⟩ := Kd.V_slice HO_1.out
                        subst eo23
                        have p201 : 0 ≤ (0 : Int) := (by omega)
                        have q201 : 0 < (x1_1.length : Int) := of_decide_eq_true (by first | (with_reducible assumption) | assumption)
                        obtain ⟨ad201, e201, hx201_0, hx201_1⟩ := at_T72 (Kd.V_reads' HO_1.out).2.2 0 p201 q201
                        cases e201
                        have qi201 : (0 < x1_1.length) = True := eq_true (by omega)
                        (try rw [show ((0 : Int)).toNat = 0 from rfl] at hx201_0)
                        (try rw [show 0 * 2 = 0 from rfl] at hx201_0)
                        (try rw [Addr.add_zero'] at hx201_0)
                        (try rw [show ((0 : Int)).toNat = 0 from rfl] at hx201_1)
                        (try rw [show 0 * 2 = 0 from rfl] at hx201_1)
                        (try rw [Addr.add_zero'] at hx201_1)
                        replace p201 := eq_true p201
                        replace q201 := eq_true q201
                        have p202 : 0 ≤ (0 : Int) := (by omega)
                        have q202 : 0 < (x0_1.length : Int) := of_decide_eq_true (by first | (with_reducible assumption) | assumption)
                        obtain ⟨ad202, e202, hx202_0, hx202_1⟩ := at_T72 (Kd.V_reads' HO_0.out).2.2 0 p202 q202
                        obtain rfl : ad200 = ad202 := (by injection e202)
                        have qi202 : (0 < x0_1.length) = True := eq_true (by omega)
                        (try rw [show ((0 : Int)).toNat = 0 from rfl] at hx202_0)
                        (try rw [show 0 * 2 = 0 from rfl] at hx202_0)
                        (try rw [Addr.add_zero'] at hx202_0)
                        (try rw [show ((0 : Int)).toNat = 0 from rfl] at hx202_1)
                        (try rw [show 0 * 2 = 0 from rfl] at hx202_1)
                        (try rw [Addr.add_zero'] at hx202_1)
                        replace p202 := eq_true p202
                        replace q202 := eq_true q202
                        have p203 : 0 ≤ (0 : Int) := (by omega)
                        have q203 : 0 < (x1_1.length : Int) := of_decide_eq_true (by first | (with_reducible assumption) | assumption)
                        obtain ⟨ad203, e203, hx203_0, hx203_1⟩ := at_T72 (Kd.V_reads' HO_1.out).2.2 0 p203 q203
                        obtain rfl : ad201 = ad203 := (by injection e203)
                        have qi203 : (0 < x1_1.length) = True := eq_true (by omega)
                        (try rw [show ((0 : Int)).toNat = 0 from rfl] at hx203_0)
                        (try rw [show 0 * 2 = 0 from rfl] at hx203_0)
                        (try rw [Addr.add_zero'] at hx203_0)
                        (try rw [show ((0 : Int)).toNat = 0 from rfl] at hx203_1)
                        (try rw [show 0 * 2 = 0 from rfl] at hx203_1)
                        (try rw [Addr.add_zero'] at hx203_1)
                        replace p203 := eq_true p203
                        replace q203 := eq_true q203
                        go_wp2_with (first | ((with_reducible refine gate_builtin (b := .append) (xs := #[.tmp 37, .tmp 41]) rfl ?_); (try (refine gate_guard (by rfl) ?_; dsimp only)); at_builtin; refine Kd.R_append k72 (w0 := w) w.heap.size rfl (.tmp 37) (.tmp 41) 69 72 (.agg #[(.int .i64 0), (.int .i64 0)]) 16 rfl Try.underlying69 info72 rfl (by decide) (by omega) u5 x5_1 (⟨ji11, ji12⟩ : S72) [.int .i64 ji11, .int .i64 ji12] (fun k_ => (w.heap.size ≤ k_)) (fun _ => False) rfl rfl ?aP (fun _ hk => hk.elim) ?aF ?aO ?aB ?aS ?aL ?_; (case aP => exact k72_mkM _ _ _ (⟨ji11, ji12⟩ : S72)); (case aB => exact (by repeat (first | (with_reducible first | exact HB.out | apply below_alloc | apply pw_below_drewN | apply below_drew1) | exact HB.out))); (case aF => exact (fun k_ hk => (Nat.le_trans (below_size (by repeat (first | (with_reducible first | exact HB.out | apply below_alloc | apply pw_below_drewN | apply below_drew1) | exact HB.out))) hk))); (case aO => exact (by (with_reducible repeat (first | apply Kd.R_alloc | apply Kd.R_drewN | apply Kd.R_drew)); exact HO_5.out)); (case aS => exact (below_size (by repeat (first | (with_reducible first | exact HB.out | apply below_alloc | apply pw_below_drewN | apply below_drew1) | exact HB.out)))); (case aL => have := LMc14.out; omega); intro v205 w24 ho hb hg hat; rw [← Ny204.out] at ho; have n0_ := Aside0.mk (Kd.V_afterv (ok := (fun k_ => ((P0_ k_ ∨ P1_ k_) ∨ w.heap.size ≤ k_))) (by (with_reducible repeat (first | apply Kd.V_alloc | apply Kd.V_drewN | apply Kd.V_drew)); exact HO_0.out) hg hat); have n1_ := Aside0.mk (Kd.V_afterv (ok := (fun k_ => ((P0_ k_ ∨ P1_ k_) ∨ w.heap.size ≤ k_))) (by (with_reducible repeat (first | apply Kd.V_alloc | apply Kd.V_drewN | apply Kd.V_drew)); exact HO_1.out) hg hat); have n2_ := Aside0.mk (hb); have n3_ := Aside0.mk (ho); clear HO_0; clear HO_1; clear HB; clear HO_5; have HO_0 := n0_; have HO_1 := n1_; have HB := n2_; have HO206 := n3_; clear n0_ n1_ n2_ n3_; clear ho hb hg hat; have p207 : 0 ≤ (0 : Int) := (by omega); have q207 : 0 < (x0_1.length : Int) := of_decide_eq_true (by first | (with_reducible assumption) | assumption); obtain ⟨ad207, e207, hx207_0, hx207_1⟩ := at_T72 (Kd.V_reads' HO_0.out).2.2 0 p207 q207; obtain rfl : ad200 = ad207 := (by injection e207); have qi207 : (0 < x0_1.length) = True := eq_true (by omega); (try rw [show ((0 : Int)).toNat = 0 from rfl] at hx207_0); (try rw [show 0 * 2 = 0 from rfl] at hx207_0); (try rw [Addr.add_zero'] at hx207_0); (try rw [show ((0 : Int)).toNat = 0 from rfl] at hx207_1); (try rw [show 0 * 2 = 0 from rfl] at hx207_1); (try rw [Addr.add_zero'] at hx207_1); replace p207 := eq_true p207; replace q207 := eq_true q207; have p208 : 0 ≤ (0 : Int) := (by omega); have q208 : 0 < (x1_1.length : Int) := of_decide_eq_true (by first | (with_reducible assumption) | assumption); obtain ⟨ad208, e208, hx208_0, hx208_1⟩ := at_T72 (Kd.V_reads' HO_1.out).2.2 0 p208 q208; obtain rfl : ad201 = ad208 := (by injection e208); have qi208 : (0 < x1_1.length) = True := eq_true (by omega); (try rw [show ((0 : Int)).toNat = 0 from rfl] at hx208_0); (try rw [show 0 * 2 = 0 from rfl] at hx208_0); (try rw [Addr.add_zero'] at hx208_0); (try rw [show ((0 : Int)).toNat = 0 from rfl] at hx208_1); (try rw [show 0 * 2 = 0 from rfl] at hx208_1); (try rw [Addr.add_zero'] at hx208_1); replace p208 := eq_true p208; replace q208 := eq_true q208; have q25 : (1 : Int) ≤ ((x1_1.length : Int) : Int) := of_decide_eq_true (by first | (with_reducible assumption) | assumption); obtain ⟨i025, hi025, _, hsz25, _⟩ := info_parts info72; have hroom25 : x1_1.length ≤ co23 := (Kd.V_reads' HO_1.out).2.1; have hC25 : Kd.F k72 _ _ (some ad201) x1_1.length x1_1 := (Kd.V_at (base := w.heap.size) HO_1.out).2.2; have hcut25 := cut_from (P := Try.prog) 69 72 .i64 Try.underlying69 hi025 2 hsz25 (some ad201) x1_1.length co23 1 (by omega) q25; have hr25 := Kd.F_cut (m := (1 : Int).toNat) (c := co23) hC25 (by omega) hroom25; obtain ⟨A25, hA25⟩ : ∃ A1, A1 = (if co23 = (1 : Int).toNat then (some ad201) else ((some ad201) : Option Addr).map (·.add ((1 : Int).toNat * 2))) := ⟨_, rfl⟩; obtain ⟨c25, hc25⟩ : ∃ c1, c1 = co23 - (1 : Int).toNat := ⟨_, rfl⟩; have hy25 : y214.length = x1_1.length - (1 : Int).toNat := (by rw [Ny214.out, List.length_drop] <;> omega); rw [show (x1_1).drop (1 : Int).toNat = y214 from Ny214.out.symm] at hr25; replace hr25 : Kd.F k72 _ _ A25 y214.length y214 := (by rw [hA25]; exact hr25); rw [← hy25, ← hA25, ← hc25] at hcut25; have HO218 := Aside0.mk (show Kd.V k72 72 _ w.heap.size _ (.slice A25 y214.length c25) y214 from Kd.V_mk (by rw [hy25, hc25]; exact Nat.sub_le_sub_right hroom25 _) hr25); have HC218 := Aside0.mk (show y214.length ≤ c25 from by rw [hy25, hc25]; exact Nat.sub_le_sub_right hroom25 _); clear hr25 hC25 hroom25 hi025 hsz25 hc25; have KY25 := Aside0.mk hy25; have KA25 := Aside0.mk hA25; clear hy25 hA25; replace q25 := eq_true q25))
                        repeat (go_quiet (first | ((with_reducible refine gate_builtin (b := .append) (xs := #[.tmp 37, .tmp 41]) rfl ?_); (try (refine gate_guard (by rfl) ?_; dsimp only)); at_builtin; refine Kd.R_append k72 (w0 := w) w.heap.size rfl (.tmp 37) (.tmp 41) 69 72 (.agg #[(.int .i64 0), (.int .i64 0)]) 16 rfl Try.underlying69 info72 rfl (by decide) (by omega) u5 x5_1 (⟨ji11, ji12⟩ : S72) [.int .i64 ji11, .int .i64 ji12] (fun k_ => (w.heap.size ≤ k_)) (fun _ => False) rfl rfl ?aP (fun _ hk => hk.elim) ?aF ?aO ?aB ?aS ?aL ?_; (case aP => exact k72_mkM _ _ _ (⟨ji11, ji12⟩ : S72)); (case aB => exact (by repeat (first | (with_reducible first | exact HB.out | apply below_alloc | apply pw_below_drewN | apply below_drew1) | exact HB.out))); (case aF => exact (fun k_ hk => (Nat.le_trans (below_size (by repeat (first | (with_reducible first | exact HB.out | apply below_alloc | apply pw_below_drewN | apply below_drew1) | exact HB.out))) hk))); (case aO => exact (by (with_reducible repeat (first | apply Kd.R_alloc | apply Kd.R_drewN | apply Kd.R_drew)); exact HO_5.out)); (case aS => exact (below_size (by repeat (first | (with_reducible first | exact HB.out | apply below_alloc | apply pw_below_drewN | apply below_drew1) | exact HB.out)))); (case aL => have := LMc14.out; omega); intro v205 w24 ho hb hg hat; rw [← Ny204.out] at ho; have n0_ := Aside0.mk (Kd.V_afterv (ok := (fun k_ => ((P0_ k_ ∨ P1_ k_) ∨ w.heap.size ≤ k_))) (by (with_reducible repeat (first | apply Kd.V_alloc | apply Kd.V_drewN | apply Kd.V_drew)); exact HO_0.out) hg hat); have n1_ := Aside0.mk (Kd.V_afterv (ok := (fun k_ => ((P0_ k_ ∨ P1_ k_) ∨ w.heap.size ≤ k_))) (by (with_reducible repeat (first | apply Kd.V_alloc | apply Kd.V_drewN | apply Kd.V_drew)); exact HO_1.out) hg hat); have n2_ := Aside0.mk (hb); have n3_ := Aside0.mk (ho); clear HO_0; clear HO_1; clear HB; clear HO_5; have HO_0 := n0_; have HO_1 := n1_; have HB := n2_; have HO206 := n3_; clear n0_ n1_ n2_ n3_; clear ho hb hg hat; have p207 : 0 ≤ (0 : Int) := (by omega); have q207 : 0 < (x0_1.length : Int) := of_decide_eq_true (by first | (with_reducible assumption) | assumption); obtain ⟨ad207, e207, hx207_0, hx207_1⟩ := at_T72 (Kd.V_reads' HO_0.out).2.2 0 p207 q207; obtain rfl : ad200 = ad207 := (by injection e207); have qi207 : (0 < x0_1.length) = True := eq_true (by omega); (try rw [show ((0 : Int)).toNat = 0 from rfl] at hx207_0); (try rw [show 0 * 2 = 0 from rfl] at hx207_0); (try rw [Addr.add_zero'] at hx207_0); (try rw [show ((0 : Int)).toNat = 0 from rfl] at hx207_1); (try rw [show 0 * 2 = 0 from rfl] at hx207_1); (try rw [Addr.add_zero'] at hx207_1); replace p207 := eq_true p207; replace q207 := eq_true q207; have p208 : 0 ≤ (0 : Int) := (by omega); have q208 : 0 < (x1_1.length : Int) := of_decide_eq_true (by first | (with_reducible assumption) | assumption); obtain ⟨ad208, e208, hx208_0, hx208_1⟩ := at_T72 (Kd.V_reads' HO_1.out).2.2 0 p208 q208; obtain rfl : ad201 = ad208 := (by injection e208); have qi208 : (0 < x1_1.length) = True := eq_true (by omega); (try rw [show ((0 : Int)).toNat = 0 from rfl] at hx208_0); (try rw [show 0 * 2 = 0 from rfl] at hx208_0); (try rw [Addr.add_zero'] at hx208_0); (try rw [show ((0 : Int)).toNat = 0 from rfl] at hx208_1); (try rw [show 0 * 2 = 0 from rfl] at hx208_1); (try rw [Addr.add_zero'] at hx208_1); replace p208 := eq_true p208; replace q208 := eq_true q208; have q25 : (1 : Int) ≤ ((x1_1.length : Int) : Int) := of_decide_eq_true (by first | (with_reducible assumption) | assumption); obtain ⟨i025, hi025, _, hsz25, _⟩ := info_parts info72; have hroom25 : x1_1.length ≤ co23 := (Kd.V_reads' HO_1.out).2.1; have hC25 : Kd.F k72 _ _ (some ad201) x1_1.length x1_1 := (Kd.V_at (base := w.heap.size) HO_1.out).2.2; have hcut25 := cut_from (P := Try.prog) 69 72 .i64 Try.underlying69 hi025 2 hsz25 (some ad201) x1_1.length co23 1 (by omega) q25; have hr25 := Kd.F_cut (m := (1 : Int).toNat) (c := co23) hC25 (by omega) hroom25; obtain ⟨A25, hA25⟩ : ∃ A1, A1 = (if co23 = (1 : Int).toNat then (some ad201) else ((some ad201) : Option Addr).map (·.add ((1 : Int).toNat * 2))) := ⟨_, rfl⟩; obtain ⟨c25, hc25⟩ : ∃ c1, c1 = co23 - (1 : Int).toNat := ⟨_, rfl⟩; have hy25 : y214.length = x1_1.length - (1 : Int).toNat := (by rw [Ny214.out, List.length_drop] <;> omega); rw [show (x1_1).drop (1 : Int).toNat = y214 from Ny214.out.symm] at hr25; replace hr25 : Kd.F k72 _ _ A25 y214.length y214 := (by rw [hA25]; exact hr25); rw [← hy25, ← hA25, ← hc25] at hcut25; have HO218 := Aside0.mk (show Kd.V k72 72 _ w.heap.size _ (.slice A25 y214.length c25) y214 from Kd.V_mk (by rw [hy25, hc25]; exact Nat.sub_le_sub_right hroom25 _) hr25); have HC218 := Aside0.mk (show y214.length ≤ c25 from by rw [hy25, hc25]; exact Nat.sub_le_sub_right hroom25 _); clear hr25 hC25 hroom25 hi025 hsz25 hc25; have KY25 := Aside0.mk hy25; have KA25 := Aside0.mk hA25; clear hy25 hA25; replace q25 := eq_true q25)); try go_wp2_with (first | ((with_reducible refine gate_builtin (b := .append) (xs := #[.tmp 37, .tmp 41]) rfl ?_); (try (refine gate_guard (by rfl) ?_; dsimp only)); at_builtin; refine Kd.R_append k72 (w0 := w) w.heap.size rfl (.tmp 37) (.tmp 41) 69 72 (.agg #[(.int .i64 0), (.int .i64 0)]) 16 rfl Try.underlying69 info72 rfl (by decide) (by omega) u5 x5_1 (⟨ji11, ji12⟩ : S72) [.int .i64 ji11, .int .i64 ji12] (fun k_ => (w.heap.size ≤ k_)) (fun _ => False) rfl rfl ?aP (fun _ hk => hk.elim) ?aF ?aO ?aB ?aS ?aL ?_; (case aP => exact k72_mkM _ _ _ (⟨ji11, ji12⟩ : S72)); (case aB => exact (by repeat (first | (with_reducible first | exact HB.out | apply below_alloc | apply pw_below_drewN | apply below_drew1) | exact HB.out))); (case aF => exact (fun k_ hk => (Nat.le_trans (below_size (by repeat (first | (with_reducible first | exact HB.out | apply below_alloc | apply pw_below_drewN | apply below_drew1) | exact HB.out))) hk))); (case aO => exact (by (with_reducible repeat (first | apply Kd.R_alloc | apply Kd.R_drewN | apply Kd.R_drew)); exact HO_5.out)); (case aS => exact (below_size (by repeat (first | (with_reducible first | exact HB.out | apply below_alloc | apply pw_below_drewN | apply below_drew1) | exact HB.out)))); (case aL => have := LMc14.out; omega); intro v205 w24 ho hb hg hat; rw [← Ny204.out] at ho; have n0_ := Aside0.mk (Kd.V_afterv (ok := (fun k_ => ((P0_ k_ ∨ P1_ k_) ∨ w.heap.size ≤ k_))) (by (with_reducible repeat (first | apply Kd.V_alloc | apply Kd.V_drewN | apply Kd.V_drew)); exact HO_0.out) hg hat); have n1_ := Aside0.mk (Kd.V_afterv (ok := (fun k_ => ((P0_ k_ ∨ P1_ k_) ∨ w.heap.size ≤ k_))) (by (with_reducible repeat (first | apply Kd.V_alloc | apply Kd.V_drewN | apply Kd.V_drew)); exact HO_1.out) hg hat); have n2_ := Aside0.mk (hb); have n3_ := Aside0.mk (ho); clear HO_0; clear HO_1; clear HB; clear HO_5; have HO_0 := n0_; have HO_1 := n1_; have HB := n2_; have HO206 := n3_; clear n0_ n1_ n2_ n3_; clear ho hb hg hat; have p207 : 0 ≤ (0 : Int) := (by omega); have q207 : 0 < (x0_1.length : Int) := of_decide_eq_true (by first | (with_reducible assumption) | assumption); obtain ⟨ad207, e207, hx207_0, hx207_1⟩ := at_T72 (Kd.V_reads' HO_0.out).2.2 0 p207 q207; obtain rfl : ad200 = ad207 := (by injection e207); have qi207 : (0 < x0_1.length) = True := eq_true (by omega); (try rw [show ((0 : Int)).toNat = 0 from rfl] at hx207_0); (try rw [show 0 * 2 = 0 from rfl] at hx207_0); (try rw [Addr.add_zero'] at hx207_0); (try rw [show ((0 : Int)).toNat = 0 from rfl] at hx207_1); (try rw [show 0 * 2 = 0 from rfl] at hx207_1); (try rw [Addr.add_zero'] at hx207_1); replace p207 := eq_true p207; replace q207 := eq_true q207; have p208 : 0 ≤ (0 : Int) := (by omega); have q208 : 0 < (x1_1.length : Int) := of_decide_eq_true (by first | (with_reducible assumption) | assumption); obtain ⟨ad208, e208, hx208_0, hx208_1⟩ := at_T72 (Kd.V_reads' HO_1.out).2.2 0 p208 q208; obtain rfl : ad201 = ad208 := (by injection e208); have qi208 : (0 < x1_1.length) = True := eq_true (by omega); (try rw [show ((0 : Int)).toNat = 0 from rfl] at hx208_0); (try rw [show 0 * 2 = 0 from rfl] at hx208_0); (try rw [Addr.add_zero'] at hx208_0); (try rw [show ((0 : Int)).toNat = 0 from rfl] at hx208_1); (try rw [show 0 * 2 = 0 from rfl] at hx208_1); (try rw [Addr.add_zero'] at hx208_1); replace p208 := eq_true p208; replace q208 := eq_true q208; have q25 : (1 : Int) ≤ ((x1_1.length : Int) : Int) := of_decide_eq_true (by first | (with_reducible assumption) | assumption); obtain ⟨i025, hi025, _, hsz25, _⟩ := info_parts info72; have hroom25 : x1_1.length ≤ co23 := (Kd.V_reads' HO_1.out).2.1; have hC25 : Kd.F k72 _ _ (some ad201) x1_1.length x1_1 := (Kd.V_at (base := w.heap.size) HO_1.out).2.2; have hcut25 := cut_from (P := Try.prog) 69 72 .i64 Try.underlying69 hi025 2 hsz25 (some ad201) x1_1.length co23 1 (by omega) q25; have hr25 := Kd.F_cut (m := (1 : Int).toNat) (c := co23) hC25 (by omega) hroom25; obtain ⟨A25, hA25⟩ : ∃ A1, A1 = (if co23 = (1 : Int).toNat then (some ad201) else ((some ad201) : Option Addr).map (·.add ((1 : Int).toNat * 2))) := ⟨_, rfl⟩; obtain ⟨c25, hc25⟩ : ∃ c1, c1 = co23 - (1 : Int).toNat := ⟨_, rfl⟩; have hy25 : y214.length = x1_1.length - (1 : Int).toNat := (by rw [Ny214.out, List.length_drop] <;> omega); rw [show (x1_1).drop (1 : Int).toNat = y214 from Ny214.out.symm] at hr25; replace hr25 : Kd.F k72 _ _ A25 y214.length y214 := (by rw [hA25]; exact hr25); rw [← hy25, ← hA25, ← hc25] at hcut25; have HO218 := Aside0.mk (show Kd.V k72 72 _ w.heap.size _ (.slice A25 y214.length c25) y214 from Kd.V_mk (by rw [hy25, hc25]; exact Nat.sub_le_sub_right hroom25 _) hr25); have HC218 := Aside0.mk (show y214.length ≤ c25 from by rw [hy25, hc25]; exact Nat.sub_le_sub_right hroom25 _); clear hr25 hC25 hroom25 hi025 hsz25 hc25; have KY25 := Aside0.mk hy25; have KA25 := Aside0.mk hA25; clear hy25 hA25; replace q25 := eq_true q25)))
                        go_roundg kj2
                        case measure => have := HK1.out; have := HJ2.out; omega
                        case rel => exact ⟨(x0_1), (y214), (y204), H', ⟨by have := HK1.out; have := HJ2.out; omega⟩, ⟨by (with_reducible repeat (first | apply Kd.V_alloc | apply Kd.V_drewN | apply Kd.V_drew)); exact HO_0.out⟩, ⟨by (with_reducible repeat (first | apply Kd.V_alloc | apply Kd.V_drewN | apply Kd.V_drew)); exact HO218.out⟩, ⟨by (with_reducible repeat (first | apply Kd.R_alloc | apply Kd.R_drewN | apply Kd.R_drew)); exact HO206.out⟩, ⟨by repeat (first | (with_reducible first | exact HB.out | apply below_alloc | apply pw_below_drewN | apply below_drew1) | exact HB.out)⟩⟩
                      · rw [if_neg c21] at H
                        exact absurd H (by simp)
                  · rw [if_neg c14] at H
                    exact absurd H (by simp)
                · rw [if_neg c13] at H
                  have c13b0 : decide ((ji11) ≤ (ji12)) = false := decide_eq_false c13
                  clear c13
                  by_cases c26 : ((rd_T72 x0_1 0).f1) < ((rd_T72 x1_1 0).f1)
                  · rw [if_pos c26] at H
                    have c26b0 : decide (((rd_T72 x0_1 0).f1) < ((rd_T72 x1_1 0).f1)) = true := decide_eq_true c26
                    clear c26
                    by_cases c27 : 1 ≤ (x0_1.length : Int)
                    · rw [if_pos c27] at H
                      have c27b0 := eq_true c27
                      have c27b1 : decide (1 ≤ (x0_1.length : Int)) = true := decide_eq_true c27
                      clear c27
                      obtain ⟨y221, hy221⟩ : ∃ y_ : List (S72), y_ = (x0_1.drop 1) := ⟨_, rfl⟩
                      replace H : (sets_Meet.l0 kj2 y221 x1_1 x5_1) = some r := by first | (rw [hy221]; with_reducible exact H) | (have H2_ := (Option.bind_some _ _).symm.trans H; rw [hy221]; with_reducible exact H2_) | (have H2_ := (Option.bind_some _ _).symm.trans H; with_reducible exact H2_) | with_reducible exact H | (rw [hy221]; exact H) | exact H
                      have Ny221 := Aside0.mk hy221
                      clear hy221
                      have H' := Aside0.mk H
                      clear H
                      obtain ⟨Ao28, co28, eo28⟩ := Kd.V_slice HO_0.out
                      subst eo28
                      have p200 : 0 ≤ (0 : Int) := (by omega)
                      have q200 : 0 < (x0_1.length : Int) := of_decide_eq_true (by first | (with_reducible assumption) | assumption)
                      obtain ⟨ad200, e200, hx200_0, hx200_1⟩ := at_T72 (Kd.V_reads' HO_0.out).2.2 0 p200 q200
                      cases e200
                      have qi200 : (0 < x0_1.length) = True := eq_true (by omega)
                      (try rw [show ((0 : Int)).toNat = 0 from rfl] at hx200_0)
                      (try rw [show 0 * 2 = 0 from rfl] at hx200_0)
                      (try rw [Addr.add_zero'] at hx200_0)
                      (try rw [show ((0 : Int)).toNat = 0 from rfl] at hx200_1)
                      (try rw [show 0 * 2 = 0 from rfl] at hx200_1)
                      (try rw [Addr.add_zero'] at hx200_1)
                      replace p200 := eq_true p200
                      replace q200 := eq_true q200
                      obtain ⟨Ao29, co29, eo29⟩ := Kd.V_slice HO_1.out
                      subst eo29
                      have p201 : 0 ≤ (0 : Int) := (by omega)
                      have q201 : 0 < (x1_1.length : Int) := of_decide_eq_true (by first | (with_reducible assumption) | assumption)
                      obtain ⟨ad201, e201, hx201_0, hx201_1⟩ := at_T72 (Kd.V_reads' HO_1.out).2.2 0 p201 q201
                      cases e201
                      have qi201 : (0 < x1_1.length) = True := eq_true (by omega)
                      (try rw [show ((0 : Int)).toNat = 0 from rfl] at hx201_0)
                      (try rw [show 0 * 2 = 0 from rfl] at hx201_0)
                      (try rw [Addr.add_zero'] at hx201_0)
                      (try rw [show ((0 : Int)).toNat = 0 from rfl] at hx201_1)
                      (try rw [show 0 * 2 = 0 from rfl] at hx201_1)
                      (try rw [Addr.add_zero'] at hx201_1)
                      replace p201 := eq_true p201
                      replace q201 := eq_true q201
                      have p202 : 0 ≤ (0 : Int) := (by omega)
                      have q202 : 0 < (x0_1.length : Int) := of_decide_eq_true (by first | (with_reducible assumption) | assumption)
                      obtain ⟨ad202, e202, hx202_0, hx202_1⟩ := at_T72 (Kd.V_reads' HO_0.out).2.2 0 p202 q202
                      obtain rfl : ad200 = ad202 := (by injection e202)
                      have qi202 : (0 < x0_1.length) = True := eq_true (by omega)
                      (try rw [show ((0 : Int)).toNat = 0 from rfl] at hx202_0)
                      (try rw [show 0 * 2 = 0 from rfl] at hx202_0)
                      (try rw [Addr.add_zero'] at hx202_0)
                      (try rw [show ((0 : Int)).toNat = 0 from rfl] at hx202_1)
                      (try rw [show 0 * 2 = 0 from rfl] at hx202_1)
                      (try rw [Addr.add_zero'] at hx202_1)
                      replace p202 := eq_true p202
                      replace q202 := eq_true q202
                      have p203 : 0 ≤ (0 : Int) := (by omega)
                      have q203 : 0 < (x1_1.length : Int) := of_decide_eq_true (by first | (with_reducible assumption) | assumption)
                      obtain ⟨ad203, e203, hx203_0, hx203_1⟩ := at_T72 (Kd.V_reads' HO_1.out).2.2 0 p203 q203
                      obtain rfl : ad201 = ad203 := (by injection e203)
                      have qi203 : (0 < x1_1.length) = True := eq_true (by omega)
                      (try rw [show ((0 : Int)).toNat = 0 from rfl] at hx203_0)
                      (try rw [show 0 * 2 = 0 from rfl] at hx203_0)
                      (try rw [Addr.add_zero'] at hx203_0)
                      (try rw [show ((0 : Int)).toNat = 0 from rfl] at hx203_1)
                      (try rw [show 0 * 2 = 0 from rfl] at hx203_1)
                      (try rw [Addr.add_zero'] at hx203_1)
                      replace p203 := eq_true p203
                      replace q203 := eq_true q203
                      have p219 : 0 ≤ (0 : Int) := (by omega)
                      have q219 : 0 < (x0_1.length : Int) := of_decide_eq_true (by first | (with_reducible assumption) | assumption)
                      obtain ⟨ad219, e219, hx219_0, hx219_1⟩ := at_T72 (Kd.V_reads' HO_0.out).2.2 0 p219 q219
                      obtain rfl : ad200 = ad219 := (by injection e219)
                      have qi219 : (0 < x0_1.length) = True := eq_true (by omega)
                      (try rw [show ((0 : Int)).toNat = 0 from rfl] at hx219_0)
                      (try rw [show 0 * 2 = 0 from rfl] at hx219_0)
                      (try rw [Addr.add_zero'] at hx219_0)
                      (try rw [show ((0 : Int)).toNat = 0 from rfl] at hx219_1)
                      (try rw [show 0 * 2 = 0 from rfl] at hx219_1)
                      (try rw [Addr.add_zero'] at hx219_1)
                      replace p219 := eq_true p219
                      replace q219 := eq_true q219
                      have p220 : 0 ≤ (0 : Int) := (by omega)
                      have q220 : 0 < (x1_1.length : Int) := of_decide_eq_true (by first | (with_reducible assumption) | assumption)
                      obtain ⟨ad220, e220, hx220_0, hx220_1⟩ := at_T72 (Kd.V_reads' HO_1.out).2.2 0 p220 q220
                      obtain rfl : ad201 = ad220 := (by injection e220)
                      have qi220 : (0 < x1_1.length) = True := eq_true (by omega)
                      (try rw [show ((0 : Int)).toNat = 0 from rfl] at hx220_0)
                      (try rw [show 0 * 2 = 0 from rfl] at hx220_0)
                      (try rw [Addr.add_zero'] at hx220_0)
                      (try rw [show ((0 : Int)).toNat = 0 from rfl] at hx220_1)
                      (try rw [show 0 * 2 = 0 from rfl] at hx220_1)
                      (try rw [Addr.add_zero'] at hx220_1)
                      replace p220 := eq_true p220
                      replace q220 := eq_true q220
                      have q30 : (1 : Int) ≤ ((x0_1.length : Int) : Int) := of_decide_eq_true (by first | (with_reducible assumption) | assumption)
                      obtain ⟨i030, hi030, _, hsz30, _⟩ := info_parts info72
                      have hroom30 : x0_1.length ≤ co28 := (Kd.V_reads' HO_0.out).2.1
                      have hC30 : Kd.F k72 _ _ (some ad200) x0_1.length x0_1 := (Kd.V_at (base := w.heap.size) HO_0.out).2.2
                      have hcut30 := cut_from (P := Try.prog) 69 72 .i64 Try.underlying69 hi030 2 hsz30 (some ad200) x0_1.length co28 1 (by omega) q30
                      have hr30 := Kd.F_cut (m := (1 : Int).toNat) (c := co28) hC30 (by omega) hroom30
                      obtain ⟨A30, hA30⟩ : ∃ A1, A1 = (if co28 = (1 : Int).toNat then (some ad200) else ((some ad200) : Option Addr).map (·.add ((1 : Int).toNat * 2))) := ⟨_, rfl⟩
                      obtain ⟨c30, hc30⟩ : ∃ c1, c1 = co28 - (1 : Int).toNat := ⟨_, rfl⟩
                      have hy30 : y221.length = x0_1.length - (1 : Int).toNat := (by rw [Ny221.out, List.length_drop] <;> omega)
                      rw [show (x0_1).drop (1 : Int).toNat = y221 from Ny221.out.symm] at hr30
                      replace hr30 : Kd.F k72 _ _ A30 y221.length y221 := (by rw [hA30]; exact hr30)
                      rw [← hy30, ← hA30, ← hc30] at hcut30
                      have HO225 := Aside0.mk (show Kd.V k72 72 _ w.heap.size _ (.slice A30 y221.length c30) y221 from Kd.V_mk (by rw [hy30, hc30]; exact Nat.sub_le_sub_right hroom30 _) hr30)
                      have HC225 := Aside0.mk (show y221.length ≤ c30 from by rw [hy30, hc30]; exact Nat.sub_le_sub_right hroom30 _)
                      clear hr30 hC30 hroom30 hi030 hsz30 hc30
                      have KY30 := Aside0.mk hy30
                      have KA30 := Aside0.mk hA30
                      clear hy30 hA30
                      replace q30 := eq_true q30
                      go_wp2
                      repeat (go_quiet (fail); try go_wp2)
                      go_roundg kj2
                      case measure => have := HK1.out; have := HJ2.out; omega
                      case rel => exact ⟨(y221), (x1_1), (x5_1), H', ⟨by have := HK1.out; have := HJ2.out; omega⟩, ⟨by (with_reducible repeat (first | apply Kd.V_alloc | apply Kd.V_drewN | apply Kd.V_drew)); exact HO225.out⟩, ⟨by (with_reducible repeat (first | apply Kd.V_alloc | apply Kd.V_drewN | apply Kd.V_drew)); exact HO_1.out⟩, ⟨by (with_reducible repeat (first | apply Kd.R_alloc | apply Kd.R_drewN | apply Kd.R_drew)); exact HO_5.out⟩, ⟨by repeat (first | (with_reducible first | exact HB.out | apply below_alloc | apply pw_below_drewN | apply below_drew1) | exact HB.out)⟩⟩
                    · rw [if_neg c27] at H
                      exact absurd H (by simp)
                  · rw [if_neg c26] at H
                    have c26b0 : decide (((rd_T72 x0_1 0).f1) < ((rd_T72 x1_1 0).f1)) = false := decide_eq_false c26
                    clear c26
                    by_cases c31 : 1 ≤ (x1_1.length : Int)
                    · rw [if_pos c31] at H
                      have c31b0 := eq_true c31
                      have c31b1 : decide (1 ≤ (x1_1.length : Int)) = true := decide_eq_true c31
                      clear c31
                      obtain ⟨y226, hy226⟩ : ∃ y_ : List (S72), y_ = (x1_1.drop 1) := ⟨_, rfl⟩
                      replace H : (sets_Meet.l0 kj2 x0_1 y226 x5_1) = some r := by first | (rw [hy226]; with_reducible exact H) | (have H2_ := (Option.bind_some _ _).symm.trans H; rw [hy226]; with_reducible exact H2_) | (have H2_ := (Option.bind_some _ _).symm.trans H; with_reducible exact H2_) | with_reducible exact H | (rw [hy226]; exact H) | exact H
                      have Ny226 := Aside0.mk hy226
                      clear hy226
                      have H' := Aside0.mk H
                      clear H
                      obtain ⟨Ao32, co32, eo32⟩ := Kd.V_slice HO_0.out
                      subst eo32
                      have p200 : 0 ≤ (0 : Int) := (by omega)
                      have q200 : 0 < (x0_1.length : Int) := of_decide_eq_true (by first | (with_reducible assumption) | assumption)
                      obtain ⟨ad200, e200, hx200_0, hx200_1⟩ := at_T72 (Kd.V_reads' HO_0.out).2.2 0 p200 q200
                      cases e200
                      have qi200 : (0 < x0_1.length) = True := eq_true (by omega)
                      (try rw [show ((0 : Int)).toNat = 0 from rfl] at hx200_0)
                      (try rw [show 0 * 2 = 0 from rfl] at hx200_0)
                      (try rw [Addr.add_zero'] at hx200_0)
                      (try rw [show ((0 : Int)).toNat = 0 from rfl] at hx200_1)
                      (try rw [show 0 * 2 = 0 from rfl] at hx200_1)
                      (try rw [Addr.add_zero'] at hx200_1)
                      replace p200 := eq_true p200
                      replace q200 := eq_true q200
                      obtain ⟨Ao33, co33, eo33⟩ := Kd.V_slice HO_1.out
                      subst eo33
                      have p201 : 0 ≤ (0 : Int) := (by omega)
                      have q201 : 0 < (x1_1.length : Int) := of_decide_eq_true (by first | (with_reducible assumption) | assumption)
                      obtain ⟨ad201, e201, hx201_0, hx201_1⟩ := at_T72 (Kd.V_reads' HO_1.out).2.2 0 p201 q201
                      cases e201
                      have qi201 : (0 < x1_1.length) = True := eq_true (by omega)
                      (try rw [show ((0 : Int)).toNat = 0 from rfl] at hx201_0)
                      (try rw [show 0 * 2 = 0 from rfl] at hx201_0)
                      (try rw [Addr.add_zero'] at hx201_0)
                      (try rw [show ((0 : Int)).toNat = 0 from rfl] at hx201_1)
                      (try rw [show 0 * 2 = 0 from rfl] at hx201_1)
                      (try rw [Addr.add_zero'] at hx201_1)
                      replace p201 := eq_true p201
                      replace q201 := eq_true q201
                      have p202 : 0 ≤ (0 : Int) := (by omega)
                      have q202 : 0 < (x0_1.length : Int) := of_decide_eq_true (by first | (with_reducible assumption) | assumption)
                      obtain ⟨ad202, e202, hx202_0, hx202_1⟩ := at_T72 (Kd.V_reads' HO_0.out).2.2 0 p202 q202
                      obtain rfl : ad200 = ad202 := (by injection e202)
                      have qi202 : (0 < x0_1.length) = True := eq_true (by omega)
                      (try rw [show ((0 : Int)).toNat = 0 from rfl] at hx202_0)
                      (try rw [show 0 * 2 = 0 from rfl] at hx202_0)
                      (try rw [Addr.add_zero'] at hx202_0)
                      (try rw [show ((0 : Int)).toNat = 0 from rfl] at hx202_1)
                      (try rw [show 0 * 2 = 0 from rfl] at hx202_1)
                      (try rw [Addr.add_zero'] at hx202_1)
                      replace p202 := eq_true p202
                      replace q202 := eq_true q202
                      have p203 : 0 ≤ (0 : Int) := (by omega)
                      have q203 : 0 < (x1_1.length : Int) := of_decide_eq_true (by first | (with_reducible assumption) | assumption)
                      obtain ⟨ad203, e203, hx203_0, hx203_1⟩ := at_T72 (Kd.V_reads' HO_1.out).2.2 0 p203 q203
                      obtain rfl : ad201 = ad203 := (by injection e203)
                      have qi203 : (0 < x1_1.length) = True := eq_true (by omega)
                      (try rw [show ((0 : Int)).toNat = 0 from rfl] at hx203_0)
                      (try rw [show 0 * 2 = 0 from rfl] at hx203_0)
                      (try rw [Addr.add_zero'] at hx203_0)
                      (try rw [show ((0 : Int)).toNat = 0 from rfl] at hx203_1)
                      (try rw [show 0 * 2 = 0 from rfl] at hx203_1)
                      (try rw [Addr.add_zero'] at hx203_1)
                      replace p203 := eq_true p203
                      replace q203 := eq_true q203
                      have p219 : 0 ≤ (0 : Int) := (by omega)
                      have q219 : 0 < (x0_1.length : Int) := of_decide_eq_true (by first | (with_reducible assumption) | assumption)
                      obtain ⟨ad219, e219, hx219_0, hx219_1⟩ := at_T72 (Kd.V_reads' HO_0.out).2.2 0 p219 q219
                      obtain rfl : ad200 = ad219 := (by injection e219)
                      have qi219 : (0 < x0_1.length) = True := eq_true (by omega)
                      (try rw [show ((0 : Int)).toNat = 0 from rfl] at hx219_0)
                      (try rw [show 0 * 2 = 0 from rfl] at hx219_0)
                      (try rw [Addr.add_zero'] at hx219_0)
                      (try rw [show ((0 : Int)).toNat = 0 from rfl] at hx219_1)
                      (try rw [show 0 * 2 = 0 from rfl] at hx219_1)
                      (try rw [Addr.add_zero'] at hx219_1)
                      replace p219 := eq_true p219
                      replace q219 := eq_true q219
                      have p220 : 0 ≤ (0 : Int) := (by omega)
                      have q220 : 0 < (x1_1.length : Int) := of_decide_eq_true (by first | (with_reducible assumption) | assumption)
                      obtain ⟨ad220, e220, hx220_0, hx220_1⟩ := at_T72 (Kd.V_reads' HO_1.out).2.2 0 p220 q220
                      obtain rfl : ad201 = ad220 := (by injection e220)
                      have qi220 : (0 < x1_1.length) = True := eq_true (by omega)
                      (try rw [show ((0 : Int)).toNat = 0 from rfl] at hx220_0)
                      (try rw [show 0 * 2 = 0 from rfl] at hx220_0)
                      (try rw [Addr.add_zero'] at hx220_0)
                      (try rw [show ((0 : Int)).toNat = 0 from rfl] at hx220_1)
                      (try rw [show 0 * 2 = 0 from rfl] at hx220_1)
                      (try rw [Addr.add_zero'] at hx220_1)
                      replace p220 := eq_true p220
                      replace q220 := eq_true q220
                      have q34 : (1 : Int) ≤ ((x1_1.length : Int) : Int) := of_decide_eq_true (by first | (with_reducible assumption) | assumption)
                      obtain ⟨i034, hi034, _, hsz34, _⟩ := info_parts info72
                      have hroom34 : x1_1.length ≤ co33 := (Kd.V_reads' HO_1.out).2.1
                      have hC34 : Kd.F k72 _ _ (some ad201) x1_1.length x1_1 := (Kd.V_at (base := w.heap.size) HO_1.out).2.2
                      have hcut34 := cut_from (P := Try.prog) 69 72 .i64 Try.underlying69 hi034 2 hsz34 (some ad201) x1_1.length co33 1 (by omega) q34
                      have hr34 := Kd.F_cut (m := (1 : Int).toNat) (c := co33) hC34 (by omega) hroom34
                      obtain ⟨A34, hA34⟩ : ∃ A1, A1 = (if co33 = (1 : Int).toNat then (some ad201) else ((some ad201) : Option Addr).map (·.add ((1 : Int).toNat * 2))) := ⟨_, rfl⟩
                      obtain ⟨c34, hc34⟩ : ∃ c1, c1 = co33 - (1 : Int).toNat := ⟨_, rfl⟩
                      have hy34 : y226.length = x1_1.length - (1 : Int).toNat := (by rw [Ny226.out, List.length_drop] <;> omega)
                      rw [show (x1_1).drop (1 : Int).toNat = y226 from Ny226.out.symm] at hr34
                      replace hr34 : Kd.F k72 _ _ A34 y226.length y226 := (by rw [hA34]; exact hr34)
                      rw [← hy34, ← hA34, ← hc34] at hcut34
                      have HO230 := Aside0.mk (show Kd.V k72 72 _ w.heap.size _ (.slice A34 y226.length c34) y226 from Kd.V_mk (by rw [hy34, hc34]; exact Nat.sub_le_sub_right hroom34 _) hr34)
                      have HC230 := Aside0.mk (show y226.length ≤ c34 from by rw [hy34, hc34]; exact Nat.sub_le_sub_right hroom34 _)
                      clear hr34 hC34 hroom34 hi034 hsz34 hc34
                      have KY34 := Aside0.mk hy34
                      have KA34 := Aside0.mk hA34
                      clear hy34 hA34
                      replace q34 := eq_true q34
                      go_wp2
                      repeat (go_quiet (fail); try go_wp2)
                      go_roundg kj2
                      case measure => have := HK1.out; have := HJ2.out; omega
                      case rel => exact ⟨(x0_1), (y226), (x5_1), H', ⟨by have := HK1.out; have := HJ2.out; omega⟩, ⟨by (with_reducible repeat (first | apply Kd.V_alloc | apply Kd.V_drewN | apply Kd.V_drew)); exact HO_0.out⟩, ⟨by (with_reducible repeat (first | apply Kd.V_alloc | apply Kd.V_drewN | apply Kd.V_drew)); exact HO230.out⟩, ⟨by (with_reducible repeat (first | apply Kd.R_alloc | apply Kd.R_drewN | apply Kd.R_drew)); exact HO_5.out⟩, ⟨by repeat (first | (with_reducible first | exact HB.out | apply below_alloc | apply pw_below_drewN | apply below_drew1) | exact HB.out)⟩⟩
                    · rw [if_neg c31] at H
                      exact absurd H (by simp)
              · rw [if_neg c10] at H
                exact absurd H (by simp)
            · rw [if_neg c9] at H
              exact absurd H (by simp)
          · replace c8 := Bool.eq_false_iff.mpr c8
            subst c8
            have H1 : (some x5_1) = some r := by rw [if_neg (show ¬ (false = true) by decide)] at H; exact H
            clear H
            have H := H1
            clear H1
            obtain rfl := Option.some.inj H
            go_wp2
            repeat (go_quiet (fail); try go_wp2)
            go_ret
            exact ⟨_, by first | rfl | (simp [errW_none, errW_some] <;> rfl) | (simp [*, errW_none, errW_some] <;> rfl), by (with_reducible repeat (first | apply Kd.R_alloc | apply Kd.R_drewN | apply Kd.R_drew)); exact HO_5.out, by repeat (first | (with_reducible first | exact HB.out | apply below_alloc | apply pw_below_drewN | apply below_drew1) | exact HB.out)⟩
def scalars_Meet.f (k : Nat) (l0 : List (S56)) (l1 : List (S56)) : Option ((List (S56))) := (scalars_set.f k l0).bind fun t231 => ((scalars_set.f k l1).bind fun t234 => ((sets_Meet.f k t231 t234).bind fun t237 => ((scalars_back.f k t237).bind fun t240 => (some t240))))
set_option maxHeartbeats 8000000 in
set_option maxRecDepth 100000 in
theorem scalars_Meet.calls (k : Nat) (A0 : Option Addr) (c0 : Nat) (l0 : List (S56)) (A1 : Option Addr) (c1 : Nat) (l1 : List (S56)) (r : List (S56)) (w : World) (hr0 : Kd.C k56 w A0 l0.length l0) (hc0 : l0.length ≤ c0) (hr1 : Kd.C k56 w A1 l1.length l1) (hc1 : l1.length ≤ c1) (h : scalars_Meet.f k l0 l1 = some r) :
    Calls Try.prog 61 #[.slice A0 l0.length c0, .slice A1 l1.length c1] w fun e w' => ∃ v0_ : Value, e = .returned (v0_) ∧ Kd.R k56 56 w' w.heap.size (fun _ => True) v0_ r ∧ Below w.heap.size w w' := by
  have HR0 := Aside0.mk hr0
  have HC0 := Aside0.mk hc0
  clear hr0 hc0
  have HR1 := Aside0.mk hr1
  have HC1 := Aside0.mk hc1
  clear hr1 hc1
  have HB := Aside0.mk (Below.refl w.heap.size w)
  have H : ((scalars_set.f k l0).bind fun t231 => ((scalars_set.f k l1).bind fun t234 => ((sets_Meet.f k t231 t234).bind fun t237 => ((scalars_back.f k t237).bind fun t240 => (some t240))))) = some r := h
  clear h
  replace H := Option.bind_eq_some_iff.mp H
  obtain ⟨t231, A30, H⟩ := H
  replace H : ((scalars_set.f k l1).bind fun t234 => ((sets_Meet.f k t231 t234).bind fun t237 => ((scalars_back.f k t237).bind fun t240 => (some t240)))) = some r := H
  have A3 := Aside0.mk A30
  clear A30
  replace H := Option.bind_eq_some_iff.mp H
  obtain ⟨t234, A40, H⟩ := H
  replace H : ((sets_Meet.f k t231 t234).bind fun t237 => ((scalars_back.f k t237).bind fun t240 => (some t240))) = some r := H
  have A4 := Aside0.mk A40
  clear A40
  replace H := Option.bind_eq_some_iff.mp H
  obtain ⟨t237, A50, H⟩ := H
  replace H : ((scalars_back.f k t237).bind fun t240 => (some t240)) = some r := H
  have A5 := Aside0.mk A50
  clear A50
  replace H := Option.bind_eq_some_iff.mp H
  obtain ⟨t240, A60, H⟩ := H
  replace H : (some t240) = some r := H
  have A6 := Aside0.mk A60
  clear A60
  obtain rfl := Option.some.inj H
  go_enter Try.func61, Try.ntmps61
  go_wp2_with (first | ((with_reducible refine gate_callee (f := 78) rfl ?_); refine goesL_ (some 6) rfl rfl Try.func78 (by kernel_rfl) rfl #[.slice A0 l0.length c0] rfl (by (try simp only [List.map_toArray, List.map_cons, List.map_nil]); first | done | rfl | (simp only [List.length_drop, List.length_take]; rfl)) ?_; (with_reducible refine (scalars_set.calls k _ _ l0 t231 _ ?side1 ?side2 A3.out).mono ?_); (case side1 => repeat (first | exact HR0.out | (with_reducible refine Kd.C_alloc ?_ _) | (with_reducible refine Kd.C_drewN ?_ _) | (with_reducible refine Kd.C_drew ?_))); (case side2 => exact HC0.out); rintro e w7 ⟨v232, rfl, ho0, hb⟩; refine ⟨_, rfl, ?_⟩; have n0_ := Aside0.mk (Kd.R_lower ho0 (below_size (by repeat (first | (with_reducible first | exact HB.out | apply below_alloc | apply pw_below_drewN | apply below_drew1) | exact HB.out)))); have n1_ := Aside0.mk (below_step (by repeat (first | (with_reducible first | exact HB.out | apply below_alloc | apply pw_below_drewN | apply below_drew1) | exact HB.out)) hb); clear HB; have HO233 := n0_; have HB := n1_; clear n0_ n1_; (try clear hb); (try clear hb2); (try clear hk); (try clear hi); (try clear ho0)) | ((with_reducible refine gate_callee (f := 78) rfl ?_); refine goesL_ (some 8) rfl rfl Try.func78 (by kernel_rfl) rfl #[.slice A1 l1.length c1] rfl (by (try simp only [List.map_toArray, List.map_cons, List.map_nil]); first | done | rfl | (simp only [List.length_drop, List.length_take]; rfl)) ?_; (with_reducible refine (scalars_set.calls k _ _ l1 t234 _ ?side1 ?side2 A4.out).mono ?_); (case side1 => repeat (first | exact (Kd.C_below HR1.out HB.out) | (with_reducible refine Kd.C_alloc ?_ _) | (with_reducible refine Kd.C_drewN ?_ _) | (with_reducible refine Kd.C_drew ?_))); (case side2 => exact HC1.out); rintro e w8 ⟨v235, rfl, ho0, hb⟩; refine ⟨_, rfl, ?_⟩; have n0_ := Aside0.mk (Kd.R_elder' (by (with_reducible repeat (first | apply Kd.R_alloc | apply Kd.R_drewN | apply Kd.R_drew)); exact HO233.out) (Kd.R_base ho0) hb); have n1_ := Aside0.mk (Kd.R_lower (Kd.R_new' ho0 (Kd.R_lt (by (with_reducible repeat (first | apply Kd.R_alloc | apply Kd.R_drewN | apply Kd.R_drew)); exact HO233.out))) (below_size (by repeat (first | (with_reducible first | exact HB.out | apply below_alloc | apply pw_below_drewN | apply below_drew1) | exact HB.out)))); have n2_ := Aside0.mk (below_step (by repeat (first | (with_reducible first | exact HB.out | apply below_alloc | apply pw_below_drewN | apply below_drew1) | exact HB.out)) hb); clear HO233; clear HB; have HO233 := n0_; have HO236 := n1_; have HB := n2_; clear n0_ n1_ n2_; (try clear hb); (try clear hb2); (try clear hk); (try clear hi); (try clear ho0); obtain ⟨Ao9, co9, eo9⟩ := Kd.R_slice HO233.out; subst eo9; obtain ⟨Ao10, co10, eo10⟩ := Kd.R_slice HO236.out; subst eo10) | ((with_reducible refine gate_callee (f := 84) rfl ?_); refine goesL_ (some 9) rfl rfl Try.func84 (by kernel_rfl) rfl #[.slice Ao9 t231.length co9, .slice Ao10 t234.length co10] rfl (by (try simp only [List.map_toArray, List.map_cons, List.map_nil]); first | done | rfl | (simp only [List.length_drop, List.length_take]; rfl)) ?_; (with_reducible refine (sets_Meet.calls k (fun k_ => some k_ = (.slice Ao9 t231.length co9 : Value).ownBlock) _ _ t231 (fun k_ => some k_ = (.slice Ao10 t234.length co10 : Value).ownBlock) _ _ t234 t237 _ ?side1 ?side2 A5.out).mono ?_); (case side1 => exact Kd.R_V (Kd.R_tight rfl (HO233.out))); (case side2 => exact Kd.R_V (Kd.R_tight rfl (HO236.out))); rintro e w11 ⟨v238, rfl, ho0, hb⟩; refine ⟨_, rfl, ?_⟩; have n0_ := Aside0.mk (Kd.R_elder' (by (with_reducible repeat (first | apply Kd.R_alloc | apply Kd.R_drewN | apply Kd.R_drew)); exact HO233.out) (Kd.R_base ho0) hb); have n1_ := Aside0.mk (Kd.R_elder' (by (with_reducible repeat (first | apply Kd.R_alloc | apply Kd.R_drewN | apply Kd.R_drew)); exact HO236.out) (Kd.R_base ho0) hb); have n2_ := Aside0.mk (Kd.R_lower (Kd.R_new' (Kd.R_new' (Kd.R_mono (ok' := fun k_ => True) ho0 (fun _ hk_ => trivial)) (Kd.R_lt (by (with_reducible repeat (first | apply Kd.R_alloc | apply Kd.R_drewN | apply Kd.R_drew)); exact HO233.out))) (Kd.R_lt (by (with_reducible repeat (first | apply Kd.R_alloc | apply Kd.R_drewN | apply Kd.R_drew)); exact HO236.out))) (below_size (by repeat (first | (with_reducible first | exact HB.out | apply below_alloc | apply pw_below_drewN | apply below_drew1) | exact HB.out)))); have n3_ := Aside0.mk (below_step (by repeat (first | (with_reducible first | exact HB.out | apply below_alloc | apply pw_below_drewN | apply below_drew1) | exact HB.out)) hb); clear HO233; clear HO236; clear HB; have HO233 := n0_; have HO236 := n1_; have HO239 := n2_; have HB := n3_; clear n0_ n1_ n2_ n3_; (try clear hb); (try clear hb2); (try clear hk); (try clear hi); (try clear ho0); obtain ⟨Ao12, co12, eo12⟩ := Kd.R_slice HO239.out; subst eo12) | ((with_reducible refine gate_callee (f := 72) rfl ?_); refine goesL_ (some 10) rfl rfl Try.func72 (by kernel_rfl) rfl #[.slice Ao12 t237.length co12] rfl (by (try simp only [List.map_toArray, List.map_cons, List.map_nil]); first | done | rfl | (simp only [List.length_drop, List.length_take]; rfl)) ?_; (with_reducible refine (scalars_back.calls k _ _ t237 t240 _ ?side1 ?side2 A6.out).mono ?_); (case side1 => repeat (first | exact (Kd.R_reads' HO239.out).2.2 | (with_reducible refine Kd.C_alloc ?_ _) | (with_reducible refine Kd.C_drewN ?_ _) | (with_reducible refine Kd.C_drew ?_))); (case side2 => exact (Kd.R_reads' HO239.out).2.1); rintro e w13 ⟨v241, rfl, ho0, hb⟩; refine ⟨_, rfl, ?_⟩; have n0_ := Aside0.mk (Kd.R_below (by (with_reducible repeat (first | apply Kd.R_alloc | apply Kd.R_drewN | apply Kd.R_drew)); exact HO233.out) hb); have n1_ := Aside0.mk (Kd.R_below (by (with_reducible repeat (first | apply Kd.R_alloc | apply Kd.R_drewN | apply Kd.R_drew)); exact HO236.out) hb); have n2_ := Aside0.mk (Kd.R_below (by (with_reducible repeat (first | apply Kd.R_alloc | apply Kd.R_drewN | apply Kd.R_drew)); exact HO239.out) hb); have n3_ := Aside0.mk (Kd.R_lower ho0 (below_size (by repeat (first | (with_reducible first | exact HB.out | apply below_alloc | apply pw_below_drewN | apply below_drew1) | exact HB.out)))); have n4_ := Aside0.mk (below_step (by repeat (first | (with_reducible first | exact HB.out | apply below_alloc | apply pw_below_drewN | apply below_drew1) | exact HB.out)) hb); clear HO233; clear HO236; clear HO239; clear HB; have HO233 := n0_; have HO236 := n1_; have HO239 := n2_; have HO242 := n3_; have HB := n4_; clear n0_ n1_ n2_ n3_ n4_; (try clear hb); (try clear hb2); (try clear hk); (try clear hi); (try clear ho0)))
  go_ret
  exact ⟨_, by first | rfl | (simp [errW_none, errW_some] <;> rfl) | (simp [*, errW_none, errW_some] <;> rfl), by (with_reducible repeat (first | apply Kd.R_alloc | apply Kd.R_drewN | apply Kd.R_drew)); exact HO242.out, by repeat (first | (with_reducible first | exact HB.out | apply below_alloc | apply pw_below_drewN | apply below_drew1) | exact HB.out)⟩
def sets_Not.l0 : Nat → Int → List (S72) → Int → List (S72) → Int → Int → Option ((List (S72)))
  | 0, _, _, _, _, _, _ => none
  | k + 1, x1, x5, x6, x9, x10, x11 => if x11 < x10 then (if 0 ≤ x11 then (if x11 < (x9.length : Int) then (if ((rd_T72 x9 x11).f0) > x6 then (if x5.length < 8796093022208 then (sets_Not.l0 k x1 (x5 ++ [(⟨x6, wrap64 (((rd_T72 x9 x11).f0) - 1)⟩ : S72)]) (wrap64 (((rd_T72 x9 x11).f1) + 1)) x9 x10 (wrap64 (x11 + 1))) else (none)) else (sets_Not.l0 k x1 x5 (wrap64 (((rd_T72 x9 x11).f1) + 1)) x9 x10 (wrap64 (x11 + 1)))) else (none)) else (none)) else (if x6 ≤ x1 then (if x5.length < 8796093022208 then (some (x5 ++ [(⟨x6, x1⟩ : S72)])) else (none)) else (some x5))
def sets_Not.f (k : Nat) (l0 : List (S72)) (a1 : Int) : Option ((List (S72))) := sets_Not.l0 k a1 ([] : List (S72)) 0 l0 (l0.length : Int) 0
set_option maxHeartbeats 8000000 in
set_option maxRecDepth 100000 in
theorem sets_Not.calls (k : Nat) (A0 : Option Addr) (c0 : Nat) (l0 : List (S72)) (a1 : Int) (r : List (S72)) (w : World) (hr0 : Kd.C k72 w A0 l0.length l0) (hc0 : l0.length ≤ c0) (h : sets_Not.f k l0 a1 = some r) :
    Calls Try.prog 85 #[.slice A0 l0.length c0, .int .i64 a1] w fun e w' => ∃ v0_ : Value, e = .returned (v0_) ∧ Kd.R k72 72 w' w.heap.size (fun _ => True) v0_ r ∧ Below w.heap.size w w' := by
  have hu72 := Try.underlying72
  have HR0 := Aside0.mk hr0
  have HC0 := Aside0.mk hc0
  clear hr0 hc0
  have HB := Aside0.mk (Below.refl w.heap.size w)
  have H : (sets_Not.l0 k a1 ([] : List (S72)) 0 l0 (l0.length : Int) 0) = some r := h
  clear h
  have H' := Aside0.mk H
  clear H
  go_enter Try.func85, Try.ntmps85
  go_wp2
  go_loopg [5, 6, 11] k (fun kq v5 v6 v11 w' => ∃ (x5_1 : List (S72)) (x6_1 : Int) (x11_1 : Int), v6 = .int .i64 x6_1 ∧ v11 = .int .i64 x11_1 ∧ Aside0 (sets_Not.l0 kq a1 x5_1 x6_1 l0 (l0.length : Int) x11_1 = some r) ∧ Aside0 (kq ≤ k) ∧ Aside0 (Kd.R k72 72 w' w.heap.size (fun _ => True) v5 x5_1) ∧ Aside0 (Below w.heap.size w w'))
  case atStart => exact ⟨(([] : List (S72))), (0), (0), (by first | rfl | (simp; done) | (simp [*]; done)), (by first | rfl | (simp; done) | (simp [*]; done)), H', ⟨Nat.le_refl _⟩, ⟨by first | exact Kd.R_nil _ _ _ _ _ | exact Kd.N_nil _ _ _ _ _ | exact Kd.V_nil _ _ _ _ _ | exact Kd.Q_nil _ _ _ _ _ | exact Kd.S_nil _ _ _ _ _⟩, ⟨by repeat (first | (with_reducible first | exact HB.out | apply below_alloc | apply pw_below_drewN | apply below_drew1) | exact HB.out)⟩⟩
  case round =>
    clear H'
    try clear p2
    obtain ⟨x5_1, x6_1, x11_1, rfl, rfl, HA, HK1, HO_5, HB⟩ := hrel
    cases gk with
    | zero => exact absurd HA.out (by simp [sets_Not.l0])
    | succ k1 =>
      have H := HA.out
      clear HA
      simp only [sets_Not.l0] at H
      by_cases c3 : x11_1 < (l0.length : Int)
      · rw [if_pos c3] at H
        have c3b0 : decide (x11_1 < (l0.length : Int)) = true := decide_eq_true c3
        clear c3
        by_cases c4 : 0 ≤ x11_1
        · rw [if_pos c4] at H
          have c4b0 : decide (0 ≤ x11_1) = true := decide_eq_true c4
          clear c4
          by_cases c5 : x11_1 < (l0.length : Int)
          · rw [if_pos c5] at H
            have c5b0 : decide (x11_1 < (l0.length : Int)) = true := decide_eq_true c5
            clear c5
            by_cases c6 : ((rd_T72 l0 x11_1).f0) > x6_1
            · rw [if_pos c6] at H
              have c6b0 : decide (x6_1 < ((rd_T72 l0 x11_1).f0)) = true := decide_eq_true c6
              clear c6
              by_cases c7 : x5_1.length < 8796093022208
              · rw [if_pos c7] at H
                have LMc7 := Aside0.mk c7
                clear c7
                obtain ⟨y245, hy245⟩ : ∃ y_ : List (S72), y_ = (x5_1 ++ [(⟨x6_1, wrap64 (((rd_T72 l0 x11_1).f0) - 1)⟩ : S72)]) := ⟨_, rfl⟩
                replace H : (sets_Not.l0 k1 a1 y245 (wrap64 (((rd_T72 l0 x11_1).f1) + 1)) l0 (l0.length : Int) (wrap64 (x11_1 + 1))) = some r := by first | (rw [hy245]; with_reducible exact H) | (have H2_ := (Option.bind_some _ _).symm.trans H; rw [hy245]; with_reducible exact H2_) | (have H2_ := (Option.bind_some _ _).symm.trans H; with_reducible exact H2_) | with_reducible exact H | (rw [hy245]; exact H) | exact H
                have Ny245 := Aside0.mk hy245
                clear hy245
                have H' := Aside0.mk H
                clear H
                have p243 : 0 ≤ (x11_1 : Int) := of_decide_eq_true (by first | (with_reducible assumption) | assumption)
                have q243 : x11_1 < (l0.length : Int) := of_decide_eq_true (by first | (with_reducible assumption) | assumption)
                obtain ⟨ad243, e243, hx243_0, hx243_1⟩ := at_T72 HR0.out x11_1 p243 q243
                cases e243
                replace hx243_0 := (HB.out.cell (World.block_lt_of_cell? w _ hx243_0)).trans hx243_0
                replace hx243_1 := (HB.out.cell (World.block_lt_of_cell? w _ hx243_1)).trans hx243_1
                replace p243 := eq_true p243
                replace q243 := eq_true q243
                go_wp2_with (first | ((with_reducible refine gate_dst (N := 8) rfl ?_); refine box_event ?hg (N := 8) ?hd (cs := #[.int .i64 0, .int .i64 0]) (t := 72) ?hr ?_; (case hd => rfl); (case hg => rfl); (case hr => first | (go_simp; done) | (go_simp; rfl)); intro gb244 hg w8 hbox hb; have n0_ := Aside0.mk (Kd.R_below (Kd.R_elderB (by (with_reducible repeat (first | apply Kd.R_alloc | apply Kd.R_drewN | apply Kd.R_drew)); exact HO_5.out) gb244 (Nat.le_of_eq hg.symm)) hb); have n1_ := Aside0.mk (below_step (by repeat (first | (with_reducible first | exact HB.out | apply below_alloc | apply pw_below_drewN | apply below_drew1) | exact HB.out)) hb); have n2_ := Aside0.mk (hbox); have n3_ := Aside0.mk ((by rw [hg]; exact (below_size (by repeat (first | (with_reducible first | exact HB.out | apply below_alloc | apply pw_below_drewN | apply below_drew1) | exact HB.out))) : w.heap.size ≤ gb244)); have n4_ := Aside0.mk ((by rw [hg]; exact (below_size (by repeat (first | (with_reducible first | exact HB.out | apply below_alloc | apply pw_below_drewN | apply below_drew1) | exact HB.out))) : w.heap.size ≤ gb244)); clear HO_5; clear HB; have HO_5 := n0_; have HB := n1_; have BK244 := n2_; have GW244 := n3_; have GE244 := n4_; clear n0_ n1_ n2_ n3_ n4_; clear hb hbox hg; have hcz9_0 : w8.cell? ⟨gb244, 0, none⟩ = some (.int .i64 0) := (blk_cell BK244.out 0).trans rfl; have hcz9_1 : w8.cell? ⟨gb244, 1, none⟩ = some (.int .i64 0) := (blk_cell BK244.out 1).trans rfl; have hfz9_0 := blk_frozen BK244.out 0; have hfz9_1 := blk_frozen BK244.out 1) | ((with_reducible refine gate_builtin (b := .append) (xs := #[.tmp 19, .tmp 25]) rfl ?_); at_builtin; refine Kd.R_append k72 (w0 := w) w.heap.size rfl (.tmp 19) (.tmp 25) 69 72 (.agg #[(.int .i64 0), (.int .i64 0)]) 16 rfl Try.underlying69 info72 rfl (by decide) (by omega) u5 x5_1 (⟨x6_1, wrap64 (((rd_T72 l0 x11_1).f0) - 1)⟩ : S72) [.int .i64 x6_1, .int .i64 (wrap64 (((rd_T72 l0 x11_1).f0) - 1))] (fun k_ => k_ ≠ gb244) (fun _ => False) rfl (by first | (go_simp; done) | (go_simp; rfl)) ?aP (fun _ hk => hk.elim) ?aF ?aO ?aB ?aS ?aL ?_; (case aP => exact k72_mkM _ _ _ (⟨x6_1, wrap64 (((rd_T72 l0 x11_1).f0) - 1)⟩ : S72)); (case aB => exact (by repeat (first | (with_reducible first | exact HB.out | apply below_alloc | apply pw_below_drewN | apply below_drew1 | refine below_set ?_ GE244.out) | exact HB.out))); (case aF => exact (fun k_ hk => Kd.freshB (g := gb244) (o := .cells #[.int .i64 ((rd_T72 l0 x11_1).f0), .int .i64 ((rd_T72 l0 x11_1).f1)] 72 (0, 0)) (by (with_reducible repeat (first | refine blk_drewN ?_ _ | refine blk_drew ?_ | refine blk_alloc ?_ _)); refine blk_put (cs := #[.int .i64 ((rd_T72 l0 x11_1).f0), .int .i64 0]) ?_ 1 _ rfl; (with_reducible repeat (first | refine blk_drewN ?_ _ | refine blk_drew ?_ | refine blk_alloc ?_ _)); refine blk_put (cs := #[.int .i64 0, .int .i64 0]) ?_ 0 _ rfl; (with_reducible repeat (first | refine blk_drewN ?_ _ | refine blk_drew ?_ | refine blk_alloc ?_ _)); exact BK244.out) k_ hk)); (case aO => exact (by (with_reducible repeat (first | apply Kd.R_alloc | apply Kd.R_drewN | apply Kd.R_drew)); exact Kd.R_mono (Kd.R_far (p := ⟨gb244, 1, none⟩) (Kd.R_far (p := ⟨gb244, 0, none⟩) (Kd.R_mono HO_5.out (fun k_ hk => (⟨hk, hk.2⟩ : _ ∧ k_ ≠ gb244))) (fun _ hk => hk.2) (.int .i64 ((rd_T72 l0 x11_1).f0))) (fun _ hk => hk.2) (.int .i64 ((rd_T72 l0 x11_1).f1))) (fun _ hk => hk.1.2))); (case aS => exact (below_size (by repeat (first | (with_reducible first | exact HB.out | apply below_alloc | apply pw_below_drewN | apply below_drew1 | refine below_set ?_ GE244.out) | exact HB.out)))); (case aL => have := LMc7.out; omega); intro v246 w10 ho hb hg hat; rw [← Ny245.out] at ho; have n0_ := Aside0.mk (blk_grown (g := gb244) (o := .cells #[.int .i64 ((rd_T72 l0 x11_1).f0), .int .i64 ((rd_T72 l0 x11_1).f1)] 72 (0, 0)) (by (with_reducible repeat (first | refine blk_drewN ?_ _ | refine blk_drew ?_ | refine blk_alloc ?_ _)); refine blk_put (cs := #[.int .i64 ((rd_T72 l0 x11_1).f0), .int .i64 0]) ?_ 1 _ rfl; (with_reducible repeat (first | refine blk_drewN ?_ _ | refine blk_drew ?_ | refine blk_alloc ?_ _)); refine blk_put (cs := #[.int .i64 0, .int .i64 0]) ?_ 0 _ rfl; (with_reducible repeat (first | refine blk_drewN ?_ _ | refine blk_drew ?_ | refine blk_alloc ?_ _)); exact BK244.out) hg (Kd.R_away HO_5.out (fun _ hk => hk.2))); have n1_ := Aside0.mk (hb); have n2_ := Aside0.mk (ho); clear BK244; clear HB; clear HO_5; have BK244 := n0_; have HB := n1_; have HO247 := n2_; clear n0_ n1_ n2_; clear ho hb hg hat; have hcz11_0 : w10.cell? ⟨gb244, 0, none⟩ = some (.int .i64 ((rd_T72 l0 x11_1).f0)) := (blk_cell BK244.out 0).trans rfl; have hcz11_1 : w10.cell? ⟨gb244, 1, none⟩ = some (.int .i64 ((rd_T72 l0 x11_1).f1)) := (blk_cell BK244.out 1).trans rfl; have hfz11_0 := blk_frozen BK244.out 0; have hfz11_1 := blk_frozen BK244.out 1))
                go_roundg k1
                case measure => have := HK1.out; omega
                case rel => exact ⟨(y245), (wrap64 (((rd_T72 l0 x11_1).f1) + 1)), (wrap64 (x11_1 + 1)), (by first | rfl | (simp; done) | (simp [*]; done)), (by first | rfl | (simp; done) | (simp [*]; done)), H', ⟨by have := HK1.out; omega⟩, ⟨by (with_reducible repeat (first | apply Kd.R_alloc | apply Kd.R_drewN | apply Kd.R_drew)); exact Kd.R_mono HO247.out (fun _ hk => trivial)⟩, ⟨by repeat (first | (with_reducible first | exact HB.out | apply below_alloc | apply pw_below_drewN | apply below_drew1 | refine below_set ?_ GE244.out) | exact HB.out)⟩⟩
              · rw [if_neg c7] at H
                exact absurd H (by simp)
            · rw [if_neg c6] at H
              have c6b0 : decide (x6_1 < ((rd_T72 l0 x11_1).f0)) = false := decide_eq_false c6
              clear c6
              have H' := Aside0.mk H
              clear H
              have p243 : 0 ≤ (x11_1 : Int) := of_decide_eq_true (by first | (with_reducible assumption) | assumption)
              have q243 : x11_1 < (l0.length : Int) := of_decide_eq_true (by first | (with_reducible assumption) | assumption)
              obtain ⟨ad243, e243, hx243_0, hx243_1⟩ := at_T72 HR0.out x11_1 p243 q243
              cases e243
              replace hx243_0 := (HB.out.cell (World.block_lt_of_cell? w _ hx243_0)).trans hx243_0
              replace hx243_1 := (HB.out.cell (World.block_lt_of_cell? w _ hx243_1)).trans hx243_1
              replace p243 := eq_true p243
              replace q243 := eq_true q243
              go_wp2_with (first | ((with_reducible refine gate_dst (N := 8) rfl ?_); refine box_event ?hg (N := 8) ?hd (cs := #[.int .i64 0, .int .i64 0]) (t := 72) ?hr ?_; (case hd => rfl); (case hg => rfl); (case hr => first | (go_simp; done) | (go_simp; rfl)); intro gb244 hg w12 hbox hb; have n0_ := Aside0.mk (Kd.R_below (Kd.R_elderB (by (with_reducible repeat (first | apply Kd.R_alloc | apply Kd.R_drewN | apply Kd.R_drew)); exact HO_5.out) gb244 (Nat.le_of_eq hg.symm)) hb); have n1_ := Aside0.mk (below_step (by repeat (first | (with_reducible first | exact HB.out | apply below_alloc | apply pw_below_drewN | apply below_drew1) | exact HB.out)) hb); have n2_ := Aside0.mk (hbox); have n3_ := Aside0.mk ((by rw [hg]; exact (below_size (by repeat (first | (with_reducible first | exact HB.out | apply below_alloc | apply pw_below_drewN | apply below_drew1) | exact HB.out))) : w.heap.size ≤ gb244)); have n4_ := Aside0.mk ((by rw [hg]; exact (below_size (by repeat (first | (with_reducible first | exact HB.out | apply below_alloc | apply pw_below_drewN | apply below_drew1) | exact HB.out))) : w.heap.size ≤ gb244)); clear HO_5; clear HB; have HO_5 := n0_; have HB := n1_; have BK244 := n2_; have GW244 := n3_; have GE244 := n4_; clear n0_ n1_ n2_ n3_ n4_; clear hb hbox hg; have hcz13_0 : w12.cell? ⟨gb244, 0, none⟩ = some (.int .i64 0) := (blk_cell BK244.out 0).trans rfl; have hcz13_1 : w12.cell? ⟨gb244, 1, none⟩ = some (.int .i64 0) := (blk_cell BK244.out 1).trans rfl; have hfz13_0 := blk_frozen BK244.out 0; have hfz13_1 := blk_frozen BK244.out 1))
              go_roundg k1
              case measure => have := HK1.out; omega
              case rel => exact ⟨(x5_1), (wrap64 (((rd_T72 l0 x11_1).f1) + 1)), (wrap64 (x11_1 + 1)), (by first | rfl | (simp; done) | (simp [*]; done)), (by first | rfl | (simp; done) | (simp [*]; done)), H', ⟨by have := HK1.out; omega⟩, ⟨by (with_reducible repeat (first | apply Kd.R_alloc | apply Kd.R_drewN | apply Kd.R_drew)); exact Kd.R_mono (Kd.R_far (p := ⟨gb244, 1, none⟩) (Kd.R_far (p := ⟨gb244, 0, none⟩) (Kd.R_mono HO_5.out (fun k_ hk => (⟨hk, hk.2⟩ : _ ∧ k_ ≠ gb244))) (fun _ hk => hk.2) (.int .i64 ((rd_T72 l0 x11_1).f0))) (fun _ hk => hk.2) (.int .i64 ((rd_T72 l0 x11_1).f1))) (fun _ hk => trivial)⟩, ⟨by repeat (first | (with_reducible first | exact HB.out | apply below_alloc | apply pw_below_drewN | apply below_drew1 | refine below_set ?_ GE244.out) | exact HB.out)⟩⟩
          · rw [if_neg c5] at H
            exact absurd H (by simp)
        · rw [if_neg c4] at H
          exact absurd H (by simp)
      · rw [if_neg c3] at H
        have c3b0 : decide (x11_1 < (l0.length : Int)) = false := decide_eq_false c3
        clear c3
        by_cases c14 : x6_1 ≤ a1
        · rw [if_pos c14] at H
          have c14b0 : decide (x6_1 ≤ a1) = true := decide_eq_true c14
          clear c14
          by_cases c15 : x5_1.length < 8796093022208
          · rw [if_pos c15] at H
            have LMc15 := Aside0.mk c15
            clear c15
            obtain ⟨y248, hy248⟩ : ∃ y_ : List (S72), y_ = (x5_1 ++ [(⟨x6_1, a1⟩ : S72)]) := ⟨_, rfl⟩
            replace H : (some y248) = some r := by first | (rw [hy248]; with_reducible exact H) | (have H2_ := (Option.bind_some _ _).symm.trans H; rw [hy248]; with_reducible exact H2_) | (have H2_ := (Option.bind_some _ _).symm.trans H; with_reducible exact H2_) | with_reducible exact H | (rw [hy248]; exact H) | exact H
            have Ny248 := Aside0.mk hy248
            clear hy248
            obtain rfl := Option.some.inj H
            go_wp2_with (first | ((with_reducible refine gate_builtin (b := .append) (xs := #[.tmp 34, .tmp 38]) rfl ?_); at_builtin; refine Kd.R_append k72 (w0 := w) w.heap.size rfl (.tmp 34) (.tmp 38) 69 72 (.agg #[(.int .i64 0), (.int .i64 0)]) 16 rfl Try.underlying69 info72 rfl (by decide) (by omega) u5 x5_1 (⟨x6_1, a1⟩ : S72) [.int .i64 x6_1, .int .i64 a1] (fun _ => True) (fun _ => False) rfl rfl ?aP (fun _ hk => hk.elim) ?aF ?aO ?aB ?aS ?aL ?_; (case aP => exact k72_mkM _ _ _ (⟨x6_1, a1⟩ : S72)); (case aB => exact (by repeat (first | (with_reducible first | exact HB.out | apply below_alloc | apply pw_below_drewN | apply below_drew1) | exact HB.out))); (case aF => exact (fun _ _ => trivial)); (case aO => exact (by (with_reducible repeat (first | apply Kd.R_alloc | apply Kd.R_drewN | apply Kd.R_drew)); exact HO_5.out)); (case aS => exact (below_size (by repeat (first | (with_reducible first | exact HB.out | apply below_alloc | apply pw_below_drewN | apply below_drew1) | exact HB.out)))); (case aL => have := LMc15.out; omega); intro v249 w16 ho hb hg hat; rw [← Ny248.out] at ho; have n0_ := Aside0.mk (hb); have n1_ := Aside0.mk (ho); clear HB; clear HO_5; have HB := n0_; have HO250 := n1_; clear n0_ n1_; clear ho hb hg hat))
            go_ret
            exact ⟨_, by first | rfl | (simp [errW_none, errW_some] <;> rfl) | (simp [*, errW_none, errW_some] <;> rfl), by (with_reducible repeat (first | apply Kd.R_alloc | apply Kd.R_drewN | apply Kd.R_drew)); exact HO250.out, by repeat (first | (with_reducible first | exact HB.out | apply below_alloc | apply pw_below_drewN | apply below_drew1) | exact HB.out)⟩
          · rw [if_neg c15] at H
            exact absurd H (by simp)
        · rw [if_neg c14] at H
          have c14b0 : decide (x6_1 ≤ a1) = false := decide_eq_false c14
          clear c14
          obtain rfl := Option.some.inj H
          go_wp2
          go_ret
          exact ⟨_, by first | rfl | (simp [errW_none, errW_some] <;> rfl) | (simp [*, errW_none, errW_some] <;> rfl), by (with_reducible repeat (first | apply Kd.R_alloc | apply Kd.R_drewN | apply Kd.R_drew)); exact HO_5.out, by repeat (first | (with_reducible first | exact HB.out | apply below_alloc | apply pw_below_drewN | apply below_drew1) | exact HB.out)⟩
def scalars_Minus.f (k : Nat) (l0 : List (S56)) (l1 : List (S56)) : Option ((List (S56))) := (scalars_set.f k l0).bind fun t251 => ((scalars_set.f k l1).bind fun t254 => ((sets_Not.f k t254 1073741823).bind fun t257 => ((sets_Meet.f k t251 t257).bind fun t260 => ((scalars_back.f k t260).bind fun t263 => (some t263)))))
set_option maxHeartbeats 8000000 in
set_option maxRecDepth 100000 in
theorem scalars_Minus.calls (k : Nat) (A0 : Option Addr) (c0 : Nat) (l0 : List (S56)) (A1 : Option Addr) (c1 : Nat) (l1 : List (S56)) (r : List (S56)) (w : World) (hr0 : Kd.C k56 w A0 l0.length l0) (hc0 : l0.length ≤ c0) (hr1 : Kd.C k56 w A1 l1.length l1) (hc1 : l1.length ≤ c1) (h : scalars_Minus.f k l0 l1 = some r) :
    Calls Try.prog 62 #[.slice A0 l0.length c0, .slice A1 l1.length c1] w fun e w' => ∃ v0_ : Value, e = .returned (v0_) ∧ Kd.R k56 56 w' w.heap.size (fun _ => True) v0_ r ∧ Below w.heap.size w w' := by
  have HR0 := Aside0.mk hr0
  have HC0 := Aside0.mk hc0
  clear hr0 hc0
  have HR1 := Aside0.mk hr1
  have HC1 := Aside0.mk hc1
  clear hr1 hc1
  have HB := Aside0.mk (Below.refl w.heap.size w)
  have H : ((scalars_set.f k l0).bind fun t251 => ((scalars_set.f k l1).bind fun t254 => ((sets_Not.f k t254 1073741823).bind fun t257 => ((sets_Meet.f k t251 t257).bind fun t260 => ((scalars_back.f k t260).bind fun t263 => (some t263)))))) = some r := h
  clear h
  replace H := Option.bind_eq_some_iff.mp H
  obtain ⟨t251, A30, H⟩ := H
  replace H : ((scalars_set.f k l1).bind fun t254 => ((sets_Not.f k t254 1073741823).bind fun t257 => ((sets_Meet.f k t251 t257).bind fun t260 => ((scalars_back.f k t260).bind fun t263 => (some t263))))) = some r := H
  have A3 := Aside0.mk A30
  clear A30
  replace H := Option.bind_eq_some_iff.mp H
  obtain ⟨t254, A40, H⟩ := H
  replace H : ((sets_Not.f k t254 1073741823).bind fun t257 => ((sets_Meet.f k t251 t257).bind fun t260 => ((scalars_back.f k t260).bind fun t263 => (some t263)))) = some r := H
  have A4 := Aside0.mk A40
  clear A40
  replace H := Option.bind_eq_some_iff.mp H
  obtain ⟨t257, A50, H⟩ := H
  replace H : ((sets_Meet.f k t251 t257).bind fun t260 => ((scalars_back.f k t260).bind fun t263 => (some t263))) = some r := H
  have A5 := Aside0.mk A50
  clear A50
  replace H := Option.bind_eq_some_iff.mp H
  obtain ⟨t260, A60, H⟩ := H
  replace H : ((scalars_back.f k t260).bind fun t263 => (some t263)) = some r := H
  have A6 := Aside0.mk A60
  clear A60
  replace H := Option.bind_eq_some_iff.mp H
  obtain ⟨t263, A70, H⟩ := H
  replace H : (some t263) = some r := H
  have A7 := Aside0.mk A70
  clear A70
  obtain rfl := Option.some.inj H
  go_enter Try.func62, Try.ntmps62
  go_wp2_with (first | ((with_reducible refine gate_callee (f := 78) rfl ?_); refine goesL_ (some 6) rfl rfl Try.func78 (by kernel_rfl) rfl #[.slice A0 l0.length c0] rfl (by (try simp only [List.map_toArray, List.map_cons, List.map_nil]); first | done | rfl | (simp only [List.length_drop, List.length_take]; rfl)) ?_; (with_reducible refine (scalars_set.calls k _ _ l0 t251 _ ?side1 ?side2 A3.out).mono ?_); (case side1 => repeat (first | exact HR0.out | (with_reducible refine Kd.C_alloc ?_ _) | (with_reducible refine Kd.C_drewN ?_ _) | (with_reducible refine Kd.C_drew ?_))); (case side2 => exact HC0.out); rintro e w8 ⟨v252, rfl, ho0, hb⟩; refine ⟨_, rfl, ?_⟩; have n0_ := Aside0.mk (Kd.R_lower ho0 (below_size (by repeat (first | (with_reducible first | exact HB.out | apply below_alloc | apply pw_below_drewN | apply below_drew1) | exact HB.out)))); have n1_ := Aside0.mk (below_step (by repeat (first | (with_reducible first | exact HB.out | apply below_alloc | apply pw_below_drewN | apply below_drew1) | exact HB.out)) hb); clear HB; have HO253 := n0_; have HB := n1_; clear n0_ n1_; (try clear hb); (try clear hb2); (try clear hk); (try clear hi); (try clear ho0)) | ((with_reducible refine gate_callee (f := 78) rfl ?_); refine goesL_ (some 8) rfl rfl Try.func78 (by kernel_rfl) rfl #[.slice A1 l1.length c1] rfl (by (try simp only [List.map_toArray, List.map_cons, List.map_nil]); first | done | rfl | (simp only [List.length_drop, List.length_take]; rfl)) ?_; (with_reducible refine (scalars_set.calls k _ _ l1 t254 _ ?side1 ?side2 A4.out).mono ?_); (case side1 => repeat (first | exact (Kd.C_below HR1.out HB.out) | (with_reducible refine Kd.C_alloc ?_ _) | (with_reducible refine Kd.C_drewN ?_ _) | (with_reducible refine Kd.C_drew ?_))); (case side2 => exact HC1.out); rintro e w9 ⟨v255, rfl, ho0, hb⟩; refine ⟨_, rfl, ?_⟩; have n0_ := Aside0.mk (Kd.R_elder' (by (with_reducible repeat (first | apply Kd.R_alloc | apply Kd.R_drewN | apply Kd.R_drew)); exact HO253.out) (Kd.R_base ho0) hb); have n1_ := Aside0.mk (Kd.R_lower (Kd.R_new' ho0 (Kd.R_lt (by (with_reducible repeat (first | apply Kd.R_alloc | apply Kd.R_drewN | apply Kd.R_drew)); exact HO253.out))) (below_size (by repeat (first | (with_reducible first | exact HB.out | apply below_alloc | apply pw_below_drewN | apply below_drew1) | exact HB.out)))); have n2_ := Aside0.mk (below_step (by repeat (first | (with_reducible first | exact HB.out | apply below_alloc | apply pw_below_drewN | apply below_drew1) | exact HB.out)) hb); clear HO253; clear HB; have HO253 := n0_; have HO256 := n1_; have HB := n2_; clear n0_ n1_ n2_; (try clear hb); (try clear hb2); (try clear hk); (try clear hi); (try clear ho0); obtain ⟨Ao10, co10, eo10⟩ := Kd.R_slice HO256.out; subst eo10) | ((with_reducible refine gate_callee (f := 85) rfl ?_); refine goesL_ (some 9) rfl rfl Try.func85 (by kernel_rfl) rfl #[.slice Ao10 t254.length co10, .int .i64 1073741823] rfl (by (try simp only [List.map_toArray, List.map_cons, List.map_nil]); first | done | rfl | (simp only [List.length_drop, List.length_take]; rfl)) ?_; (with_reducible refine (sets_Not.calls k _ _ t254 1073741823 t257 _ ?side1 ?side2 A5.out).mono ?_); (case side1 => repeat (first | exact (Kd.R_reads' HO256.out).2.2 | (with_reducible refine Kd.C_alloc ?_ _) | (with_reducible refine Kd.C_drewN ?_ _) | (with_reducible refine Kd.C_drew ?_))); (case side2 => exact (Kd.R_reads' HO256.out).2.1); rintro e w11 ⟨v258, rfl, ho0, hb⟩; refine ⟨_, rfl, ?_⟩; have n0_ := Aside0.mk (Kd.R_elder' (by (with_reducible repeat (first | apply Kd.R_alloc | apply Kd.R_drewN | apply Kd.R_drew)); exact HO253.out) (Kd.R_base ho0) hb); have n1_ := Aside0.mk (Kd.R_elder' (by (with_reducible repeat (first | apply Kd.R_alloc | apply Kd.R_drewN | apply Kd.R_drew)); exact HO256.out) (Kd.R_base ho0) hb); have n2_ := Aside0.mk (Kd.R_lower (Kd.R_new' (Kd.R_new' ho0 (Kd.R_lt (by (with_reducible repeat (first | apply Kd.R_alloc | apply Kd.R_drewN | apply Kd.R_drew)); exact HO253.out))) (Kd.R_lt (by (with_reducible repeat (first | apply Kd.R_alloc | apply Kd.R_drewN | apply Kd.R_drew)); exact HO256.out))) (below_size (by repeat (first | (with_reducible first | exact HB.out | apply below_alloc | apply pw_below_drewN | apply below_drew1) | exact HB.out)))); have n3_ := Aside0.mk (below_step (by repeat (first | (with_reducible first | exact HB.out | apply below_alloc | apply pw_below_drewN | apply below_drew1) | exact HB.out)) hb); clear HO253; clear HO256; clear HB; have HO253 := n0_; have HO256 := n1_; have HO259 := n2_; have HB := n3_; clear n0_ n1_ n2_ n3_; (try clear hb); (try clear hb2); (try clear hk); (try clear hi); (try clear ho0); obtain ⟨Ao12, co12, eo12⟩ := Kd.R_slice HO253.out; subst eo12; obtain ⟨Ao13, co13, eo13⟩ := Kd.R_slice HO259.out; subst eo13) | ((with_reducible refine gate_callee (f := 84) rfl ?_); refine goesL_ (some 10) rfl rfl Try.func84 (by kernel_rfl) rfl #[.slice Ao12 t251.length co12, .slice Ao13 t257.length co13] rfl (by (try simp only [List.map_toArray, List.map_cons, List.map_nil]); first | done | rfl | (simp only [List.length_drop, List.length_take]; rfl)) ?_; (with_reducible refine (sets_Meet.calls k (fun k_ => some k_ = (.slice Ao12 t251.length co12 : Value).ownBlock) _ _ t251 (fun k_ => some k_ = (.slice Ao13 t257.length co13 : Value).ownBlock) _ _ t257 t260 _ ?side1 ?side2 A6.out).mono ?_); (case side1 => exact Kd.R_V (Kd.R_tight rfl (HO253.out))); (case side2 => exact Kd.R_V (Kd.R_tight rfl (HO259.out))); rintro e w14 ⟨v261, rfl, ho0, hb⟩; refine ⟨_, rfl, ?_⟩; have n0_ := Aside0.mk (Kd.R_elder' (by (with_reducible repeat (first | apply Kd.R_alloc | apply Kd.R_drewN | apply Kd.R_drew)); exact HO253.out) (Kd.R_base ho0) hb); have n1_ := Aside0.mk (Kd.R_elder' (by (with_reducible repeat (first | apply Kd.R_alloc | apply Kd.R_drewN | apply Kd.R_drew)); exact HO256.out) (Kd.R_base ho0) hb); have n2_ := Aside0.mk (Kd.R_elder' (by (with_reducible repeat (first | apply Kd.R_alloc | apply Kd.R_drewN | apply Kd.R_drew)); exact HO259.out) (Kd.R_base ho0) hb); have n3_ := Aside0.mk (Kd.R_lower (Kd.R_new' (Kd.R_new' (Kd.R_new' (Kd.R_mono (ok' := fun k_ => True) ho0 (fun _ hk_ => trivial)) (Kd.R_lt (by (with_reducible repeat (first | apply Kd.R_alloc | apply Kd.R_drewN | apply Kd.R_drew)); exact HO253.out))) (Kd.R_lt (by (with_reducible repeat (first | apply Kd.R_alloc | apply Kd.R_drewN | apply Kd.R_drew)); exact HO256.out))) (Kd.R_lt (by (with_reducible repeat (first | apply Kd.R_alloc | apply Kd.R_drewN | apply Kd.R_drew)); exact HO259.out))) (below_size (by repeat (first | (with_reducible first | exact HB.out | apply below_alloc | apply pw_below_drewN | apply below_drew1) | exact HB.out)))); have n4_ := Aside0.mk (below_step (by repeat (first | (with_reducible first | exact HB.out | apply below_alloc | apply pw_below_drewN | apply below_drew1) | exact HB.out)) hb); clear HO253; clear HO256; clear HO259; clear HB; have HO253 := n0_; have HO256 := n1_; have HO259 := n2_; have HO262 := n3_; have HB := n4_; clear n0_ n1_ n2_ n3_ n4_; (try clear hb); (try clear hb2); (try clear hk); (try clear hi); (try clear ho0); obtain ⟨Ao15, co15, eo15⟩ := Kd.R_slice HO262.out; subst eo15) | ((with_reducible refine gate_callee (f := 72) rfl ?_); refine goesL_ (some 11) rfl rfl Try.func72 (by kernel_rfl) rfl #[.slice Ao15 t260.length co15] rfl (by (try simp only [List.map_toArray, List.map_cons, List.map_nil]); first | done | rfl | (simp only [List.length_drop, List.length_take]; rfl)) ?_; (with_reducible refine (scalars_back.calls k _ _ t260 t263 _ ?side1 ?side2 A7.out).mono ?_); (case side1 => repeat (first | exact (Kd.R_reads' HO262.out).2.2 | (with_reducible refine Kd.C_alloc ?_ _) | (with_reducible refine Kd.C_drewN ?_ _) | (with_reducible refine Kd.C_drew ?_))); (case side2 => exact (Kd.R_reads' HO262.out).2.1); rintro e w16 ⟨v264, rfl, ho0, hb⟩; refine ⟨_, rfl, ?_⟩; have n0_ := Aside0.mk (Kd.R_below (by (with_reducible repeat (first | apply Kd.R_alloc | apply Kd.R_drewN | apply Kd.R_drew)); exact HO253.out) hb); have n1_ := Aside0.mk (Kd.R_below (by (with_reducible repeat (first | apply Kd.R_alloc | apply Kd.R_drewN | apply Kd.R_drew)); exact HO256.out) hb); have n2_ := Aside0.mk (Kd.R_below (by (with_reducible repeat (first | apply Kd.R_alloc | apply Kd.R_drewN | apply Kd.R_drew)); exact HO259.out) hb); have n3_ := Aside0.mk (Kd.R_below (by (with_reducible repeat (first | apply Kd.R_alloc | apply Kd.R_drewN | apply Kd.R_drew)); exact HO262.out) hb); have n4_ := Aside0.mk (Kd.R_lower ho0 (below_size (by repeat (first | (with_reducible first | exact HB.out | apply below_alloc | apply pw_below_drewN | apply below_drew1) | exact HB.out)))); have n5_ := Aside0.mk (below_step (by repeat (first | (with_reducible first | exact HB.out | apply below_alloc | apply pw_below_drewN | apply below_drew1) | exact HB.out)) hb); clear HO253; clear HO256; clear HO259; clear HO262; clear HB; have HO253 := n0_; have HO256 := n1_; have HO259 := n2_; have HO262 := n3_; have HO265 := n4_; have HB := n5_; clear n0_ n1_ n2_ n3_ n4_ n5_; (try clear hb); (try clear hb2); (try clear hk); (try clear hi); (try clear ho0)))
  go_ret
  exact ⟨_, by first | rfl | (simp [errW_none, errW_some] <;> rfl) | (simp [*, errW_none, errW_some] <;> rfl), by (with_reducible repeat (first | apply Kd.R_alloc | apply Kd.R_drewN | apply Kd.R_drew)); exact HO265.out, by repeat (first | (with_reducible first | exact HB.out | apply below_alloc | apply pw_below_drewN | apply below_drew1) | exact HB.out)⟩
end Go.Proofs.Ytddffjhodiengaa.Q
