/- Words and walks of this claim, of the text Bx48. -/
import Derived.Test.YtkcklnmbeinfkaaKlQW0
import Derived.Test.YtkcklnmbeinfkaaKlBx0
import Derived.Test.YtkcklnmbeinfkaaKlBx44
namespace Go.Proofs.Ytkcklnmbeinfkaa.B
open Go.RowKit Go.Proofs.YtkcklnmbeinfkaaW.PrintWords Go.Proofs.YtkcklnmbeinfkaaW.PrintLast Go.Proofs.YtkcklnmbeinfkaaW.PrintMore
attribute [local go_sem] max2_int min2_int max_two min_two max_three min_three max_four min_four
set_option linter.unusedVariables false
set_option linter.unusedSimpArgs false
def ownOwnRanges.m1 (j : Nat) : List Value := [.int .i64 (-(j : Int) - 5), .int .i64 0]
def ownOwnRanges.m2 (j : Nat) : List Value := [.int .i64 ((j : Int) + 1), .int .i64 0]
def ownOwnSpans.m1 (j : Nat) : List Value := [.int .i64 (-(j : Int) - 5), .int .i64 0]
def ownOwnSpans.m2 (j : Nat) : List Value := [.int .i64 ((j : Int) + 1), .int .i64 0]
def leadtrailref04_Has.l0 : Nat → Int → Int → List (S102) → Option (Bool)
 | 0, _, _, _ => none
 | k + 1, x1, x6, x8 => if x6 < (x8.length : Int) then (if 0 ≤ x6 then (if x1 ≥ ((rd_T102 x8 x6).f0) then (if x1 ≤ ((rd_T102 x8 x6).f1) then (some true) else (leadtrailref04_Has.l0 k x1 (wrap64 (x6 + 1)) x8)) else (leadtrailref04_Has.l0 k x1 (wrap64 (x6 + 1)) x8)) else (none)) else (some false)
def leadtrailref04_Has.f (k : Nat) (l0 : List (S102)) (a1 : Int) : Option (Bool) := (leadtrailref04_set.f k l0).bind fun t1370 => (leadtrailref04_Has.l0 k a1 0 t1370)
set_option maxHeartbeats 8000000 in
set_option maxRecDepth 100000 in
theorem leadtrailref04_Has.calls (k : Nat) (A0 : Option Addr) (c0 : Nat) (l0 : List (S102)) (a1 : Int) (r : Bool) (w : World) (hr0 : Kd.C k102 w A0 l0.length l0) (hc0 : l0.length ≤ c0) (h : leadtrailref04_Has.f k l0 a1 = some r) :
 Calls Try.prog 72 #[.slice A0 l0.length c0, .int .i64 a1] w fun e w' => e = .returned (.bool r) ∧ Below w.heap.size w w' := by
 have HR0 := zk hr0; have HC0 := zk hc0; clear hr0 hc0; have HB := zk (Below.refl w.heap.size w); have H : ((leadtrailref04_set.f k l0).bind fun t1370 => (leadtrailref04_Has.l0 k a1 0 t1370)) = some r := h; clear h; replace H := Option.bind_eq_some_iff.mp H; obtain ⟨t1370, A30, H⟩ := H; replace H : (leadtrailref04_Has.l0 k a1 0 t1370) = some r := H; have A3 := zk A30; clear A30; have H' := zk H; clear H; go_enter Try.func72, Try.ntmps72
 go_wp2_with (first | ((with_reducible refine gate_callee (f := 113) rfl ?_); refine goesL_ (some 8) rfl rfl Try.func113 zz rfl #[.slice A0 l0.length c0] rfl zM ?_; (with_reducible refine (leadtrailref04_set.calls k (fun k_ => k_ < w.heap.size) _ _ l0 t1370 _ ?side1 A3.out).mono ?_); (case side1 => exact Kd.V_mk HC0.out (Kd.F_below (Kd.C_F k102_heap HR0.out) (zU HB.out))); rintro e w4 ⟨v1371, rfl, ho0, hb⟩; refine ⟨_, rfl, ?_⟩; have HO1372 := zk (Kd.V_lower (Kd.V_mono (ok' := fun k_ => True) ho0 (fun k_ hk_ => trivial)) (below_size (zU HB.out))); replace HB := zk (below_step (zU HB.out) hb);  (try clear hb); (try clear hb2); (try clear hk); (try clear hi); (try clear ho0)))
 go_loopg [6] k (fun kq v6 w' => ∃ (x6_1 : Int), v6 = .int .i64 x6_1 ∧ Aside0 (leadtrailref04_Has.l0 kq a1 x6_1 t1370 = some r) ∧ Aside0 (kq ≤ k) ∧ Aside0 (Kd.V k102 102 w' w.heap.size (fun _ => True) v1371 t1370) ∧ Aside0 (Below w.heap.size w w'))
 case atStart => exact ⟨(0), zR, H', ⟨Nat.le_refl _⟩, ⟨by (with_reducible repeat (first | apply Kd.V_alloc | apply Kd.V_drewN | apply Kd.V_drew)); exact HO1372.out⟩, ⟨zU HB.out⟩⟩
 case round =>
  clear H'; (try clear c1); (try clear p2); obtain ⟨x6_1, rfl, HA, HK1, HO_8, HB⟩ := hrel
  cases gk with
  | zero => exact absurd HA.out (by simp [leadtrailref04_Has.l0])
  | succ k1 =>
   have H := HA.out; clear HA; simp only [leadtrailref04_Has.l0] at H; by_cases c5 : x6_1 < (t1370.length : Int)
   ·rw [if_pos c5] at H; have c5b0 : decide (x6_1 < (t1370.length : Int)) = true := decide_eq_true c5; clear c5; by_cases c6 : 0 ≤ x6_1
    ·rw [if_pos c6] at H; have c6b0 : decide (0 ≤ x6_1) = true := decide_eq_true c6; clear c6; by_cases c7 : a1 ≥ ((rd_T102 t1370 x6_1).f0)
     ·rw [if_pos c7] at H; have c7b0 : decide (((rd_T102 t1370 x6_1).f0) ≤ a1) = true := decide_eq_true c7; clear c7; by_cases c8 : a1 ≤ ((rd_T102 t1370 x6_1).f1)
      ·rw [if_pos c8] at H; have c8b0 : decide (a1 ≤ ((rd_T102 t1370 x6_1).f1)) = true := decide_eq_true c8; clear c8; obtain rfl := Option.some.inj H; obtain ⟨Ao9, co9, eo9⟩ := Kd.V_slice HO_8.out; subst eo9; have p1373 : 0 ≤ (x6_1 : Int) := zT; have q1373 : x6_1 < (t1370.length : Int) := zT; obtain ⟨ad1373, e1373, hx1373_0, hx1373_1⟩ := at_T102 (Kd.V_reads' HO_8.out).2.2 x6_1 p1373 q1373; cases e1373; replace p1373 := eq_true p1373; replace q1373 := eq_true q1373; have p1374 : 0 ≤ (x6_1 : Int) := zT; have q1374 : x6_1 < (t1370.length : Int) := zT; obtain ⟨ad1374, e1374, hx1374_0, hx1374_1⟩ := at_T102 (Kd.V_reads' HO_8.out).2.2 x6_1 p1374 q1374; obtain rfl : ad1373 = ad1374 := (by injection e1374); replace p1374 := eq_true p1374; replace q1374 := eq_true q1374; go_wp2
       go_ret
       exact ⟨ze, zU HB.out⟩
      ·rw [if_neg c8] at H; have c8b0 : decide (a1 ≤ ((rd_T102 t1370 x6_1).f1)) = false := decide_eq_false c8; clear c8; have H' := zk H; clear H; obtain ⟨Ao10, co10, eo10⟩ := Kd.V_slice HO_8.out; subst eo10; have p1373 : 0 ≤ (x6_1 : Int) := zT; have q1373 : x6_1 < (t1370.length : Int) := zT; obtain ⟨ad1373, e1373, hx1373_0, hx1373_1⟩ := at_T102 (Kd.V_reads' HO_8.out).2.2 x6_1 p1373 q1373; cases e1373; replace p1373 := eq_true p1373; replace q1373 := eq_true q1373; have p1374 : 0 ≤ (x6_1 : Int) := zT; have q1374 : x6_1 < (t1370.length : Int) := zT; obtain ⟨ad1374, e1374, hx1374_0, hx1374_1⟩ := at_T102 (Kd.V_reads' HO_8.out).2.2 x6_1 p1374 q1374; obtain rfl : ad1373 = ad1374 := (by injection e1374); replace p1374 := eq_true p1374; replace q1374 := eq_true q1374; go_wp2
       go_roundg k1
       case measure => have := HK1.out; omega
       case rel => exact ⟨(wrap64 (x6_1 + 1)), zR, H', ⟨by have := HK1.out; omega⟩, ⟨by (with_reducible repeat (first | apply Kd.V_alloc | apply Kd.V_drewN | apply Kd.V_drew)); exact HO_8.out⟩, ⟨zU HB.out⟩⟩
     ·rw [if_neg c7] at H; have c7b0 : decide (((rd_T102 t1370 x6_1).f0) ≤ a1) = false := decide_eq_false c7; clear c7; have H' := zk H; clear H; obtain ⟨Ao11, co11, eo11⟩ := Kd.V_slice HO_8.out; subst eo11; have p1373 : 0 ≤ (x6_1 : Int) := zT; have q1373 : x6_1 < (t1370.length : Int) := zT; obtain ⟨ad1373, e1373, hx1373_0, hx1373_1⟩ := at_T102 (Kd.V_reads' HO_8.out).2.2 x6_1 p1373 q1373; cases e1373; replace p1373 := eq_true p1373; replace q1373 := eq_true q1373; go_wp2
      go_roundg k1
      case measure => have := HK1.out; omega
      case rel => exact ⟨(wrap64 (x6_1 + 1)), zR, H', ⟨by have := HK1.out; omega⟩, ⟨by (with_reducible repeat (first | apply Kd.V_alloc | apply Kd.V_drewN | apply Kd.V_drew)); exact HO_8.out⟩, ⟨zU HB.out⟩⟩
    ·rw [if_neg c6] at H; exact absurd H (by simp)
   ·rw [if_neg c5] at H; have c5b0 : decide (x6_1 < (t1370.length : Int)) = false := decide_eq_false c5; clear c5; obtain rfl := Option.some.inj H; obtain ⟨Ao12, co12, eo12⟩ := Kd.V_slice HO_8.out; subst eo12; go_wp2
    go_ret
    exact ⟨ze, zU HB.out⟩
end Go.Proofs.Ytkcklnmbeinfkaa.B
