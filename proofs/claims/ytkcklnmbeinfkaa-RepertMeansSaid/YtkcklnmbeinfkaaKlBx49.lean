/- Words and walks of this claim, of the text Bx49. -/
import Derived.Test.YtkcklnmbeinfkaaKlQW0
import Derived.Test.YtkcklnmbeinfkaaKlBx0
import Derived.Test.YtkcklnmbeinfkaaKlBx44
namespace Go.Proofs.Ytkcklnmbeinfkaa.B
open Go.RowKit Go.Proofs.YtkcklnmbeinfkaaW.PrintWords Go.Proofs.YtkcklnmbeinfkaaW.PrintLast Go.Proofs.YtkcklnmbeinfkaaW.PrintMore
attribute [local go_sem] max2_int min2_int max_two min_two max_three min_three max_four min_four
set_option linter.unusedVariables false
set_option linter.unusedSimpArgs false
def leadtrailref04_Size.l0 : Nat → Int → Int → List (S102) → Option (Int)
 | 0, _, _, _ => none
 | k + 1, x3, x5, x7 => if x5 < (x7.length : Int) then (if 0 ≤ x5 then (leadtrailref04_Size.l0 k (wrap64 (x3 + (wrap64 ((wrap64 (((rd_T102 x7 x5).f1) - ((rd_T102 x7 x5).f0))) + 1)))) (wrap64 (x5 + 1)) x7) else (none)) else (some x3)
def leadtrailref04_Size.f (k : Nat) (l0 : List (S102)) : Option (Int) := (leadtrailref04_set.f k l0).bind fun t1375 => (leadtrailref04_Size.l0 k 0 0 t1375)
set_option maxHeartbeats 8000000 in
set_option maxRecDepth 100000 in
theorem leadtrailref04_Size.calls (k : Nat) (A0 : Option Addr) (c0 : Nat) (l0 : List (S102)) (r : Int) (w : World) (hr0 : Kd.C k102 w A0 l0.length l0) (hc0 : l0.length ≤ c0) (h : leadtrailref04_Size.f k l0 = some r) :
 Calls Try.prog 74 #[.slice A0 l0.length c0] w fun e w' => e = .returned (.int .i64 r) ∧ Below w.heap.size w w' := by
 have HR0 := zk hr0; have HC0 := zk hc0; clear hr0 hc0; have HB := zk (Below.refl w.heap.size w); have H : ((leadtrailref04_set.f k l0).bind fun t1375 => (leadtrailref04_Size.l0 k 0 0 t1375)) = some r := h; clear h; replace H := Option.bind_eq_some_iff.mp H; obtain ⟨t1375, A20, H⟩ := H; replace H : (leadtrailref04_Size.l0 k 0 0 t1375) = some r := H; have A2 := zk A20; clear A20; have H' := zk H; clear H; go_enter Try.func74, Try.ntmps74
 go_wp2_with (first | (go_at_call 113; (with_reducible refine (leadtrailref04_set.calls k (fun k_ => k_ < w.heap.size) _ _ l0 t1375 _ ?side1 A2.out).mono ?_); (case side1 => exact Kd.V_mk HC0.out (Kd.F_below (Kd.C_F k102_heap HR0.out) (zU HB.out))); rintro e w3 ⟨v1376, rfl, ho0, hb⟩; have HO1377 := zk (Kd.V_lower (Kd.V_mono (ok' := fun k_ => True) ho0 (fun k_ hk_ => trivial)) (below_size (zU HB.out))); replace HB := zk (below_step (zU HB.out) hb);  (try clear hb); (try clear hb2); (try clear hk); (try clear hi); (try clear ho0)))
 repeat (go_quiet (first | (go_at_call 113; (with_reducible refine (leadtrailref04_set.calls k (fun k_ => k_ < w.heap.size) _ _ l0 t1375 _ ?side1 A2.out).mono ?_); (case side1 => exact Kd.V_mk HC0.out (Kd.F_below (Kd.C_F k102_heap HR0.out) (zU HB.out))); rintro e w3 ⟨v1376, rfl, ho0, hb⟩; have HO1377 := zk (Kd.V_lower (Kd.V_mono (ok' := fun k_ => True) ho0 (fun k_ hk_ => trivial)) (below_size (zU HB.out))); replace HB := zk (below_step (zU HB.out) hb);  (try clear hb); (try clear hb2); (try clear hk); (try clear hi); (try clear ho0))); try go_wp2_with (first | (go_at_call 113; (with_reducible refine (leadtrailref04_set.calls k (fun k_ => k_ < w.heap.size) _ _ l0 t1375 _ ?side1 A2.out).mono ?_); (case side1 => exact Kd.V_mk HC0.out (Kd.F_below (Kd.C_F k102_heap HR0.out) (zU HB.out))); rintro e w3 ⟨v1376, rfl, ho0, hb⟩; have HO1377 := zk (Kd.V_lower (Kd.V_mono (ok' := fun k_ => True) ho0 (fun k_ hk_ => trivial)) (below_size (zU HB.out))); replace HB := zk (below_step (zU HB.out) hb);  (try clear hb); (try clear hb2); (try clear hk); (try clear hi); (try clear ho0))))
 go_loopg [3, 5] k (fun kq v3 v5 w' => ∃ (x3_1 : Int) (x5_1 : Int), v3 = .int .i64 x3_1 ∧ v5 = .int .i64 x5_1 ∧ Aside0 (leadtrailref04_Size.l0 kq x3_1 x5_1 t1375 = some r) ∧ Aside0 (kq ≤ k) ∧ Aside0 (Kd.V k102 102 w' w.heap.size (fun _ => True) v1376 t1375) ∧ Aside0 (Below w.heap.size w w'))
 case atStart => exact ⟨(0), (0), zR, zR, H', ⟨Nat.le_refl _⟩, ⟨by (with_reducible repeat (first | apply Kd.V_alloc | apply Kd.V_drewN | apply Kd.V_drew)); exact HO1377.out⟩, ⟨zU HB.out⟩⟩
 case round =>
  clear H'; (try clear p2); obtain ⟨x3_1, x5_1, rfl, rfl, HA, HK1, HO_7, HB⟩ := hrel
  cases gk with
  | zero => exact absurd HA.out (by simp [leadtrailref04_Size.l0])
  | succ k1 =>
   have H := HA.out; clear HA; simp only [leadtrailref04_Size.l0] at H; by_cases c4 : x5_1 < (t1375.length : Int)
   ·rw [if_pos c4] at H; have c4b0 : decide (x5_1 < (t1375.length : Int)) = true := decide_eq_true c4; clear c4; by_cases c5 : 0 ≤ x5_1
    ·rw [if_pos c5] at H; have c5b0 : decide (0 ≤ x5_1) = true := decide_eq_true c5; clear c5; have H' := zk H; clear H; obtain ⟨Ao6, co6, eo6⟩ := Kd.V_slice HO_7.out; subst eo6; have p1378 : 0 ≤ (x5_1 : Int) := zT; have q1378 : x5_1 < (t1375.length : Int) := zT; obtain ⟨ad1378, e1378, hx1378_0, hx1378_1⟩ := at_T102 (Kd.V_reads' HO_7.out).2.2 x5_1 p1378 q1378; cases e1378; replace p1378 := eq_true p1378; replace q1378 := eq_true q1378; have p1379 : 0 ≤ (x5_1 : Int) := zT; have q1379 : x5_1 < (t1375.length : Int) := zT; obtain ⟨ad1379, e1379, hx1379_0, hx1379_1⟩ := at_T102 (Kd.V_reads' HO_7.out).2.2 x5_1 p1379 q1379; obtain rfl : ad1378 = ad1379 := (by injection e1379); replace p1379 := eq_true p1379; replace q1379 := eq_true q1379; go_wp2
     repeat (go_quiet (fail); try go_wp2)
     go_roundg k1
     case measure => have := HK1.out; omega
     case rel => exact ⟨(wrap64 (x3_1 + (wrap64 ((wrap64 (((rd_T102 t1375 x5_1).f1) - ((rd_T102 t1375 x5_1).f0))) + 1)))), (wrap64 (x5_1 + 1)), zR, zR, H', ⟨by have := HK1.out; omega⟩, ⟨by (with_reducible repeat (first | apply Kd.V_alloc | apply Kd.V_drewN | apply Kd.V_drew)); exact HO_7.out⟩, ⟨zU HB.out⟩⟩
    ·rw [if_neg c5] at H; exact absurd H (by simp)
   ·rw [if_neg c4] at H; have c4b0 : decide (x5_1 < (t1375.length : Int)) = false := decide_eq_false c4; clear c4; obtain rfl := Option.some.inj H; obtain ⟨Ao7, co7, eo7⟩ := Kd.V_slice HO_7.out; subst eo7; go_wp2
    repeat (go_quiet (fail); try go_wp2)
    go_ret
    exact ⟨ze, zU HB.out⟩
end Go.Proofs.Ytkcklnmbeinfkaa.B
