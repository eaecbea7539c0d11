/- Words and walks of this claim, of the text Ix9. -/
import Derived.Test.YtoljcfocgaonpaaKgQW0
import Derived.Test.YtoljcfocgaonpaaKgIx0
import Derived.Test.YtoljcfocgaonpaaKgIx2
import Derived.Test.YtoljcfocgaonpaaKgIx6
import Derived.Test.YtoljcfocgaonpaaKgIx8
namespace Go.Proofs.Ytoljcfocgaonpaa.I
open Go.RowKit Go.Proofs.YtoljcfocgaonpaaW.PrintWords Go.Proofs.YtoljcfocgaonpaaW.PrintLast Go.Proofs.YtoljcfocgaonpaaW.PrintMore
attribute [local go_sem] max2_int min2_int max_two min_two max_three min_three max_four min_four
set_option linter.unusedVariables false
set_option linter.unusedSimpArgs false
attribute [local go_sem high] eqA43
def scalars_set.f (k : Nat) (l0 : List (S43)) : Option ((List (S133))) := (api_Range.f k l0).bind fun t219 => ((sets_Valid.f k t219 1073741823).bind fun t222 => (if t222 = true then (some t219) else (some ([] : List (S133)))))
set_option maxHeartbeats 8000000 in
set_option maxRecDepth 100000 in
theorem scalars_set.calls (k : Nat) (A0 : Option Addr) (c0 : Nat) (l0 : List (S43)) (r : List (S133)) (w : World) (hr0 : Kd.C k43 w A0 l0.length l0) (hc0 : l0.length ≤ c0) (h : scalars_set.f k l0 = some r) :
 Calls Try.prog 66 #[.slice A0 l0.length c0] w fun e w' => ∃ v0_ : Value, e = .returned (v0_) ∧ Kd.R k133 133 w' w.heap.size (fun _ => True) v0_ r ∧ Below w.heap.size w w' := by
 have HR0 := zk hr0; have HC0 := zk hc0; clear hr0 hc0; have HB := zk (Below.refl w.heap.size w); have H : ((api_Range.f k l0).bind fun t219 => ((sets_Valid.f k t219 1073741823).bind fun t222 => (if t222 = true then (some t219) else (some ([] : List (S133)))))) = some r := h; clear h; replace H := Option.bind_eq_some_iff.mp H; obtain ⟨t219, A20, H⟩ := H; replace H : ((sets_Valid.f k t219 1073741823).bind fun t222 => (if t222 = true then (some t219) else (some ([] : List (S133))))) = some r := H; have A2 := zk A20; clear A20; replace H := Option.bind_eq_some_iff.mp H; obtain ⟨t222, A30, H⟩ := H; replace H : (if t222 = true then (some t219) else (some ([] : List (S133)))) = some r := H; have A3 := zk A30; clear A30; by_cases c4 : t222 = true
 ·subst c4; have H1 : (some t219) = some r := by rw [if_pos rfl] at H; exact H
  clear H; have H := H1; clear H1; obtain rfl := Option.some.inj H; go_enter Try.func66, Try.ntmps66
  go_wp2_with (first | ((with_reducible refine gate_callee (f := 113) rfl ?_); refine goesL_ (some 5) rfl rfl Try.func113 zz rfl #[.slice A0 l0.length c0] rfl zM ?_; (with_reducible refine (api_Range.calls k _ _ l0 t219 _ ?side1 ?side2 A2.out).mono ?_); (case side1 => exact zc HR0.out); (case side2 => exact HC0.out); rintro e w5 ⟨v220, rfl, ho0, hb⟩; refine ⟨_, rfl, ?_⟩; have HO221 := zk (Kd.R_lower ho0 (below_size (zU HB.out))); replace HB := zk (below_step (zU HB.out) hb);  (try clear hb); (try clear hb2); (try clear hk); (try clear hi); (try clear ho0); obtain ⟨Ao6, co6, eo6⟩ := Kd.R_slice HO221.out; subst eo6) | ((with_reducible refine gate_callee (f := 110) rfl ?_); refine goesL_ (some 7) rfl rfl Try.func110 zz rfl #[.slice Ao6 t219.length co6, .int .i64 1073741823] rfl zM ?_; (with_reducible refine (sets_Valid.calls k _ _ t219 1073741823 true _ ?side1 ?side2 A3.out).mono ?_); (case side1 => exact zc (Kd.R_reads' HO221.out).2.2); (case side2 => exact (Kd.R_reads' HO221.out).2.1); rintro e w7 ⟨rfl, hb⟩; refine ⟨_, rfl, ?_⟩; replace HO221 := zk (Kd.R_below (zr HO221.out) hb); replace HB := zk (below_step (zU HB.out) hb);  (try clear hb); (try clear hb2); (try clear hk); (try clear hi)))
  go_ret
  exact ⟨_, ze, by (with_reducible repeat (first | apply zA | apply zB | apply zC)); exact HO221.out, zU HB.out⟩
 ·replace c4 := Bool.eq_false_iff.mpr c4; subst c4; have H1 : (some ([] : List (S133))) = some r := by rw [if_neg (show ¬ (false = true) by decide)] at H; exact H
  clear H; have H := H1; clear H1; obtain rfl := Option.some.inj H; go_enter Try.func66, Try.ntmps66
  go_wp2_with (first | ((with_reducible refine gate_callee (f := 113) rfl ?_); refine goesL_ (some 5) rfl rfl Try.func113 zz rfl #[.slice A0 l0.length c0] rfl zM ?_; (with_reducible refine (api_Range.calls k _ _ l0 t219 _ ?side1 ?side2 A2.out).mono ?_); (case side1 => exact zc HR0.out); (case side2 => exact HC0.out); rintro e w8 ⟨v220, rfl, ho0, hb⟩; refine ⟨_, rfl, ?_⟩; have HO221 := zk (Kd.R_lower ho0 (below_size (zU HB.out))); replace HB := zk (below_step (zU HB.out) hb);  (try clear hb); (try clear hb2); (try clear hk); (try clear hi); (try clear ho0); obtain ⟨Ao9, co9, eo9⟩ := Kd.R_slice HO221.out; subst eo9) | ((with_reducible refine gate_callee (f := 110) rfl ?_); refine goesL_ (some 7) rfl rfl Try.func110 zz rfl #[.slice Ao9 t219.length co9, .int .i64 1073741823] rfl zM ?_; (with_reducible refine (sets_Valid.calls k _ _ t219 1073741823 false _ ?side1 ?side2 A3.out).mono ?_); (case side1 => exact zc (Kd.R_reads' HO221.out).2.2); (case side2 => exact (Kd.R_reads' HO221.out).2.1); rintro e w10 ⟨rfl, hb⟩; refine ⟨_, rfl, ?_⟩; replace HO221 := zk (Kd.R_below (zr HO221.out) hb); replace HB := zk (below_step (zU HB.out) hb);  (try clear hb); (try clear hb2); (try clear hk); (try clear hi)))
  go_ret
  exact ⟨_, ze, by first | exact Kd.R_nil _ _ _ _ _ | exact Kd.N_nil _ _ _ _ _ | exact Kd.V_nil _ _ _ _ _ | exact Kd.Q_nil _ _ _ _ _ | exact Kd.S_nil _ _ _ _ _, zU HB.out⟩
end Go.Proofs.Ytoljcfocgaonpaa.I
