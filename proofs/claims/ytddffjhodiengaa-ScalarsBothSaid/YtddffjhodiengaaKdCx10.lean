/- Words and walks of this claim, of the text Cx10. -/
import Derived.Test.YtddffjhodiengaaKdCx0
import Derived.Test.YtddffjhodiengaaKdCx5
import Derived.Test.YtddffjhodiengaaKdCx8
import Derived.Test.YtddffjhodiengaaKdCx9
namespace Go.Proofs.Ytddffjhodiengaa.C
open Go.RowKit Go.Proofs.YtddffjhodiengaaW.PrintWords Go.Proofs.YtddffjhodiengaaW.PrintLast Go.Proofs.YtddffjhodiengaaW.PrintMore
attribute [local go_sem] max2_int min2_int max_two min_two max_three min_three max_four min_four
set_option linter.unusedVariables false
set_option linter.unusedSimpArgs false
mutual
def leadtrailref04_combined.l0 : Nat → List (S56) → List (S56) → Bool → Bool → Bool → List (S56) → Int → Int → Int → List Int → Option ((List (S56)))
  | 0, _, _, _, _, _, _, _, _, _, _ => none
  | k + 1, x0, x1, x2, x3, x4, x12, x13, x14, x15, x28 => if (wrap64 (x15 + 1)) < (x28.length : Int) then (if 0 ≤ x15 then (if x15 < (x28.length : Int) then (if 0 ≤ (wrap64 (x15 + 1)) then (if (rd x28 x15) > (wrap64 ((rd x28 (wrap64 (x15 + 1))) - 1)) then (leadtrailref04_combined.l0 k x0 x1 x2 x3 x4 x12 x13 x14 (wrap64 (x15 + 1)) x28) else (leadtrailref04_combined.l1 k x0 x1 x2 x3 x4 x12 x13 x14 x15 (rd x28 x15) (wrap64 ((rd x28 (wrap64 (x15 + 1))) - 1)) x28)) else (none)) else (none)) else (none)) else (some x12)
def leadtrailref04_combined.j2 : Nat → List (S56) → List (S56) → Bool → Bool → Bool → List (S56) → Int → Int → Int → Int → Int → List Int → Option ((List (S56)))
  | 0, _, _, _, _, _, _, _, _, _, _, _, _ => none
  | k + 1, x0, x1, x2, x3, x4, x12, x13, x14, x15, x16, x17, x28 => leadtrailref04_combined.l2 k x0 x1 x2 x3 x4 x12 x13 x14 x15 x16 x17 x28
def leadtrailref04_combined.j4 : Nat → List (S56) → List (S56) → Bool → Bool → Bool → List (S56) → Int → Int → Int → Int → Int → List Int → Option ((List (S56)))
  | 0, _, _, _, _, _, _, _, _, _, _, _, _ => none
  | k + 1, x0, x1, x2, x3, x4, x12, x13, x14, x15, x16, x17, x28 => if x13 < (x0.length : Int) then (if 0 ≤ x13 then (if x14 < (x1.length : Int) then (if 0 ≤ x14 then (leadtrailref04_combined.j5 k x0 x1 x2 x3 x4 x12 x13 x14 x15 x16 x17 (decide (((rd_T56 x0 x13).f0) ≤ x16)) (decide (((rd_T56 x1 x14).f0) ≤ x16)) x28) else (none)) else (leadtrailref04_combined.j5 k x0 x1 x2 x3 x4 x12 x13 x14 x15 x16 x17 (decide (((rd_T56 x0 x13).f0) ≤ x16)) false x28)) else (none)) else (if x14 < (x1.length : Int) then (if 0 ≤ x14 then (leadtrailref04_combined.j5 k x0 x1 x2 x3 x4 x12 x13 x14 x15 x16 x17 false (decide (((rd_T56 x1 x14).f0) ≤ x16)) x28) else (none)) else (leadtrailref04_combined.j5 k x0 x1 x2 x3 x4 x12 x13 x14 x15 x16 x17 false false x28))
def leadtrailref04_combined.j5 : Nat → List (S56) → List (S56) → Bool → Bool → Bool → List (S56) → Int → Int → Int → Int → Int → Bool → Bool → List Int → Option ((List (S56)))
  | 0, _, _, _, _, _, _, _, _, _, _, _, _, _, _ => none
  | k + 1, x0, x1, x2, x3, x4, x12, x13, x14, x15, x16, x17, x18, x19, x28 => if x18 = true then (if x19 = true then (if x2 = true then (leadtrailref04_combined.j6 k x0 x1 x2 x3 x4 x12 x13 x14 x15 x16 x17 x28 (!true)) else (leadtrailref04_combined.j6 k x0 x1 x2 x3 x4 x12 x13 x14 x15 x16 x17 x28 (!false))) else (if x3 = true then (leadtrailref04_combined.j6 k x0 x1 x2 x3 x4 x12 x13 x14 x15 x16 x17 x28 (!true)) else (leadtrailref04_combined.j6 k x0 x1 x2 x3 x4 x12 x13 x14 x15 x16 x17 x28 (!false)))) else (if x19 = true then (leadtrailref04_combined.j6 k x0 x1 x2 x3 x4 x12 x13 x14 x15 x16 x17 x28 (!x4)) else (leadtrailref04_combined.j6 k x0 x1 x2 x3 x4 x12 x13 x14 x15 x16 x17 x28 (!false)))
def leadtrailref04_combined.j6 : Nat → List (S56) → List (S56) → Bool → Bool → Bool → List (S56) → Int → Int → Int → Int → Int → List Int → Bool → Option ((List (S56)))
  | 0, _, _, _, _, _, _, _, _, _, _, _, _, _ => none
  | k + 1, x0, x1, x2, x3, x4, x12, x13, x14, x15, x16, x17, x28, x132 => if x132 = true then (leadtrailref04_combined.l0 k x0 x1 x2 x3 x4 x12 x13 x14 (wrap64 (x15 + 1)) x28) else (if (x12.length : Int) > 0 then (if 0 ≤ (wrap64 ((x12.length : Int) - 1)) then (if (wrap64 ((x12.length : Int) - 1)) < (x12.length : Int) then (if ((rd_T56 x12 (wrap64 ((x12.length : Int) - 1))).f1) = (wrap64 (x16 - 1)) then (leadtrailref04_combined.l0 k x0 x1 x2 x3 x4 (x12.set ((wrap64 ((x12.length : Int) - 1)) : Int).toNat (⟨(rd_T56 x12 (wrap64 ((x12.length : Int) - 1))).f0, x17⟩ : S56)) x13 x14 (wrap64 (x15 + 1)) x28) else (if x12.length < 8796093022208 then (leadtrailref04_combined.l0 k x0 x1 x2 x3 x4 (x12 ++ [(⟨x16, x17⟩ : S56)]) x13 x14 (wrap64 (x15 + 1)) x28) else (none))) else (none)) else (none)) else (if x12.length < 8796093022208 then (leadtrailref04_combined.l0 k x0 x1 x2 x3 x4 (x12 ++ [(⟨x16, x17⟩ : S56)]) x13 x14 (wrap64 (x15 + 1)) x28) else (none)))
def leadtrailref04_combined.l2 : Nat → List (S56) → List (S56) → Bool → Bool → Bool → List (S56) → Int → Int → Int → Int → Int → List Int → Option ((List (S56)))
  | 0, _, _, _, _, _, _, _, _, _, _, _, _ => none
  | k + 1, x0, x1, x2, x3, x4, x12, x13, x14, x15, x16, x17, x28 => if x14 < (x1.length : Int) then (if 0 ≤ x14 then (if ((rd_T56 x1 x14).f1) < x16 then (leadtrailref04_combined.l2 k x0 x1 x2 x3 x4 x12 x13 (wrap64 (x14 + 1)) x15 x16 x17 x28) else (leadtrailref04_combined.j4 k x0 x1 x2 x3 x4 x12 x13 x14 x15 x16 x17 x28)) else (none)) else (leadtrailref04_combined.j4 k x0 x1 x2 x3 x4 x12 x13 x14 x15 x16 x17 x28)
def leadtrailref04_combined.l1 : Nat → List (S56) → List (S56) → Bool → Bool → Bool → List (S56) → Int → Int → Int → Int → Int → List Int → Option ((List (S56)))
  | 0, _, _, _, _, _, _, _, _, _, _, _, _ => none
  | k + 1, x0, x1, x2, x3, x4, x12, x13, x14, x15, x16, x17, x28 => if x13 < (x0.length : Int) then (if 0 ≤ x13 then (if ((rd_T56 x0 x13).f1) < x16 then (leadtrailref04_combined.l1 k x0 x1 x2 x3 x4 x12 (wrap64 (x13 + 1)) x14 x15 x16 x17 x28) else (leadtrailref04_combined.j2 k x0 x1 x2 x3 x4 x12 x13 x14 x15 x16 x17 x28)) else (none)) else (leadtrailref04_combined.j2 k x0 x1 x2 x3 x4 x12 x13 x14 x15 x16 x17 x28)
end
def leadtrailref04_combined.f (k : Nat) (l0 : List (S56)) (l1 : List (S56)) (a2 : Bool) (a3 : Bool) (a4 : Bool) : Option ((List (S56))) := (leadtrailref04_set.f k l0).bind fun t330 => ((leadtrailref04_set.f k l1).bind fun t333 => ((leadtrailref04_ends.f k t330).bind fun t336 => ((leadtrailref04_ends.f k t333).bind fun t339 => ((leadtrailref04_merged.f k t336 t339).bind fun t342 => (leadtrailref04_combined.l0 k t330 t333 a2 a3 a4 ([] : List (S56)) 0 0 0 t342)))))
set_option maxHeartbeats 8000000 in
set_option maxRecDepth 100000 in
theorem leadtrailref04_combined.calls (k : Nat) (A0 : Option Addr) (c0 : Nat) (l0 : List (S56)) (A1 : Option Addr) (c1 : Nat) (l1 : List (S56)) (a2 : Bool) (a3 : Bool) (a4 : Bool) (r : List (S56)) (w : World) (hr0 : Kd.C k56 w A0 l0.length l0) (hc0 : l0.length ≤ c0) (hr1 : Kd.C k56 w A1 l1.length l1) (hc1 : l1.length ≤ c1) (h : leadtrailref04_combined.f k l0 l1 a2 a3 a4 = some r) :
    Calls Try.prog 80 #[.slice A0 l0.length c0, .slice A1 l1.length c1, .bool a2, .bool a3, .bool a4] w fun e w' => ∃ v0_ : Value, e = .returned (v0_) ∧ Kd.R k56 56 w' w.heap.size (fun _ => True) v0_ r ∧ Below w.heap.size w w' := by
  have hu56 := Try.underlying56
  have HR0 := Aside0.mk hr0
  have HC0 := Aside0.mk hc0
  clear hr0 hc0
  have HR1 := Aside0.mk hr1
  have HC1 := Aside0.mk hc1
  clear hr1 hc1
  have HB := Aside0.mk (Below.refl w.heap.size w)
  have H : ((leadtrailref04_set.f k l0).bind fun t330 => ((leadtrailref04_set.f k l1).bind fun t333 => ((leadtrailref04_ends.f k t330).bind fun t336 => ((leadtrailref04_ends.f k t333).bind fun t339 => ((leadtrailref04_merged.f k t336 t339).bind fun t342 => (leadtrailref04_combined.l0 k t330 t333 a2 a3 a4 ([] : List (S56)) 0 0 0 t342)))))) = some r := h
  clear h
  replace H := Option.bind_eq_some_iff.mp H
  obtain ⟨t330, A60, H⟩ := H
  replace H : ((leadtrailref04_set.f k l1).bind fun t333 => ((leadtrailref04_ends.f k t330).bind fun t336 => ((leadtrailref04_ends.f k t333).bind fun t339 => ((leadtrailref04_merged.f k t336 t339).bind fun t342 => (leadtrailref04_combined.l0 k t330 t333 a2 a3 a4 ([] : List (S56)) 0 0 0 t342))))) = some r := H
  have A6 := Aside0.mk A60
  clear A60
  replace H := Option.bind_eq_some_iff.mp H
  obtain ⟨t333, A70, H⟩ := H
  replace H : ((leadtrailref04_ends.f k t330).bind fun t336 => ((leadtrailref04_ends.f k t333).bind fun t339 => ((leadtrailref04_merged.f k t336 t339).bind fun t342 => (leadtrailref04_combined.l0 k t330 t333 a2 a3 a4 ([] : List (S56)) 0 0 0 t342)))) = some r := H
  have A7 := Aside0.mk A70
  clear A70
  replace H := Option.bind_eq_some_iff.mp H
  obtain ⟨t336, A80, H⟩ := H
  replace H : ((leadtrailref04_ends.f k t333).bind fun t339 => ((leadtrailref04_merged.f k t336 t339).bind fun t342 => (leadtrailref04_combined.l0 k t330 t333 a2 a3 a4 ([] : List (S56)) 0 0 0 t342))) = some r := H
  have A8 := Aside0.mk A80
  clear A80
  replace H := Option.bind_eq_some_iff.mp H
  obtain ⟨t339, A90, H⟩ := H
  replace H : ((leadtrailref04_merged.f k t336 t339).bind fun t342 => (leadtrailref04_combined.l0 k t330 t333 a2 a3 a4 ([] : List (S56)) 0 0 0 t342)) = some r := H
  have A9 := Aside0.mk A90
  clear A90
  replace H := Option.bind_eq_some_iff.mp H
  obtain ⟨t342, A100, H⟩ := H
  replace H : (leadtrailref04_combined.l0 k t330 t333 a2 a3 a4 ([] : List (S56)) 0 0 0 t342) = some r := H
  have A10 := Aside0.mk A100
  clear A100
  have H' := Aside0.mk H
  clear H
  go_enter Try.func80, Try.ntmps80
  go_wp2_with (first | (go_at_call 79; (with_reducible refine (leadtrailref04_set.calls k (fun k_ => k_ < w.heap.size) _ _ l0 t330 _ ?side1 A6.out).mono ?_); (case side1 => exact Kd.V_mk HC0.out (Kd.F_below (Kd.C_F k56_heap HR0.out) (by repeat (first | (with_reducible first | exact HB.out | apply below_alloc | apply pw_below_drewN | apply below_drew1) | exact HB.out)))); rintro e w11 ⟨v331, rfl, ho0, hb⟩; have n0_ := Aside0.mk (Kd.V_lower (Kd.V_mono (ok' := fun k_ => True) ho0 (fun k_ hk_ => trivial)) (below_size (by repeat (first | (with_reducible first | exact HB.out | apply below_alloc | apply pw_below_drewN | apply below_drew1) | exact HB.out)))); have n1_ := Aside0.mk (below_step (by repeat (first | (with_reducible first | exact HB.out | apply below_alloc | apply pw_below_drewN | apply below_drew1) | exact HB.out)) hb); clear HB; have HO332 := n0_; have HB := n1_; clear n0_ n1_; (try clear hb); (try clear hb2); (try clear hk); (try clear hi); (try clear ho0)) | (go_at_call 79; (with_reducible refine (leadtrailref04_set.calls k (fun k_ => k_ < w.heap.size) _ _ l1 t333 _ ?side1 A7.out).mono ?_); (case side1 => exact Kd.V_mk HC1.out (Kd.F_below (Kd.C_F k56_heap HR1.out) (by repeat (first | (with_reducible first | exact HB.out | apply below_alloc | apply pw_below_drewN | apply below_drew1) | exact HB.out)))); rintro e w12 ⟨v334, rfl, ho0, hb⟩; have n0_ := Aside0.mk (Kd.V_below (by (with_reducible repeat (first | apply Kd.V_alloc | apply Kd.V_drewN | apply Kd.V_drew)); exact HO332.out) hb); have n1_ := Aside0.mk (Kd.V_lower (Kd.V_mono (ok' := fun k_ => True) ho0 (fun k_ hk_ => trivial)) (below_size (by repeat (first | (with_reducible first | exact HB.out | apply below_alloc | apply pw_below_drewN | apply below_drew1) | exact HB.out)))); have n2_ := Aside0.mk (below_step (by repeat (first | (with_reducible first | exact HB.out | apply below_alloc | apply pw_below_drewN | apply below_drew1) | exact HB.out)) hb); clear HO332; clear HB; have HO332 := n0_; have HO335 := n1_; have HB := n2_; clear n0_ n1_ n2_; (try clear hb); (try clear hb2); (try clear hk); (try clear hi); (try clear ho0); obtain ⟨Ao13, co13, eo13⟩ := Kd.V_slice HO332.out; subst eo13) | (go_at_call 93; (with_reducible refine (leadtrailref04_ends.calls k _ _ t330 t336 _ ?side1 ?side2 A8.out).mono ?_); (case side1 => repeat (first | exact (Kd.V_reads' HO332.out).2.2 | (with_reducible refine Kd.C_alloc ?_ _) | (with_reducible refine Kd.C_drewN ?_ _) | (with_reducible refine Kd.C_drew ?_))); (case side2 => exact (Kd.V_reads' HO332.out).2.1); rintro e w14 ⟨v337, rfl, ho0, hb⟩; have n0_ := Aside0.mk (Kd.V_elder' (by (with_reducible repeat (first | apply Kd.V_alloc | apply Kd.V_drewN | apply Kd.V_drew)); exact HO332.out) (Kd.R_base ho0) hb); have n1_ := Aside0.mk (Kd.V_elder' (by (with_reducible repeat (first | apply Kd.V_alloc | apply Kd.V_drewN | apply Kd.V_drew)); exact HO335.out) (Kd.R_base ho0) hb); have n2_ := Aside0.mk (Kd.R_lower ho0 (below_size (by repeat (first | (with_reducible first | exact HB.out | apply below_alloc | apply pw_below_drewN | apply below_drew1) | exact HB.out)))); have n3_ := Aside0.mk (below_step (by repeat (first | (with_reducible first | exact HB.out | apply below_alloc | apply pw_below_drewN | apply below_drew1) | exact HB.out)) hb); clear HO332; clear HO335; clear HB; have HO332 := n0_; have HO335 := n1_; have HO338 := n2_; have HB := n3_; clear n0_ n1_ n2_ n3_; (try clear hb); (try clear hb2); (try clear hk); (try clear hi); (try clear ho0); obtain ⟨Ao15, co15, eo15⟩ := Kd.V_slice HO335.out; subst eo15) | (go_at_call 93; (with_reducible refine (leadtrailref04_ends.calls k _ _ t333 t339 _ ?side1 ?side2 A9.out).mono ?_); (case side1 => repeat (first | exact (Kd.V_reads' HO335.out).2.2 | (with_reducible refine Kd.C_alloc ?_ _) | (with_reducible refine Kd.C_drewN ?_ _) | (with_reducible refine Kd.C_drew ?_))); (case side2 => exact (Kd.V_reads' HO335.out).2.1); rintro e w16 ⟨v340, rfl, ho0, hb⟩; have n0_ := Aside0.mk (Kd.V_elder' (by (with_reducible repeat (first | apply Kd.V_alloc | apply Kd.V_drewN | apply Kd.V_drew)); exact HO332.out) (Kd.R_base ho0) hb); have n1_ := Aside0.mk (Kd.V_elder' (by (with_reducible repeat (first | apply Kd.V_alloc | apply Kd.V_drewN | apply Kd.V_drew)); exact HO335.out) (Kd.R_base ho0) hb); have n2_ := Aside0.mk (Kd.R_elder' (by (with_reducible repeat (first | apply Kd.R_alloc | apply Kd.R_drewN | apply Kd.R_drew)); exact HO338.out) (Kd.R_base ho0) hb); have n3_ := Aside0.mk (Kd.R_lower (Kd.R_new' ho0 (Kd.R_lt (by (with_reducible repeat (first | apply Kd.R_alloc | apply Kd.R_drewN | apply Kd.R_drew)); exact HO338.out))) (below_size (by repeat (first | (with_reducible first | exact HB.out | apply below_alloc | apply pw_below_drewN | apply below_drew1) | exact HB.out)))); have n4_ := Aside0.mk (below_step (by repeat (first | (with_reducible first | exact HB.out | apply below_alloc | apply pw_below_drewN | apply below_drew1) | exact HB.out)) hb); clear HO332; clear HO335; clear HO338; clear HB; have HO332 := n0_; have HO335 := n1_; have HO338 := n2_; have HO341 := n3_; have HB := n4_; clear n0_ n1_ n2_ n3_ n4_; (try clear hb); (try clear hb2); (try clear hk); (try clear hi); (try clear ho0); obtain ⟨Ao17, co17, eo17⟩ := Kd.R_slice HO338.out; subst eo17; obtain ⟨Ao18, co18, eo18⟩ := Kd.R_slice HO341.out; subst eo18) | (go_at_call 91; (with_reducible refine (leadtrailref04_merged.calls k _ _ t336 _ _ t339 t342 _ ?side1 ?side2 ?side3 ?side4 A10.out).mono ?_); (case side1 => repeat (first | exact (Kd.R_reads' HO338.out).2.2 | (with_reducible refine Kd.C_alloc ?_ _) | (with_reducible refine Kd.C_drewN ?_ _) | (with_reducible refine Kd.C_drew ?_))); (case side2 => exact (Kd.R_reads' HO338.out).2.1); (case side3 => repeat (first | exact (Kd.R_reads' HO341.out).2.2 | (with_reducible refine Kd.C_alloc ?_ _) | (with_reducible refine Kd.C_drewN ?_ _) | (with_reducible refine Kd.C_drew ?_))); (case side4 => exact (Kd.R_reads' HO341.out).2.1); rintro e w19 ⟨v343, rfl, ho0, hb⟩; have n0_ := Aside0.mk (Kd.V_elder' (by (with_reducible repeat (first | apply Kd.V_alloc | apply Kd.V_drewN | apply Kd.V_drew)); exact HO332.out) (Kd.R_base ho0) hb); have n1_ := Aside0.mk (Kd.V_elder' (by (with_reducible repeat (first | apply Kd.V_alloc | apply Kd.V_drewN | apply Kd.V_drew)); exact HO335.out) (Kd.R_base ho0) hb); have n2_ := Aside0.mk (Kd.R_elder' (by (with_reducible repeat (first | apply Kd.R_alloc | apply Kd.R_drewN | apply Kd.R_drew)); exact HO338.out) (Kd.R_base ho0) hb); have n3_ := Aside0.mk (Kd.R_elder' (by (with_reducible repeat (first | apply Kd.R_alloc | apply Kd.R_drewN | apply Kd.R_drew)); exact HO341.out) (Kd.R_base ho0) hb); have n4_ := Aside0.mk (Kd.R_lower (Kd.R_new' (Kd.R_new' ho0 (Kd.R_lt (by (with_reducible repeat (first | apply Kd.R_alloc | apply Kd.R_drewN | apply Kd.R_drew)); exact HO338.out))) (Kd.R_lt (by (with_reducible repeat (first | apply Kd.R_alloc | apply Kd.R_drewN | apply Kd.R_drew)); exact HO341.out))) (below_size (by repeat (first | (with_reducible first | exact HB.out | apply below_alloc | apply pw_below_drewN | apply below_drew1) | exact HB.out)))); have n5_ := Aside0.mk (below_step (by repeat (first | (with_reducible first | exact HB.out | apply below_alloc | apply pw_below_drewN | apply below_drew1) | exact HB.out)) hb); clear HO332; clear HO335; clear HO338; clear HO341; clear HB; have HO332 := n0_; have HO335 := n1_; have HO338 := n2_; have HO341 := n3_; have HO344 := n4_; have HB := n5_; clear n0_ n1_ n2_ n3_ n4_ n5_; (try clear hb); (try clear hb2); (try clear hk); (try clear hi); (try clear ho0)))
  repeat (go_quiet (first | (go_at_call 79; (with_reducible refine (leadtrailref04_set.calls k (fun k_ => k_ < w.heap.size) _ _ l0 t330 _ ?side1 A6.out).mono ?_); (case side1 => exact Kd.V_mk HC0.out (Kd.F_below (Kd.C_F k56_heap HR0.out) (by repeat (first | (with_reducible first | exact HB.out | apply below_alloc | apply pw_below_drewN | apply below_drew1) | exact HB.out)))); rintro e w11 ⟨v331, rfl, ho0, hb⟩; have n0_ := Aside0.mk (Kd.V_lower (Kd.V_mono (ok' := fun k_ => True) ho0 (fun k_ hk_ => trivial)) (below_size (by repeat (first | (with_reducible first | exact HB.out | apply below_alloc | apply pw_below_drewN | apply below_drew1) | exact HB.out)))); have n1_ := Aside0.mk (below_step (by repeat (first | (with_reducible first | exact HB.out | apply below_alloc | apply pw_below_drewN | apply below_drew1) | exact HB.out)) hb); clear HB; have HO332 := n0_; have HB := n1_; clear n0_ n1_; (try clear hb); (try clear hb2); (try clear hk); (try clear hi); (try clear ho0)) | (go_at_call 79; (with_reducible refine (leadtrailref04_set.calls k (fun k_ => k_ < w.heap.size) _ _ l1 t333 _ ?side1 A7.out).mono ?_); (case side1 => exact Kd.V_mk HC1.out (Kd.F_below (Kd.C_F k56_heap HR1.out) (by repeat (first | (with_reducible first | exact HB.out | apply below_alloc | apply pw_below_drewN | apply below_drew1) | exact HB.out)))); rintro e w12 ⟨v334, rfl, ho0, hb⟩; have n0_ := Aside0.mk (Kd.V_below (by (with_reducible repeat (first | apply Kd.V_alloc | apply Kd.V_drewN | apply Kd.V_drew)); exact HO332.out) hb); have n1_ := Aside0.mk (Kd.V_lower (Kd.V_mono (ok' := fun k_ => True) ho0 (fun k_ hk_ => trivial)) (below_size (by repeat (first | (with_reducible first | exact HB.out | apply below_alloc | apply pw_below_drewN | apply below_drew1) | exact HB.out)))); have n2_ := Aside0.mk (below_step (by repeat (first | (with_reducible first | exact HB.out | apply below_alloc | apply pw_below_drewN | apply below_drew1) | exact HB.out)) hb); clear HO332; clear HB; have HO332 := n0_; have HO335 := n1_; have HB := n2_; clear n0_ n1_ n2_; (try clear hb); (try clear hb2); (try clear hk); (try clear hi); (try clear ho0); obtain ⟨Ao13, co13, eo13⟩ := Kd.V_slice HO332.out; subst eo13) | (go_at_call 93; (with_reducible refine (leadtrailref04_ends.calls k _ _ t330 t336 _ ?side1 ?side2 A8.out).mono ?_); (case side1 => repeat (first | exact (Kd.V_reads' HO332.out).2.2 | (with_reducible refine Kd.C_alloc ?_ _) | (with_reducible refine Kd.C_drewN ?_ _) | (with_reducible refine Kd.C_drew ?_))); (case side2 => exact (Kd.V_reads' HO332.out).2.1); rintro e w14 ⟨v337, rfl, ho0, hb⟩; have n0_ := Aside0.mk (Kd.V_elder' (by (with_reducible repeat (first | apply Kd.V_alloc | apply Kd.V_drewN | apply Kd.V_drew)); exact HO332.out) (Kd.R_base ho0) hb); have n1_ := Aside0.mk (Kd.V_elder' (by (with_reducible repeat (first | apply Kd.V_alloc | apply Kd.V_drewN | apply Kd.V_drew)); exact HO335.out) (Kd.R_base ho0) hb); have n2_ := Aside0.mk (Kd.R_lower ho0 (below_size (by repeat (first | (with_reducible first | exact HB.out | apply below_alloc | apply pw_below_drewN | apply below_drew1) | exact HB.out)))); have n3_ := Aside0.mk (below_step (by repeat (first | (with_reducible first | exact HB.out | apply below_alloc | apply pw_below_drewN | apply below_drew1) | exact HB.out)) hb); clear HO332; clear HO335; clear HB; have HO332 := n0_; have HO335 := n1_; have HO338 := n2_; have HB := n3_; clear n0_ n1_ n2_ n3_; (try clear hb); (try clear hb2); (try clear hk); (try clear hi); (try clear ho0); obtain ⟨Ao15, co15, eo15⟩ := Kd.V_slice HO335.out; subst eo15) | (go_at_call 93; (with_reducible refine (leadtrailref04_ends.calls k _ _ t333 t339 _ ?side1 ?side2 A9.out).mono ?_); (case side1 => repeat (first | exact (Kd.V_reads' HO335.out).2.2 | (with_reducible refine Kd.C_alloc ?_ _) | (with_reducible refine Kd.C_drewN ?_ _) | (with_reducible refine Kd.C_drew ?_))); (case side2 => exact (Kd.V_reads' HO335.out).2.1); rintro e w16 ⟨v340, rfl, ho0, hb⟩; have n0_ := Aside0.mk (Kd.V_elder' (by (with_reducible repeat (first | apply Kd.V_alloc | apply Kd.V_drewN | apply Kd.V_drew)); exact HO332.out) (Kd.R_base ho0) hb); have n1_ := Aside0.mk (Kd.V_elder' (by (with_reducible repeat (first | apply Kd.V_alloc | apply Kd.V_drewN | apply Kd.V_drew)); exact HO335.out) (Kd.R_base ho0) hb); have n2_ := Aside0.mk (Kd.R_elder' (by (with_reducible repeat (first | apply Kd.R_alloc | apply Kd.R_drewN | apply Kd.R_drew)); exact HO338.out) (Kd.R_base ho0) hb); have n3_ := Aside0.mk (Kd.R_lower (Kd.R_new' ho0 (Kd.R_lt (by (with_reducible repeat (first | apply Kd.R_alloc | apply Kd.R_drewN | apply Kd.R_drew)); exact HO338.out))) (below_size (by repeat (first | (with_reducible first | exact HB.out | apply below_alloc | apply pw_below_drewN | apply below_drew1) | exact HB.out)))); have n4_ := Aside0.mk (below_step (by repeat (first | (with_reducible first | exact HB.out | apply below_alloc | apply pw_below_drewN | apply below_drew1) | exact HB.out)) hb); clear HO332; clear HO335; clear HO338; clear HB; have HO332 := n0_; have HO335 := n1_; have HO338 := n2_; have HO341 := n3_; have HB := n4_; clear n0_ n1_ n2_ n3_ n4_; (try clear hb); (try clear hb2); (try clear hk); (try clear hi); (try clear ho0); obtain ⟨Ao17, co17, eo17⟩ := Kd.R_slice HO338.out; subst eo17; obtain ⟨Ao18, co18, eo18⟩ := Kd.R_slice HO341.out; subst eo18) | (go_at_call 91; (with_reducible refine (leadtrailref04_merged.calls k _ _ t336 _ _ t339 t342 _ ?side1 ?side2 ?side3 ?side4 A10.out).mono ?_); (case side1 => repeat (first | exact (Kd.R_reads' HO338.out).2.2 | (with_reducible refine Kd.C_alloc ?_ _) | (with_reducible refine Kd.C_drewN ?_ _) | (with_reducible refine Kd.C_drew ?_))); (case side2 => exact (Kd.R_reads' HO338.out).2.1); (case side3 => repeat (first | exact (Kd.R_reads' HO341.out).2.2 | (with_reducible refine Kd.C_alloc ?_ _) | (with_reducible refine Kd.C_drewN ?_ _) | (with_reducible refine Kd.C_drew ?_))); (case side4 => exact (Kd.R_reads' HO341.out).2.1); rintro e w19 ⟨v343, rfl, ho0, hb⟩; have n0_ := Aside0.mk (Kd.V_elder' (by (with_reducible repeat (first | apply Kd.V_alloc | apply Kd.V_drewN | apply Kd.V_drew)); exact HO332.out) (Kd.R_base ho0) hb); have n1_ := Aside0.mk (Kd.V_elder' (by (with_reducible repeat (first | apply Kd.V_alloc | apply Kd.V_drewN | apply Kd.V_drew)); exact HO335.out) (Kd.R_base ho0) hb); have n2_ := Aside0.mk (Kd.R_elder' (by (with_reducible repeat (first | apply Kd.R_alloc | apply Kd.R_drewN | apply Kd.R_drew)); exact HO338.out) (Kd.R_base ho0) hb); have n3_ := Aside0.mk (Kd.R_elder' (by (with_reducible repeat (first | apply Kd.R_alloc | apply Kd.R_drewN | apply Kd.R_drew)); exact HO341.out) (Kd.R_base ho0) hb); have n4_ := Aside0.mk (Kd.R_lower (Kd.R_new' (Kd.R_new' ho0 (Kd.R_lt (by (with_reducible repeat (first | apply Kd.R_alloc | apply Kd.R_drewN | apply Kd.R_drew)); exact HO338.out))) (Kd.R_lt (by (with_reducible repeat (first | apply Kd.R_alloc | apply Kd.R_drewN | apply Kd.R_drew)); exact HO341.out))) (below_size (by repeat (first | (with_reducible first | exact HB.out | apply below_alloc | apply pw_below_drewN | apply below_drew1) | exact HB.out)))); have n5_ := Aside0.mk (below_step (by repeat (first | (with_reducible first | exact HB.out | apply below_alloc | apply pw_below_drewN | apply below_drew1) | exact HB.out)) hb); clear HO332; clear HO335; clear HO338; clear HO341; clear HB; have HO332 := n0_; have HO335 := n1_; have HO338 := n2_; have HO341 := n3_; have HO344 := n4_; have HB := n5_; clear n0_ n1_ n2_ n3_ n4_ n5_; (try clear hb); (try clear hb2); (try clear hk); (try clear hi); (try clear ho0))); try go_wp2_with (first | (go_at_call 79; (with_reducible refine (leadtrailref04_set.calls k (fun k_ => k_ < w.heap.size) _ _ l0 t330 _ ?side1 A6.out).mono ?_); (case side1 => exact Kd.V_mk HC0.out (Kd.F_below (Kd.C_F k56_heap HR0.out) (by repeat (first | (with_reducible first | exact HB.out | apply below_alloc | apply pw_below_drewN | apply below_drew1) | exact HB.out)))); rintro e w11 ⟨v331, rfl, ho0, hb⟩; have n0_ := Aside0.mk (Kd.V_lower (Kd.V_mono (ok' := fun k_ => True) ho0 (fun k_ hk_ => trivial)) (below_size (by repeat (first | (with_reducible first | exact HB.out | apply below_alloc | apply pw_below_drewN | apply below_drew1) | exact HB.out)))); have n1_ := Aside0.mk (below_step (by repeat (first | (with_reducible first | exact HB.out | apply below_alloc | apply pw_below_drewN | apply below_drew1) | exact HB.out)) hb); clear HB; have HO332 := n0_; have HB := n1_; clear n0_ n1_; (try clear hb); (try clear hb2); (try clear hk); (try clear hi); (try clear ho0)) | (go_at_call 79; (with_reducible refine (leadtrailref04_set.calls k (fun k_ => k_ < w.heap.size) _ _ l1 t333 _ ?side1 A7.out).mono ?_); (case side1 => exact Kd.V_mk HC1.out (Kd.F_below (Kd.C_F k56_heap HR1.out) (by repeat (first | (with_reducible first | exact HB.out | apply below_alloc | apply pw_below_drewN | apply below_drew1) | exact HB.out)))); rintro e w12 ⟨v334, rfl, ho0, hb⟩; have n0_ := Aside0.mk (Kd.V_below (by (with_reducible repeat (first | apply Kd.V_alloc | apply Kd.V_drewN | apply Kd.V_drew)); exact HO332.out) hb); have n1_ := Aside0.mk (Kd.V_lower (Kd.V_mono (ok' := fun k_ => True) ho0 (fun k_ hk_ => trivial)) (below_size (by repeat (first | (with_reducible first | exact HB.out | apply below_alloc | apply pw_below_drewN | apply below_drew1) | exact HB.out)))); have n2_ := Aside0.mk (below_step (by repeat (first | (with_reducible first | exact HB.out | apply below_alloc | apply pw_below_drewN | apply below_drew1) | exact HB.out)) hb); clear HO332; clear HB; have HO332 := n0_; have HO335 := n1_; have HB := n2_; clear n0_ n1_ n2_; (try clear hb); (try clear hb2); (try clear hk); (try clear hi); (try clear ho0); obtain ⟨Ao13, co13, eo13⟩ := Kd.V_slice HO332.out; subst eo13) | (go_at_call 93; (with_reducible refine (leadtrailref04_ends.calls k _ _ t330 t336 _ ?side1 ?side2 A8.out).mono ?_); (case side1 => repeat (first | exact (Kd.V_reads' HO332.out).2.2 | (with_reducible refine Kd.C_alloc ?_ _) | (with_reducible refine Kd.C_drewN ?_ _) | (with_reducible refine Kd.C_drew ?_))); (case side2 => exact (Kd.V_reads' HO332.out).2.1); rintro e w14 ⟨v337, rfl, ho0, hb⟩; have n0_ := Aside0.mk (Kd.V_elder' (by (with_reducible repeat (first | apply Kd.V_alloc | apply Kd.V_drewN | apply Kd.V_drew)); exact HO332.out) (Kd.R_base ho0) hb); have n1_ := Aside0.mk (Kd.V_elder' (by (with_reducible repeat (first | apply Kd.V_alloc | apply Kd.V_drewN | apply Kd.V_drew)); exact HO335.out) (Kd.R_base ho0) hb); have n2_ := Aside0.mk (Kd.R_lower ho0 (below_size (by repeat (first | (with_reducible first | exact HB.out | apply below_alloc | apply pw_below_drewN | apply below_drew1) | exact HB.out)))); have n3_ := Aside0.mk (below_step (by repeat (first | (with_reducible first | exact HB.out | apply below_alloc | apply pw_below_drewN | apply below_drew1) | exact HB.out)) hb); clear HO332; clear HO335; clear HB; have HO332 := n0_; have HO335 := n1_; have HO338 := n2_; have HB := n3_; clear n0_ n1_ n2_ n3_; (try clear hb); (try clear hb2); (try clear hk); (try clear hi); (try clear ho0); obtain ⟨Ao15, co15, eo15⟩ := Kd.V_slice HO335.out; subst eo15) | (go_at_call 93; (with_reducible refine (leadtrailref04_ends.calls k _ _ t333 t339 _ ?side1 ?side2 A9.out).mono ?_); (case side1 => repeat (first | exact (Kd.V_reads' HO335.out).2.2 | (with_reducible refine Kd.C_alloc ?_ _) | (with_reducible refine Kd.C_drewN ?_ _) | (with_reducible refine Kd.C_drew ?_))); (case side2 => exact (Kd.V_reads' HO335.out).2.1); rintro e w16 ⟨v340, rfl, ho0, hb⟩; have n0_ := Aside0.mk (Kd.V_elder' (by (with_reducible repeat (first | apply Kd.V_alloc | apply Kd.V_drewN | apply Kd.V_drew)); exact HO332.out) (Kd.R_base ho0) hb); have n1_ := Aside0.mk (Kd.V_elder' (by (with_reducible repeat (first | apply Kd.V_alloc | apply Kd.V_drewN | apply Kd.V_drew)); exact HO335.out) (Kd.R_base ho0) hb); have n2_ := Aside0.mk (Kd.R_elder' (by (with_reducible repeat (first | apply Kd.R_alloc | apply Kd.R_drewN | apply Kd.R_drew)); exact HO338.out) (Kd.R_base ho0) hb); have n3_ := Aside0.mk (Kd.R_lower (Kd.R_new' ho0 (Kd.R_lt (by (with_reducible repeat (first | apply Kd.R_alloc | apply Kd.R_drewN | apply Kd.R_drew)); exact HO338.out))) (below_size (by repeat (first | (with_reducible first | exact HB.out | apply below_alloc | apply pw_below_drewN | apply below_drew1) | exact HB.out)))); have n4_ := Aside0.mk (below_step (by repeat (first | (with_reducible first | exact HB.out | apply below_alloc | apply pw_below_drewN | apply below_drew1) | exact HB.out)) hb); clear HO332; clear HO335; clear HO338; clear HB; have HO332 := n0_; have HO335 := n1_; have HO338 := n2_; have HO341 := n3_; have HB := n4_; clear n0_ n1_ n2_ n3_ n4_; (try clear hb); (try clear hb2); (try clear hk); (try clear hi); (try clear ho0); obtain ⟨Ao17, co17, eo17⟩ := Kd.R_slice HO338.out; subst eo17; obtain ⟨Ao18, co18, eo18⟩ := Kd.R_slice HO341.out; subst eo18) | (go_at_call 91; (with_reducible refine (leadtrailref04_merged.calls k _ _ t336 _ _ t339 t342 _ ?side1 ?side2 ?side3 ?side4 A10.out).mono ?_); (case side1 => repeat (first | exact (Kd.R_reads' HO338.out).2.2 | (with_reducible refine Kd.C_alloc ?_ _) | (with_reducible refine Kd.C_drewN ?_ _) | (with_reducible refine Kd.C_drew ?_))); (case side2 => exact (Kd.R_reads' HO338.out).2.1); (case side3 => repeat (first | exact (Kd.R_reads' HO341.out).2.2 | (with_reducible refine Kd.C_alloc ?_ _) | (with_reducible refine Kd.C_drewN ?_ _) | (with_reducible refine Kd.C_drew ?_))); (case side4 => exact (Kd.R_reads' HO341.out).2.1); rintro e w19 ⟨v343, rfl, ho0, hb⟩; have n0_ := Aside0.mk (Kd.V_elder' (by (with_reducible repeat (first | apply Kd.V_alloc | apply Kd.V_drewN | apply Kd.V_drew)); exact HO332.out) (Kd.R_base ho0) hb); have n1_ := Aside0.mk (Kd.V_elder' (by (with_reducible repeat (first | apply Kd.V_alloc | apply Kd.V_drewN | apply Kd.V_drew)); exact HO335.out) (Kd.R_base ho0) hb); have n2_ := Aside0.mk (Kd.R_elder' (by (with_reducible repeat (first | apply Kd.R_alloc | apply Kd.R_drewN | apply Kd.R_drew)); exact HO338.out) (Kd.R_base ho0) hb); have n3_ := Aside0.mk (Kd.R_elder' (by (with_reducible repeat (first | apply Kd.R_alloc | apply Kd.R_drewN | apply Kd.R_drew)); exact HO341.out) (Kd.R_base ho0) hb); have n4_ := Aside0.mk (Kd.R_lower (Kd.R_new' (Kd.R_new' ho0 (Kd.R_lt (by (with_reducible repeat (first | apply Kd.R_alloc | apply Kd.R_drewN | apply Kd.R_drew)); exact HO338.out))) (Kd.R_lt (by (with_reducible repeat (first | apply Kd.R_alloc | apply Kd.R_drewN | apply Kd.R_drew)); exact HO341.out))) (below_size (by repeat (first | (with_reducible first | exact HB.out | apply below_alloc | apply pw_below_drewN | apply below_drew1) | exact HB.out)))); have n5_ := Aside0.mk (below_step (by repeat (first | (with_reducible first | exact HB.out | apply below_alloc | apply pw_below_drewN | apply below_drew1) | exact HB.out)) hb); clear HO332; clear HO335; clear HO338; clear HO341; clear HB; have HO332 := n0_; have HO335 := n1_; have HO338 := n2_; have HO341 := n3_; have HO344 := n4_; have HB := n5_; clear n0_ n1_ n2_ n3_ n4_ n5_; (try clear hb); (try clear hb2); (try clear hk); (try clear hi); (try clear ho0))))
  go_loopg [12, 13, 14, 15] k (fun kq v12 v13 v14 v15 w' => ∃ (x0_1 : List (S56)) (x1_1 : List (S56)) (x12_1 : List (S56)) (x13_1 : Int) (x14_1 : Int) (x15_1 : Int), v13 = .int .i64 x13_1 ∧ v14 = .int .i64 x14_1 ∧ v15 = .int .i64 x15_1 ∧ Aside0 (leadtrailref04_combined.l0 kq x0_1 x1_1 a2 a3 a4 x12_1 x13_1 x14_1 x15_1 t342 = some r) ∧ Aside0 (kq ≤ k) ∧ Aside0 (Kd.V k56 56 w' w.heap.size (fun k_ => some k_ ≠ (v12 : Value).ownBlock ∧ some k_ ≠ (v343 : Value).ownBlock) (.slice Ao13 t330.length co13) x0_1) ∧ Aside0 (Kd.V k56 56 w' w.heap.size (fun k_ => some k_ ≠ (v12 : Value).ownBlock ∧ some k_ ≠ (v343 : Value).ownBlock) (.slice Ao15 t333.length co15) x1_1) ∧ Aside0 (Kd.R k56 56 w' w.heap.size (fun _ => True) v12 x12_1) ∧ Aside0 (Kd.R (Kd.int .i64) 3 w' w.heap.size (fun _ => True) v343 t342) ∧ Aside0 (Below w.heap.size w w'))
  case atStart => exact ⟨(t330), (t333), (([] : List (S56))), (0), (0), (0), (by first | rfl | (simp; done) | (simp [*]; done)), (by first | rfl | (simp; done) | (simp [*]; done)), (by first | rfl | (simp; done) | (simp [*]; done)), H', ⟨Nat.le_refl _⟩, ⟨by (with_reducible repeat (first | apply Kd.V_alloc | apply Kd.V_drewN | apply Kd.V_drew)); exact Kd.V_mono HO332.out (fun _ hk => ⟨(by simp [Value.ownBlock]), hk.2⟩)⟩, ⟨by (with_reducible repeat (first | apply Kd.V_alloc | apply Kd.V_drewN | apply Kd.V_drew)); exact Kd.V_mono HO335.out (fun _ hk => ⟨(by simp [Value.ownBlock]), hk.2⟩)⟩, ⟨by first | exact Kd.R_nil _ _ _ _ _ | exact Kd.N_nil _ _ _ _ _ | exact Kd.V_nil _ _ _ _ _ | exact Kd.Q_nil _ _ _ _ _ | exact Kd.S_nil _ _ _ _ _⟩, ⟨by (with_reducible repeat (first | apply Kd.R_alloc | apply Kd.R_drewN | apply Kd.R_drew)); exact Kd.R_mono HO344.out (fun _ hk => trivial)⟩, ⟨by repeat (first | (with_reducible first | exact HB.out | apply below_alloc | apply pw_below_drewN | apply below_drew1) | exact HB.out)⟩⟩
  case round =>
    clear H'
    try clear c1
    try clear p2
    try clear c8
    obtain ⟨x0_1, x1_1, x12_1, x13_1, x14_1, x15_1, rfl, rfl, rfl, HA, HK1, HO_0, HO_1, HO_12, HO_28, HB⟩ := hrel
    have hl0_1 := (Kd.V_reads' HO_0.out).1
    rw [hl0_1] at HO_0
    (try simp only [hl0_1])
    (try simp only [hl0_1] at HO_1)
    (try simp only [hl0_1] at HO_12)
    (try simp only [hl0_1] at HO_28)
    have hl1_1 := (Kd.V_reads' HO_1.out).1
    rw [hl1_1] at HO_1
    (try simp only [hl1_1])
    (try simp only [hl1_1] at HO_0)
    (try simp only [hl1_1] at HO_12)
    (try simp only [hl1_1] at HO_28)
    cases gk with
    | zero => exact absurd HA.out (by simp [leadtrailref04_combined.l0])
    | succ k1 =>
      have H := HA.out
      clear HA
      simp only [leadtrailref04_combined.l0] at H
      by_cases c20 : (wrap64 (x15_1 + 1)) < (t342.length : Int)
      · rw [if_pos c20] at H
        have c20b0 : decide ((wrap64 (x15_1 + 1)) < (t342.length : Int)) = true := decide_eq_true c20
        clear c20
        by_cases c21 : 0 ≤ x15_1
        · rw [if_pos c21] at H
          have c21b0 : decide (0 ≤ x15_1) = true := decide_eq_true c21
          clear c21
          by_cases c22 : x15_1 < (t342.length : Int)
          · rw [if_pos c22] at H
            have c22b0 : decide (x15_1 < (t342.length : Int)) = true := decide_eq_true c22
            clear c22
            obtain ⟨ji23, hji23⟩ : ∃ j_ : Int, (wrap64 (x15_1 + 1)) = j_ := ⟨_, rfl⟩
            replace H : (if 0 ≤ (ji23) then (if (rd t342 x15_1) > (wrap64 ((rd t342 (ji23)) - 1)) then (leadtrailref04_combined.l0 k1 x0_1 x1_1 a2 a3 a4 x12_1 x13_1 x14_1 ji23 t342) else (leadtrailref04_combined.l1 k1 x0_1 x1_1 a2 a3 a4 x12_1 x13_1 x14_1 x15_1 (rd t342 x15_1) (wrap64 ((rd t342 (ji23)) - 1)) t342)) else (none)) = some r := by first | (rw [hji23] at H; exact H) | (simp only [hji23] at H ⊢; exact H)
            (try rw [hji23] at c20b0)
            have hji23w : (IntKind.i64.wrap (x15_1 + 1)) = ji23 := (i64_w _).trans hji23
            by_cases c24 : 0 ≤ (ji23)
            · rw [if_pos c24] at H
              have c24b0 : decide (0 ≤ (ji23)) = true := decide_eq_true c24
              clear c24
              by_cases c25 : (rd t342 x15_1) > (wrap64 ((rd t342 (ji23)) - 1))
              · rw [if_pos c25] at H
                have c25b0 : decide ((wrap64 ((rd t342 (ji23)) - 1)) < (rd t342 x15_1)) = true := decide_eq_true c25
                clear c25
                have H' := Aside0.mk H
                clear H
                obtain ⟨Ao26, co26, eo26⟩ := Kd.R_slice HO_28.out
                subst eo26
                have p345 : 0 ≤ (x15_1 : Int) := of_decide_eq_true (by first | (with_reducible assumption) | assumption)
                have q345 : x15_1 < (t342.length : Int) := of_decide_eq_true (by first | (with_reducible assumption) | assumption)
                obtain ⟨ad345, e345, hx345_0⟩ := Kd.at_int (Kd.R_reads' HO_28.out).2.2 x15_1 p345 q345
                cases e345
                replace p345 := eq_true p345
                replace q345 := eq_true q345
                have p346 : 0 ≤ ((ji23) : Int) := of_decide_eq_true (by first | (with_reducible assumption) | assumption)
                have q346 : (ji23) < (t342.length : Int) := of_decide_eq_true (by first | (with_reducible assumption) | assumption)
                obtain ⟨ad346, e346, hx346_0⟩ := Kd.at_int (Kd.R_reads' HO_28.out).2.2 (ji23) p346 q346
                obtain rfl : ad345 = ad346 := (by injection e346)
                replace p346 := eq_true p346
                replace q346 := eq_true q346
                go_wp2
                repeat (go_quiet (fail); try go_wp2)
                (try simp only [← hl0_1, ← hl1_1])
                go_roundg k1
                case measure => have := HK1.out; omega
                case rel => exact ⟨(x0_1), (x1_1), (x12_1), (x13_1), (x14_1), (ji23), (by first | rfl | (simp; done) | (simp [*]; done)), (by first | rfl | (simp; done) | (simp [*]; done)), (by first | rfl | (simp; done) | (simp only [← hji23] <;> (first | rfl | simp)) | (simp [*]; done)), H', ⟨by have := HK1.out; omega⟩, ⟨by (try simp only [hl0_1]); (try simp only [hl1_1]); (with_reducible repeat (first | apply Kd.V_alloc | apply Kd.V_drewN | apply Kd.V_drew)); exact HO_0.out⟩, ⟨by (try simp only [hl0_1]); (try simp only [hl1_1]); (with_reducible repeat (first | apply Kd.V_alloc | apply Kd.V_drewN | apply Kd.V_drew)); exact HO_1.out⟩, ⟨by (try simp only [hl0_1]); (try simp only [hl1_1]); (with_reducible repeat (first | apply Kd.R_alloc | apply Kd.R_drewN | apply Kd.R_drew)); exact HO_12.out⟩, ⟨by (try simp only [hl0_1]); (try simp only [hl1_1]); (with_reducible repeat (first | apply Kd.R_alloc | apply Kd.R_drewN | apply Kd.R_drew)); exact HO_28.out⟩, ⟨by repeat (first | (with_reducible first | exact HB.out | apply below_alloc | apply pw_below_drewN | apply below_drew1) | exact HB.out)⟩⟩
              · rw [if_neg c25] at H
                have c25b0 : decide ((wrap64 ((rd t342 (ji23)) - 1)) < (rd t342 x15_1)) = false := decide_eq_false c25
                clear c25
                have HC27 := Aside0.mk H
                clear H
                obtain ⟨Ao28, co28, eo28⟩ := Kd.R_slice HO_28.out
                subst eo28
                have p345 : 0 ≤ (x15_1 : Int) := of_decide_eq_true (by first | (with_reducible assumption) | assumption)
                have q345 : x15_1 < (t342.length : Int) := of_decide_eq_true (by first | (with_reducible assumption) | assumption)
                obtain ⟨ad345, e345, hx345_0⟩ := Kd.at_int (Kd.R_reads' HO_28.out).2.2 x15_1 p345 q345
                cases e345
                replace p345 := eq_true p345
                replace q345 := eq_true q345
                have p346 : 0 ≤ ((ji23) : Int) := of_decide_eq_true (by first | (with_reducible assumption) | assumption)
                have q346 : (ji23) < (t342.length : Int) := of_decide_eq_true (by first | (with_reducible assumption) | assumption)
                obtain ⟨ad346, e346, hx346_0⟩ := Kd.at_int (Kd.R_reads' HO_28.out).2.2 (ji23) p346 q346
                obtain rfl : ad345 = ad346 := (by injection e346)
                replace p346 := eq_true p346
                replace q346 := eq_true q346
                go_upto_block 2 with (fail)
                repeat (go_quiet (fail); go_upto_block 2 with (fail))
                go_cut [13] (fun v13 wc => ∃ (kq : Nat) (x13_26 : Int), v13 = .int .i64 x13_26 ∧ Aside0 (leadtrailref04_combined.j2 kq x0_1 x1_1 a2 a3 a4 x12_1 x13_26 x14_1 x15_1 (rd t342 x15_1) (wrap64 ((rd t342 (ji23)) - 1)) t342 = some r) ∧ Aside0 (kq ≤ k1) ∧ Aside0 (Kd.V k56 56 wc w.heap.size (fun k_ => some k_ ≠ (u12 : Value).ownBlock ∧ some k_ ≠ ((.slice (some ad345) t342.length co28) : Value).ownBlock) (.slice Ao13 x0_1.length co13) x0_1) ∧ Aside0 (Kd.V k56 56 wc w.heap.size (fun k_ => some k_ ≠ (u12 : Value).ownBlock ∧ some k_ ≠ ((.slice (some ad345) t342.length co28) : Value).ownBlock) (.slice Ao15 x1_1.length co15) x1_1) ∧ Aside0 (Kd.R k56 56 wc w.heap.size (fun _ => True) u12 x12_1) ∧ Aside0 (Kd.R (Kd.int .i64) 3 wc w.heap.size (fun _ => True) (.slice (some ad345) t342.length co28) t342) ∧ Aside0 (Below w.heap.size w wc))
                case first =>
                  have H := HC27.out
                  clear HC27
                  have H' := Aside0.mk H
                  clear H
                  go_wp2
                  repeat (go_quiet (fail); try go_wp2)
                  go_loopg [13] k1 (fun kq v13 w' => ∃ (x13_2 : Int), v13 = .int .i64 x13_2 ∧ Aside0 (leadtrailref04_combined.l1 kq x0_1 x1_1 a2 a3 a4 x12_1 x13_2 x14_1 x15_1 (rd t342 x15_1) (wrap64 ((rd t342 (ji23)) - 1)) t342 = some r) ∧ Aside0 (kq ≤ k1) ∧ Aside0 (Kd.V k56 56 w' w.heap.size (fun k_ => some k_ ≠ (u12 : Value).ownBlock ∧ some k_ ≠ ((.slice (some ad345) t342.length co28) : Value).ownBlock) (.slice Ao13 x0_1.length co13) x0_1) ∧ Aside0 (Kd.V k56 56 w' w.heap.size (fun k_ => some k_ ≠ (u12 : Value).ownBlock ∧ some k_ ≠ ((.slice (some ad345) t342.length co28) : Value).ownBlock) (.slice Ao15 x1_1.length co15) x1_1) ∧ Aside0 (Kd.R k56 56 w' w.heap.size (fun _ => True) u12 x12_1) ∧ Aside0 (Kd.R (Kd.int .i64) 3 w' w.heap.size (fun _ => True) (.slice (some ad345) t342.length co28) t342) ∧ Aside0 (Below w.heap.size w w'))
                  case atStart => exact ⟨(x13_1), (by first | rfl | (simp; done) | (simp [*]; done)), H', ⟨Nat.le_refl _⟩, ⟨by (try simp only [hl0_1]); (try simp only [hl1_1]); (with_reducible repeat (first | apply Kd.V_alloc | apply Kd.V_drewN | apply Kd.V_drew)); exact HO_0.out⟩, ⟨by (try simp only [hl0_1]); (try simp only [hl1_1]); (with_reducible repeat (first | apply Kd.V_alloc | apply Kd.V_drewN | apply Kd.V_drew)); exact HO_1.out⟩, ⟨by (try simp only [hl0_1]); (try simp only [hl1_1]); (with_reducible repeat (first | apply Kd.R_alloc | apply Kd.R_drewN | apply Kd.R_drew)); exact HO_12.out⟩, ⟨by (try simp only [hl0_1]); (try simp only [hl1_1]); (with_reducible repeat (first | apply Kd.R_alloc | apply Kd.R_drewN | apply Kd.R_drew)); exact HO_28.out⟩, ⟨by repeat (first | (with_reducible first | exact HB.out | apply below_alloc | apply pw_below_drewN | apply below_drew1) | exact HB.out)⟩⟩
                  case round =>
                    clear H'
                    try clear c1
                    try clear c2
                    try clear p2
                    try clear p3
                    try clear q3
                    try clear hx3
                    try clear p6
                    try clear c8
                    try clear c20
                    try clear c20b0
                    try clear c21
                    try clear c21b0
                    try clear c22
                    try clear c22b0
                    try clear c24
                    try clear c24b0
                    try clear c25
                    try clear c25b0
                    try clear hx345_0
                    try clear hx346_0
                    try clear p2
                    try clear p345
                    try clear p346
                    try clear q345
                    try clear q346
                    obtain ⟨x13_2, rfl, HA, HK2, HO_0, HO_1, HO_12, HO_28, HB⟩ := hrel
                    cases gk with
                    | zero => exact absurd HA.out (by simp [leadtrailref04_combined.l1])
                    | succ k2 =>
                      have H := HA.out
                      clear HA
                      simp only [leadtrailref04_combined.l1] at H
                      by_cases c29 : x13_2 < (x0_1.length : Int)
                      · rw [if_pos c29] at H
                        have c29b0 : decide (x13_2 < (x0_1.length : Int)) = true := decide_eq_true c29
                        clear c29
                        (first | rw [c29b0] | (simp only [i64_w, i32_w]; rw [c29b0]) | skip)
                        by_cases c30 : 0 ≤ x13_2
                        · rw [if_pos c30] at H
                          have c30b0 : decide (0 ≤ x13_2) = true := decide_eq_true c30
                          clear c30
                          by_cases c31 : ((rd_T56 x0_1 x13_2).f1) < (rd t342 x15_1)
                          · rw [if_pos c31] at H
                            have c31b0 : decide (((rd_T56 x0_1 x13_2).f1) < (rd t342 x15_1)) = true := decide_eq_true c31
                            clear c31
                            have H' := Aside0.mk H
                            clear H
                            have p347 : 0 ≤ (x13_2 : Int) := of_decide_eq_true (by first | (with_reducible assumption) | assumption)
                            have q347 : x13_2 < (x0_1.length : Int) := of_decide_eq_true (by first | (with_reducible assumption) | assumption)
                            obtain ⟨ad347, e347, hx347_0, hx347_1⟩ := at_T56 (Kd.V_reads' HO_0.out).2.2 x13_2 p347 q347
                            cases e347
                            replace p347 := eq_true p347
                            replace q347 := eq_true q347
                            go_wp2
                            repeat (go_quiet (fail); try go_wp2)
                            go_roundg k2
                            case measure => have := HK1.out; have := HK2.out; omega
                            case rel => exact ⟨(wrap64 (x13_2 + 1)), (by first | rfl | (simp; done) | (simp [*]; done)), H', ⟨by have := HK1.out; have := HK2.out; omega⟩, ⟨by (try simp only [hl0_1]); (try simp only [hl1_1]); (with_reducible repeat (first | apply Kd.V_alloc | apply Kd.V_drewN | apply Kd.V_drew)); exact HO_0.out⟩, ⟨by (try simp only [hl0_1]); (try simp only [hl1_1]); (with_reducible repeat (first | apply Kd.V_alloc | apply Kd.V_drewN | apply Kd.V_drew)); exact HO_1.out⟩, ⟨by (try simp only [hl0_1]); (try simp only [hl1_1]); (with_reducible repeat (first | apply Kd.R_alloc | apply Kd.R_drewN | apply Kd.R_drew)); exact HO_12.out⟩, ⟨by (try simp only [hl0_1]); (try simp only [hl1_1]); (with_reducible repeat (first | apply Kd.R_alloc | apply Kd.R_drewN | apply Kd.R_drew)); exact HO_28.out⟩, ⟨by repeat (first | (with_reducible first | exact HB.out | apply below_alloc | apply pw_below_drewN | apply below_drew1) | exact HB.out)⟩⟩
                          · rw [if_neg c31] at H
                            have c31b0 : decide (((rd_T56 x0_1 x13_2).f1) < (rd t342 x15_1)) = false := decide_eq_false c31
                            clear c31
                            have H' := Aside0.mk H
                            clear H
                            have p347 : 0 ≤ (x13_2 : Int) := of_decide_eq_true (by first | (with_reducible assumption) | assumption)
                            have q347 : x13_2 < (x0_1.length : Int) := of_decide_eq_true (by first | (with_reducible assumption) | assumption)
                            obtain ⟨ad347, e347, hx347_0, hx347_1⟩ := at_T56 (Kd.V_reads' HO_0.out).2.2 x13_2 p347 q347
                            cases e347
                            replace p347 := eq_true p347
                            replace q347 := eq_true q347
                            go_wp2
                            repeat (go_quiet (fail); try go_wp2)
                            go_meet
                            case rel => exact ⟨_, (x13_2), (by first | rfl | (simp; done) | (simp [*]; done)), H', ⟨by have := HK1.out; have := HK2.out; first | omega | exact Nat.le_refl _⟩, ⟨by (try simp only [hl0_1]); (try simp only [hl1_1]); (with_reducible repeat (first | apply Kd.V_alloc | apply Kd.V_drewN | apply Kd.V_drew)); exact HO_0.out⟩, ⟨by (try simp only [hl0_1]); (try simp only [hl1_1]); (with_reducible repeat (first | apply Kd.V_alloc | apply Kd.V_drewN | apply Kd.V_drew)); exact HO_1.out⟩, ⟨by (try simp only [hl0_1]); (try simp only [hl1_1]); (with_reducible repeat (first | apply Kd.R_alloc | apply Kd.R_drewN | apply Kd.R_drew)); exact HO_12.out⟩, ⟨by (try simp only [hl0_1]); (try simp only [hl1_1]); (with_reducible repeat (first | apply Kd.R_alloc | apply Kd.R_drewN | apply Kd.R_drew)); exact HO_28.out⟩, ⟨by repeat (first | (with_reducible first | exact HB.out | apply below_alloc | apply pw_below_drewN | apply below_drew1) | exact HB.out)⟩⟩
                        · rw [if_neg c30] at H
                          exact absurd H (by simp)
                      · rw [if_neg c29] at H
                        have c29b0 : decide (x13_2 < (x0_1.length : Int)) = false := decide_eq_false c29
                        clear c29
                        (first | rw [c29b0] | (simp only [i64_w, i32_w]; rw [c29b0]) | skip)
                        have H' := Aside0.mk H
                        clear H
                        go_wp2
                        repeat (go_quiet (fail); try go_wp2)
                        go_meet
                        case rel => exact ⟨_, (x13_2), (by first | rfl | (simp; done) | (simp [*]; done)), H', ⟨by have := HK1.out; have := HK2.out; first | omega | exact Nat.le_refl _⟩, ⟨by (try simp only [hl0_1]); (try simp only [hl1_1]); (with_reducible repeat (first | apply Kd.V_alloc | apply Kd.V_drewN | apply Kd.V_drew)); exact HO_0.out⟩, ⟨by (try simp only [hl0_1]); (try simp only [hl1_1]); (with_reducible repeat (first | apply Kd.V_alloc | apply Kd.V_drewN | apply Kd.V_drew)); exact HO_1.out⟩, ⟨by (try simp only [hl0_1]); (try simp only [hl1_1]); (with_reducible repeat (first | apply Kd.R_alloc | apply Kd.R_drewN | apply Kd.R_drew)); exact HO_12.out⟩, ⟨by (try simp only [hl0_1]); (try simp only [hl1_1]); (with_reducible repeat (first | apply Kd.R_alloc | apply Kd.R_drewN | apply Kd.R_drew)); exact HO_28.out⟩, ⟨by repeat (first | (with_reducible first | exact HB.out | apply below_alloc | apply pw_below_drewN | apply below_drew1) | exact HB.out)⟩⟩
                case rest =>
                  clear HC27
                  try clear c1
                  try clear c2
                  try clear p2
                  try clear c3
                  try clear p3
                  try clear q3
                  try clear hx3
                  try clear p6
                  try clear c8
                  try clear c20
                  try clear c20b0
                  try clear c21
                  try clear c21b0
                  try clear c22
                  try clear c22b0
                  try clear c24
                  try clear c24b0
                  try clear c25
                  try clear c25b0
                  try clear c29
                  try clear c29b0
                  try clear c30
                  try clear c30b0
                  try clear c31
                  try clear c31b0
                  try clear hx345_0
                  try clear hx346_0
                  try clear hx347_0
                  try clear hx347_1
                  try clear p2
                  try clear p3
                  try clear p345
                  try clear p346
                  try clear p347
                  try clear p6
                  try clear q3
                  try clear q345
                  try clear q346
                  try clear q347
                  obtain ⟨kq, x13_26, rfl, HA, HJ26, HO_0, HO_1, HO_12, HO_28, HB⟩ := hcut
                  cases kq with
                  | zero => exact absurd HA.out (by simp [leadtrailref04_combined.j2])
                  | succ kj26 =>
                    have H := HA.out
                    clear HA
                    simp only [leadtrailref04_combined.j2] at H
                    have HC32 := Aside0.mk H
                    clear H
                    go_upto_block 4 with (fail)
                    repeat (go_quiet (fail); go_upto_block 4 with (fail))
                    go_cut [14] (fun v14 wc => ∃ (kq : Nat) (x14_31 : Int), v14 = .int .i64 x14_31 ∧ Aside0 (leadtrailref04_combined.j4 kq x0_1 x1_1 a2 a3 a4 x12_1 x13_26 x14_31 x15_1 (rd t342 x15_1) (wrap64 ((rd t342 (ji23)) - 1)) t342 = some r) ∧ Aside0 (kq ≤ kj26) ∧ Aside0 (Kd.V k56 56 wc w.heap.size (fun k_ => some k_ ≠ (u12 : Value).ownBlock ∧ some k_ ≠ ((.slice (some ad345) t342.length co28) : Value).ownBlock) (.slice Ao13 x0_1.length co13) x0_1) ∧ Aside0 (Kd.V k56 56 wc w.heap.size (fun k_ => some k_ ≠ (u12 : Value).ownBlock ∧ some k_ ≠ ((.slice (some ad345) t342.length co28) : Value).ownBlock) (.slice Ao15 x1_1.length co15) x1_1) ∧ Aside0 (Kd.R k56 56 wc w.heap.size (fun _ => True) u12 x12_1) ∧ Aside0 (Kd.R (Kd.int .i64) 3 wc w.heap.size (fun _ => True) (.slice (some ad345) t342.length co28) t342) ∧ Aside0 (Below w.heap.size w wc))
                    case first =>
                      have H := HC32.out
                      clear HC32
                      have H' := Aside0.mk H
                      clear H
                      go_wp2
                      repeat (go_quiet (fail); try go_wp2)
                      go_loopg [14] kj26 (fun kq v14 w' => ∃ (x14_3 : Int), v14 = .int .i64 x14_3 ∧ Aside0 (leadtrailref04_combined.l2 kq x0_1 x1_1 a2 a3 a4 x12_1 x13_26 x14_3 x15_1 (rd t342 x15_1) (wrap64 ((rd t342 (ji23)) - 1)) t342 = some r) ∧ Aside0 (kq ≤ kj26) ∧ Aside0 (Kd.V k56 56 w' w.heap.size (fun k_ => some k_ ≠ (u12 : Value).ownBlock ∧ some k_ ≠ ((.slice (some ad345) t342.length co28) : Value).ownBlock) (.slice Ao13 x0_1.length co13) x0_1) ∧ Aside0 (Kd.V k56 56 w' w.heap.size (fun k_ => some k_ ≠ (u12 : Value).ownBlock ∧ some k_ ≠ ((.slice (some ad345) t342.length co28) : Value).ownBlock) (.slice Ao15 x1_1.length co15) x1_1) ∧ Aside0 (Kd.R k56 56 w' w.heap.size (fun _ => True) u12 x12_1) ∧ Aside0 (Kd.R (Kd.int .i64) 3 w' w.heap.size (fun _ => True) (.slice (some ad345) t342.length co28) t342) ∧ Aside0 (Below w.heap.size w w'))
                      case atStart => exact ⟨(x14_1), (by first | rfl | (simp; done) | (simp [*]; done)), H', ⟨Nat.le_refl _⟩, ⟨by (try simp only [hl0_1]); (try simp only [hl1_1]); (with_reducible repeat (first | apply Kd.V_alloc | apply Kd.V_drewN | apply Kd.V_drew)); exact HO_0.out⟩, ⟨by (try simp only [hl0_1]); (try simp only [hl1_1]); (with_reducible repeat (first | apply Kd.V_alloc | apply Kd.V_drewN | apply Kd.V_drew)); exact HO_1.out⟩, ⟨by (try simp only [hl0_1]); (try simp only [hl1_1]); (with_reducible repeat (first | apply Kd.R_alloc | apply Kd.R_drewN | apply Kd.R_drew)); exact HO_12.out⟩, ⟨by (try simp only [hl0_1]); (try simp only [hl1_1]); (with_reducible repeat (first | apply Kd.R_alloc | apply Kd.R_drewN | apply Kd.R_drew)); exact HO_28.out⟩, ⟨by repeat (first | (with_reducible first | exact HB.out | apply below_alloc | apply pw_below_drewN | apply below_drew1) | exact HB.out)⟩⟩
                      case round =>
                        clear H'
                        try clear c1
                        try clear c2
                        try clear p2
                        try clear c3
                        try clear p3
                        try clear q3
                        try clear hx3
                        try clear p6
                        try clear c8
                        try clear c20
                        try clear c20b0
                        try clear c21
                        try clear c21b0
                        try clear c22
                        try clear c22b0
                        try clear c24
                        try clear c24b0
                        try clear c25
                        try clear c25b0
                        try clear c29
                        try clear c29b0
                        try clear c30
                        try clear c30b0
                        try clear c31
                        try clear c31b0
                        try clear hx345_0
                        try clear hx346_0
                        try clear hx347_0
                        try clear hx347_1
                        try clear p2
                        try clear p3
                        try clear p345
                        try clear p346
                        try clear p347
                        try clear p6
                        try clear q3
                        try clear q345
                        try clear q346
                        try clear q347
                        obtain ⟨x14_3, rfl, HA, HK3, HO_0, HO_1, HO_12, HO_28, HB⟩ := hrel
                        cases gk with
                        | zero => exact absurd HA.out (by simp [leadtrailref04_combined.l2])
                        | succ k3 =>
                          have H := HA.out
                          clear HA
                          simp only [leadtrailref04_combined.l2] at H
                          by_cases c33 : x14_3 < (x1_1.length : Int)
                          · rw [if_pos c33] at H
                            have c33b0 : decide (x14_3 < (x1_1.length : Int)) = true := decide_eq_true c33
                            clear c33
                            (first | rw [c33b0] | (simp only [i64_w, i32_w]; rw [c33b0]) | skip)
                            by_cases c34 : 0 ≤ x14_3
                            · rw [if_pos c34] at H
                              have c34b0 : decide (0 ≤ x14_3) = true := decide_eq_true c34
                              clear c34
                              by_cases c35 : ((rd_T56 x1_1 x14_3).f1) < (rd t342 x15_1)
                              · rw [if_pos c35] at H
                                have c35b0 : decide (((rd_T56 x1_1 x14_3).f1) < (rd t342 x15_1)) = true := decide_eq_true c35
                                clear c35
                                have H' := Aside0.mk H
                                clear H
                                have p348 : 0 ≤ (x14_3 : Int) := of_decide_eq_true (by first | (with_reducible assumption) | assumption)
                                have q348 : x14_3 < (x1_1.length : Int) := of_decide_eq_true (by first | (with_reducible assumption) | assumption)
                                obtain ⟨ad348, e348, hx348_0, hx348_1⟩ := at_T56 (Kd.V_reads' HO_1.out).2.2 x14_3 p348 q348
                                cases e348
                                replace p348 := eq_true p348
                                replace q348 := eq_true q348
                                go_wp2
                                repeat (go_quiet (fail); try go_wp2)
                                go_roundg k3
                                case measure => have := HK1.out; have := HJ26.out; have := HK3.out; omega
                                case rel => exact ⟨(wrap64 (x14_3 + 1)), (by first | rfl | (simp; done) | (simp [*]; done)), H', ⟨by have := HK1.out; have := HJ26.out; have := HK3.out; omega⟩, ⟨by (try simp only [hl0_1]); (try simp only [hl1_1]); (with_reducible repeat (first | apply Kd.V_alloc | apply Kd.V_drewN | apply Kd.V_drew)); exact HO_0.out⟩, ⟨by (try simp only [hl0_1]); (try simp only [hl1_1]); (with_reducible repeat (first | apply Kd.V_alloc | apply Kd.V_drewN | apply Kd.V_drew)); exact HO_1.out⟩, ⟨by (try simp only [hl0_1]); (try simp only [hl1_1]); (with_reducible repeat (first | apply Kd.R_alloc | apply Kd.R_drewN | apply Kd.R_drew)); exact HO_12.out⟩, ⟨by (try simp only [hl0_1]); (try simp only [hl1_1]); (with_reducible repeat (first | apply Kd.R_alloc | apply Kd.R_drewN | apply Kd.R_drew)); exact HO_28.out⟩, ⟨by repeat (first | (with_reducible first | exact HB.out | apply below_alloc | apply pw_below_drewN | apply below_drew1) | exact HB.out)⟩⟩
                              · rw [if_neg c35] at H
                                have c35b0 : decide (((rd_T56 x1_1 x14_3).f1) < (rd t342 x15_1)) = false := decide_eq_false c35
                                clear c35
                                have H' := Aside0.mk H
                                clear H
                                have p348 : 0 ≤ (x14_3 : Int) := of_decide_eq_true (by first | (with_reducible assumption) | assumption)
                                have q348 : x14_3 < (x1_1.length : Int) := of_decide_eq_true (by first | (with_reducible assumption) | assumption)
                                obtain ⟨ad348, e348, hx348_0, hx348_1⟩ := at_T56 (Kd.V_reads' HO_1.out).2.2 x14_3 p348 q348
                                cases e348
                                replace p348 := eq_true p348
                                replace q348 := eq_true q348
                                go_wp2
                                repeat (go_quiet (fail); try go_wp2)
                                go_meet
                                case rel => exact ⟨_, (x14_3), (by first | rfl | (simp; done) | (simp [*]; done)), H', ⟨by have := HK1.out; have := HJ26.out; have := HK3.out; first | omega | exact Nat.le_refl _⟩, ⟨by (try simp only [hl0_1]); (try simp only [hl1_1]); (with_reducible repeat (first | apply Kd.V_alloc | apply Kd.V_drewN | apply Kd.V_drew)); exact HO_0.out⟩, ⟨by (try simp only [hl0_1]); (try simp only [hl1_1]); (with_reducible repeat (first | apply Kd.V_alloc | apply Kd.V_drewN | apply Kd.V_drew)); exact HO_1.out⟩, ⟨by (try simp only [hl0_1]); (try simp only [hl1_1]); (with_reducible repeat (first | apply Kd.R_alloc | apply Kd.R_drewN | apply Kd.R_drew)); exact HO_12.out⟩, ⟨by (try simp only [hl0_1]); (try simp only [hl1_1]); (with_reducible repeat (first | apply Kd.R_alloc | apply Kd.R_drewN | apply Kd.R_drew)); exact HO_28.out⟩, ⟨by repeat (first | (with_reducible first | exact HB.out | apply below_alloc | apply pw_below_drewN | apply below_drew1) | exact HB.out)⟩⟩
                            · rw [if_neg c34] at H
                              exact absurd H (by simp)
                          · rw [if_neg c33] at H
                            have c33b0 : decide (x14_3 < (x1_1.length : Int)) = false := decide_eq_false c33
                            clear c33
                            (first | rw [c33b0] | (simp only [i64_w, i32_w]; rw [c33b0]) | skip)
                            have H' := Aside0.mk H
                            clear H
                            go_wp2
                            repeat (go_quiet (fail); try go_wp2)
                            go_meet
                            case rel => exact ⟨_, (x14_3), (by first | rfl | (simp; done) | (simp [*]; done)), H', ⟨by have := HK1.out; have := HJ26.out; have := HK3.out; first | omega | exact Nat.le_refl _⟩, ⟨by (try simp only [hl0_1]); (try simp only [hl1_1]); (with_reducible repeat (first | apply Kd.V_alloc | apply Kd.V_drewN | apply Kd.V_drew)); exact HO_0.out⟩, ⟨by (try simp only [hl0_1]); (try simp only [hl1_1]); (with_reducible repeat (first | apply Kd.V_alloc | apply Kd.V_drewN | apply Kd.V_drew)); exact HO_1.out⟩, ⟨by (try simp only [hl0_1]); (try simp only [hl1_1]); (with_reducible repeat (first | apply Kd.R_alloc | apply Kd.R_drewN | apply Kd.R_drew)); exact HO_12.out⟩, ⟨by (try simp only [hl0_1]); (try simp only [hl1_1]); (with_reducible repeat (first | apply Kd.R_alloc | apply Kd.R_drewN | apply Kd.R_drew)); exact HO_28.out⟩, ⟨by repeat (first | (with_reducible first | exact HB.out | apply below_alloc | apply pw_below_drewN | apply below_drew1) | exact HB.out)⟩⟩
                    case rest =>
                      clear HC32
                      try clear c1
                      try clear c2
                      try clear p2
                      try clear c3
                      try clear p3
                      try clear q3
                      try clear hx3
                      try clear p6
                      try clear c8
                      try clear c20
                      try clear c20b0
                      try clear c21
                      try clear c21b0
                      try clear c22
                      try clear c22b0
                      try clear c24
                      try clear c24b0
                      try clear c25
                      try clear c25b0
                      try clear c29
                      try clear c29b0
                      try clear c30
                      try clear c30b0
                      try clear c31
                      try clear c31b0
                      try clear c33
                      try clear c33b0
                      try clear c34
                      try clear c34b0
                      try clear p34
                      try clear q34
                      try clear hx34
                      try clear c35
                      try clear c35b0
                      try clear hx345_0
                      try clear hx346_0
                      try clear hx347_0
                      try clear hx347_1
                      try clear hx348_0
                      try clear hx348_1
                      try clear p2
                      try clear p3
                      try clear p345
                      try clear p346
                      try clear p347
                      try clear p348
                      try clear p6
                      try clear q3
                      try clear q345
                      try clear q346
                      try clear q347
                      try clear q348
                      obtain ⟨kq, x14_31, rfl, HA, HJ31, HO_0, HO_1, HO_12, HO_28, HB⟩ := hcut
                      cases kq with
                      | zero => exact absurd HA.out (by simp [leadtrailref04_combined.j4])
                      | succ kj31 =>
                        have H := HA.out
                        clear HA
                        simp only [leadtrailref04_combined.j4] at H
                        have HC36 := Aside0.mk H
                        clear H
                        go_upto_region 14 with (fail)
                        repeat (go_quiet (fail); go_upto_region 14 with (fail))
                        go_cut [18, 19] (fun v18 v19 wc => ∃ (kq : Nat) (x18_35 : Bool) (x19_35 : Bool), v18 = .bool x18_35 ∧ v19 = .bool x19_35 ∧ Aside0 (leadtrailref04_combined.j5 kq x0_1 x1_1 a2 a3 a4 x12_1 x13_26 x14_31 x15_1 (rd t342 x15_1) (wrap64 ((rd t342 (ji23)) - 1)) x18_35 x19_35 t342 = some r) ∧ Aside0 (kq ≤ kj31) ∧ Aside0 (Kd.V k56 56 wc w.heap.size (fun k_ => some k_ ≠ (u12 : Value).ownBlock ∧ some k_ ≠ ((.slice (some ad345) t342.length co28) : Value).ownBlock) (.slice Ao13 x0_1.length co13) x0_1) ∧ Aside0 (Kd.V k56 56 wc w.heap.size (fun k_ => some k_ ≠ (u12 : Value).ownBlock ∧ some k_ ≠ ((.slice (some ad345) t342.length co28) : Value).ownBlock) (.slice Ao15 x1_1.length co15) x1_1) ∧ Aside0 (Kd.R k56 56 wc w.heap.size (fun _ => True) u12 x12_1) ∧ Aside0 (Kd.R (Kd.int .i64) 3 wc w.heap.size (fun _ => True) (.slice (some ad345) t342.length co28) t342) ∧ Aside0 (Below w.heap.size w wc))
                        case first =>
                          have H := HC36.out
                          clear HC36
                          by_cases c37 : x13_26 < (x0_1.length : Int)
                          · rw [if_pos c37] at H
                            have c37b0 : decide (x13_26 < (x0_1.length : Int)) = true := decide_eq_true c37
                            clear c37
                            (first | rw [c37b0] | (simp only [i64_w, i32_w]; rw [c37b0]) | skip)
                            by_cases c38 : 0 ≤ x13_26
                            · rw [if_pos c38] at H
                              have c38b0 : decide (0 ≤ x13_26) = true := decide_eq_true c38
                              clear c38
                              by_cases c39 : x14_31 < (x1_1.length : Int)
                              · rw [if_pos c39] at H
                                have c39b0 : decide (x14_31 < (x1_1.length : Int)) = true := decide_eq_true c39
                                clear c39
                                by_cases c40 : 0 ≤ x14_31
                                · rw [if_pos c40] at H
                                  have c40b0 : decide (0 ≤ x14_31) = true := decide_eq_true c40
                                  clear c40
                                  have H' := Aside0.mk H
                                  clear H
                                  have p349 : 0 ≤ (x13_26 : Int) := of_decide_eq_true (by first | (with_reducible assumption) | assumption)
                                  have q349 : x13_26 < (x0_1.length : Int) := of_decide_eq_true (by first | (with_reducible assumption) | assumption)
                                  obtain ⟨ad349, e349, hx349_0, hx349_1⟩ := at_T56 (Kd.V_reads' HO_0.out).2.2 x13_26 p349 q349
                                  cases e349
                                  replace p349 := eq_true p349
                                  replace q349 := eq_true q349
                                  have p350 : 0 ≤ (x14_31 : Int) := of_decide_eq_true (by first | (with_reducible assumption) | assumption)
                                  have q350 : x14_31 < (x1_1.length : Int) := of_decide_eq_true (by first | (with_reducible assumption) | assumption)
                                  obtain ⟨ad350, e350, hx350_0, hx350_1⟩ := at_T56 (Kd.V_reads' HO_1.out).2.2 x14_31 p350 q350
                                  cases e350
                                  replace p350 := eq_true p350
                                  replace q350 := eq_true q350
                                  go_wp2
                                  repeat (go_quiet (fail); try go_wp2)
                                  go_meet
                                  case rel => exact ⟨_, (decide (((rd_T56 x0_1 x13_26).f0) ≤ (rd t342 x15_1))), (decide (((rd_T56 x1_1 x14_31).f0) ≤ (rd t342 x15_1))), (by first | rfl | (simp; done) | (simp [*]; done)), (by first | rfl | (simp; done) | (simp [*]; done)), H', ⟨by have := HK1.out; have := HJ26.out; have := HJ31.out; first | omega | exact Nat.le_refl _⟩, ⟨by (try simp only [hl0_1]); (try simp only [hl1_1]); (with_reducible repeat (first | apply Kd.V_alloc | apply Kd.V_drewN | apply Kd.V_drew)); exact HO_0.out⟩, ⟨by (try simp only [hl0_1]); (try simp only [hl1_1]); (with_reducible repeat (first | apply Kd.V_alloc | apply Kd.V_drewN | apply Kd.V_drew)); exact HO_1.out⟩, ⟨by (try simp only [hl0_1]); (try simp only [hl1_1]); (with_reducible repeat (first | apply Kd.R_alloc | apply Kd.R_drewN | apply Kd.R_drew)); exact HO_12.out⟩, ⟨by (try simp only [hl0_1]); (try simp only [hl1_1]); (with_reducible repeat (first | apply Kd.R_alloc | apply Kd.R_drewN | apply Kd.R_drew)); exact HO_28.out⟩, ⟨by repeat (first | (with_reducible first | exact HB.out | apply below_alloc | apply pw_below_drewN | apply below_drew1) | exact HB.out)⟩⟩
                                · rw [if_neg c40] at H
                                  exact absurd H (by simp)
                              · rw [if_neg c39] at H
                                have c39b0 : decide (x14_31 < (x1_1.length : Int)) = false := decide_eq_false c39
                                clear c39
                                have H' := Aside0.mk H
                                clear H
                                have p349 : 0 ≤ (x13_26 : Int) := of_decide_eq_true (by first | (with_reducible assumption) | assumption)
                                have q349 : x13_26 < (x0_1.length : Int) := of_decide_eq_true (by first | (with_reducible assumption) | assumption)
                                obtain ⟨ad349, e349, hx349_0, hx349_1⟩ := at_T56 (Kd.V_reads' HO_0.out).2.2 x13_26 p349 q349
                                cases e349
                                replace p349 := eq_true p349
                                replace q349 := eq_true q349
                                go_wp2
                                repeat (go_quiet (fail); try go_wp2)
                                go_meet
                                case rel => exact ⟨_, (decide (((rd_T56 x0_1 x13_26).f0) ≤ (rd t342 x15_1))), (false), (by first | rfl | (simp; done) | (simp [*]; done)), (by first | rfl | (simp; done) | (simp [*]; done)), H', ⟨by have := HK1.out; have := HJ26.out; have := HJ31.out; first | omega | exact Nat.le_refl _⟩, ⟨by (try simp only [hl0_1]); (try simp only [hl1_1]); (with_reducible repeat (first | apply Kd.V_alloc | apply Kd.V_drewN | apply Kd.V_drew)); exact HO_0.out⟩, ⟨by (try simp only [hl0_1]); (try simp only [hl1_1]); (with_reducible repeat (first | apply Kd.V_alloc | apply Kd.V_drewN | apply Kd.V_drew)); exact HO_1.out⟩, ⟨by (try simp only [hl0_1]); (try simp only [hl1_1]); (with_reducible repeat (first | apply Kd.R_alloc | apply Kd.R_drewN | apply Kd.R_drew)); exact HO_12.out⟩, ⟨by (try simp only [hl0_1]); (try simp only [hl1_1]); (with_reducible repeat (first | apply Kd.R_alloc | apply Kd.R_drewN | apply Kd.R_drew)); exact HO_28.out⟩, ⟨by repeat (first | (with_reducible first | exact HB.out | apply below_alloc | apply pw_below_drewN | apply below_drew1) | exact HB.out)⟩⟩
                            · rw [if_neg c38] at H
                              exact absurd H (by simp)
                          · rw [if_neg c37] at H
                            have c37b0 : decide (x13_26 < (x0_1.length : Int)) = false := decide_eq_false c37
                            clear c37
                            (first | rw [c37b0] | (simp only [i64_w, i32_w]; rw [c37b0]) | skip)
                            by_cases c41 : x14_31 < (x1_1.length : Int)
                            · rw [if_pos c41] at H
                              have c41b0 : decide (x14_31 < (x1_1.length : Int)) = true := decide_eq_true c41
                              clear c41
                              by_cases c42 : 0 ≤ x14_31
                              · rw [if_pos c42] at H
                                have c42b0 : decide (0 ≤ x14_31) = true := decide_eq_true c42
                                clear c42
                                have H' := Aside0.mk H
                                clear H
                                have p351 : 0 ≤ (x14_31 : Int) := of_decide_eq_true (by first | (with_reducible assumption) | assumption)
                                have q351 : x14_31 < (x1_1.length : Int) := of_decide_eq_true (by first | (with_reducible assumption) | assumption)
                                obtain ⟨ad351, e351, hx351_0, hx351_1⟩ := at_T56 (Kd.V_reads' HO_1.out).2.2 x14_31 p351 q351
                                cases e351
                                replace p351 := eq_true p351
                                replace q351 := eq_true q351
                                go_wp2
                                repeat (go_quiet (fail); try go_wp2)
                                go_meet
                                case rel => exact ⟨_, (false), (decide (((rd_T56 x1_1 x14_31).f0) ≤ (rd t342 x15_1))), (by first | rfl | (simp; done) | (simp [*]; done)), (by first | rfl | (simp; done) | (simp [*]; done)), H', ⟨by have := HK1.out; have := HJ26.out; have := HJ31.out; first | omega | exact Nat.le_refl _⟩, ⟨by (try simp only [hl0_1]); (try simp only [hl1_1]); (with_reducible repeat (first | apply Kd.V_alloc | apply Kd.V_drewN | apply Kd.V_drew)); exact HO_0.out⟩, ⟨by (try simp only [hl0_1]); (try simp only [hl1_1]); (with_reducible repeat (first | apply Kd.V_alloc | apply Kd.V_drewN | apply Kd.V_drew)); exact HO_1.out⟩, ⟨by (try simp only [hl0_1]); (try simp only [hl1_1]); (with_reducible repeat (first | apply Kd.R_alloc | apply Kd.R_drewN | apply Kd.R_drew)); exact HO_12.out⟩, ⟨by (try simp only [hl0_1]); (try simp only [hl1_1]); (with_reducible repeat (first | apply Kd.R_alloc | apply Kd.R_drewN | apply Kd.R_drew)); exact HO_28.out⟩, ⟨by repeat (first | (with_reducible first | exact HB.out | apply below_alloc | apply pw_below_drewN | apply below_drew1) | exact HB.out)⟩⟩
                              · rw [if_neg c42] at H
                                exact absurd H (by simp)
                            · rw [if_neg c41] at H
                              have c41b0 : decide (x14_31 < (x1_1.length : Int)) = false := decide_eq_false c41
                              clear c41
                              have H' := Aside0.mk H
                              clear H
                              go_wp2
                              repeat (go_quiet (fail); try go_wp2)
                              go_meet
                              case rel => exact ⟨_, (false), (false), (by first | rfl | (simp; done) | (simp [*]; done)), (by first | rfl | (simp; done) | (simp [*]; done)), H', ⟨by have := HK1.out; have := HJ26.out; have := HJ31.out; first | omega | exact Nat.le_refl _⟩, ⟨by (try simp only [hl0_1]); (try simp only [hl1_1]); (with_reducible repeat (first | apply Kd.V_alloc | apply Kd.V_drewN | apply Kd.V_drew)); exact HO_0.out⟩, ⟨by (try simp only [hl0_1]); (try simp only [hl1_1]); (with_reducible repeat (first | apply Kd.V_alloc | apply Kd.V_drewN | apply Kd.V_drew)); exact HO_1.out⟩, ⟨by (try simp only [hl0_1]); (try simp only [hl1_1]); (with_reducible repeat (first | apply Kd.R_alloc | apply Kd.R_drewN | apply Kd.R_drew)); exact HO_12.out⟩, ⟨by (try simp only [hl0_1]); (try simp only [hl1_1]); (with_reducible repeat (first | apply Kd.R_alloc | apply Kd.R_drewN | apply Kd.R_drew)); exact HO_28.out⟩, ⟨by repeat (first | (with_reducible first | exact HB.out | apply below_alloc | apply pw_below_drewN | apply below_drew1) | exact HB.out)⟩⟩
                        case rest =>
                          clear HC36
                          try clear c1
                          try clear c2
                          try clear p2
                          try clear c3
                          try clear p3
                          try clear q3
                          try clear hx3
                          try clear c4
                          try clear p6
                          try clear c8
                          try clear c20
                          try clear c20b0
                          try clear c21
                          try clear c21b0
                          try clear c22
                          try clear c22b0
                          try clear c24
                          try clear c24b0
                          try clear c25
                          try clear c25b0
                          try clear c29
                          try clear c29b0
                          try clear c30
                          try clear c30b0
                          try clear c31
                          try clear c31b0
                          try clear c33
                          try clear c33b0
                          try clear c34
                          try clear c34b0
                          try clear p34
                          try clear q34
                          try clear hx34
                          try clear c35
                          try clear c35b0
                          try clear p35
                          try clear q35
                          try clear hx35
                          try clear c37
                          try clear c37b0
                          try clear c38
                          try clear c38b0
                          try clear c39
                          try clear c39b0
                          try clear c40
                          try clear c40b0
                          try clear c41
                          try clear c41b0
                          try clear c42
                          try clear c42b0
                          try clear hx345_0
                          try clear hx346_0
                          try clear hx347_0
                          try clear hx347_1
                          try clear hx348_0
                          try clear hx348_1
                          try clear hx349_0
                          try clear hx349_1
                          try clear hx350_0
                          try clear hx350_1
                          try clear hx351_0
                          try clear hx351_1
                          try clear p2
                          try clear p3
                          try clear p34
                          try clear p345
                          try clear p346
                          try clear p347
                          try clear p348
                          try clear p349
                          try clear p350
                          try clear p351
                          try clear p6
                          try clear q3
                          try clear q34
                          try clear q345
                          try clear q346
                          try clear q347
                          try clear q348
                          try clear q349
                          try clear q350
                          try clear q351
                          obtain ⟨kq, x18_35, x19_35, rfl, rfl, HA, HJ35, HO_0, HO_1, HO_12, HO_28, HB⟩ := hcut
                          cases kq with
                          | zero => exact absurd HA.out (by simp [leadtrailref04_combined.j5])
                          | succ kj35 =>
                            have H := HA.out
                            clear HA
                            simp only [leadtrailref04_combined.j5] at H
                            have HC43 := Aside0.mk H
                            clear H
                            go_upto_region 15 with (fail)
                            repeat (go_quiet (fail); go_upto_region 15 with (fail))
                            go_cut [132] (fun v132 wc => ∃ (kq : Nat) (x132_42 : Bool), v132 = .bool x132_42 ∧ Aside0 (leadtrailref04_combined.j6 kq x0_1 x1_1 a2 a3 a4 x12_1 x13_26 x14_31 x15_1 (rd t342 x15_1) (wrap64 ((rd t342 (ji23)) - 1)) t342 x132_42 = some r) ∧ Aside0 (kq ≤ kj35) ∧ Aside0 (Kd.V k56 56 wc w.heap.size (fun k_ => some k_ ≠ (u12 : Value).ownBlock ∧ some k_ ≠ ((.slice (some ad345) t342.length co28) : Value).ownBlock) (.slice Ao13 x0_1.length co13) x0_1) ∧ Aside0 (Kd.V k56 56 wc w.heap.size (fun k_ => some k_ ≠ (u12 : Value).ownBlock ∧ some k_ ≠ ((.slice (some ad345) t342.length co28) : Value).ownBlock) (.slice Ao15 x1_1.length co15) x1_1) ∧ Aside0 (Kd.R k56 56 wc w.heap.size (fun _ => True) u12 x12_1) ∧ Aside0 (Kd.R (Kd.int .i64) 3 wc w.heap.size (fun _ => True) (.slice (some ad345) t342.length co28) t342) ∧ Aside0 (Below w.heap.size w wc))
                            case first =>
                              have H := HC43.out
                              clear HC43
                              by_cases c44 : x18_35 = true
                              · subst c44
                                have H1 : (if x19_35 = true then (if a2 = true then (leadtrailref04_combined.j6 kj35 x0_1 x1_1 a2 a3 a4 x12_1 x13_26 x14_31 x15_1 (rd t342 x15_1) (wrap64 ((rd t342 (ji23)) - 1)) t342 (!true)) else (leadtrailref04_combined.j6 kj35 x0_1 x1_1 a2 a3 a4 x12_1 x13_26 x14_31 x15_1 (rd t342 x15_1) (wrap64 ((rd t342 (ji23)) - 1)) t342 (!false))) else (if a3 = true then (leadtrailref04_combined.j6 kj35 x0_1 x1_1 a2 a3 a4 x12_1 x13_26 x14_31 x15_1 (rd t342 x15_1) (wrap64 ((rd t342 (ji23)) - 1)) t342 (!true)) else (leadtrailref04_combined.j6 kj35 x0_1 x1_1 a2 a3 a4 x12_1 x13_26 x14_31 x15_1 (rd t342 x15_1) (wrap64 ((rd t342 (ji23)) - 1)) t342 (!false)))) = some r := by rw [if_pos rfl] at H; exact H
                                clear H
                                have H := H1
                                clear H1
                                by_cases c45 : x19_35 = true
                                · subst c45
                                  have H1 : (if a2 = true then (leadtrailref04_combined.j6 kj35 x0_1 x1_1 a2 a3 a4 x12_1 x13_26 x14_31 x15_1 (rd t342 x15_1) (wrap64 ((rd t342 (ji23)) - 1)) t342 (!true)) else (leadtrailref04_combined.j6 kj35 x0_1 x1_1 a2 a3 a4 x12_1 x13_26 x14_31 x15_1 (rd t342 x15_1) (wrap64 ((rd t342 (ji23)) - 1)) t342 (!false))) = some r := by rw [if_pos rfl] at H; exact H
                                  clear H
                                  have H := H1
                                  clear H1
                                  by_cases c46 : a2 = true
                                  · subst c46
                                    have H1 : (leadtrailref04_combined.j6 kj35 x0_1 x1_1 true a3 a4 x12_1 x13_26 x14_31 x15_1 (rd t342 x15_1) (wrap64 ((rd t342 (ji23)) - 1)) t342 (!true)) = some r := by rw [if_pos rfl] at H; exact H
                                    clear H
                                    have H := H1
                                    clear H1
                                    have H' := Aside0.mk H
                                    clear H
                                    go_wp2
                                    repeat (go_quiet (fail); try go_wp2)
                                    go_meet
                                    case rel => exact ⟨_, (!true), (by first | rfl | (simp; done) | (simp [*]; done)), H', ⟨by have := HK1.out; have := HJ26.out; have := HJ31.out; have := HJ35.out; first | omega | exact Nat.le_refl _⟩, ⟨by (try simp only [hl0_1]); (try simp only [hl1_1]); (with_reducible repeat (first | apply Kd.V_alloc | apply Kd.V_drewN | apply Kd.V_drew)); exact HO_0.out⟩, ⟨by (try simp only [hl0_1]); (try simp only [hl1_1]); (with_reducible repeat (first | apply Kd.V_alloc | apply Kd.V_drewN | apply Kd.V_drew)); exact HO_1.out⟩, ⟨by (try simp only [hl0_1]); (try simp only [hl1_1]); (with_reducible repeat (first | apply Kd.R_alloc | apply Kd.R_drewN | apply Kd.R_drew)); exact HO_12.out⟩, ⟨by (try simp only [hl0_1]); (try simp only [hl1_1]); (with_reducible repeat (first | apply Kd.R_alloc | apply Kd.R_drewN | apply Kd.R_drew)); exact HO_28.out⟩, ⟨by repeat (first | (with_reducible first | exact HB.out | apply below_alloc | apply pw_below_drewN | apply below_drew1) | exact HB.out)⟩⟩
                                  · replace c46 := Bool.eq_false_iff.mpr c46
                                    subst c46
                                    have H1 : (leadtrailref04_combined.j6 kj35 x0_1 x1_1 false a3 a4 x12_1 x13_26 x14_31 x15_1 (rd t342 x15_1) (wrap64 ((rd t342 (ji23)) - 1)) t342 (!false)) = some r := by rw [if_neg (show ¬ (false = true) by decide)] at H; exact H
                                    clear H
                                    have H := H1
                                    clear H1
                                    have H' := Aside0.mk H
                                    clear H
                                    go_wp2
                                    repeat (go_quiet (fail); try go_wp2)
                                    go_meet
                                    case rel => exact ⟨_, (!false), (by first | rfl | (simp; done) | (simp [*]; done)), H', ⟨by have := HK1.out; have := HJ26.out; have := HJ31.out; have := HJ35.out; first | omega | exact Nat.le_refl _⟩, ⟨by (try simp only [hl0_1]); (try simp only [hl1_1]); (with_reducible repeat (first | apply Kd.V_alloc | apply Kd.V_drewN | apply Kd.V_drew)); exact HO_0.out⟩, ⟨by (try simp only [hl0_1]); (try simp only [hl1_1]); (with_reducible repeat (first | apply Kd.V_alloc | apply Kd.V_drewN | apply Kd.V_drew)); exact HO_1.out⟩, ⟨by (try simp only [hl0_1]); (try simp only [hl1_1]); (with_reducible repeat (first | apply Kd.R_alloc | apply Kd.R_drewN | apply Kd.R_drew)); exact HO_12.out⟩, ⟨by (try simp only [hl0_1]); (try simp only [hl1_1]); (with_reducible repeat (first | apply Kd.R_alloc | apply Kd.R_drewN | apply Kd.R_drew)); exact HO_28.out⟩, ⟨by repeat (first | (with_reducible first | exact HB.out | apply below_alloc | apply pw_below_drewN | apply below_drew1) | exact HB.out)⟩⟩
                                · replace c45 := Bool.eq_false_iff.mpr c45
                                  subst c45
                                  have H1 : (if a3 = true then (leadtrailref04_combined.j6 kj35 x0_1 x1_1 a2 a3 a4 x12_1 x13_26 x14_31 x15_1 (rd t342 x15_1) (wrap64 ((rd t342 (ji23)) - 1)) t342 (!true)) else (leadtrailref04_combined.j6 kj35 x0_1 x1_1 a2 a3 a4 x12_1 x13_26 x14_31 x15_1 (rd t342 x15_1) (wrap64 ((rd t342 (ji23)) - 1)) t342 (!false))) = some r := by rw [if_neg (show ¬ (false = true) by decide)] at H; exact H
                                  clear H
                                  have H := H1
                                  clear H1
                                  by_cases c47 : a3 = true
                                  · subst c47
                                    have H1 : (leadtrailref04_combined.j6 kj35 x0_1 x1_1 a2 true a4 x12_1 x13_26 x14_31 x15_1 (rd t342 x15_1) (wrap64 ((rd t342 (ji23)) - 1)) t342 (!true)) = some r := by rw [if_pos rfl] at H; exact H
                                    clear H
                                    have H := H1
                                    clear H1
                                    have H' := Aside0.mk H
                                    clear H
                                    go_wp2
                                    repeat (go_quiet (fail); try go_wp2)
                                    go_meet
                                    case rel => exact ⟨_, (!true), (by first | rfl | (simp; done) | (simp [*]; done)), H', ⟨by have := HK1.out; have := HJ26.out; have := HJ31.out; have := HJ35.out; first | omega | exact Nat.le_refl _⟩, ⟨by (try simp only [hl0_1]); (try simp only [hl1_1]); (with_reducible repeat (first | apply Kd.V_alloc | apply Kd.V_drewN | apply Kd.V_drew)); exact HO_0.out⟩, ⟨by (try simp only [hl0_1]); (try simp only [hl1_1]); (with_reducible repeat (first | apply Kd.V_alloc | apply Kd.V_drewN | apply Kd.V_drew)); exact HO_1.out⟩, ⟨by (try simp only [hl0_1]); (try simp only [hl1_1]); (with_reducible repeat (first | apply Kd.R_alloc | apply Kd.R_drewN | apply Kd.R_drew)); exact HO_12.out⟩, ⟨by (try simp only [hl0_1]); (try simp only [hl1_1]); (with_reducible repeat (first | apply Kd.R_alloc | apply Kd.R_drewN | apply Kd.R_drew)); exact HO_28.out⟩, ⟨by repeat (first | (with_reducible first | exact HB.out | apply below_alloc | apply pw_below_drewN | apply below_drew1) | exact HB.out)⟩⟩
                                  · replace c47 := Bool.eq_false_iff.mpr c47
                                    subst c47
                                    have H1 : (leadtrailref04_combined.j6 kj35 x0_1 x1_1 a2 false a4 x12_1 x13_26 x14_31 x15_1 (rd t342 x15_1) (wrap64 ((rd t342 (ji23)) - 1)) t342 (!false)) = some r := by rw [if_neg (show ¬ (false = true) by decide)] at H; exact H
                                    clear H
                                    have H := H1
                                    clear H1
                                    have H' := Aside0.mk H
                                    clear H
                                    go_wp2
                                    repeat (go_quiet (fail); try go_wp2)
                                    go_meet
                                    case rel => exact ⟨_, (!false), (by first | rfl | (simp; done) | (simp [*]; done)), H', ⟨by have := HK1.out; have := HJ26.out; have := HJ31.out; have := HJ35.out; first | omega | exact Nat.le_refl _⟩, ⟨by (try simp only [hl0_1]); (try simp only [hl1_1]); (with_reducible repeat (first | apply Kd.V_alloc | apply Kd.V_drewN | apply Kd.V_drew)); exact HO_0.out⟩, ⟨by (try simp only [hl0_1]); (try simp only [hl1_1]); (with_reducible repeat (first | apply Kd.V_alloc | apply Kd.V_drewN | apply Kd.V_drew)); exact HO_1.out⟩, ⟨by (try simp only [hl0_1]); (try simp only [hl1_1]); (with_reducible repeat (first | apply Kd.R_alloc | apply Kd.R_drewN | apply Kd.R_drew)); exact HO_12.out⟩, ⟨by (try simp only [hl0_1]); (try simp only [hl1_1]); (with_reducible repeat (first | apply Kd.R_alloc | apply Kd.R_drewN | apply Kd.R_drew)); exact HO_28.out⟩, ⟨by repeat (first | (with_reducible first | exact HB.out | apply below_alloc | apply pw_below_drewN | apply below_drew1) | exact HB.out)⟩⟩
                              · replace c44 := Bool.eq_false_iff.mpr c44
                                subst c44
                                have H1 : (if x19_35 = true then (leadtrailref04_combined.j6 kj35 x0_1 x1_1 a2 a3 a4 x12_1 x13_26 x14_31 x15_1 (rd t342 x15_1) (wrap64 ((rd t342 (ji23)) - 1)) t342 (!a4)) else (leadtrailref04_combined.j6 kj35 x0_1 x1_1 a2 a3 a4 x12_1 x13_26 x14_31 x15_1 (rd t342 x15_1) (wrap64 ((rd t342 (ji23)) - 1)) t342 (!false))) = some r := by rw [if_neg (show ¬ (false = true) by decide)] at H; exact H
                                clear H
                                have H := H1
                                clear H1
                                by_cases c48 : x19_35 = true
                                · subst c48
                                  have H1 : (leadtrailref04_combined.j6 kj35 x0_1 x1_1 a2 a3 a4 x12_1 x13_26 x14_31 x15_1 (rd t342 x15_1) (wrap64 ((rd t342 (ji23)) - 1)) t342 (!a4)) = some r := by rw [if_pos rfl] at H; exact H
                                  clear H
                                  have H := H1
                                  clear H1
                                  have H' := Aside0.mk H
                                  clear H
                                  go_wp2
                                  repeat (go_quiet (fail); try go_wp2)
                                  go_meet
                                  case rel => exact ⟨_, (!a4), (by first | rfl | (simp; done) | (simp [*]; done)), H', ⟨by have := HK1.out; have := HJ26.out; have := HJ31.out; have := HJ35.out; first | omega | exact Nat.le_refl _⟩, ⟨by (try simp only [hl0_1]); (try simp only [hl1_1]); (with_reducible repeat (first | apply Kd.V_alloc | apply Kd.V_drewN | apply Kd.V_drew)); exact HO_0.out⟩, ⟨by (try simp only [hl0_1]); (try simp only [hl1_1]); (with_reducible repeat (first | apply Kd.V_alloc | apply Kd.V_drewN | apply Kd.V_drew)); exact HO_1.out⟩, ⟨by (try simp only [hl0_1]); (try simp only [hl1_1]); (with_reducible repeat (first | apply Kd.R_alloc | apply Kd.R_drewN | apply Kd.R_drew)); exact HO_12.out⟩, ⟨by (try simp only [hl0_1]); (try simp only [hl1_1]); (with_reducible repeat (first | apply Kd.R_alloc | apply Kd.R_drewN | apply Kd.R_drew)); exact HO_28.out⟩, ⟨by repeat (first | (with_reducible first | exact HB.out | apply below_alloc | apply pw_below_drewN | apply below_drew1) | exact HB.out)⟩⟩
                                · replace c48 := Bool.eq_false_iff.mpr c48
                                  subst c48
                                  have H1 : (leadtrailref04_combined.j6 kj35 x0_1 x1_1 a2 a3 a4 x12_1 x13_26 x14_31 x15_1 (rd t342 x15_1) (wrap64 ((rd t342 (ji23)) - 1)) t342 (!false)) = some r := by rw [if_neg (show ¬ (false = true) by decide)] at H; exact H
                                  clear H
                                  have H := H1
                                  clear H1
                                  have H' := Aside0.mk H
                                  clear H
                                  go_wp2
                                  repeat (go_quiet (fail); try go_wp2)
                                  go_meet
                                  case rel => exact ⟨_, (!false), (by first | rfl | (simp; done) | (simp [*]; done)), H', ⟨by have := HK1.out; have := HJ26.out; have := HJ31.out; have := HJ35.out; first | omega | exact Nat.le_refl _⟩, ⟨by (try simp only [hl0_1]); (try simp only [hl1_1]); (with_reducible repeat (first | apply Kd.V_alloc | apply Kd.V_drewN | apply Kd.V_drew)); exact HO_0.out⟩, ⟨by (try simp only [hl0_1]); (try simp only [hl1_1]); (with_reducible repeat (first | apply Kd.V_alloc | apply Kd.V_drewN | apply Kd.V_drew)); exact HO_1.out⟩, ⟨by (try simp only [hl0_1]); (try simp only [hl1_1]); (with_reducible repeat (first | apply Kd.R_alloc | apply Kd.R_drewN | apply Kd.R_drew)); exact HO_12.out⟩, ⟨by (try simp only [hl0_1]); (try simp only [hl1_1]); (with_reducible repeat (first | apply Kd.R_alloc | apply Kd.R_drewN | apply Kd.R_drew)); exact HO_28.out⟩, ⟨by repeat (first | (with_reducible first | exact HB.out | apply below_alloc | apply pw_below_drewN | apply below_drew1) | exact HB.out)⟩⟩
                            case rest =>
                              clear HC43
                              try clear c1
                              try clear c2
                              try clear p2
                              try clear c3
                              try clear p3
                              try clear q3
                              try clear hx3
                              try clear c4
                              try clear p6
                              try clear c8
                              try clear c20
                              try clear c20b0
                              try clear c21
                              try clear c21b0
                              try clear c22
                              try clear c22b0
                              try clear c24
                              try clear c24b0
                              try clear c25
                              try clear c25b0
                              try clear c29
                              try clear c29b0
                              try clear c30
                              try clear c30b0
                              try clear c31
                              try clear c31b0
                              try clear c33
                              try clear c33b0
                              try clear c34
                              try clear c34b0
                              try clear p34
                              try clear q34
                              try clear hx34
                              try clear c35
                              try clear c35b0
                              try clear p35
                              try clear q35
                              try clear hx35
                              try clear c37
                              try clear c37b0
                              try clear c38
                              try clear c38b0
                              try clear c39
                              try clear c39b0
                              try clear c40
                              try clear c40b0
                              try clear c41
                              try clear c41b0
                              try clear c42
                              try clear c42b0
                              try clear c44
                              try clear c45
                              try clear c46
                              try clear c47
                              try clear c48
                              try clear hx345_0
                              try clear hx346_0
                              try clear hx347_0
                              try clear hx347_1
                              try clear hx348_0
                              try clear hx348_1
                              try clear hx349_0
                              try clear hx349_1
                              try clear hx350_0
                              try clear hx350_1
                              try clear hx351_0
                              try clear hx351_1
                              try clear p2
                              try clear p3
                              try clear p34
                              try clear p345
                              try clear p346
                              try clear p347
                              try clear p348
                              try clear p349
                              try clear p35
                              try clear p350
                              try clear p351
                              try clear p6
                              try clear q3
                              try clear q34
                              try clear q345
                              try clear q346
                              try clear q347
                              try clear q348
                              try clear q349
                              try clear q35
                              try clear q350
                              try clear q351
                              obtain ⟨kq, x132_42, rfl, HA, HJ42, HO_0, HO_1, HO_12, HO_28, HB⟩ := hcut
                              cases kq with
                              | zero => exact absurd HA.out (by simp [leadtrailref04_combined.j6])
                              | succ kj42 =>
                                have H := HA.out
                                clear HA
                                simp only [leadtrailref04_combined.j6] at H
                                by_cases c49 : x132_42 = true
                                · subst c49
                                  have H1 : (leadtrailref04_combined.l0 kj42 x0_1 x1_1 a2 a3 a4 x12_1 x13_26 x14_31 (wrap64 (x15_1 + 1)) t342) = some r := by rw [if_pos rfl] at H; exact H
                                  clear H
                                  have H := H1
                                  clear H1
                                  have H' := Aside0.mk H
                                  clear H
                                  go_wp2
                                  repeat (go_quiet (fail); try go_wp2)
                                  (try simp only [← hl0_1, ← hl1_1])
                                  go_roundg kj42
                                  case measure => have := HK1.out; have := HJ26.out; have := HJ31.out; have := HJ35.out; have := HJ42.out; omega
                                  case rel => exact ⟨(x0_1), (x1_1), (x12_1), (x13_26), (x14_31), (wrap64 (x15_1 + 1)), (by first | rfl | (simp; done) | (simp [*]; done)), (by first | rfl | (simp; done) | (simp [*]; done)), (by first | rfl | (simp; done) | (simp [*]; done)), H', ⟨by have := HK1.out; have := HJ26.out; have := HJ31.out; have := HJ35.out; have := HJ42.out; omega⟩, ⟨by (try simp only [hl0_1]); (try simp only [hl1_1]); (with_reducible repeat (first | apply Kd.V_alloc | apply Kd.V_drewN | apply Kd.V_drew)); exact HO_0.out⟩, ⟨by (try simp only [hl0_1]); (try simp only [hl1_1]); (with_reducible repeat (first | apply Kd.V_alloc | apply Kd.V_drewN | apply Kd.V_drew)); exact HO_1.out⟩, ⟨by (try simp only [hl0_1]); (try simp only [hl1_1]); (with_reducible repeat (first | apply Kd.R_alloc | apply Kd.R_drewN | apply Kd.R_drew)); exact HO_12.out⟩, ⟨by (try simp only [hl0_1]); (try simp only [hl1_1]); (with_reducible repeat (first | apply Kd.R_alloc | apply Kd.R_drewN | apply Kd.R_drew)); exact HO_28.out⟩, ⟨by repeat (first | (with_reducible first | exact HB.out | apply below_alloc | apply pw_below_drewN | apply below_drew1) | exact HB.out)⟩⟩
                                · replace c49 := Bool.eq_false_iff.mpr c49
                                  subst c49
                                  have H1 : (if (x12_1.length : Int) > 0 then (if 0 ≤ (wrap64 ((x12_1.length : Int) - 1)) then (if (wrap64 ((x12_1.length : Int) - 1)) < (x12_1.length : Int) then (if ((rd_T56 x12_1 (wrap64 ((x12_1.length : Int) - 1))).f1) = (wrap64 ((rd t342 x15_1) - 1)) then (leadtrailref04_combined.l0 kj42 x0_1 x1_1 a2 a3 a4 (x12_1.set ((wrap64 ((x12_1.length : Int) - 1)) : Int).toNat (⟨(rd_T56 x12_1 (wrap64 ((x12_1.length : Int) - 1))).f0, (wrap64 ((rd t342 (ji23)) - 1))⟩ : S56)) x13_26 x14_31 (wrap64 (x15_1 + 1)) t342) else (if x12_1.length < 8796093022208 then (leadtrailref04_combined.l0 kj42 x0_1 x1_1 a2 a3 a4 (x12_1 ++ [(⟨(rd t342 x15_1), (wrap64 ((rd t342 (ji23)) - 1))⟩ : S56)]) x13_26 x14_31 (wrap64 (x15_1 + 1)) t342) else (none))) else (none)) else (none)) else (if x12_1.length < 8796093022208 then (leadtrailref04_combined.l0 kj42 x0_1 x1_1 a2 a3 a4 (x12_1 ++ [(⟨(rd t342 x15_1), (wrap64 ((rd t342 (ji23)) - 1))⟩ : S56)]) x13_26 x14_31 (wrap64 (x15_1 + 1)) t342) else (none))) = some r := by rw [if_neg (show ¬ (false = true) by decide)] at H; exact H
                                  clear H
                                  have H := H1
                                  clear H1
                                  by_cases c50 : (x12_1.length : Int) > 0
                                  · rw [if_pos c50] at H
                                    have c50b0 : decide (0 < (x12_1.length : Int)) = true := decide_eq_true c50
                                    have c50b1 : decide (0 < x12_1.length) = true := decide_eq_true (by omega)
                                    clear c50
                                    obtain ⟨ji51, hji51⟩ : ∃ j_ : Int, (wrap64 ((x12_1.length : Int) - 1)) = j_ := ⟨_, rfl⟩
                                    replace H : (if 0 ≤ (ji51) then (if (ji51) < (x12_1.length : Int) then (if ((rd_T56 x12_1 (ji51)).f1) = (wrap64 ((rd t342 x15_1) - 1)) then (leadtrailref04_combined.l0 kj42 x0_1 x1_1 a2 a3 a4 (x12_1.set ((ji51) : Int).toNat (⟨(rd_T56 x12_1 (ji51)).f0, (wrap64 ((rd t342 (ji23)) - 1))⟩ : S56)) x13_26 x14_31 (wrap64 (x15_1 + 1)) t342) else (if x12_1.length < 8796093022208 then (leadtrailref04_combined.l0 kj42 x0_1 x1_1 a2 a3 a4 (x12_1 ++ [(⟨(rd t342 x15_1), (wrap64 ((rd t342 (ji23)) - 1))⟩ : S56)]) x13_26 x14_31 (wrap64 (x15_1 + 1)) t342) else (none))) else (none)) else (none)) = some r := by first | (rw [hji51] at H; exact H) | (simp only [hji51] at H ⊢; exact H)
                                    have hji51w : (IntKind.i64.wrap ((x12_1.length : Int) - 1)) = ji51 := (i64_w _).trans hji51
                                    by_cases c52 : 0 ≤ (ji51)
                                    · rw [if_pos c52] at H
                                      have c52b0 : decide (0 ≤ (ji51)) = true := decide_eq_true c52
                                      clear c52
                                      by_cases c53 : (ji51) < (x12_1.length : Int)
                                      · rw [if_pos c53] at H
                                        have c53b0 : decide ((ji51) < (x12_1.length : Int)) = true := decide_eq_true c53
                                        clear c53
                                        by_cases c54 : ((rd_T56 x12_1 (ji51)).f1) = (wrap64 ((rd t342 x15_1) - 1))
                                        · rw [if_pos c54] at H
                                          have c54b0 : (((rd_T56 x12_1 (ji51)).f1) == (wrap64 ((rd t342 x15_1) - 1))) = true := beq_iff_eq.mpr c54
                                          have c54b1 : (((rd_T56 x12_1 (ji51)).f1) != (wrap64 ((rd t342 x15_1) - 1))) = false := bne_eq_false_iff_eq.mpr c54
                                          clear c54
                                          obtain ⟨y353, hy353⟩ : ∃ y_ : List (S56), y_ = (x12_1.set ((ji51) : Int).toNat (⟨(rd_T56 x12_1 (ji51)).f0, (wrap64 ((rd t342 (ji23)) - 1))⟩ : S56)) := ⟨_, rfl⟩
                                          replace H : (leadtrailref04_combined.l0 kj42 x0_1 x1_1 a2 a3 a4 y353 x13_26 x14_31 (wrap64 (x15_1 + 1)) t342) = some r := by first | (rw [hy353]; with_reducible exact H) | (have H2_ := (Option.bind_some _ _).symm.trans H; rw [hy353]; with_reducible exact H2_) | (have H2_ := (Option.bind_some _ _).symm.trans H; with_reducible exact H2_) | with_reducible exact H | (rw [hy353]; exact H) | exact H
                                          have Ny353 := Aside0.mk hy353
                                          clear hy353
                                          have H' := Aside0.mk H
                                          clear H
                                          obtain ⟨Ao56, co56, eo56⟩ := Kd.R_slice HO_12.out
                                          subst eo56
                                          have p352 : 0 ≤ ((ji51) : Int) := of_decide_eq_true (by first | (with_reducible assumption) | assumption)
                                          have q352 : (ji51) < (x12_1.length : Int) := of_decide_eq_true (by first | (with_reducible assumption) | assumption)
                                          obtain ⟨ad352, e352, hx352_0, hx352_1⟩ := at_T56 (Kd.R_reads' HO_12.out).2.2 (ji51) p352 q352
                                          cases e352
                                          replace p352 := eq_true p352
                                          replace q352 := eq_true q352
                                          have p55 : 0 ≤ ((ji51) : Int) := of_decide_eq_true (by first | (with_reducible assumption) | assumption)
                                          have q55 : ((ji51) : Int) < ((x12_1.length : Int) : Int) := of_decide_eq_true (by first | (with_reducible assumption) | assumption)
                                          obtain ⟨go55, co55, eo55, gb55, gl55, cl55, HG55⟩ := Kd.R_form HO_12.out (by omega)
                                          (first | cases eo55 | (injection eo55 with ea_ en_ ec_; (first | subst ea_ | (injection ea_ with ea_; subst ea_)); subst ec_; clear en_))
                                          have GB55 := Aside0.mk gb55
                                          have GG55 := Aside0.mk HG55
                                          clear gb55 gl55 HG55
                                          (first | simp only [add_plain] at hx352_0 | skip)
                                          (first | simp only [add_plain] at hx352_1 | skip)
                                          obtain ⟨ce55, hcl55, hM55, hcc55, hfr55⟩ := Kd.R_elem HO_12.out z56 ((ji51) : Int) p55 q55
                                          obtain rfl := k56_openM hM55
                                          have hx55_0 : wc.cell? ⟨go55, ((ji51) : Int).toNat * 2, none⟩ = some (.int .i64 ((rd_T56 x12_1 (ji51)).f0)) := hcc55 0 _ rfl
                                          have hx55_1 : wc.cell? ⟨go55, ((ji51) : Int).toNat * 2 + 1, none⟩ = some (.int .i64 ((rd_T56 x12_1 (ji51)).f1)) := hcc55 1 _ rfl
                                          have hf55_0 : wc.frozen? ⟨go55, ((ji51) : Int).toNat * 2, none⟩ = false := hfr55 0
                                          have hf55_1 : wc.frozen? ⟨go55, ((ji51) : Int).toNat * 2 + 1, none⟩ = false := hfr55 1
                                          clear hcl55 hcc55 hfr55 hM55
                                          replace p55 := eq_true p55
                                          replace q55 := eq_true q55
                                          have HX57 := Aside0.mk (show Kd.R k56 56 wc w.heap.size (fun _ => True) (.slice (some ⟨go55, 0, none⟩) x12_1.length co56) x12_1 from (by (with_reducible repeat (first | apply Kd.R_alloc | apply Kd.R_drewN | apply Kd.R_drew)); exact HO_12.out))
                                          obtain ⟨ce57, hcl57, hM57, hcc57, hfr57⟩ := Kd.R_elem HX57.out z56 ((ji51) : Int) (of_decide_eq_true (by first | (with_reducible assumption) | assumption)) (by have h_ : ((ji51) : Int) < ((x12_1.length : Int) : Int) := of_decide_eq_true (by first | (with_reducible assumption) | assumption); first | exact h_ | (have e_ := (Kd.R_reads' HO_12.out).1; omega) | simpa using h_)
                                          obtain rfl := k56_openM hM57
                                          have HP57 := Kd.R_seg HX57.out ((ji51) : Int) (of_decide_eq_true (by first | (with_reducible assumption) | assumption)) (by have h_ : ((ji51) : Int) < ((x12_1.length : Int) : Int) := of_decide_eq_true (by first | (with_reducible assumption) | assumption); first | exact h_ | (have e_ := (Kd.R_reads' HO_12.out).1; omega) | simpa using h_) (seg := [.int .i64 (wrap64 ((rd t342 (ji23)) - 1))]) (j := 1) hcl57 hcc57 (show 2 ≤ 2 from by decide) (x' := (⟨(rd_T56 x12_1 (ji51)).f0, (wrap64 ((rd t342 (ji23)) - 1))⟩ : S56)) (k56_mkM _ _ _ (⟨(rd_T56 x12_1 (ji51)).f0, (wrap64 ((rd t342 (ji23)) - 1))⟩ : S56) ) (fun _ hk => hk)
                                          have hx57_1 := hcc57 1 _ rfl
                                          (try simp only [show (k56).sz = 2 from rfl, Nat.mul_one, Nat.add_zero] at hx57_1)
                                          have hf57_1 := hfr57 1
                                          (try simp only [show (k56).sz = 2 from rfl, Nat.mul_one, Nat.add_zero] at hf57_1)
                                          clear hcl57 hcc57 hfr57 hM57
                                          go_wp2_with (first | ((with_reducible refine gate_store (t := 3) (p := 154) rfl ?_); (try (rw [drewN_self wc]; generalize hq_ : World.drewN wc _ = wc; have n0_ := Aside0.mk (Kd.V_at hq_ HO_0.out); have n1_ := Aside0.mk (Kd.V_at hq_ HO_1.out); have n2_ := Aside0.mk (Kd.R_at hq_ HO_12.out); have n3_ := Aside0.mk (Kd.R_at hq_ HO_28.out); have n4_ := Aside0.mk (below_at hq_ HB.out); clear hq_ HO_0 HO_1 HO_12 HO_28 HB; have HO_0 := n0_; have HO_1 := n1_; have HO_12 := n2_; have HO_28 := n3_; have HB := n4_; clear n0_ n1_ n2_ n3_ n4_; (try (have HX57 := Aside0.mk (show Kd.R k56 56 wc w.heap.size (fun _ => True) (.slice (some ⟨go55, 0, none⟩) x12_1.length co56) x12_1 from (by (with_reducible repeat (first | apply Kd.R_alloc | apply Kd.R_drewN | apply Kd.R_drew)); exact HO_12.out)))); (try (obtain ⟨ce57, hcl57, hM57, hcc57, hfr57⟩ := Kd.R_elem HX57.out z56 ((ji51) : Int) (of_decide_eq_true (by first | (with_reducible assumption) | assumption)) (by have h_ : ((ji51) : Int) < ((x12_1.length : Int) : Int) := of_decide_eq_true (by first | (with_reducible assumption) | assumption); first | exact h_ | (have e_ := (Kd.R_reads' HO_12.out).1; omega) | simpa using h_))); (try (obtain rfl := k56_openM hM57)); (try (have HP57 := Kd.R_seg HX57.out ((ji51) : Int) (of_decide_eq_true (by first | (with_reducible assumption) | assumption)) (by have h_ : ((ji51) : Int) < ((x12_1.length : Int) : Int) := of_decide_eq_true (by first | (with_reducible assumption) | assumption); first | exact h_ | (have e_ := (Kd.R_reads' HO_12.out).1; omega) | simpa using h_) (seg := [.int .i64 (wrap64 ((rd t342 (ji23)) - 1))]) (j := 1) hcl57 hcc57 (show 2 ≤ 2 from by decide) (x' := (⟨(rd_T56 x12_1 (ji51)).f0, (wrap64 ((rd t342 (ji23)) - 1))⟩ : S56)) (k56_mkM _ _ _ (⟨(rd_T56 x12_1 (ji51)).f0, (wrap64 ((rd t342 (ji23)) - 1))⟩ : S56) ) (fun _ hk => hk))); (try (have hx57_1 := hcc57 1 _ rfl)); (try (try simp only [show (k56).sz = 2 from rfl, Nat.mul_one, Nat.add_zero] at hx57_1)); (try (have hf57_1 := hfr57 1)); (try (try simp only [show (k56).sz = 2 from rfl, Nat.mul_one, Nat.add_zero] at hf57_1)); (try (clear hcl57 hcc57 hfr57 hM57)))); refine store_event (t := 3) (p := 154) (v := ?vo_w58) (w1 := (wc.setCell ⟨go55, ((ji51) : Int).toNat * 2 + 1, none⟩ (.int .i64 (wrap64 ((rd t342 (ji23)) - 1))))) ?hg ?ho ?hn ?hr ?_; (case ho => rfl); (case hg => rfl); (case hn => rfl); (case hr => first | (go_simp; done) | (go_simp; rfl)); intro w58 hw; have hg : wc.grownBy w58 (some go55) := (by rw [hw]; exact HP57.2); have hp_ : Kd.R k56 56 w58 w.heap.size (fun _ => True) (.slice (some ⟨go55, 0, none⟩) x12_1.length co56) y353 := (by rw [hw, Ny353.out]; exact HP57.1); clear HP57; have n0_ := Aside0.mk (Kd.V_afterv (v := (.slice (some ⟨go55, 0, none⟩) x12_1.length co56)) (v1 := (.slice (some ⟨go55, 0, none⟩) x12_1.length co56)) (ok := (fun k_ => some k_ ≠ (.slice (some ad345) t342.length co28 : Value).ownBlock)) (by (with_reducible repeat (first | apply Kd.V_alloc | apply Kd.V_drewN | apply Kd.V_drew)); exact Kd.V_mono HO_0.out (fun _ hk => ⟨hk.2, hk.1⟩)) hg (.inl rfl)); have n1_ := Aside0.mk (Kd.V_afterv (v := (.slice (some ⟨go55, 0, none⟩) x12_1.length co56)) (v1 := (.slice (some ⟨go55, 0, none⟩) x12_1.length co56)) (ok := (fun k_ => some k_ ≠ (.slice (some ad345) t342.length co28 : Value).ownBlock)) (by (with_reducible repeat (first | apply Kd.V_alloc | apply Kd.V_drewN | apply Kd.V_drew)); exact Kd.V_mono HO_1.out (fun _ hk => ⟨hk.2, hk.1⟩)) hg (.inl rfl)); have n2_ := Aside0.mk (hp_); have n3_ := Aside0.mk (Kd.R_over' (v := (.slice (some ⟨go55, 0, none⟩) x12_1.length co56)) (by (with_reducible repeat (first | apply Kd.R_alloc | apply Kd.R_drewN | apply Kd.R_drew)); exact HO_28.out) (Kd.R_typed HO_12.out) (by decide) hg); have n4_ := Aside0.mk ((by rw [hw]; exact below_set (HB.out) GB55.out : Below w.heap.size w w58)); clear HO_0; clear HO_1; clear HO_12; clear HO_28; clear HB; have HO_0 := n0_; have HO_1 := n1_; have HO_12 := n2_; have HO_28 := n3_; have HB := n4_; clear n0_ n1_ n2_ n3_ n4_; clear hg hw hp_))
                                          repeat (go_quiet (first | ((with_reducible refine gate_store (t := 3) (p := 154) rfl ?_); (try (rw [drewN_self wc]; generalize hq_ : World.drewN wc _ = wc; have n0_ := Aside0.mk (Kd.V_at hq_ HO_0.out); have n1_ := Aside0.mk (Kd.V_at hq_ HO_1.out); have n2_ := Aside0.mk (Kd.R_at hq_ HO_12.out); have n3_ := Aside0.mk (Kd.R_at hq_ HO_28.out); have n4_ := Aside0.mk (below_at hq_ HB.out); clear hq_ HO_0 HO_1 HO_12 HO_28 HB; have HO_0 := n0_; have HO_1 := n1_; have HO_12 := n2_; have HO_28 := n3_; have HB := n4_; clear n0_ n1_ n2_ n3_ n4_; (try (have HX57 := Aside0.mk (show Kd.R k56 56 wc w.heap.size (fun _ => True) (.slice (some ⟨go55, 0, none⟩) x12_1.length co56) x12_1 from (by (with_reducible repeat (first | apply Kd.R_alloc | apply Kd.R_drewN | apply Kd.R_drew)); exact HO_12.out)))); (try (obtain ⟨ce57, hcl57, hM57, hcc57, hfr57⟩ := Kd.R_elem HX57.out z56 ((ji51) : Int) (of_decide_eq_true (by first | (with_reducible assumption) | assumption)) (by have h_ : ((ji51) : Int) < ((x12_1.length : Int) : Int) := of_decide_eq_true (by first | (with_reducible assumption) | assumption); first | exact h_ | (have e_ := (Kd.R_reads' HO_12.out).1; omega) | simpa using h_))); (try (obtain rfl := k56_openM hM57)); (try (have HP57 := Kd.R_seg HX57.out ((ji51) : Int) (of_decide_eq_true (by first | (with_reducible assumption) | assumption)) (by have h_ : ((ji51) : Int) < ((x12_1.length : Int) : Int) := of_decide_eq_true (by first | (with_reducible assumption) | assumption); first | exact h_ | (have e_ := (Kd.R_reads' HO_12.out).1; omega) | simpa using h_) (seg := [.int .i64 (wrap64 ((rd t342 (ji23)) - 1))]) (j := 1) hcl57 hcc57 (show 2 ≤ 2 from by decide) (x' := (⟨(rd_T56 x12_1 (ji51)).f0, (wrap64 ((rd t342 (ji23)) - 1))⟩ : S56)) (k56_mkM _ _ _ (⟨(rd_T56 x12_1 (ji51)).f0, (wrap64 ((rd t342 (ji23)) - 1))⟩ : S56) ) (fun _ hk => hk))); (try (have hx57_1 := hcc57 1 _ rfl)); (try (try simp only [show (k56).sz = 2 from rfl, Nat.mul_one, Nat.add_zero] at hx57_1)); (try (have hf57_1 := hfr57 1)); (try (try simp only [show (k56).sz = 2 from rfl, Nat.mul_one, Nat.add_zero] at hf57_1)); (try (clear hcl57 hcc57 hfr57 hM57)))); refine store_event (t := 3) (p := 154) (v := ?vo_w58) (w1 := (wc.setCell ⟨go55, ((ji51) : Int).toNat * 2 + 1, none⟩ (.int .i64 (wrap64 ((rd t342 (ji23)) - 1))))) ?hg ?ho ?hn ?hr ?_; (case ho => rfl); (case hg => rfl); (case hn => rfl); (case hr => first | (go_simp; done) | (go_simp; rfl)); intro w58 hw; have hg : wc.grownBy w58 (some go55) := (by rw [hw]; exact HP57.2); have hp_ : Kd.R k56 56 w58 w.heap.size (fun _ => True) (.slice (some ⟨go55, 0, none⟩) x12_1.length co56) y353 := (by rw [hw, Ny353.out]; exact HP57.1); clear HP57; have n0_ := Aside0.mk (Kd.V_afterv (v := (.slice (some ⟨go55, 0, none⟩) x12_1.length co56)) (v1 := (.slice (some ⟨go55, 0, none⟩) x12_1.length co56)) (ok := (fun k_ => some k_ ≠ (.slice (some ad345) t342.length co28 : Value).ownBlock)) (by (with_reducible repeat (first | apply Kd.V_alloc | apply Kd.V_drewN | apply Kd.V_drew)); exact Kd.V_mono HO_0.out (fun _ hk => ⟨hk.2, hk.1⟩)) hg (.inl rfl)); have n1_ := Aside0.mk (Kd.V_afterv (v := (.slice (some ⟨go55, 0, none⟩) x12_1.length co56)) (v1 := (.slice (some ⟨go55, 0, none⟩) x12_1.length co56)) (ok := (fun k_ => some k_ ≠ (.slice (some ad345) t342.length co28 : Value).ownBlock)) (by (with_reducible repeat (first | apply Kd.V_alloc | apply Kd.V_drewN | apply Kd.V_drew)); exact Kd.V_mono HO_1.out (fun _ hk => ⟨hk.2, hk.1⟩)) hg (.inl rfl)); have n2_ := Aside0.mk (hp_); have n3_ := Aside0.mk (Kd.R_over' (v := (.slice (some ⟨go55, 0, none⟩) x12_1.length co56)) (by (with_reducible repeat (first | apply Kd.R_alloc | apply Kd.R_drewN | apply Kd.R_drew)); exact HO_28.out) (Kd.R_typed HO_12.out) (by decide) hg); have n4_ := Aside0.mk ((by rw [hw]; exact below_set (HB.out) GB55.out : Below w.heap.size w w58)); clear HO_0; clear HO_1; clear HO_12; clear HO_28; clear HB; have HO_0 := n0_; have HO_1 := n1_; have HO_12 := n2_; have HO_28 := n3_; have HB := n4_; clear n0_ n1_ n2_ n3_ n4_; clear hg hw hp_)); try go_wp2_with (first | ((with_reducible refine gate_store (t := 3) (p := 154) rfl ?_); (try (rw [drewN_self wc]; generalize hq_ : World.drewN wc _ = wc; have n0_ := Aside0.mk (Kd.V_at hq_ HO_0.out); have n1_ := Aside0.mk (Kd.V_at hq_ HO_1.out); have n2_ := Aside0.mk (Kd.R_at hq_ HO_12.out); have n3_ := Aside0.mk (Kd.R_at hq_ HO_28.out); have n4_ := Aside0.mk (below_at hq_ HB.out); clear hq_ HO_0 HO_1 HO_12 HO_28 HB; have HO_0 := n0_; have HO_1 := n1_; have HO_12 := n2_; have HO_28 := n3_; have HB := n4_; clear n0_ n1_ n2_ n3_ n4_; (try (have HX57 := Aside0.mk (show Kd.R k56 56 wc w.heap.size (fun _ => True) (.slice (some ⟨go55, 0, none⟩) x12_1.length co56) x12_1 from (by (with_reducible repeat (first | apply Kd.R_alloc | apply Kd.R_drewN | apply Kd.R_drew)); exact HO_12.out)))); (try (obtain ⟨ce57, hcl57, hM57, hcc57, hfr57⟩ := Kd.R_elem HX57.out z56 ((ji51) : Int) (of_decide_eq_true (by first | (with_reducible assumption) | assumption)) (by have h_ : ((ji51) : Int) < ((x12_1.length : Int) : Int) := of_decide_eq_true (by first | (with_reducible assumption) | assumption); first | exact h_ | (have e_ := (Kd.R_reads' HO_12.out).1; omega) | simpa using h_))); (try (obtain rfl := k56_openM hM57)); (try (have HP57 := Kd.R_seg HX57.out ((ji51) : Int) (of_decide_eq_true (by first | (with_reducible assumption) | assumption)) (by have h_ : ((ji51) : Int) < ((x12_1.length : Int) : Int) := of_decide_eq_true (by first | (with_reducible assumption) | assumption); first | exact h_ | (have e_ := (Kd.R_reads' HO_12.out).1; omega) | simpa using h_) (seg := [.int .i64 (wrap64 ((rd t342 (ji23)) - 1))]) (j := 1) hcl57 hcc57 (show 2 ≤ 2 from by decide) (x' := (⟨(rd_T56 x12_1 (ji51)).f0, (wrap64 ((rd t342 (ji23)) - 1))⟩ : S56)) (k56_mkM _ _ _ (⟨(rd_T56 x12_1 (ji51)).f0, (wrap64 ((rd t342 (ji23)) - 1))⟩ : S56) ) (fun _ hk => hk))); (try (have hx57_1 := hcc57 1 _ rfl)); (try (try simp only [show (k56).sz = 2 from rfl, Nat.mul_one, Nat.add_zero] at hx57_1)); (try (have hf57_1 := hfr57 1)); (try (try simp only [show (k56).sz = 2 from rfl, Nat.mul_one, Nat.add_zero] at hf57_1)); (try (clear hcl57 hcc57 hfr57 hM57)))); refine store_event (t := 3) (p := 154) (v := ?vo_w58) (w1 := (wc.setCell ⟨go55, ((ji51) : Int).toNat * 2 + 1, none⟩ (.int .i64 (wrap64 ((rd t342 (ji23)) - 1))))) ?hg ?ho ?hn ?hr ?_; (case ho => rfl); (case hg => rfl); (case hn => rfl); (case hr => first | (go_simp; done) | (go_simp; rfl)); intro w58 hw; have hg : wc.grownBy w58 (some go55) := (by rw [hw]; exact HP57.2); have hp_ : Kd.R k56 56 w58 w.heap.size (fun _ => True) (.slice (some ⟨go55, 0, none⟩) x12_1.length co56) y353 := (by rw [hw, Ny353.out]; exact HP57.1); clear HP57; have n0_ := Aside0.mk (Kd.V_afterv (v := (.slice (some ⟨go55, 0, none⟩) x12_1.length co56)) (v1 := (.slice (some ⟨go55, 0, none⟩) x12_1.length co56)) (ok := (fun k_ => some k_ ≠ (.slice (some ad345) t342.length co28 : Value).ownBlock)) (by (with_reducible repeat (first | apply Kd.V_alloc | apply Kd.V_drewN | apply Kd.V_drew)); exact Kd.V_mono HO_0.out (fun _ hk => ⟨hk.2, hk.1⟩)) hg (.inl rfl)); have n1_ := Aside0.mk (Kd.V_afterv (v := (.slice (some ⟨go55, 0, none⟩) x12_1.length co56)) (v1 := (.slice (some ⟨go55, 0, none⟩) x12_1.length co56)) (ok := (fun k_ => some k_ ≠ (.slice (some ad345) t342.length co28 : Value).ownBlock)) (by (with_reducible repeat (first | apply Kd.V_alloc | apply Kd.V_drewN | apply Kd.V_drew)); exact Kd.V_mono HO_1.out (fun _ hk => ⟨hk.2, hk.1⟩)) hg (.inl rfl)); have n2_ := Aside0.mk (hp_); have n3_ := Aside0.mk (Kd.R_over' (v := (.slice (some ⟨go55, 0, none⟩) x12_1.length co56)) (by (with_reducible repeat (first | apply Kd.R_alloc | apply Kd.R_drewN | apply Kd.R_drew)); exact HO_28.out) (Kd.R_typed HO_12.out) (by decide) hg); have n4_ := Aside0.mk ((by rw [hw]; exact below_set (HB.out) GB55.out : Below w.heap.size w w58)); clear HO_0; clear HO_1; clear HO_12; clear HO_28; clear HB; have HO_0 := n0_; have HO_1 := n1_; have HO_12 := n2_; have HO_28 := n3_; have HB := n4_; clear n0_ n1_ n2_ n3_ n4_; clear hg hw hp_)))
                                          (try simp only [← hl0_1, ← hl1_1])
                                          go_roundg kj42
                                          case measure => have := HK1.out; have := HJ26.out; have := HJ31.out; have := HJ35.out; have := HJ42.out; omega
                                          case rel => exact ⟨(x0_1), (x1_1), (y353), (x13_26), (x14_31), (wrap64 (x15_1 + 1)), (by first | rfl | (simp; done) | (simp [*]; done)), (by first | rfl | (simp; done) | (simp [*]; done)), (by first | rfl | (simp; done) | (simp [*]; done)), H', ⟨by have := HK1.out; have := HJ26.out; have := HJ31.out; have := HJ35.out; have := HJ42.out; omega⟩, ⟨by (try simp only [hl0_1]); (try simp only [hl1_1]); (with_reducible repeat (first | apply Kd.V_alloc | apply Kd.V_drewN | apply Kd.V_drew)); exact Kd.V_mono HO_0.out (fun _ hk => ⟨hk.2, hk.1⟩)⟩, ⟨by (try simp only [hl0_1]); (try simp only [hl1_1]); (with_reducible repeat (first | apply Kd.V_alloc | apply Kd.V_drewN | apply Kd.V_drew)); exact Kd.V_mono HO_1.out (fun _ hk => ⟨hk.2, hk.1⟩)⟩, ⟨by (try simp only [hl0_1]); (try simp only [hl1_1]); (with_reducible repeat (first | apply Kd.R_alloc | apply Kd.R_drewN | apply Kd.R_drew)); exact HO_12.out⟩, ⟨by (try simp only [hl0_1]); (try simp only [hl1_1]); (with_reducible repeat (first | apply Kd.R_alloc | apply Kd.R_drewN | apply Kd.R_drew)); exact HO_28.out⟩, ⟨by repeat (first | (with_reducible first | exact HB.out | apply below_alloc | apply pw_below_drewN | apply below_drew1) | exact HB.out)⟩⟩
                                        · rw [if_neg c54] at H
                                          have c54b0 : (((rd_T56 x12_1 (ji51)).f1) == (wrap64 ((rd t342 x15_1) - 1))) = false := beq_eq_false_iff_ne.mpr c54
                                          have c54b1 : (((rd_T56 x12_1 (ji51)).f1) != (wrap64 ((rd t342 x15_1) - 1))) = true := bne_iff_ne.mpr c54
                                          by_cases c59 : x12_1.length < 8796093022208
                                          · rw [if_pos c59] at H
                                            have LMc59 := Aside0.mk c59
                                            clear c59
                                            obtain ⟨y354, hy354⟩ : ∃ y_ : List (S56), y_ = (x12_1 ++ [(⟨(rd t342 x15_1), (wrap64 ((rd t342 (ji23)) - 1))⟩ : S56)]) := ⟨_, rfl⟩
                                            replace H : (leadtrailref04_combined.l0 kj42 x0_1 x1_1 a2 a3 a4 y354 x13_26 x14_31 (wrap64 (x15_1 + 1)) t342) = some r := by first | (rw [hy354]; with_reducible exact H) | (have H2_ := (Option.bind_some _ _).symm.trans H; rw [hy354]; with_reducible exact H2_) | (have H2_ := (Option.bind_some _ _).symm.trans H; with_reducible exact H2_) | with_reducible exact H | (rw [hy354]; exact H) | exact H
                                            have Ny354 := Aside0.mk hy354
                                            clear hy354
                                            have H' := Aside0.mk H
                                            clear H
                                            obtain ⟨Ao60, co60, eo60⟩ := Kd.R_slice HO_12.out
                                            subst eo60
                                            have p352 : 0 ≤ ((ji51) : Int) := of_decide_eq_true (by first | (with_reducible assumption) | assumption)
                                            have q352 : (ji51) < (x12_1.length : Int) := of_decide_eq_true (by first | (with_reducible assumption) | assumption)
                                            obtain ⟨ad352, e352, hx352_0, hx352_1⟩ := at_T56 (Kd.R_reads' HO_12.out).2.2 (ji51) p352 q352
                                            cases e352
                                            replace p352 := eq_true p352
                                            replace q352 := eq_true q352
                                            go_wp2_with (first | ((with_reducible refine gate_builtin (b := .append) (xs := #[.tmp 155, .tmp 159]) rfl ?_); (try (refine gate_guard (by rfl) ?_; dsimp only)); at_builtin; refine Kd.R_append k56 (w0 := w) w.heap.size rfl (.tmp 155) (.tmp 159) 32 56 (.agg #[(.int .i64 0), (.int .i64 0)]) 16 rfl Try.underlying32 info56 rfl (by decide) (by omega) (.slice (some ad352) x12_1.length co60) x12_1 (⟨(rd t342 x15_1), (wrap64 ((rd t342 (ji23)) - 1))⟩ : S56) [.int .i64 (rd t342 x15_1), .int .i64 (wrap64 ((rd t342 (ji23)) - 1))] (fun _ => True) (fun _ => False) rfl rfl ?aP (fun _ hk => hk.elim) ?aF ?aO ?aB ?aS ?aL ?_; (case aP => exact k56_mkM _ _ _ (⟨(rd t342 x15_1), (wrap64 ((rd t342 (ji23)) - 1))⟩ : S56)); (case aB => exact (by repeat (first | (with_reducible first | exact HB.out | apply below_alloc | apply pw_below_drewN | apply below_drew1) | exact HB.out))); (case aF => exact (fun _ _ => trivial)); (case aO => exact (by (with_reducible repeat (first | apply Kd.R_alloc | apply Kd.R_drewN | apply Kd.R_drew)); exact HO_12.out)); (case aS => exact (below_size (by repeat (first | (with_reducible first | exact HB.out | apply below_alloc | apply pw_below_drewN | apply below_drew1) | exact HB.out)))); (case aL => have := LMc59.out; omega); intro v355 w61 ho hb hg hat; rw [← Ny354.out] at ho; have n0_ := Aside0.mk (Kd.V_afterv (ok := (fun k_ => some k_ ≠ (.slice (some ad345) t342.length co28 : Value).ownBlock)) (by (with_reducible repeat (first | apply Kd.V_alloc | apply Kd.V_drewN | apply Kd.V_drew)); exact Kd.V_mono HO_0.out (fun _ hk => ⟨hk.2, hk.1⟩)) hg hat); have n1_ := Aside0.mk (Kd.V_afterv (ok := (fun k_ => some k_ ≠ (.slice (some ad345) t342.length co28 : Value).ownBlock)) (by (with_reducible repeat (first | apply Kd.V_alloc | apply Kd.V_drewN | apply Kd.V_drew)); exact Kd.V_mono HO_1.out (fun _ hk => ⟨hk.2, hk.1⟩)) hg hat); have n2_ := Aside0.mk (Kd.R_over' (by (with_reducible repeat (first | apply Kd.R_alloc | apply Kd.R_drewN | apply Kd.R_drew)); exact HO_28.out) (Kd.R_typed (by (with_reducible repeat (first | apply Kd.R_alloc | apply Kd.R_drewN | apply Kd.R_drew)); exact HO_12.out)) (by decide) hg); have n3_ := Aside0.mk (hb); have n4_ := Aside0.mk (ho); clear HO_0; clear HO_1; clear HO_28; clear HB; clear HO_12; have HO_0 := n0_; have HO_1 := n1_; have HO_28 := n2_; have HB := n3_; have HO356 := n4_; clear n0_ n1_ n2_ n3_ n4_; clear ho hb hg hat))
                                            repeat (go_quiet (first | ((with_reducible refine gate_builtin (b := .append) (xs := #[.tmp 155, .tmp 159]) rfl ?_); (try (refine gate_guard (by rfl) ?_; dsimp only)); at_builtin; refine Kd.R_append k56 (w0 := w) w.heap.size rfl (.tmp 155) (.tmp 159) 32 56 (.agg #[(.int .i64 0), (.int .i64 0)]) 16 rfl Try.underlying32 info56 rfl (by decide) (by omega) (.slice (some ad352) x12_1.length co60) x12_1 (⟨(rd t342 x15_1), (wrap64 ((rd t342 (ji23)) - 1))⟩ : S56) [.int .i64 (rd t342 x15_1), .int .i64 (wrap64 ((rd t342 (ji23)) - 1))] (fun _ => True) (fun _ => False) rfl rfl ?aP (fun _ hk => hk.elim) ?aF ?aO ?aB ?aS ?aL ?_; (case aP => exact k56_mkM _ _ _ (⟨(rd t342 x15_1), (wrap64 ((rd t342 (ji23)) - 1))⟩ : S56)); (case aB => exact (by repeat (first | (with_reducible first | exact HB.out | apply below_alloc | apply pw_below_drewN | apply below_drew1) | exact HB.out))); (case aF => exact (fun _ _ => trivial)); (case aO => exact (by (with_reducible repeat (first | apply Kd.R_alloc | apply Kd.R_drewN | apply Kd.R_drew)); exact HO_12.out)); (case aS => exact (below_size (by repeat (first | (with_reducible first | exact HB.out | apply below_alloc | apply pw_below_drewN | apply below_drew1) | exact HB.out)))); (case aL => have := LMc59.out; omega); intro v355 w61 ho hb hg hat; rw [← Ny354.out] at ho; have n0_ := Aside0.mk (Kd.V_afterv (ok := (fun k_ => some k_ ≠ (.slice (some ad345) t342.length co28 : Value).ownBlock)) (by (with_reducible repeat (first | apply Kd.V_alloc | apply Kd.V_drewN | apply Kd.V_drew)); exact Kd.V_mono HO_0.out (fun _ hk => ⟨hk.2, hk.1⟩)) hg hat); have n1_ := Aside0.mk (Kd.V_afterv (ok := (fun k_ => some k_ ≠ (.slice (some ad345) t342.length co28 : Value).ownBlock)) (by (with_reducible repeat (first | apply Kd.V_alloc | apply Kd.V_drewN | apply Kd.V_drew)); exact Kd.V_mono HO_1.out (fun _ hk => ⟨hk.2, hk.1⟩)) hg hat); have n2_ := Aside0.mk (Kd.R_over' (by (with_reducible repeat (first | apply Kd.R_alloc | apply Kd.R_drewN | apply Kd.R_drew)); exact HO_28.out) (Kd.R_typed (by (with_reducible repeat (first | apply Kd.R_alloc | apply Kd.R_drewN | apply Kd.R_drew)); exact HO_12.out)) (by decide) hg); have n3_ := Aside0.mk (hb); have n4_ := Aside0.mk (ho); clear HO_0; clear HO_1; clear HO_28; clear HB; clear HO_12; have HO_0 := n0_; have HO_1 := n1_; have HO_28 := n2_; have HB := n3_; have HO356 := n4_; clear n0_ n1_ n2_ n3_ n4_; clear ho hb hg hat)); try go_wp2_with (first | ((with_reducible refine gate_builtin (b := .append) (xs := #[.tmp 155, .tmp 159]) rfl ?_); (try (refine gate_guard (by rfl) ?_; dsimp only)); at_builtin; refine Kd.R_append k56 (w0 := w) w.heap.size rfl (.tmp 155) (.tmp 159) 32 56 (.agg #[(.int .i64 0), (.int .i64 0)]) 16 rfl Try.underlying32 info56 rfl (by decide) (by omega) (.slice (some ad352) x12_1.length co60) x12_1 (⟨(rd t342 x15_1), (wrap64 ((rd t342 (ji23)) - 1))⟩ : S56) [.int .i64 (rd t342 x15_1), .int .i64 (wrap64 ((rd t342 (ji23)) - 1))] (fun _ => True) (fun _ => False) rfl rfl ?aP (fun _ hk => hk.elim) ?aF ?aO ?aB ?aS ?aL ?_; (case aP => exact k56_mkM _ _ _ (⟨(rd t342 x15_1), (wrap64 ((rd t342 (ji23)) - 1))⟩ : S56)); (case aB => exact (by repeat (first | (with_reducible first | exact HB.out | apply below_alloc | apply pw_below_drewN | apply below_drew1) | exact HB.out))); (case aF => exact (fun _ _ => trivial)); (case aO => exact (by (with_reducible repeat (first | apply Kd.R_alloc | apply Kd.R_drewN | apply Kd.R_drew)); exact HO_12.out)); (case aS => exact (below_size (by repeat (first | (with_reducible first | exact HB.out | apply below_alloc | apply pw_below_drewN | apply below_drew1) | exact HB.out)))); (case aL => have := LMc59.out; omega); intro v355 w61 ho hb hg hat; rw [← Ny354.out] at ho; have n0_ := Aside0.mk (Kd.V_afterv (ok := (fun k_ => some k_ ≠ (.slice (some ad345) t342.length co28 : Value).ownBlock)) (by (with_reducible repeat (first | apply Kd.V_alloc | apply Kd.V_drewN | apply Kd.V_drew)); exact Kd.V_mono HO_0.out (fun _ hk => ⟨hk.2, hk.1⟩)) hg hat); have n1_ := Aside0.mk (Kd.V_afterv (ok := (fun k_ => some k_ ≠ (.slice (some ad345) t342.length co28 : Value).ownBlock)) (by (with_reducible repeat (first | apply Kd.V_alloc | apply Kd.V_drewN | apply Kd.V_drew)); exact Kd.V_mono HO_1.out (fun _ hk => ⟨hk.2, hk.1⟩)) hg hat); have n2_ := Aside0.mk (Kd.R_over' (by (with_reducible repeat (first | apply Kd.R_alloc | apply Kd.R_drewN | apply Kd.R_drew)); exact HO_28.out) (Kd.R_typed (by (with_reducible repeat (first | apply Kd.R_alloc | apply Kd.R_drewN | apply Kd.R_drew)); exact HO_12.out)) (by decide) hg); have n3_ := Aside0.mk (hb); have n4_ := Aside0.mk (ho); clear HO_0; clear HO_1; clear HO_28; clear HB; clear HO_12; have HO_0 := n0_; have HO_1 := n1_; have HO_28 := n2_; have HB := n3_; have HO356 := n4_; clear n0_ n1_ n2_ n3_ n4_; clear ho hb hg hat)))
                                            (try simp only [← hl0_1, ← hl1_1])
                                            go_roundg kj42
                                            case measure => have := HK1.out; have := HJ26.out; have := HJ31.out; have := HJ35.out; have := HJ42.out; omega
                                            case rel => exact ⟨(x0_1), (x1_1), (y354), (x13_26), (x14_31), (wrap64 (x15_1 + 1)), (by first | rfl | (simp; done) | (simp [*]; done)), (by first | rfl | (simp; done) | (simp [*]; done)), (by first | rfl | (simp; done) | (simp [*]; done)), H', ⟨by have := HK1.out; have := HJ26.out; have := HJ31.out; have := HJ35.out; have := HJ42.out; omega⟩, ⟨by (try simp only [hl0_1]); (try simp only [hl1_1]); (with_reducible repeat (first | apply Kd.V_alloc | apply Kd.V_drewN | apply Kd.V_drew)); exact Kd.V_mono HO_0.out (fun _ hk => ⟨hk.2, hk.1⟩)⟩, ⟨by (try simp only [hl0_1]); (try simp only [hl1_1]); (with_reducible repeat (first | apply Kd.V_alloc | apply Kd.V_drewN | apply Kd.V_drew)); exact Kd.V_mono HO_1.out (fun _ hk => ⟨hk.2, hk.1⟩)⟩, ⟨by (try simp only [hl0_1]); (try simp only [hl1_1]); (with_reducible repeat (first | apply Kd.R_alloc | apply Kd.R_drewN | apply Kd.R_drew)); exact HO356.out⟩, ⟨by (try simp only [hl0_1]); (try simp only [hl1_1]); (with_reducible repeat (first | apply Kd.R_alloc | apply Kd.R_drewN | apply Kd.R_drew)); exact HO_28.out⟩, ⟨by repeat (first | (with_reducible first | exact HB.out | apply below_alloc | apply pw_below_drewN | apply below_drew1) | exact HB.out)⟩⟩
                                          · rw [if_neg c59] at H
                                            exact absurd H (by simp)
                                      · rw [if_neg c53] at H
                                        exact absurd H (by simp)
                                    · rw [if_neg c52] at H
                                      exact absurd H (by simp)
                                  · rw [if_neg c50] at H
                                    have c50b0 : decide (0 < (x12_1.length : Int)) = false := decide_eq_false c50
                                    have c50b1 : decide (0 < x12_1.length) = false := decide_eq_false (by omega)
                                    clear c50
                                    by_cases c62 : x12_1.length < 8796093022208
                                    · rw [if_pos c62] at H
                                      have LMc62 := Aside0.mk c62
                                      clear c62
                                      obtain ⟨y357, hy357⟩ : ∃ y_ : List (S56), y_ = (x12_1 ++ [(⟨(rd t342 x15_1), (wrap64 ((rd t342 (ji23)) - 1))⟩ : S56)]) := ⟨_, rfl⟩
                                      replace H : (leadtrailref04_combined.l0 kj42 x0_1 x1_1 a2 a3 a4 y357 x13_26 x14_31 (wrap64 (x15_1 + 1)) t342) = some r := by first | (rw [hy357]; with_reducible exact H) | (have H2_ := (Option.bind_some _ _).symm.trans H; rw [hy357]; with_reducible exact H2_) | (have H2_ := (Option.bind_some _ _).symm.trans H; with_reducible exact H2_) | with_reducible exact H | (rw [hy357]; exact H) | exact H
                                      have Ny357 := Aside0.mk hy357
                                      clear hy357
                                      have H' := Aside0.mk H
                                      clear H
                                      obtain ⟨Ao63, co63, eo63⟩ := Kd.R_slice HO_12.out
                                      subst eo63
                                      go_wp2_with (first | ((with_reducible refine gate_builtin (b := .append) (xs := #[.tmp 155, .tmp 159]) rfl ?_); (try (refine gate_guard (by rfl) ?_; dsimp only)); at_builtin; refine Kd.R_append k56 (w0 := w) w.heap.size rfl (.tmp 155) (.tmp 159) 32 56 (.agg #[(.int .i64 0), (.int .i64 0)]) 16 rfl Try.underlying32 info56 rfl (by decide) (by omega) (.slice Ao63 x12_1.length co63) x12_1 (⟨(rd t342 x15_1), (wrap64 ((rd t342 (ji23)) - 1))⟩ : S56) [.int .i64 (rd t342 x15_1), .int .i64 (wrap64 ((rd t342 (ji23)) - 1))] (fun _ => True) (fun _ => False) rfl rfl ?aP (fun _ hk => hk.elim) ?aF ?aO ?aB ?aS ?aL ?_; (case aP => exact k56_mkM _ _ _ (⟨(rd t342 x15_1), (wrap64 ((rd t342 (ji23)) - 1))⟩ : S56)); (case aB => exact (by repeat (first | (with_reducible first | exact HB.out | apply below_alloc | apply pw_below_drewN | apply below_drew1) | exact HB.out))); (case aF => exact (fun _ _ => trivial)); (case aO => exact (by (with_reducible repeat (first | apply Kd.R_alloc | apply Kd.R_drewN | apply Kd.R_drew)); exact HO_12.out)); (case aS => exact (below_size (by repeat (first | (with_reducible first | exact HB.out | apply below_alloc | apply pw_below_drewN | apply below_drew1) | exact HB.out)))); (case aL => have := LMc62.out; omega); intro v358 w64 ho hb hg hat; rw [← Ny357.out] at ho; have n0_ := Aside0.mk (Kd.V_afterv (ok := (fun k_ => some k_ ≠ (.slice (some ad345) t342.length co28 : Value).ownBlock)) (by (with_reducible repeat (first | apply Kd.V_alloc | apply Kd.V_drewN | apply Kd.V_drew)); exact Kd.V_mono HO_0.out (fun _ hk => ⟨hk.2, hk.1⟩)) hg hat); have n1_ := Aside0.mk (Kd.V_afterv (ok := (fun k_ => some k_ ≠ (.slice (some ad345) t342.length co28 : Value).ownBlock)) (by (with_reducible repeat (first | apply Kd.V_alloc | apply Kd.V_drewN | apply Kd.V_drew)); exact Kd.V_mono HO_1.out (fun _ hk => ⟨hk.2, hk.1⟩)) hg hat); have n2_ := Aside0.mk (Kd.R_over' (by (with_reducible repeat (first | apply Kd.R_alloc | apply Kd.R_drewN | apply Kd.R_drew)); exact HO_28.out) (Kd.R_typed (by (with_reducible repeat (first | apply Kd.R_alloc | apply Kd.R_drewN | apply Kd.R_drew)); exact HO_12.out)) (by decide) hg); have n3_ := Aside0.mk (hb); have n4_ := Aside0.mk (ho); clear HO_0; clear HO_1; clear HO_28; clear HB; clear HO_12; have HO_0 := n0_; have HO_1 := n1_; have HO_28 := n2_; have HB := n3_; have HO359 := n4_; clear n0_ n1_ n2_ n3_ n4_; clear ho hb hg hat))
                                      repeat (go_quiet (first | ((with_reducible refine gate_builtin (b := .append) (xs := #[.tmp 155, .tmp 159]) rfl ?_); (try (refine gate_guard (by rfl) ?_; dsimp only)); at_builtin; refine Kd.R_append k56 (w0 := w) w.heap.size rfl (.tmp 155) (.tmp 159) 32 56 (.agg #[(.int .i64 0), (.int .i64 0)]) 16 rfl Try.underlying32 info56 rfl (by decide) (by omega) (.slice Ao63 x12_1.length co63) x12_1 (⟨(rd t342 x15_1), (wrap64 ((rd t342 (ji23)) - 1))⟩ : S56) [.int .i64 (rd t342 x15_1), .int .i64 (wrap64 ((rd t342 (ji23)) - 1))] (fun _ => True) (fun _ => False) rfl rfl ?aP (fun _ hk => hk.elim) ?aF ?aO ?aB ?aS ?aL ?_; (case aP => exact k56_mkM _ _ _ (⟨(rd t342 x15_1), (wrap64 ((rd t342 (ji23)) - 1))⟩ : S56)); (case aB => exact (by repeat (first | (with_reducible first | exact HB.out | apply below_alloc | apply pw_below_drewN | apply below_drew1) | exact HB.out))); (case aF => exact (fun _ _ => trivial)); (case aO => exact (by (with_reducible repeat (first | apply Kd.R_alloc | apply Kd.R_drewN | apply Kd.R_drew)); exact HO_12.out)); (case aS => exact (below_size (by repeat (first | (with_reducible first | exact HB.out | apply below_alloc | apply pw_below_drewN | apply below_drew1) | exact HB.out)))); (case aL => have := LMc62.out; omega); intro v358 w64 ho hb hg hat; rw [← Ny357.out] at ho; have n0_ := Aside0.mk (Kd.V_afterv (ok := (fun k_ => some k_ ≠ (.slice (some ad345) t342.length co28 : Value).ownBlock)) (by (with_reducible repeat (first | apply Kd.V_alloc | apply Kd.V_drewN | apply Kd.V_drew)); exact Kd.V_mono HO_0.out (fun _ hk => ⟨hk.2, hk.1⟩)) hg hat); have n1_ := Aside0.mk (Kd.V_afterv (ok := (fun k_ => some k_ ≠ (.slice (some ad345) t342.length co28 : Value).ownBlock)) (by (with_reducible repeat (first | apply Kd.V_alloc | apply Kd.V_drewN | apply Kd.V_drew)); exact Kd.V_mono HO_1.out (fun _ hk => ⟨hk.2, hk.1⟩)) hg hat); have n2_ := Aside0.mk (Kd.R_over' (by (with_reducible repeat (first | apply Kd.R_alloc | apply Kd.R_drewN | apply Kd.R_drew)); exact HO_28.out) (Kd.R_typed (by (with_reducible repeat (first | apply Kd.R_alloc | apply Kd.R_drewN | apply Kd.R_drew)); exact HO_12.out)) (by decide) hg); have n3_ := Aside0.mk (hb); have n4_ := Aside0.mk (ho); clear HO_0; clear HO_1; clear HO_28; clear HB; clear HO_12; have HO_0 := n0_; have HO_1 := n1_; have HO_28 := n2_; have HB := n3_; have HO359 := n4_; clear n0_ n1_ n2_ n3_ n4_; clear ho hb hg hat)); try go_wp2_with (first | ((with_reducible refine gate_builtin (b := .append) (xs := #[.tmp 155, .tmp 159]) rfl ?_); (try (refine gate_guard (by rfl) ?_; dsimp only)); at_builtin; refine Kd.R_append k56 (w0 := w) w.heap.size rfl (.tmp 155) (.tmp 159) 32 56 (.agg #[(.int .i64 0), (.int .i64 0)]) 16 rfl Try.underlying32 info56 rfl (by decide) (by omega) (.slice Ao63 x12_1.length co63) x12_1 (⟨(rd t342 x15_1), (wrap64 ((rd t342 (ji23)) - 1))⟩ : S56) [.int .i64 (rd t342 x15_1), .int .i64 (wrap64 ((rd t342 (ji23)) - 1))] (fun _ => True) (fun _ => False) rfl rfl ?aP (fun _ hk => hk.elim) ?aF ?aO ?aB ?aS ?aL ?_; (case aP => exact k56_mkM _ _ _ (⟨(rd t342 x15_1), (wrap64 ((rd t342 (ji23)) - 1))⟩ : S56)); (case aB => exact (by repeat (first | (with_reducible first | exact HB.out | apply below_alloc | apply pw_below_drewN | apply below_drew1) | exact HB.out))); (case aF => exact (fun _ _ => trivial)); (case aO => exact (by (with_reducible repeat (first | apply Kd.R_alloc | apply Kd.R_drewN | apply Kd.R_drew)); exact HO_12.out)); (case aS => exact (below_size (by repeat (first | (with_reducible first | exact HB.out | apply below_alloc | apply pw_below_drewN | apply below_drew1) | exact HB.out)))); (case aL => have := LMc62.out; omega); intro v358 w64 ho hb hg hat; rw [← Ny357.out] at ho; have n0_ := Aside0.mk (Kd.V_afterv (ok := (fun k_ => some k_ ≠ (.slice (some ad345) t342.length co28 : Value).ownBlock)) (by (with_reducible repeat (first | apply Kd.V_alloc | apply Kd.V_drewN | apply Kd.V_drew)); exact Kd.V_mono HO_0.out (fun _ hk => ⟨hk.2, hk.1⟩)) hg hat); have n1_ := Aside0.mk (Kd.V_afterv (ok := (fun k_ => some k_ ≠ (.slice (some ad345) t342.length co28 : Value).ownBlock)) (by (with_reducible repeat (first | apply Kd.V_alloc | apply Kd.V_drewN | apply Kd.V_drew)); exact Kd.V_mono HO_1.out (fun _ hk => ⟨hk.2, hk.1⟩)) hg hat); have n2_ := Aside0.mk (Kd.R_over' (by (with_reducible repeat (first | apply Kd.R_alloc | apply Kd.R_drewN | apply Kd.R_drew)); exact HO_28.out) (Kd.R_typed (by (with_reducible repeat (first | apply Kd.R_alloc | apply Kd.R_drewN | apply Kd.R_drew)); exact HO_12.out)) (by decide) hg); have n3_ := Aside0.mk (hb); have n4_ := Aside0.mk (ho); clear HO_0; clear HO_1; clear HO_28; clear HB; clear HO_12; have HO_0 := n0_; have HO_1 := n1_; have HO_28 := n2_; have HB := n3_; have HO359 := n4_; clear n0_ n1_ n2_ n3_ n4_; clear ho hb hg hat)))
                                      (try simp only [← hl0_1, ← hl1_1])
                                      go_roundg kj42
                                      case measure => have := HK1.out; have := HJ26.out; have := HJ31.out; have := HJ35.out; have := HJ42.out; omega
                                      case rel => exact ⟨(x0_1), (x1_1), (y357), (x13_26), (x14_31), (wrap64 (x15_1 + 1)), (by first | rfl | (simp; done) | (simp [*]; done)), (by first | rfl | (simp; done) | (simp [*]; done)), (by first | rfl | (simp; done) | (simp [*]; done)), H', ⟨by have := HK1.out; have := HJ26.out; have := HJ31.out; have := HJ35.out; have := HJ42.out; omega⟩, ⟨by (try simp only [hl0_1]); (try simp only [hl1_1]); (with_reducible repeat (first | apply Kd.V_alloc | apply Kd.V_drewN | apply Kd.V_drew)); exact Kd.V_mono HO_0.out (fun _ hk => ⟨hk.2, hk.1⟩)⟩, ⟨by (try simp only [hl0_1]); (try simp only [hl1_1]); (with_reducible repeat (first | apply Kd.V_alloc | apply Kd.V_drewN | apply Kd.V_drew)); exact Kd.V_mono HO_1.out (fun _ hk => ⟨hk.2, hk.1⟩)⟩, ⟨by (try simp only [hl0_1]); (try simp only [hl1_1]); (with_reducible repeat (first | apply Kd.R_alloc | apply Kd.R_drewN | apply Kd.R_drew)); exact HO359.out⟩, ⟨by (try simp only [hl0_1]); (try simp only [hl1_1]); (with_reducible repeat (first | apply Kd.R_alloc | apply Kd.R_drewN | apply Kd.R_drew)); exact HO_28.out⟩, ⟨by repeat (first | (with_reducible first | exact HB.out | apply below_alloc | apply pw_below_drewN | apply below_drew1) | exact HB.out)⟩⟩
                                    · rw [if_neg c62] at H
                                      exact absurd H (by simp)
            · rw [if_neg c24] at H
              exact absurd H (by simp)
          · rw [if_neg c22] at H
            exact absurd H (by simp)
        · rw [if_neg c21] at H
          exact absurd H (by simp)
      · rw [if_neg c20] at H
        have c20b0 : decide ((wrap64 (x15_1 + 1)) < (t342.length : Int)) = false := decide_eq_false c20
        clear c20
        obtain rfl := Option.some.inj H
        obtain ⟨Ao65, co65, eo65⟩ := Kd.R_slice HO_28.out
        subst eo65
        go_wp2
        repeat (go_quiet (fail); try go_wp2)
        go_ret
        exact ⟨_, by first | rfl | (simp [errW_none, errW_some] <;> rfl) | (simp [*, errW_none, errW_some] <;> rfl), by (with_reducible repeat (first | apply Kd.R_alloc | apply Kd.R_drewN | apply Kd.R_drew)); exact HO_12.out, by repeat (first | (with_reducible first | exact HB.out | apply below_alloc | apply pw_below_drewN | apply below_drew1) | exact HB.out)⟩
end Go.Proofs.Ytddffjhodiengaa.C
