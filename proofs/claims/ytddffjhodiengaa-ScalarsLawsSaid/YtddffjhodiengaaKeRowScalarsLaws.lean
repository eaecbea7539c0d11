/- ScalarsLaws: the row: whatever the arguments, the call returns true, and each argument reads as it did. Conditions: none but the row's own reach. -/
import Derived.Test.YtddffjhodiengaaRows
import Derived.Test.YtddffjhodiengaaKeCx14
import Derived.Test.YtddffjhodiengaaKePCLaws
import Derived.Test.YtddffjhodiengaaKeOpens
import Derived.WalkKit
import Derived.ProofKit
import Derived.OpenShut
import Derived.ShutString
import Derived.ChangeOld
import Derived.Below
import Derived.SizedLaws
import Derived.KernelRfl
namespace Go.Proofs.Ytddffjhodiengaa.RScalarsLaws
open Go.ChangeShapes Go.WideShapes Go.ChangeAt Go.RowKit
open Go.ChangeMaps (open_string shut_string)
open Go.Proofs.YtddffjhodiengaaW.PrintWords Go.Proofs.Ytddffjhodiengaa.C
set_option linter.unusedVariables false
structure S66 where
  f0 : List S56
  f1 : List S56
def k66 : Kd S66 := Kd.iso (Kd.pair (Kd.slice 56 k56) (Kd.slice 56 k56)) (fun x : S66 => (x.f0, x.f1))
theorem k66_open {w : World} {x : S66} {cs : List Value} (h : k66.K w x cs) : ∃ A0 c0 A1 c1, cs = [.slice A0 x.f0.length c0, .slice A1 x.f1.length c1] ∧ x.f0.length ≤ c0 ∧ k56.C w A0 x.f0.length x.f0 ∧ x.f1.length ≤ c1 ∧ k56.C w A1 x.f1.length x.f1 := by
  obtain ⟨_, _, rfl, ⟨A, c, rfl, h1, h2⟩, ⟨A', c', rfl, h3, h4⟩⟩ := h
  exact ⟨A, c, A', c', rfl, h1, h2, h3, h4⟩
instance inh56 : Inhabited S56 := ⟨⟨default, default⟩⟩
instance inh66 : Inhabited S66 := ⟨⟨default, default⟩⟩
theorem own : ownKnob Try.prog.godebug = none := by kernel_rfl
theorem laidOut : laidOutB Try.prog = true := by kernel_rfl
set_option maxRecDepth 100000 in
theorem lifted (os : Os) (started : os.Started) (H : Type) (enc : TypeId × Value → H) :
    ReturnsInHanded {} Try.checked os 16 .any (Rows.scalarsLawsSpec.pre6 enc Try.prog Try.f16 Rows.scalarsLawsRow.domain false) (Rows.scalarsLawsSpec.post enc Try.prog Try.f16 false true false false) := by
  refine returnsInHanded_of_change_sized (C := Try.checked) own started (by kernel_rfl) Try.func16
    (ChangeSpec.witness6 (enc := enc) (C := Try.checked) false ⟨#[], #[.agg #[.slice none 0 0, .slice none 0 0], .int .i64 0], []⟩ 8 (by kernel_rfl) (by kernel_rfl) (by kernel_rfl) (by kernel_rfl)) ?_
  intro W base args ds gs before hval0 hW hcnd hsz0 _
  have hsz : (DataW.weightsEach Try.prog (Try.f16.params.toList ++ Rows.scalarsLawsSpec.plain.varTypes Try.prog) (ds ++ gs)).all (· ≤ reachBytes) = true := hsz0
  have hval : ∀ (j : Nat) t v, Try.f16.params[j]? = some t → args[j]? = some v → Value.okWide Try.prog W .any base t v := hval0
  have hW' := hW
  obtain ⟨p, q, hA0, hV, rfl, hfz, hnd⟩ := hW
  have hA : DataW.TrodAll enc Try.prog W 0 (fun _ => true) true Try.f16.params.toList args.toList ds p := hA0
  rw [Try.params16] at hA hval hsz
  obtain ⟨v0, vs0, d0, ds0, p0, q0, hargs, rfl, rfl, h0, r0⟩ := trodAll_cons hA
  obtain ⟨v1, vs1, d1, ds1, p1, q1, rfl, rfl, rfl, h1, r1⟩ := trodAll_cons r0
  obtain ⟨rfl, rfl, rfl⟩ := trodAll_nil r1
  obtain rfl : args = #[v0, v1] := by cases args; simp_all
  obtain ⟨rfl, rfl⟩ := trodVars_none hV
  have k0_ := h0
  have lt0 : ∀ x ∈ p0, x.block < W.heap.size := by obtain ⟨m, hm⟩ := k0_; exact DataW.trod_lt m _ _ _ hm
  obtain ⟨y0, cs0, rfl, hK0, hq0⟩ := Opens.arg_struct (K := k66) (Opens.opens_struct2 (fun x : S66 => (x.f0, x.f1)) (fun a b => ⟨a, b⟩) (fun _ _ => rfl) Try.underlying66 (Opens.opens_slice (B := 16) Try.underlying32 (by kernel_rfl) (by kernel_rfl) (Opens.opens_struct2 (fun x : S56 => (x.f0, x.f1)) (fun a b => ⟨a, b⟩) (fun _ _ => rfl) Try.underlying56 (Opens.opens_int (k := .i64) Try.underlying3 (by kernel_rfl)) (Opens.opens_int (k := .i64) Try.underlying3 (by kernel_rfl)) (by kernel_rfl) rfl rfl)) (Opens.opens_slice (B := 16) Try.underlying32 (by kernel_rfl) (by kernel_rfl) (Opens.opens_struct2 (fun x : S56 => (x.f0, x.f1)) (fun a b => ⟨a, b⟩) (fun _ _ => rfl) Try.underlying56 (Opens.opens_int (k := .i64) Try.underlying3 (by kernel_rfl)) (Opens.opens_int (k := .i64) Try.underlying3 (by kernel_rfl)) (by kernel_rfl) rfl rfl)) (by kernel_rfl) rfl rfl) Try.underlying66 (hval 0 66 v0 rfl rfl) h0 hsz (j := 0) rfl rfl
  obtain ⟨A0_0, c0_0, A0_1, c0_1, rfl, hc0_0, hr0_0, hc0_1, hr0_1⟩ := k66_open hK0
  obtain ⟨a1, rfl, rfl, rfl, w1⟩ := open_int Try.underlying3 (hval 1 3 v1 rfl rfl) h1
  clear hA0 hval0 hsz0 hsz
  obtain ⟨k, hf⟩ := Pure.ScalarsLaws y0.f0 y0.f1 a1 hq0.1 hq0.2 w1
  refine (leadtraillaw04_ScalarsLaws.calls k A0_0 c0_0 y0.f0 A0_1 c0_1 y0.f1 a1 true W hr0_0 hc0_0 hr0_1 hc0_1 hf).mono fun e W' ⟨he, bel⟩ => ?_
  subst he
  exact ⟨_, rfl, _, _, _, [], _, [], hW', trodAll_mk1 (shut_bool Try.underlying4 _), (trodAll_cons_mk (Below.trod laidOut (by kernel_rfl) (of_decide_eq_true (by kernel_rfl)) k0_ bel lt0) (trodAll_cons_mk (shut_int Try.underlying3 w1) trodAll_mk0)), rfl, bel.frame _, fun h => by cases h⟩
theorem over : Rows.scalarsLawsRow.holds Try.pinned (OpenSpec.ofChange Rows.scalarsLawsSpec) :=
  OpenClaim.holds_of_wide 16 Try.f16 rfl rfl rfl rfl rfl rfl rfl ⟨rfl, rfl, rfl, rfl, rfl⟩ rfl rfl rfl rfl rfl (by kernel_rfl) Try.func16 (by kernel_rfl)
    (of_decide_eq_true (by kernel_rfl)) (by unfold Func.isWrapper; first | (rw [if_pos (by decide +kernel)]; kernel_rfl) | (rw [if_neg (by decide +kernel)]; exact ⟨rfl, rfl⟩))
    (fun os started H enc _ => lifted os started H enc)
end Go.Proofs.Ytddffjhodiengaa.RScalarsLaws
namespace Go.Proofs.Ytddffjhodiengaa
theorem scalarsLaws_holds : Rows.ScalarsLawsSaid := RScalarsLaws.over
#print axioms scalarsLaws_holds
end Go.Proofs.Ytddffjhodiengaa
