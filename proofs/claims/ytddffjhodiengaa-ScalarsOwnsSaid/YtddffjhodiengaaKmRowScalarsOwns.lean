/- ScalarsOwns: the row: whatever the arguments, the call returns true, and each argument reads as it did. Conditions: none but the row's own reach. -/
import Derived.Test.YtddffjhodiengaaRows
import Derived.Test.YtddffjhodiengaaKmQx7
import Derived.Test.YtddffjhodiengaaKmPQOwns
import Derived.Test.YtddffjhodiengaaKmOpens
import Derived.WalkKit
import Derived.ProofKit
import Derived.OpenShut
import Derived.ShutString
import Derived.ChangeOld
import Derived.Below
import Derived.SizedLaws
import Derived.KernelRfl
namespace Go.Proofs.Ytddffjhodiengaa.RScalarsOwns
open Go.ChangeShapes Go.WideShapes Go.ChangeAt Go.RowKit
open Go.ChangeMaps (open_string shut_string)
open Go.Proofs.YtddffjhodiengaaW.PrintWords Go.Proofs.Ytddffjhodiengaa.Q
set_option linter.unusedVariables false
instance inh56 : Inhabited S56 := ⟨⟨default, default⟩⟩
theorem own : ownKnob Try.prog.godebug = none := by kernel_rfl
theorem laidOut : laidOutB Try.prog = true := by kernel_rfl
set_option maxRecDepth 100000 in
theorem lifted (os : Os) (started : os.Started) (H : Type) (enc : TypeId × Value → H) :
    ReturnsInHanded {} Try.checked os 14 .any (Rows.scalarsOwnsSpec.pre6 enc Try.prog Try.f14 Rows.scalarsOwnsRow.domain false) (Rows.scalarsOwnsSpec.post enc Try.prog Try.f14 false true false false) := by
  refine returnsInHanded_of_change_sized (C := Try.checked) own started (by kernel_rfl) Try.func14
    (ChangeSpec.witness6 (enc := enc) (C := Try.checked) false ⟨#[], #[.slice none 0 0, .slice none 0 0], []⟩ 8 (by kernel_rfl) (by kernel_rfl) (by kernel_rfl) (by kernel_rfl)) ?_
  intro W base args ds gs before hval0 hW hcnd hsz0 _
  have hsz : (DataW.weightsEach Try.prog (Try.f14.params.toList ++ Rows.scalarsOwnsSpec.plain.varTypes Try.prog) (ds ++ gs)).all (· ≤ reachBytes) = true := hsz0
  have hval : ∀ (j : Nat) t v, Try.f14.params[j]? = some t → args[j]? = some v → Value.okWide Try.prog W .any base t v := hval0
  have hW' := hW
  obtain ⟨p, q, hA0, hV, rfl, hfz, hnd⟩ := hW
  have hA : DataW.TrodAll enc Try.prog W 0 (fun _ => true) true Try.f14.params.toList args.toList ds p := hA0
  rw [Try.params14] at hA hval hsz
  obtain ⟨v0, vs0, d0, ds0, p0, q0, hargs, rfl, rfl, h0, r0⟩ := trodAll_cons hA
  obtain ⟨v1, vs1, d1, ds1, p1, q1, rfl, rfl, rfl, h1, r1⟩ := trodAll_cons r0
  obtain ⟨rfl, rfl, rfl⟩ := trodAll_nil r1
  obtain rfl : args = #[v0, v1] := by cases args; simp_all
  obtain ⟨rfl, rfl⟩ := trodVars_none hV
  have k0_ := h0
  have lt0 : ∀ x ∈ p0, x.block < W.heap.size := by obtain ⟨m, hm⟩ := k0_; exact DataW.trod_lt m _ _ _ hm
  obtain ⟨A0, c0, l0, rfl, hc0, hr0, hq0⟩ := Opens.arg_slice (K := k56) (Opens.opens_slice (B := 16) Try.underlying32 (by kernel_rfl) (by kernel_rfl) (Opens.opens_struct2 (fun x : S56 => (x.f0, x.f1)) (fun a b => ⟨a, b⟩) (fun _ _ => rfl) Try.underlying56 (Opens.opens_int (k := .i64) Try.underlying3 (by kernel_rfl)) (Opens.opens_int (k := .i64) Try.underlying3 (by kernel_rfl)) (by kernel_rfl) rfl rfl)) Try.underlying32 (hval 0 32 v0 rfl rfl) h0 hsz (j := 0) rfl rfl
  have k1_ := h1
  have lt1 : ∀ x ∈ p1, x.block < W.heap.size := by obtain ⟨m, hm⟩ := k1_; exact DataW.trod_lt m _ _ _ hm
  obtain ⟨A1, c1, l1, rfl, hc1, hr1, hq1⟩ := Opens.arg_slice (K := k56) (Opens.opens_slice (B := 16) Try.underlying32 (by kernel_rfl) (by kernel_rfl) (Opens.opens_struct2 (fun x : S56 => (x.f0, x.f1)) (fun a b => ⟨a, b⟩) (fun _ _ => rfl) Try.underlying56 (Opens.opens_int (k := .i64) Try.underlying3 (by kernel_rfl)) (Opens.opens_int (k := .i64) Try.underlying3 (by kernel_rfl)) (by kernel_rfl) rfl rfl)) Try.underlying32 (hval 1 32 v1 rfl rfl) h1 hsz (j := 1) rfl rfl
  clear hA0 hval0 hsz0 hsz
  obtain ⟨k, hf⟩ := Pure.ScalarsOwns l0 l1 hq0 hq1
  refine (leadtraillaw04_ScalarsOwns.calls k A0 c0 l0 A1 c1 l1 true W hr0 hc0 hr1 hc1 hf).mono fun e W' ⟨he, bel⟩ => ?_
  subst he
  exact ⟨_, rfl, _, _, _, [], _, [], hW', trodAll_mk1 (shut_bool Try.underlying4 _), (trodAll_cons_mk (Below.trod laidOut (by kernel_rfl) (of_decide_eq_true (by kernel_rfl)) k0_ bel lt0) (trodAll_cons_mk (Below.trod laidOut (by kernel_rfl) (of_decide_eq_true (by kernel_rfl)) k1_ bel lt1) trodAll_mk0)), rfl, bel.frame _, fun h => by cases h⟩
theorem over : Rows.scalarsOwnsRow.holds Try.pinned (OpenSpec.ofChange Rows.scalarsOwnsSpec) :=
  OpenClaim.holds_of_wide 14 Try.f14 rfl rfl rfl rfl rfl rfl rfl ⟨rfl, rfl, rfl, rfl, rfl⟩ rfl rfl rfl rfl rfl (by kernel_rfl) Try.func14 (by kernel_rfl)
    (of_decide_eq_true (by kernel_rfl)) (by unfold Func.isWrapper; first | (rw [if_pos (by decide +kernel)]; kernel_rfl) | (rw [if_neg (by decide +kernel)]; exact ⟨rfl, rfl⟩))
    (fun os started H enc _ => lifted os started H enc)
end Go.Proofs.Ytddffjhodiengaa.RScalarsOwns
namespace Go.Proofs.Ytddffjhodiengaa
theorem scalarsOwns_holds : Rows.ScalarsOwnsSaid := RScalarsOwns.over
#print axioms scalarsOwns_holds
end Go.Proofs.Ytddffjhodiengaa
