/- ShapeAll: the row: whatever the arguments, the call returns true, and each argument reads as it did. Conditions: none but the row's own reach. -/
import Derived.Test.YtoljcfocgaonpaaRows
import Derived.Test.YtoljcfocgaonpaaKdQP1
import Derived.Test.YtoljcfocgaonpaaKdQP2
import Derived.Test.YtoljcfocgaonpaaKdQW1
import Derived.WalkKit
import Derived.ProofKit
import Derived.OpenShut
import Derived.ShutString
import Derived.ChangeOld
import Derived.Below
import Derived.SizedLaws
import Derived.KernelRfl
namespace Go.Proofs.Ytoljcfocgaonpaa.RShapeAll
open Go.ChangeShapes Go.WideShapes Go.ChangeAt Go.RowKit
open Go.ChangeMaps (open_string shut_string)
open Go.Proofs.YtoljcfocgaonpaaW.PrintWords Go.Proofs.Ytoljcfocgaonpaa.I
set_option linter.unusedVariables false
instance inh34 : Inhabited S34 := ⟨⟨default, default⟩⟩
instance inh47 : Inhabited S47 := ⟨⟨default, default⟩⟩
theorem own : ownKnob Try.prog.godebug = none := by kernel_rfl
theorem laidOut : laidOutB Try.prog = true := by kernel_rfl
set_option maxRecDepth 100000 in
theorem lifted (os : Os) (started : os.Started) (H : Type) (enc : TypeId × Value → H) :
    ReturnsInHanded {} Try.checked os 7 .any (Rows.shapeAllSpec.pre6 enc Try.prog Try.f7 Rows.shapeAllRow.domain false) (Rows.shapeAllSpec.post enc Try.prog Try.f7 false true false false) := by
  refine returnsInHanded_of_change_sized (C := Try.checked) own started (by kernel_rfl) Try.func7
    (ChangeSpec.witness6 (enc := enc) (C := Try.checked) false ⟨#[], #[.agg #[.slice none 0 0, .int .i64 0], .int .i64 0, .int .i64 0], []⟩ 8 (by kernel_rfl) (by kernel_rfl) (by kernel_rfl) (by kernel_rfl)) ?_
  intro W base args ds gs before hval0 hW hcnd hsz0 _
  have hsz : (DataW.weightsEach Try.prog (Try.f7.params.toList ++ Rows.shapeAllSpec.plain.varTypes Try.prog) (ds ++ gs)).all (· ≤ reachBytes) = true := hsz0
  have hval : ∀ (j : Nat) t v, Try.f7.params[j]? = some t → args[j]? = some v → Value.okWide Try.prog W .any base t v := hval0
  have hW' := hW
  obtain ⟨p, q, hA0, hV, rfl, hfz, hnd⟩ := hW
  have hA : DataW.TrodAll enc Try.prog W 0 (fun _ => true) true Try.f7.params.toList args.toList ds p := hA0
  rw [Try.params7] at hA hval hsz
  obtain ⟨v0, vs0, d0, ds0, p0, q0, hargs, rfl, rfl, h0, r0⟩ := trodAll_cons hA
  obtain ⟨v1, vs1, d1, ds1, p1, q1, rfl, rfl, rfl, h1, r1⟩ := trodAll_cons r0
  obtain ⟨v2, vs2, d2, ds2, p2, q2, rfl, rfl, rfl, h2, r2⟩ := trodAll_cons r1
  obtain ⟨rfl, rfl, rfl⟩ := trodAll_nil r2
  obtain rfl : args = #[v0, v1, v2] := by cases args; simp_all
  obtain ⟨rfl, rfl⟩ := trodVars_none hV
  have k0_ := h0
  have lt0 : ∀ x ∈ p0, x.block < W.heap.size := by obtain ⟨m, hm⟩ := k0_; exact DataW.trod_lt m _ _ _ hm
  obtain ⟨y0, cs0, rfl, hK0, hq0⟩ := Opens.arg_struct (K := k47) (Opens.opens_struct2 (fun x : S47 => (x.f0, x.f1)) (fun a b => ⟨a, b⟩) (fun _ _ => rfl) Try.underlying47 (Opens.opens_slice (B := 24) Try.underlying45 (by kernel_rfl) (by kernel_rfl) (Opens.opens_slice (B := 16) Try.underlying22 (by kernel_rfl) (by kernel_rfl) (Opens.opens_struct2 (fun x : S34 => (x.f0, x.f1)) (fun a b => ⟨a, b⟩) (fun _ _ => rfl) Try.underlying34 (Opens.opens_int (k := .i64) Try.underlying3 (by kernel_rfl)) (Opens.opens_int (k := .i64) Try.underlying3 (by kernel_rfl)) (by kernel_rfl) rfl rfl))) (Opens.opens_int (k := .i64) Try.underlying3 (by kernel_rfl)) (by kernel_rfl) rfl rfl) Try.underlying47 (hval 0 47 v0 rfl rfl) h0 hsz (j := 0) rfl rfl
  obtain ⟨A0_0, c0_0, rfl, hc0_0, hr0_0⟩ := k47_open hK0
  obtain ⟨a1, rfl, rfl, rfl, w1⟩ := open_int Try.underlying3 (hval 1 3 v1 rfl rfl) h1
  obtain ⟨a2, rfl, rfl, rfl, w2⟩ := open_int Try.underlying3 (hval 2 3 v2 rfl rfl) h2
  clear hA0 hval0 hsz0 hsz
  obtain ⟨k, hf⟩ := Pure.ShapeAll y0.f0 y0.f1 a1 a2 hq0.1 hq0.2 w1 w2
  refine (leadtraillaw09_ShapeAll.calls k A0_0 c0_0 y0.f0 y0.f1 a1 a2 true W hr0_0 hc0_0 hf).mono fun e W' ⟨he, bel⟩ => ?_
  subst he
  exact ⟨_, rfl, _, _, _, [], _, [], hW', trodAll_mk1 (shut_bool Try.underlying4 _), (trodAll_cons_mk (Below.trod laidOut (by kernel_rfl) (of_decide_eq_true (by kernel_rfl)) k0_ bel lt0) (trodAll_cons_mk (shut_int Try.underlying3 w1) (trodAll_cons_mk (shut_int Try.underlying3 w2) trodAll_mk0))), rfl, bel.frame _, fun h => by cases h⟩
theorem over : Rows.shapeAllRow.holds Try.pinned (OpenSpec.ofChange Rows.shapeAllSpec) :=
  OpenClaim.holds_of_wide 7 Try.f7 rfl rfl rfl rfl rfl rfl rfl ⟨rfl, rfl, rfl, rfl, rfl⟩ rfl rfl rfl rfl rfl (by kernel_rfl) Try.func7 (by kernel_rfl)
    (of_decide_eq_true (by kernel_rfl)) (by unfold Func.isWrapper; first | (rw [if_pos (by decide +kernel)]; kernel_rfl) | (rw [if_neg (by decide +kernel)]; exact ⟨rfl, rfl⟩))
    (fun os started H enc _ => lifted os started H enc)
end Go.Proofs.Ytoljcfocgaonpaa.RShapeAll
namespace Go.Proofs.Ytoljcfocgaonpaa
theorem shapeAll_holds : Rows.ShapeAllSaid := RShapeAll.over
#print axioms shapeAll_holds
end Go.Proofs.Ytoljcfocgaonpaa
