/- RepertOwns: the row: whatever the arguments, the call returns true, and each argument reads as it did. Conditions: none but the row's own reach. -/
import Derived.Test.YtkcklnmbeinfkaaRows
import Derived.Test.YtkcklnmbeinfkaaKrQW0
import Derived.Test.YtkcklnmbeinfkaaKrBx52
import Derived.Test.YtkcklnmbeinfkaaKrQP1
import Derived.Test.YtkcklnmbeinfkaaKrQW1
import Derived.WalkKit
import Derived.ProofKit
import Derived.OpenShut
import Derived.ShutString
import Derived.ChangeOld
import Derived.Below
import Derived.SizedLaws
import Derived.KernelRfl
namespace Go.Proofs.Ytkcklnmbeinfkaa.RRepertOwns
open Go.ChangeShapes Go.WideShapes Go.ChangeAt Go.RowKit
open Go.ChangeMaps (open_string shut_string)
open Go.Proofs.YtkcklnmbeinfkaaW.PrintWords Go.Proofs.Ytkcklnmbeinfkaa.B
set_option linter.unusedVariables false
structure S24 where
  f0 : List S50
def k24 : Kd S24 := Kd.iso (Kd.slice 50 k50) (fun x : S24 => x.f0)
theorem k24_open {w : World} {x : S24} {cs : List Value} (h : k24.K w x cs) : ∃ A0 c0, cs = [.slice A0 x.f0.length c0] ∧ x.f0.length ≤ c0 ∧ k50.C w A0 x.f0.length x.f0 := by
  obtain ⟨A, c, rfl, h1, h2⟩ := h
  exact ⟨A, c, rfl, h1, h2⟩
instance inh113 : Inhabited S113 := ⟨⟨default, default⟩⟩
instance inh50 : Inhabited S50 := ⟨⟨default, default⟩⟩
instance inh24 : Inhabited S24 := ⟨⟨default⟩⟩
theorem own : ownKnob Try.prog.godebug = none := by kernel_rfl
theorem laidOut : laidOutB Try.prog = true := by kernel_rfl
set_option maxRecDepth 100000 in
theorem lifted (os : Os) (started : os.Started) (H : Type) (enc : TypeId × Value → H) :
    ReturnsInHanded {} Try.checked os 7 .any (Rows.repertOwnsSpec.pre6 enc Try.prog Try.f7 Rows.repertOwnsRow.domain false) (Rows.repertOwnsSpec.post enc Try.prog Try.f7 false true false false) := by
  refine returnsInHanded_of_change_sized (C := Try.checked) own started (by kernel_rfl) Try.func7
    (ChangeSpec.witness6 (enc := enc) (C := Try.checked) false ⟨#[], #[.agg #[.slice none 0 0]], []⟩ 8 (by kernel_rfl) (by kernel_rfl) (by kernel_rfl) (by kernel_rfl)) ?_
  intro W base args ds gs before hval0 hW hcnd hsz0 _
  have hsz : (DataW.weightsEach Try.prog (Try.f7.params.toList ++ Rows.repertOwnsSpec.plain.varTypes Try.prog) (ds ++ gs)).all (· ≤ reachBytes) = true := hsz0
  have hval : ∀ (j : Nat) t v, Try.f7.params[j]? = some t → args[j]? = some v → Value.okWide Try.prog W .any base t v := hval0
  have hW' := hW
  obtain ⟨p, q, hA0, hV, rfl, hfz, hnd⟩ := hW
  have hA : DataW.TrodAll enc Try.prog W 0 (fun _ => true) true Try.f7.params.toList args.toList ds p := hA0
  rw [Try.params7] at hA hval hsz
  obtain ⟨v0, vs0, d0, ds0, p0, q0, hargs, rfl, rfl, h0, r0⟩ := trodAll_cons hA
  obtain ⟨rfl, rfl, rfl⟩ := trodAll_nil r0
  obtain rfl : args = #[v0] := by cases args; simp_all
  obtain ⟨rfl, rfl⟩ := trodVars_none hV
  have k0_ := h0
  have lt0 : ∀ x ∈ p0, x.block < W.heap.size := by obtain ⟨m, hm⟩ := k0_; exact DataW.trod_lt m _ _ _ hm
  obtain ⟨y0, cs0, rfl, hK0, hq0⟩ := Opens.arg_struct (K := k24) (Opens.opens_struct1 (fun x : S24 => x.f0) (fun a => ⟨a⟩) (fun _ => rfl) Try.underlying24 (Opens.opens_slice (B := 32) Try.underlying22 (by kernel_rfl) (by kernel_rfl) (Opens.opens_struct2 (fun x : S50 => (x.f0, x.f1)) (fun a b => ⟨a, b⟩) (fun _ _ => rfl) Try.underlying50 (Opens.opens_slice (B := 24) Try.underlying48 (by kernel_rfl) (by kernel_rfl) (Opens.opens_slice (B := 16) Try.underlying34 (by kernel_rfl) (by kernel_rfl) (Opens.opens_struct2 (fun x : S113 => (x.f0, x.f1)) (fun a b => ⟨a, b⟩) (fun _ _ => rfl) Try.underlying113 (Opens.opens_int (k := .i64) Try.underlying3 (by kernel_rfl)) (Opens.opens_int (k := .i64) Try.underlying3 (by kernel_rfl)) (by kernel_rfl) rfl rfl))) (Opens.opens_int (k := .i64) Try.underlying3 (by kernel_rfl)) (by kernel_rfl) rfl rfl)) (by kernel_rfl) rfl) Try.underlying24 (hval 0 24 v0 rfl rfl) h0 hsz (j := 0) rfl rfl
  obtain ⟨A0_0, c0_0, rfl, hc0_0, hr0_0⟩ := k24_open hK0
  clear hA0 hval0 hsz0 hsz
  obtain ⟨k, hf⟩ := Pure.RepertOwns y0.f0 hq0
  refine (leadtraillaw25_RepertOwns.calls k A0_0 c0_0 y0.f0 true W hr0_0 hc0_0 hf).mono fun e W' ⟨he, bel⟩ => ?_
  subst he
  exact ⟨_, rfl, _, _, _, [], _, [], hW', trodAll_mk1 (shut_bool Try.underlying4 _), (trodAll_cons_mk (Below.trod laidOut (by kernel_rfl) (of_decide_eq_true (by kernel_rfl)) k0_ bel lt0) trodAll_mk0), rfl, bel.frame _, fun h => by cases h⟩
theorem fn_is : Try.pinned.checked.prog.funcNamed Rows.repertOwnsRow.func = some 7 := by kernel_rfl
theorem joined : joinedFacts Try.pinned.checked.prog 7 Try.f7 Rows.repertOwnsSpec Rows.repertOwnsRow = true :=
  joined_of (by kernel_rfl) laidOut (by kernel_rfl) (by kernel_rfl) (by kernel_rfl) (by kernel_rfl) (by kernel_rfl) (by kernel_rfl) (by kernel_rfl) (by kernel_rfl) (by kernel_rfl) (by kernel_rfl) (by kernel_rfl) (by kernel_rfl) (by kernel_rfl) (by kernel_rfl) (by kernel_rfl) (by kernel_rfl) (by kernel_rfl) (by kernel_rfl) (by kernel_rfl) (by kernel_rfl) (by kernel_rfl) (by kernel_rfl) heard_is may_is (by rw [lifts_is]; rfl) (by rw [make_is]; rfl) (by kernel_rfl) (by kernel_rfl) (by kernel_rfl) (by kernel_rfl)
theorem over : Rows.repertOwnsRow.holds Try.pinned (OpenSpec.ofChange Rows.repertOwnsSpec) :=
  OpenClaim.holds_of_wide 7 Try.f7 rfl rfl rfl rfl rfl rfl rfl ⟨rfl, rfl, rfl, rfl, rfl⟩ rfl rfl rfl rfl rfl fn_is Try.func7 joined
    (of_decide_eq_true (by kernel_rfl)) (by unfold Func.isWrapper; first | (rw [if_pos (by decide +kernel)]; kernel_rfl) | (rw [if_neg (by decide +kernel)]; exact ⟨rfl, rfl⟩))
    (fun os started H enc _ => lifted os started H enc)
end Go.Proofs.Ytkcklnmbeinfkaa.RRepertOwns
namespace Go.Proofs.Ytkcklnmbeinfkaa
theorem repertOwns_holds : Rows.RepertOwnsSaid := RRepertOwns.over
#print axioms repertOwns_holds
end Go.Proofs.Ytkcklnmbeinfkaa
