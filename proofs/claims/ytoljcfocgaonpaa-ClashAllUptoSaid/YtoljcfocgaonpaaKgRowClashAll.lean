/- ClashAll: the row: whatever the arguments, the call returns true, and each argument reads as it did. Conditions: none but the row's own reach. -/
import Derived.Test.YtoljcfocgaonpaaRows
import Derived.Test.YtoljcfocgaonpaaKgQP2
import Derived.Test.YtoljcfocgaonpaaKgQP4
import Derived.Test.YtoljcfocgaonpaaKgQW1
import Derived.WalkKit
import Derived.JoinedCond
import Derived.Deep.CondSized
import Derived.Deep.Slices
import Derived.ProofKit
import Derived.OpenShut
import Derived.ShutString
import Derived.ChangeOld
import Derived.Below
import Derived.SizedLaws
import Derived.KernelRfl
namespace Go.Proofs.Ytoljcfocgaonpaa.RClashAll
open Go.ChangeShapes Go.WideShapes Go.ChangeAt Go.RowKit
open Go.ChangeMaps (open_string shut_string)
open Go.Proofs.YtoljcfocgaonpaaW.PrintWords Go.Proofs.Ytoljcfocgaonpaa.I
set_option linter.unusedVariables false
structure S69 where
  f0 : List S47
def k69 : Kd S69 := Kd.iso (Kd.slice 47 k47) (fun x : S69 => x.f0)
theorem k69_open {w : World} {x : S69} {cs : List Value} (h : k69.K w x cs) : ∃ A0 c0, cs = [.slice A0 x.f0.length c0] ∧ x.f0.length ≤ c0 ∧ k47.C w A0 x.f0.length x.f0 := by
  obtain ⟨A, c, rfl, h1, h2⟩ := h
  exact ⟨A, c, rfl, h1, h2⟩
instance inh34 : Inhabited S34 := ⟨⟨default, default⟩⟩
instance inh47 : Inhabited S47 := ⟨⟨default, default⟩⟩
instance inh69 : Inhabited S69 := ⟨⟨default⟩⟩
theorem own : ownKnob Try.prog.godebug = none := by kernel_rfl
theorem laidOut : laidOutB Try.prog = true := by kernel_rfl
set_option maxRecDepth 100000 in
theorem lifted (os : Os) (started : os.Started) (H : Type) (enc : TypeId × Value → H) (F : Stop.Interp) :
    ReturnsInHanded {} Try.checked os 12 .any ((Rows.OpenSpec.upto Rows.clashAllSpec).pre6 enc Try.prog Try.f12 Rows.clashAllUptoRow.domain false) (((Rows.OpenSpec.upto Rows.clashAllSpec).at F).post enc Try.prog Try.f12 false true false false) := by
  refine returnsInHanded_of_cond_sized (C := Try.checked) (s := (Rows.OpenSpec.upto Rows.clashAllSpec)) rfl (F := F) own started (by kernel_rfl) Try.func12
    (OpenSpec.witness (enc := enc) (C := Try.checked) (s := (Rows.OpenSpec.upto Rows.clashAllSpec)) rfl false ⟨#[], #[.agg #[.slice none 0 0]], []⟩ 8 (by kernel_rfl) (by kernel_rfl) (by kernel_rfl) rfl (by kernel_rfl) (by kernel_rfl) (by kernel_rfl)) ?_
  intro W base args ds gs before hval0 hW hcnd hkk hsz0 _
  have hsz : (DataW.weightsEach Try.prog (Try.f12.params.toList ++ Rows.clashAllSpec.plain.varTypes Try.prog) (ds ++ gs)).all (· ≤ reachBytes) = true := hsz0
  have hval : ∀ (j : Nat) t v, Try.f12.params[j]? = some t → args[j]? = some v → Value.okWide Try.prog W .any base t v := hval0
  have hW' := hW
  obtain ⟨p, q, hA0, hV, rfl, hfz, hnd⟩ := hW
  have hA : DataW.TrodAll enc Try.prog W 0 (fun _ => true) true Try.f12.params.toList args.toList ds p := hA0
  rw [Try.params12] at hA hval hsz
  obtain ⟨v0, vs0, d0, ds0, p0, q0, hargs, rfl, rfl, h0, r0⟩ := trodAll_cons hA
  obtain ⟨rfl, rfl, rfl⟩ := trodAll_nil r0
  obtain rfl : args = #[v0] := by cases args; simp_all
  obtain ⟨rfl, rfl⟩ := trodVars_none hV
  have k0_ := h0
  have lt0 : ∀ x ∈ p0, x.block < W.heap.size := by obtain ⟨m, hm⟩ := k0_; exact DataW.trod_lt m _ _ _ hm
  obtain ⟨y0, cs0, rfl, hK0, hq0⟩ := Opens.arg_struct (K := k69) (Opens.opens_struct1 (fun x : S69 => x.f0) (fun a => ⟨a⟩) (fun _ => rfl) Try.underlying69 (Opens.opens_slice (B := 32) Try.underlying67 (by kernel_rfl) (by kernel_rfl) (Opens.opens_struct2 (fun x : S47 => (x.f0, x.f1)) (fun a b => ⟨a, b⟩) (fun _ _ => rfl) Try.underlying47 (Opens.opens_slice (B := 24) Try.underlying45 (by kernel_rfl) (by kernel_rfl) (Opens.opens_slice (B := 16) Try.underlying22 (by kernel_rfl) (by kernel_rfl) (Opens.opens_struct2 (fun x : S34 => (x.f0, x.f1)) (fun a b => ⟨a, b⟩) (fun _ _ => rfl) Try.underlying34 (Opens.opens_int (k := .i64) Try.underlying3 (by kernel_rfl)) (Opens.opens_int (k := .i64) Try.underlying3 (by kernel_rfl)) (by kernel_rfl) rfl rfl))) (Opens.opens_int (k := .i64) Try.underlying3 (by kernel_rfl)) (by kernel_rfl) rfl rfl)) (by kernel_rfl) rfl) Try.underlying69 (hval 0 69 v0 rfl rfl) h0 hsz (j := 0) rfl rfl
  obtain ⟨A0_0, c0_0, rfl, hc0_0, hr0_0⟩ := k69_open hK0
  have hbulk : Rows.uptoBulkAll [d0] ≤ 1048576 := by
    have h_ : Rows.uptoSmall H ([d0] ++ []) = true := hkk
    simpa [Rows.uptoSmall] using h_
  clear hkk hbulk
  clear hA0 hval0 hsz0 hsz
  obtain ⟨k, hf⟩ := Pure.ClashAll y0.f0 hq0
  refine (leadtraillaw11_ClashAll.calls k A0_0 c0_0 y0.f0 true W hr0_0 hc0_0 hf).mono fun e W' ⟨he, bel⟩ => ?_
  subst he
  exact ⟨_, rfl, _, _, _, [], _, [], hW', trodAll_mk1 (shut_bool Try.underlying4 _), (trodAll_cons_mk (Below.trod laidOut (by kernel_rfl) (of_decide_eq_true (by kernel_rfl)) k0_ bel lt0) trodAll_mk0), rfl, bel.frame _, fun h => by cases h⟩
theorem over : Rows.clashAllUptoRow.holds Try.pinned (Rows.OpenSpec.upto Rows.clashAllSpec) :=
  OpenClaim.holds_of_cond 12 Try.f12 rfl rfl rfl rfl rfl rfl rfl ⟨rfl, rfl, rfl, rfl, rfl⟩ rfl rfl rfl rfl rfl (by kernel_rfl) Try.func12 (by kernel_rfl)
    (of_decide_eq_true (by kernel_rfl)) (by unfold Func.isWrapper; first | (rw [if_pos (by decide +kernel)]; kernel_rfl) | (rw [if_neg (by decide +kernel)]; exact ⟨rfl, rfl⟩))
    (fun os started H enc _ F => lifted os started H enc F)
end Go.Proofs.Ytoljcfocgaonpaa.RClashAll
namespace Go.Proofs.Ytoljcfocgaonpaa
theorem clashAll_holds : Rows.ClashAllUptoSaid := RClashAll.over
#print axioms clashAll_holds
end Go.Proofs.Ytoljcfocgaonpaa
