/- CodeAnswers: the row: whatever the arguments, the call returns true, and each argument reads as it did. Conditions: none but the row's own reach. -/
import Derived.Test.YtoljcfocgaonpaaGreatRows
import Derived.Test.YtoljcfocgaonpaaGreatKaIx22
import Derived.Test.YtoljcfocgaonpaaGreatKaQP3
import Derived.Test.YtoljcfocgaonpaaGreatKaQW1
import Derived.WalkKit
import Derived.ProofKit
import Derived.OpenShut
import Derived.ShutString
import Derived.ChangeOld
import Derived.Below
import Derived.SizedLaws
import Derived.KernelRfl
namespace Go.Proofs.YtoljcfocgaonpaaGreat.RCodeAnswers
open Go.ChangeShapes Go.WideShapes Go.ChangeAt Go.RowKit
open Go.ChangeMaps (open_string shut_string)
open Go.Proofs.Zw.PrintWords Go.Proofs.I
set_option linter.unusedVariables false
structure S24 where
  f0 : List S44
def k24 : Kd S24 := Kd.iso (Kd.slice 44 k44) (fun x : S24 => x.f0)
theorem k24_open {w : World} {x : S24} {cs : List Value} (h : k24.K w x cs) : ∃ A0 c0, cs = [.slice A0 x.f0.length c0] ∧ x.f0.length ≤ c0 ∧ k44.C w A0 x.f0.length x.f0 := by
  obtain ⟨A, c, rfl, h1, h2⟩ := h
  exact ⟨A, c, rfl, h1, h2⟩
instance inh58 : Inhabited S58 := ⟨⟨default, default⟩⟩
instance inh44 : Inhabited S44 := ⟨⟨default, default⟩⟩
instance inh24 : Inhabited S24 := ⟨⟨default⟩⟩
theorem own : ownKnob Tryz.prog.godebug = none := by kernel_rfl
theorem Tk : laidOutB Tryz.prog = true := by kernel_rfl
set_option maxRecDepth 100000 in
theorem lifted (os : Os) (started : os.Started) (H : Type) (enc : TypeId × Value → H) :
    ReturnsInHanded {} Tryz.checked os 3 .any (Rows.codeAnswersSpec.pre6 enc Tryz.prog Tryz.f3 Rows.codeAnswersRow.domain false) (Rows.codeAnswersSpec.post enc Tryz.prog Tryz.f3 false true false false) := by
  refine returnsInHanded_of_change_sized (C := Tryz.checked) own started (by kernel_rfl) Tryz.func3
    (ChangeSpec.witness6 (enc := enc) (C := Tryz.checked) false ⟨#[], #[.agg #[.slice none 0 0], .int .i64 0, .slice none 0 0], []⟩ 8 (by kernel_rfl) (by kernel_rfl) (by kernel_rfl) (by kernel_rfl)) ?_
  intro W base args ds gs before hval0 hW hcnd hsz0 _
  have hsz : (DataW.weightsEach Tryz.prog (Tryz.f3.params.toList ++ Rows.codeAnswersSpec.plain.varTypes Tryz.prog) (ds ++ gs)).all (· ≤ reachBytes) = true := hsz0
  have hval : ∀ (j : Nat) t v, Tryz.f3.params[j]? = some t → args[j]? = some v → Value.okWide Tryz.prog W .any base t v := hval0
  have hW' := hW
  obtain ⟨p, q, hA0, hV, rfl, hfz, hnd⟩ := hW
  have hA : DataW.TrodAll enc Tryz.prog W 0 (fun _ => true) true Tryz.f3.params.toList args.toList ds p := hA0
  rw [Tryz.params3] at hA hval hsz
  obtain ⟨v0, vs0, d0, ds0, p0, q0, hargs, rfl, rfl, h0, r0⟩ := trodAll_cons hA
  obtain ⟨v1, vs1, d1, ds1, p1, q1, rfl, rfl, rfl, h1, r1⟩ := trodAll_cons r0
  obtain ⟨v2, vs2, d2, ds2, p2, q2, rfl, rfl, rfl, h2, r2⟩ := trodAll_cons r1
  obtain ⟨rfl, rfl, rfl⟩ := trodAll_nil r2
  obtain rfl : args = #[v0, v1, v2] := by cases args; simp_all
  obtain ⟨rfl, rfl⟩ := trodVars_none hV
  have k0_ := h0
  have lt0 : ∀ x ∈ p0, x.block < W.heap.size := by obtain ⟨m, hm⟩ := k0_; exact DataW.trod_lt m _ _ _ hm
  obtain ⟨y0, cs0, rfl, hK0, hq0⟩ := Opens.arg_struct (K := k24) (Opens.opens_struct1 (fun x : S24 => x.f0) (fun a => ⟨a⟩) (fun _ => rfl) Tryz.underlying24 (Opens.opens_slice (B := 32) Tryz.underlying22 (by kernel_rfl) (by kernel_rfl) (Opens.opens_struct2 (fun x : S44 => (x.f0, x.f1)) (fun a b => ⟨a, b⟩) (fun _ _ => rfl) Tryz.underlying44 (Opens.opens_slice (B := 24) Tryz.underlying42 (by kernel_rfl) (by kernel_rfl) (Opens.opens_slice (B := 16) Tryz.underlying59 (by kernel_rfl) (by kernel_rfl) (Opens.opens_struct2 (fun x : S58 => (x.f0, x.f1)) (fun a b => ⟨a, b⟩) (fun _ _ => rfl) Tryz.underlying58 (Opens.opens_int (k := .i64) Tryz.underlying3 (by kernel_rfl)) (Opens.opens_int (k := .i64) Tryz.underlying3 (by kernel_rfl)) (by kernel_rfl) rfl rfl))) (Opens.opens_int (k := .i64) Tryz.underlying3 (by kernel_rfl)) (by kernel_rfl) rfl rfl)) (by kernel_rfl) rfl) Tryz.underlying24 (hval 0 24 v0 rfl rfl) h0 hsz (j := 0) rfl rfl
  obtain ⟨A0_0, c0_0, rfl, hc0_0, hr0_0⟩ := k24_open hK0
  obtain ⟨a1, rfl, rfl, rfl, w1⟩ := open_int Tryz.underlying3 (hval 1 3 v1 rfl rfl) h1
  have k2_ := h2
  have lt2 : ∀ x ∈ p2, x.block < W.heap.size := by obtain ⟨m, hm⟩ := k2_; exact DataW.trod_lt m _ _ _ hm
  obtain ⟨A2, c2, l2, rfl, hc2, hr2, hq2⟩ := Opens.arg_slice (K := (Kd.int .u8)) (Opens.opens_slice (B := 1) Tryz.underlying25 (by kernel_rfl) (by kernel_rfl) (Opens.opens_int (k := .u8) Tryz.underlying5 (by kernel_rfl))) Tryz.underlying25 (hval 2 25 v2 rfl rfl) h2 hsz (j := 2) rfl rfl
  clear hA0 hval0 hsz0 hsz
  obtain ⟨k, hf⟩ := Pure.CodeAnswers y0.f0 a1 l2 hq0 w1 hq2
  refine (Bo.calls k A0_0 c0_0 y0.f0 a1 A2 c2 l2 true W hr0_0 hc0_0 hr2 hc2 hf).mono fun e W' ⟨he, bel⟩ => ?_
  subst he
  exact ⟨_, rfl, _, _, _, [], _, [], hW', trodAll_mk1 (shut_bool Tryz.underlying4 _), (trodAll_cons_mk (Below.trod Tk (by kernel_rfl) (of_decide_eq_true (by kernel_rfl)) k0_ bel lt0) (trodAll_cons_mk (shut_int Tryz.underlying3 w1) (trodAll_cons_mk (Below.trod Tk (by kernel_rfl) (of_decide_eq_true (by kernel_rfl)) k2_ bel lt2) trodAll_mk0))), rfl, bel.frame _, fun h => by cases h⟩
theorem over : Rows.codeAnswersRow.holds Tryz.pinned (OpenSpec.ofChange Rows.codeAnswersSpec) :=
  OpenClaim.holds_of_wide 3 Tryz.f3 rfl rfl rfl rfl rfl rfl rfl ⟨rfl, rfl, rfl, rfl, rfl⟩ rfl rfl rfl rfl rfl (by kernel_rfl) Tryz.func3 (by kernel_rfl)
    (of_decide_eq_true (by kernel_rfl)) (by unfold Func.isWrapper; first | (rw [if_pos (by decide +kernel)]; kernel_rfl) | (rw [if_neg (by decide +kernel)]; exact ⟨rfl, rfl⟩))
    (fun os started H enc _ => lifted os started H enc)
end Go.Proofs.YtoljcfocgaonpaaGreat.RCodeAnswers
namespace Go.Proofs.YtoljcfocgaonpaaGreat
theorem codeAnswers_holds : Rows.CodeAnswersSaid := RCodeAnswers.over
#print axioms codeAnswers_holds
end Go.Proofs.YtoljcfocgaonpaaGreat
