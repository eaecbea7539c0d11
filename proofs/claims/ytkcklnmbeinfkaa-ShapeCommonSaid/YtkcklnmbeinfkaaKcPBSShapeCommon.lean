/- Words and walks of this claim, of the text PBSShapeCommon. -/
import Derived.Test.YtkcklnmbeinfkaaKcBx0
import Derived.Test.YtkcklnmbeinfkaaKcBx21
import Derived.Test.YtkcklnmbeinfkaaKcPBSShapeC
namespace Go.Proofs.Ytkcklnmbeinfkaa.PBS
open Go.RowKit Go.Proofs.YtkcklnmbeinfkaaW.PrintWords Go.Proofs.YtkcklnmbeinfkaaW.PrintLast Go.Proofs.YtkcklnmbeinfkaaW.PrintMore Go.Proofs.Ytkcklnmbeinfkaa.B Go.Proofs.LT Go.Proofs.Ytkcklnmbeinfkaa.PB3
set_option linter.unusedVariables false
set_option linter.unusedSimpArgs false
theorem leadtraillaw09_ShapeCommon_ev (ps : List (List Sp)) (a : Int) (qs : List (List Sp)) (c n : Int) (hI : In2 ps) (hJ : In2 qs) : Ev (fun k => leadtraillaw09_ShapeCommon.f k ps a qs c n) true := by
  simp only [leadtraillaw09_ShapeCommon.f]
  refine Ev.bind fixed09 ?_
  simp only [if_true]
  have h2 := Common_is qs c ps a n hJ hI
  rw [cmS_symm] at h2
  refine Ev.bind (Copy_is ps a hI) (Ev.bind (Copy_is qs c hJ) (Ev.bind (Common_is ps a qs c n hI hJ) (Ev.bind (Copy_is qs c hJ) (Ev.bind (Copy_is ps a hI) (Ev.bind h2 (Ev.bind (refCommon_is ps a qs c n hI hJ) ?_))))))
  simp only [beq_self_eq_true, if_true]
  exact evNow _
end Go.Proofs.Ytkcklnmbeinfkaa.PBS
namespace Go.Proofs.Ytkcklnmbeinfkaa.Pure
open Go.Proofs.Ytkcklnmbeinfkaa.B Go.Proofs.YtkcklnmbeinfkaaW.PrintWords
theorem ShapeCommon : ∀ (l0_0 : List (List S113)) (a0_1 : Int) (l1_0 : List (List S113)) (a1_1 : Int) (a2 : Int), (l0_0.length * 24 ≤ 140737488351232 ∧ ∀ x ∈ l0_0, (x.length * 16 ≤ 140737488351232 ∧ ∀ y ∈ x, ((Lit.int .i64 y.f0).wf = true ∧ (Lit.int .i64 y.f1).wf = true))) → (Lit.int .i64 a0_1).wf = true → (l1_0.length * 24 ≤ 140737488351232 ∧ ∀ x ∈ l1_0, (x.length * 16 ≤ 140737488351232 ∧ ∀ y ∈ x, ((Lit.int .i64 y.f0).wf = true ∧ (Lit.int .i64 y.f1).wf = true))) → (Lit.int .i64 a1_1).wf = true → (Lit.int .i64 a2).wf = true → ∃ k, leadtraillaw09_ShapeCommon.f k l0_0 a0_1 l1_0 a1_1 a2 = some true :=
  fun l0 a l1 c n h _ h2 _ _ => Ev.rounds (PBS.leadtraillaw09_ShapeCommon_ev l0 a l1 c n ⟨h.1, fun x hx => (h.2 x hx).1⟩ ⟨h2.1, fun x hx => (h2.2 x hx).1⟩)
end Go.Proofs.Ytkcklnmbeinfkaa.Pure
