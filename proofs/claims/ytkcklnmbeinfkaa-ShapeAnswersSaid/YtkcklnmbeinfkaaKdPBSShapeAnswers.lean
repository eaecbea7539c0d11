/- Words and walks of this claim, of the text PBSShapeAnswers. -/
import Derived.Test.YtkcklnmbeinfkaaKdBx0
import Derived.Test.YtkcklnmbeinfkaaKdBx17
import Derived.Test.YtkcklnmbeinfkaaKdPBSShapeB
namespace Go.Proofs.Ytkcklnmbeinfkaa.PBS
open Go.RowKit Go.Proofs.YtkcklnmbeinfkaaW.PrintWords Go.Proofs.YtkcklnmbeinfkaaW.PrintLast Go.Proofs.YtkcklnmbeinfkaaW.PrintMore Go.Proofs.Ytkcklnmbeinfkaa.B Go.Proofs.LT Go.Proofs.Ytkcklnmbeinfkaa.PB3
set_option linter.unusedVariables false
set_option linter.unusedSimpArgs false
theorem leadtraillaw09_ShapeAnswers_ev (ps : List (List Sp)) (a : Int) (bs : List Int) (k : Int) (hI : In2 ps) (hb : ∀ b ∈ bs, 0 ≤ b ∧ b ≤ 255) : Ev (fun n => leadtraillaw09_ShapeAnswers.f n ps a bs k) true := by
  simp only [leadtraillaw09_ShapeAnswers.f]
  refine Ev.bind fixed09 ?_
  simp only [if_true]
  refine Ev.bind (Copy_is ps a hI) (Ev.bind (Rank_is ps a bs hI hb) (Ev.bind (refRank9_is ps a bs hI hb) (Ev.bind (Unrank_is ps a k hI) (Ev.bind (refUnrank_is ps a k hI) (Ev.bind (shapeValid_is ps a hI) (Ev.bind (refVShape_is ps a hI) ?_))))))
  simp only [beq_self_eq_true, if_true]
  refine Ev.bind (Count_is ps a hI) (Ev.bind (refCount_is ps a hI) ?_)
  simp only [if_true]
  refine Ev.bind (Begins_is ps a bs hI hb) (Ev.bind (refBegins_is ps a bs hI hb) ?_)
  simp only [beq_self_eq_true, if_true]
  exact Ev.bind (SameShape_self ps a hI) (evNow _)
end Go.Proofs.Ytkcklnmbeinfkaa.PBS
namespace Go.Proofs.Ytkcklnmbeinfkaa.Pure
open Go.Proofs.Ytkcklnmbeinfkaa.B Go.Proofs.YtkcklnmbeinfkaaW.PrintWords
theorem wf_byte {x : Int} (h : (Lit.int .u8 x).wf = true) : 0 ≤ x ∧ x ≤ 255 := by
  simp [Lit.wf] at h
  exact ⟨h.1, h.2⟩
theorem ShapeAnswers : ∀ (l0_0 : List (List S113)) (a0_1 : Int) (l1 : List Int) (a2 : Int), (l0_0.length * 24 ≤ 140737488351232 ∧ ∀ x ∈ l0_0, (x.length * 16 ≤ 140737488351232 ∧ ∀ y ∈ x, ((Lit.int .i64 y.f0).wf = true ∧ (Lit.int .i64 y.f1).wf = true))) → (Lit.int .i64 a0_1).wf = true → (l1.length * 1 ≤ 140737488351232 ∧ ∀ x ∈ l1, (Lit.int .u8 x).wf = true) → (Lit.int .i64 a2).wf = true → ∃ k, leadtraillaw09_ShapeAnswers.f k l0_0 a0_1 l1 a2 = some true :=
  fun l0 a l1 k h _ hb _ => Ev.rounds (PBS.leadtraillaw09_ShapeAnswers_ev l0 a l1 k ⟨h.1, fun x hx => (h.2 x hx).1⟩ (fun b hb' => wf_byte (hb.2 b hb')))
end Go.Proofs.Ytkcklnmbeinfkaa.Pure
