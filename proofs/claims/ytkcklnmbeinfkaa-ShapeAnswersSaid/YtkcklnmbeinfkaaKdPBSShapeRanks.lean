/- Words and walks of this claim, of the text PBSShapeRanks. -/
import Derived.Test.YtkcklnmbeinfkaaKdBx0
import Derived.Test.YtkcklnmbeinfkaaKdBx8
import Derived.Test.YtkcklnmbeinfkaaKdBx10
import Derived.Test.YtkcklnmbeinfkaaKdPBSShapeF
namespace Go.Proofs.Ytkcklnmbeinfkaa.PBS
open Go.RowKit Go.Proofs.YtkcklnmbeinfkaaW.PrintWords Go.Proofs.YtkcklnmbeinfkaaW.PrintLast Go.Proofs.YtkcklnmbeinfkaaW.PrintMore Go.Proofs.Ytkcklnmbeinfkaa.B Go.Proofs.LT Go.Proofs.Ytkcklnmbeinfkaa.PB3
set_option linter.unusedVariables false
set_option linter.unusedSimpArgs false
noncomputable def cntS (ps : List (List Sp)) (a : Int) : Int := if vShape ps a = true then cnt (sets ps) else 0
noncomputable def okB (ps : List (List Sp)) (a k : Int) : Bool := decide (0 ≤ k ∧ k < cntS ps a)
noncomputable def unS (ps : List (List Sp)) (a k : Int) : List Int := if okB ps a k = true then unr (sets ps) k else []
theorem okB_of {ps : List (List Sp)} {a k : Int} (h : okB ps a k = true) : vShape ps a = true ∧ 0 ≤ k ∧ k < cnt (sets ps) := by
  have h := of_decide_eq_true h
  by_cases hv : vShape ps a = true
  · have e : cntS ps a = cnt (sets ps) := if_pos hv
    exact ⟨hv, h.1, by omega⟩
  · have e : cntS ps a = 0 := if_neg hv
    omega
theorem Unrank_is (ps : List (List Sp)) (a k : Int) (hI : In2 ps) : Ev (fun n => shape_Unrank.f n ps a k) (unS ps a k, okB ps a k) := by
  cases h : okB ps a k
  · have := Unrank_no ps a k hI (of_decide_eq_false h)
    simpa [unS, h] using this
  · obtain ⟨hv, h0, h1⟩ := okB_of h
    have := Unrank_yes hI hv h0 h1
    simpa [unS, h] using this
end Go.Proofs.Ytkcklnmbeinfkaa.PBS
namespace Go.Proofs.Ytkcklnmbeinfkaa.Pure
open Go.Proofs.Ytkcklnmbeinfkaa.B Go.Proofs.YtkcklnmbeinfkaaW.PrintWords
end Go.Proofs.Ytkcklnmbeinfkaa.Pure
