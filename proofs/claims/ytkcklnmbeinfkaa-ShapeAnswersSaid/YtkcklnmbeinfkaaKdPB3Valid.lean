/- Words and walks of this claim, of the text PB3Valid. -/
import Derived.Test.YtkcklnmbeinfkaaKdBx0
import Derived.Test.YtkcklnmbeinfkaaKdBx4
import Derived.Test.YtkcklnmbeinfkaaKdPB3Sets
namespace Go.Proofs.Ytkcklnmbeinfkaa.PB3
open Go.RowKit Go.Proofs.YtkcklnmbeinfkaaW.PrintWords Go.Proofs.YtkcklnmbeinfkaaW.PrintLast Go.Proofs.YtkcklnmbeinfkaaW.PrintMore Go.Proofs.Ytkcklnmbeinfkaa.B Go.Proofs.LT
set_option linter.unusedVariables false
set_option linter.unusedSimpArgs false
theorem spans_Valid_is (l : List S113) (hl : l.length * 16 ≤ 140737488351232) : Ev (fun k => spans_Valid.f k l) (validB 255 (-2) (l.map L113)) := by
  have h1 := api_Span_144_is l hl
  have h2 := valid_is 255 (by omega) (l.map api_Span_144_c) (by simp; omega)
  rw [api_Span_144_len] at h2
  exact Ev.bind h1 (Ev.bind h2 (evNow _))
end Go.Proofs.Ytkcklnmbeinfkaa.PB3
