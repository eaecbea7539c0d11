/- Words and walks of this claim, of the text PRValid. -/
import Derived.Test.YtddffjhodiengaaKjRx0
import Derived.Test.YtddffjhodiengaaKjRx5
import Derived.Test.YtddffjhodiengaaKjPRSets
namespace Go.Proofs.Ytddffjhodiengaa.PR
open Go.RowKit Go.Proofs.YtddffjhodiengaaW.PrintWords Go.Proofs.YtddffjhodiengaaW.PrintLast Go.Proofs.YtddffjhodiengaaW.PrintMore Go.Proofs.Ytddffjhodiengaa.R Go.Proofs.LT
set_option linter.unusedVariables false
set_option linter.unusedSimpArgs false
theorem spans_Valid_is (l : List S49) (hl : l.length * 16 ≤ 140737488351232) : Ev (fun k => spans_Valid.f k l) (validB 255 (-2) (l.map L49)) := by
  have h1 := api_Span_is l hl
  have h2 := valid_is 255 (by omega) (l.map api_Span_c) (by simp; omega)
  rw [api_Span_len] at h2
  exact Ev.bind h1 (Ev.bind h2 (evNow _))
end Go.Proofs.Ytddffjhodiengaa.PR
