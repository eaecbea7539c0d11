/- Words and walks of this claim, of the text PCValid. -/
import Derived.Test.YtddffjhodiengaaKcCx0
import Derived.Test.YtddffjhodiengaaKcCx8
import Derived.Test.YtddffjhodiengaaKcPCSets
namespace Go.Proofs.Ytddffjhodiengaa.PC
open Go.RowKit Go.Proofs.YtddffjhodiengaaW.PrintWords Go.Proofs.YtddffjhodiengaaW.PrintLast Go.Proofs.YtddffjhodiengaaW.PrintMore Go.Proofs.Ytddffjhodiengaa.C Go.Proofs.LT
set_option linter.unusedVariables false
set_option linter.unusedSimpArgs false
theorem scalars_Valid_is (l : List S56) (hl : l.length * 16 ≤ 140737488351232) : Ev (fun k => scalars_Valid.f k l) (validB 1073741823 (-2) (l.map L56)) := by
  have h1 := api_Range_is l hl
  have h2 := valid_is 1073741823 (by omega) (l.map api_Range_c) (by simp; omega)
  rw [api_Range_len] at h2
  exact Ev.bind h1 (Ev.bind h2 (evNow _))
end Go.Proofs.Ytddffjhodiengaa.PC
