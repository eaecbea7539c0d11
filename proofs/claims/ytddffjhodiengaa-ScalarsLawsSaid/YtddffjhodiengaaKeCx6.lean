/- Words and walks of this claim, of the text Cx6. -/
import Derived.Test.YtddffjhodiengaaKeCx0
import Derived.Test.YtddffjhodiengaaKeCx5
namespace Go.Proofs.Ytddffjhodiengaa.C
open Go.RowKit Go.Proofs.YtddffjhodiengaaW.PrintWords Go.Proofs.YtddffjhodiengaaW.PrintLast Go.Proofs.YtddffjhodiengaaW.PrintMore
attribute [local go_sem] max2_int min2_int max_two min_two max_three min_three max_four min_four
set_option linter.unusedVariables false
set_option linter.unusedSimpArgs false
def leadtrailref04_sorted.f : Nat → List Int → Option (List Int)
  | 0, _ => none
  | k + 1, l0 => if (l0.length : Int) < 2 then ((some (([] : List Int) : List Int)).bind fun y231 => (if y231.length + l0.length < 17592186044416 then (some (y231 ++ l0)) else (none))) else (if 0 ≤ (wrap64 ((l0.length : Int) / 2)) then (if (wrap64 ((l0.length : Int) / 2)) ≤ (l0.length : Int) then ((leadtrailref04_sorted.f k (l0.take ((wrap64 ((l0.length : Int) / 2)) : Int).toNat)).bind fun t238 => ((leadtrailref04_sorted.f k (l0.drop ((wrap64 ((l0.length : Int) / 2)) : Int).toNat)).bind fun t242 => ((leadtrailref04_merged.f k t238 t242).bind fun t245 => (some t245)))) else (none)) else (none))
end Go.Proofs.Ytddffjhodiengaa.C
