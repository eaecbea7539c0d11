/- Words and walks of this claim, of the text Cx12. -/
import Derived.Test.YtddffjhodiengaaKcCx0
import Derived.Test.YtddffjhodiengaaKcCx3
namespace Go.Proofs.Ytddffjhodiengaa.C
open Go.RowKit Go.Proofs.YtddffjhodiengaaW.PrintWords Go.Proofs.YtddffjhodiengaaW.PrintLast Go.Proofs.YtddffjhodiengaaW.PrintMore
attribute [local go_sem] max2_int min2_int max_two min_two max_three min_three max_four min_four
set_option linter.unusedVariables false
set_option linter.unusedSimpArgs false
mutual
def sets_Meet.l0 : Nat → List (S72) → List (S72) → List (S72) → Option ((List (S72)))
  | 0, _, _, _ => none
  | k + 1, x0, x1, x5 => if (x0.length : Int) > 0 then (sets_Meet.j1 k x0 x1 x5 (decide ((x1.length : Int) > 0))) else (sets_Meet.j1 k x0 x1 x5 false)
def sets_Meet.j1 : Nat → List (S72) → List (S72) → List (S72) → Bool → Option ((List (S72)))
  | 0, _, _, _, _ => none
  | k + 1, x0, x1, x5, x15 => if x15 = true then (if 0 < (x0.length : Int) then (if 0 < (x1.length : Int) then (if (mx ((rd_T72 x0 0).f0) ((rd_T72 x1 0).f0)) ≤ (mn ((rd_T72 x0 0).f1) ((rd_T72 x1 0).f1)) then (if x5.length < 8796093022208 then ((some (x5 ++ [(⟨mx ((rd_T72 x0 0).f0) ((rd_T72 x1 0).f0), mn ((rd_T72 x0 0).f1) ((rd_T72 x1 0).f1)⟩ : S72)] : List (S72))).bind fun y418 => (if ((rd_T72 x0 0).f1) < ((rd_T72 x1 0).f1) then (if 1 ≤ (x0.length : Int) then (sets_Meet.l0 k (x0.drop 1) x1 y418) else (none)) else (if 1 ≤ (x1.length : Int) then (sets_Meet.l0 k x0 (x1.drop 1) y418) else (none)))) else (none)) else (if ((rd_T72 x0 0).f1) < ((rd_T72 x1 0).f1) then (if 1 ≤ (x0.length : Int) then (sets_Meet.l0 k (x0.drop 1) x1 x5) else (none)) else (if 1 ≤ (x1.length : Int) then (sets_Meet.l0 k x0 (x1.drop 1) x5) else (none)))) else (none)) else (none)) else (some x5)
end
end Go.Proofs.Ytddffjhodiengaa.C
