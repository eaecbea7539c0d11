/- Words and walks of this claim, of the text Bx52. -/
import Derived.Test.YtkcklnmbeinfkaaKqQW0
import Derived.Test.YtkcklnmbeinfkaaKqBx0
import Derived.Test.YtkcklnmbeinfkaaKqBx22
import Derived.Test.YtkcklnmbeinfkaaKqBx23
import Derived.Test.YtkcklnmbeinfkaaKqBx41
import Derived.Test.YtkcklnmbeinfkaaKqBx42
import Derived.Test.YtkcklnmbeinfkaaKqBx46
import Derived.Test.YtkcklnmbeinfkaaKqBx47
import Derived.Test.YtkcklnmbeinfkaaKqBx51
namespace Go.Proofs.Ytkcklnmbeinfkaa.B
open Go.RowKit Go.Proofs.YtkcklnmbeinfkaaW.PrintWords Go.Proofs.YtkcklnmbeinfkaaW.PrintLast Go.Proofs.YtkcklnmbeinfkaaW.PrintMore
attribute [local go_sem] max2_int min2_int max_two min_two max_three min_three max_four min_four
set_option linter.unusedVariables false
set_option linter.unusedSimpArgs false
def ownOwnSpans.m1 (j : Nat) : List Value := [.int .i64 (-(j : Int) - 5), .int .i64 0]
def ownOwnSpans.m2 (j : Nat) : List Value := [.int .i64 ((j : Int) + 1), .int .i64 0]
def leadtrailref04_Size.l0 : Nat → Int → Int → List (S102) → Option (Int)
 | 0, _, _, _ => none
 | k + 1, x3, x5, x7 => if x5 < (x7.length : Int) then (if 0 ≤ x5 then (leadtrailref04_Size.l0 k (wrap64 (x3 + (wrap64 ((wrap64 (((rd_T102 x7 x5).f1) - ((rd_T102 x7 x5).f0))) + 1)))) (wrap64 (x5 + 1)) x7) else (none)) else (some x3)
def leadtrailref04_Size.f (k : Nat) (l0 : List (S102)) : Option (Int) := (leadtrailref04_set.f k l0).bind fun t1476 => (leadtrailref04_Size.l0 k 0 0 t1476)
end Go.Proofs.Ytkcklnmbeinfkaa.B
