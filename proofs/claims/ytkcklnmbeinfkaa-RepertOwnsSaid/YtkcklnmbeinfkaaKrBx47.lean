/- Words and walks of this claim, of the text Bx47. -/
import Derived.Test.YtkcklnmbeinfkaaKrQW0
import Derived.Test.YtkcklnmbeinfkaaKrBx0
namespace Go.Proofs.Ytkcklnmbeinfkaa.B
open Go.RowKit Go.Proofs.YtkcklnmbeinfkaaW.PrintWords Go.Proofs.YtkcklnmbeinfkaaW.PrintLast Go.Proofs.YtkcklnmbeinfkaaW.PrintMore
attribute [local go_sem] max2_int min2_int max_two min_two max_three min_three max_four min_four
set_option linter.unusedVariables false
set_option linter.unusedSimpArgs false
def leadtrailref04_Valid.l0 : Nat → List (S102) → Int → Option (Bool)
 | 0, _, _ => none
 | k + 1, x0, x3 => if x3 < (x0.length : Int) then (if 0 ≤ x3 then (if ((rd_T102 x0 x3).f0) < 0 then (some false) else (if ((rd_T102 x0 x3).f0) > ((rd_T102 x0 x3).f1) then (some false) else (if ((rd_T102 x0 x3).f1) > 1073741823 then (some false) else (if x3 > 0 then (if 0 ≤ (wrap64 (x3 - 1)) then (if (wrap64 (x3 - 1)) < (x0.length : Int) then (if ((rd_T102 x0 x3).f0) ≤ (wrap64 (((rd_T102 x0 (wrap64 (x3 - 1))).f1) + 1)) then (some false) else (leadtrailref04_Valid.l0 k x0 (wrap64 (x3 + 1)))) else (none)) else (none)) else (leadtrailref04_Valid.l0 k x0 (wrap64 (x3 + 1))))))) else (none)) else (some true)
def leadtrailref04_Valid.f (k : Nat) (l0 : List (S102)) : Option (Bool) := leadtrailref04_Valid.l0 k l0 0
def leadtrailref04_set.f (k : Nat) (l0 : List (S102)) : Option ((List (S102))) := (leadtrailref04_Valid.f k l0).bind fun t1306 => (if t1306 = true then (some l0) else (some ([] : List (S102))))
end Go.Proofs.Ytkcklnmbeinfkaa.B
