/- Words and walks of this claim, of the text Bx13. -/
import Derived.Test.YtkcklnmbeinfkaaKjQW0
import Derived.Test.YtkcklnmbeinfkaaKjBx0
import Derived.Test.YtkcklnmbeinfkaaKjBx12
namespace Go.Proofs.Ytkcklnmbeinfkaa.B
open Go.RowKit Go.Proofs.YtkcklnmbeinfkaaW.PrintWords Go.Proofs.YtkcklnmbeinfkaaW.PrintLast Go.Proofs.YtkcklnmbeinfkaaW.PrintMore
attribute [local go_sem] max2_int min2_int max_two min_two max_three min_three max_four min_four
set_option linter.unusedVariables false
set_option linter.unusedSimpArgs false
def leadtrailref08_ValidShape.T8 : Bool × List (List Nat × List Nat) := (true, [([], []), ([0], [0]), ([], []), ([2], [2]), ([1, 3], [1, 3]), ([4], [4]), ([5], [5]), ([6, 3, 0, 1, 2, 3, 4, 5, 6], [6])])
def leadtrailref08_ValidShape.B8 : List Nat := [0, 1, 0, 4, 15, 31, 63, 127]
theorem leadtrailref08_ValidShape.tab8 : rtab .any (opsOf Try.f52 8) = leadtrailref08_ValidShape.T8 := by kernel_rfl
theorem leadtrailref08_ValidShape.bits8 : waitsOk leadtrailref08_ValidShape.T8.2 leadtrailref08_ValidShape.B8 = true := by kernel_rfl
end Go.Proofs.Ytkcklnmbeinfkaa.B
