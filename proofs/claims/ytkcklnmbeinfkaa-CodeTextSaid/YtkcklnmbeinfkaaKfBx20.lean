/- Words and walks of this claim, of the text Bx20. -/
import Derived.Test.YtkcklnmbeinfkaaKfQW0
import Derived.Test.YtkcklnmbeinfkaaKfBx0
import Derived.Test.YtkcklnmbeinfkaaKfBx8
import Derived.Test.YtkcklnmbeinfkaaKfBx4
import Derived.Test.YtkcklnmbeinfkaaKfBx5
namespace Go.Proofs.Ytkcklnmbeinfkaa.B
open Go.RowKit Go.Proofs.YtkcklnmbeinfkaaW.PrintWords Go.Proofs.YtkcklnmbeinfkaaW.PrintLast Go.Proofs.YtkcklnmbeinfkaaW.PrintMore
attribute [local go_sem] max2_int min2_int max_two min_two max_three min_three max_four min_four
set_option linter.unusedVariables false
set_option linter.unusedSimpArgs false
def shape_Common.T7 : Bool × List (List Nat × List Nat) := (true, [([], []), ([0], [0]), ([], []), ([1, 2], [1, 2]), ([3], [3]), ([], []), ([5], [5]), ([], []), ([6, 7], [6, 7]), ([8], [8]), ([4, 9], [4, 9]), ([10, 10, 0, 1, 2, 3, 4, 5, 6, 7, 8, 9, 10], [10])])
def shape_Common.B7 : List Nat := [0, 1, 0, 7, 15, 0, 32, 0, 224, 480, 1023, 2047]
theorem shape_Common.tab7 : rtab .any (opsOf Try.f57 7) = shape_Common.T7 := by kernel_rfl
theorem shape_Common.bits7 : waitsOk shape_Common.T7.2 shape_Common.B7 = true := by kernel_rfl
end Go.Proofs.Ytkcklnmbeinfkaa.B
