/- Words and walks of this claim, of the text Bx32. -/
import Derived.Test.YtkcklnmbeinfkaaKfQW0
import Derived.Test.YtkcklnmbeinfkaaKfBx0
import Derived.Test.YtkcklnmbeinfkaaKfBx1
import Derived.Test.YtkcklnmbeinfkaaKfBx8
import Derived.Test.YtkcklnmbeinfkaaKfBx20
import Derived.Test.YtkcklnmbeinfkaaKfBx30
namespace Go.Proofs.Ytkcklnmbeinfkaa.B
open Go.RowKit Go.Proofs.YtkcklnmbeinfkaaW.PrintWords Go.Proofs.YtkcklnmbeinfkaaW.PrintLast Go.Proofs.YtkcklnmbeinfkaaW.PrintMore
attribute [local go_sem] max2_int min2_int max_two min_two max_three min_three max_four min_four
set_option linter.unusedVariables false
set_option linter.unusedSimpArgs false
attribute [local go_sem high] eqA59
def leadtraillaw11_shapeOf.T5 : Bool × List (List Nat × List Nat) := (true, [([], []), ([0], [0]), ([], []), ([], []), ([2, 3], [2, 3]), ([4], [4]), ([], []), ([], []), ([7], [7]), ([6, 8], [6, 8]), ([9], [9]), ([5, 10], [5, 10]), ([11], [11]), ([12], [12]), ([1, 13], [1, 13]), ([0, 1, 2, 3, 4, 5, 6, 7, 8, 9, 10, 11, 12, 13, 14], []), ([15, 14, 14, 0, 1, 2, 3, 4, 5, 6, 7, 8, 9, 10, 11, 12, 13, 14], [14, 15])])
def leadtraillaw11_shapeOf.B5 : List Nat := [0, 1, 0, 0, 12, 28, 0, 0, 128, 448, 960, 2044, 4092, 8188, 16383, 32767, 65535]
theorem leadtraillaw11_shapeOf.tab5 : rtab .any (opsOf Try.f106 5) = leadtraillaw11_shapeOf.T5 := by kernel_rfl
theorem leadtraillaw11_shapeOf.bits5 : waitsOk leadtraillaw11_shapeOf.T5.2 leadtraillaw11_shapeOf.B5 = true := by kernel_rfl
end Go.Proofs.Ytkcklnmbeinfkaa.B
