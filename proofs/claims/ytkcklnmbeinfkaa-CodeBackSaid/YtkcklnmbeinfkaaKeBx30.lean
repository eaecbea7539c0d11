/- Words and walks of this claim, of the text Bx30. -/
import Derived.Test.YtkcklnmbeinfkaaKeQW0
import Derived.Test.YtkcklnmbeinfkaaKeBx0
import Derived.Test.YtkcklnmbeinfkaaKeBx10
import Derived.Test.YtkcklnmbeinfkaaKeBx9
import Derived.Test.YtkcklnmbeinfkaaKeBx20
import Derived.Test.YtkcklnmbeinfkaaKeBx13
import Derived.Test.YtkcklnmbeinfkaaKeBx28
import Derived.Test.YtkcklnmbeinfkaaKeBx29
namespace Go.Proofs.Ytkcklnmbeinfkaa.B
open Go.RowKit Go.Proofs.YtkcklnmbeinfkaaW.PrintWords Go.Proofs.YtkcklnmbeinfkaaW.PrintLast Go.Proofs.YtkcklnmbeinfkaaW.PrintMore
attribute [local go_sem] max2_int min2_int max_two min_two max_three min_three max_four min_four
set_option linter.unusedVariables false
set_option linter.unusedSimpArgs false
def leadtrailref10_Text.T7 : Bool × List (List Nat × List Nat) := (true, [([], []), ([], []), ([], []), ([1, 2], [1, 2]), ([3], [3]), ([0, 4], [0, 4]), ([5], [5]), ([6], [6]), ([6], [6]), ([7, 5, 0, 1, 2, 3, 4, 5, 6, 7], [7]), ([8, 9, 0, 1, 2, 3, 4, 5, 6, 7, 8, 9], [8])])
def leadtrailref10_Text.B7 : List Nat := [0, 0, 0, 6, 14, 31, 63, 127, 127, 255, 1023]
theorem leadtrailref10_Text.tab7 : rtab .any (opsOf Try.f71 7) = leadtrailref10_Text.T7 := by kernel_rfl
theorem leadtrailref10_Text.bits7 : waitsOk leadtrailref10_Text.T7.2 leadtrailref10_Text.B7 = true := by kernel_rfl
end Go.Proofs.Ytkcklnmbeinfkaa.B
