/- Words and walks of this claim, of the text Bx22. -/
import Derived.Test.YtkcklnmbeinfkaaKjQW0
import Derived.Test.YtkcklnmbeinfkaaKjBx0
import Derived.Test.YtkcklnmbeinfkaaKjBx11
import Derived.Test.YtkcklnmbeinfkaaKjBx20
import Derived.Test.YtkcklnmbeinfkaaKjBx13
namespace Go.Proofs.Ytkcklnmbeinfkaa.B
open Go.RowKit Go.Proofs.YtkcklnmbeinfkaaW.PrintWords Go.Proofs.YtkcklnmbeinfkaaW.PrintLast Go.Proofs.YtkcklnmbeinfkaaW.PrintMore
attribute [local go_sem] max2_int min2_int max_two min_two max_three min_three max_four min_four
set_option linter.unusedVariables false
set_option linter.unusedSimpArgs false
def leadtrailref08_Copy.T5 : Bool × List (List Nat × List Nat) := (true, [([], []), ([0], [0]), ([], []), ([2], [2]), ([], []), ([3, 4], [3, 4]), ([5], [5]), ([6], [6]), ([7], [7]), ([1, 8, 7], [1, 8]), ([0, 1, 2, 3, 4, 5, 6, 7, 8, 9], []), ([10, 9, 9, 0, 1, 2, 3, 4, 5, 6, 7, 8, 9], [9, 10])])
def leadtrailref08_Copy.B5 : List Nat := [0, 1, 0, 4, 0, 28, 60, 124, 252, 511, 1023, 2047]
theorem leadtrailref08_Copy.tab5 : rtab .any (opsOf Try.f20 5) = leadtrailref08_Copy.T5 := by kernel_rfl
theorem leadtrailref08_Copy.bits5 : waitsOk leadtrailref08_Copy.T5.2 leadtrailref08_Copy.B5 = true := by kernel_rfl
end Go.Proofs.Ytkcklnmbeinfkaa.B
