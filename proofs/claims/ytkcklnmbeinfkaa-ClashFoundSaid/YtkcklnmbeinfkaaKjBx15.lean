/- Words and walks of this claim, of the text Bx15. -/
import Derived.Test.YtkcklnmbeinfkaaKjQW0
import Derived.Test.YtkcklnmbeinfkaaKjBx0
import Derived.Test.YtkcklnmbeinfkaaKjBx8
import Derived.Test.YtkcklnmbeinfkaaKjBx10
import Derived.Test.YtkcklnmbeinfkaaKjBx12
import Derived.Test.YtkcklnmbeinfkaaKjBx13
import Derived.Test.YtkcklnmbeinfkaaKjBx14
namespace Go.Proofs.Ytkcklnmbeinfkaa.B
open Go.RowKit Go.Proofs.YtkcklnmbeinfkaaW.PrintWords Go.Proofs.YtkcklnmbeinfkaaW.PrintLast Go.Proofs.YtkcklnmbeinfkaaW.PrintMore
attribute [local go_sem] max2_int min2_int max_two min_two max_three min_three max_four min_four
set_option linter.unusedVariables false
set_option linter.unusedSimpArgs false
def leadtrailref09_Unrank.T8 : Bool × List (List Nat × List Nat) := (true, [([], []), ([0], [0]), ([], []), ([1, 2], [1, 2]), ([3], [3]), ([], []), ([], []), ([5, 6], [5, 6]), ([4, 7], [4, 7]), ([8], [8]), ([9], [9]), ([9], [9]), ([10, 8, 0, 1, 2, 3, 4, 5, 6, 7, 8, 9, 10], [10]), ([11, 12, 0, 1, 2, 3, 4, 5, 6, 7, 8, 9, 10, 11, 12], [11])])
def leadtrailref09_Unrank.B8 : List Nat := [0, 1, 0, 7, 15, 0, 0, 96, 255, 511, 1023, 1023, 2047, 8191]
theorem leadtrailref09_Unrank.tab8 : rtab .any (opsOf Try.f50 8) = leadtrailref09_Unrank.T8 := by kernel_rfl
theorem leadtrailref09_Unrank.bits8 : waitsOk leadtrailref09_Unrank.T8.2 leadtrailref09_Unrank.B8 = true := by kernel_rfl
end Go.Proofs.Ytkcklnmbeinfkaa.B
