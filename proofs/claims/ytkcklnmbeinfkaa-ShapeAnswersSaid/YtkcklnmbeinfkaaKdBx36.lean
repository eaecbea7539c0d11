/- Words and walks of this claim, of the text Bx36. -/
import Derived.Test.YtkcklnmbeinfkaaKdZq
import Derived.Test.YtkcklnmbeinfkaaKdBx0
import Derived.Test.YtkcklnmbeinfkaaKdBx12
import Derived.Test.YtkcklnmbeinfkaaKdBx11
namespace Go.Proofs.Ytkcklnmbeinfkaa.B
open Go.RowKit Go.Proofs.YtkcklnmbeinfkaaW.PrintWords Go.Proofs.YtkcklnmbeinfkaaW.PrintLast Go.Proofs.YtkcklnmbeinfkaaW.PrintMore
attribute [local go_sem] max2_int min2_int max_two min_two max_three min_three max_four min_four
set_option linter.unusedVariables false
set_option linter.unusedSimpArgs false
def leadtrailref25_Of.T8 : Bool × List (List Nat × List Nat) := (true, [([], []), ([0], [0]), ([1], [1]), ([2], [2]), ([3], [3]), ([3], [3]), ([5, 3], [3, 5]), ([6, 3], [3, 6]), ([4, 7, 3], [3, 4, 7]), ([8, 3], [3, 8]), ([9, 3], [3, 9]), ([10, 3], [3, 10]), ([3], [3]), ([3], [3]), ([12, 13, 3], [3, 12, 13]), ([14, 3], [3, 14]), ([15, 3], [3, 15]), ([11, 16, 3], [3, 11, 16]), ([3, 17], [3, 17])])
def leadtrailref25_Of.B8 : List Nat := [0, 1, 3, 7, 15, 15, 47, 111, 255, 511, 1023, 2047, 15, 15, 12303, 28687, 61455, 131071, 262143]
theorem leadtrailref25_Of.tab8 : rtab .any (opsOf Try.f25 8) = leadtrailref25_Of.T8 := by kernel_rfl
theorem leadtrailref25_Of.bits8 : waitsOk leadtrailref25_Of.T8.2 leadtrailref25_Of.B8 = true := by kernel_rfl
end Go.Proofs.Ytkcklnmbeinfkaa.B
