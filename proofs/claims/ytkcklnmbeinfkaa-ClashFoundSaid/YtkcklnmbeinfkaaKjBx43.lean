/- Words and walks of this claim, of the text Bx43. -/
import Derived.Test.YtkcklnmbeinfkaaKjQW0
import Derived.Test.YtkcklnmbeinfkaaKjBx0
import Derived.Test.YtkcklnmbeinfkaaKjBx4
import Derived.Test.YtkcklnmbeinfkaaKjBx5
import Derived.Test.YtkcklnmbeinfkaaKjBx12
import Derived.Test.YtkcklnmbeinfkaaKjBx13
import Derived.Test.YtkcklnmbeinfkaaKjBx39
namespace Go.Proofs.Ytkcklnmbeinfkaa.B
open Go.RowKit Go.Proofs.YtkcklnmbeinfkaaW.PrintWords Go.Proofs.YtkcklnmbeinfkaaW.PrintLast Go.Proofs.YtkcklnmbeinfkaaW.PrintMore
attribute [local go_sem] max2_int min2_int max_two min_two max_three min_three max_four min_four
set_option linter.unusedVariables false
set_option linter.unusedSimpArgs false
def leadtrailref25_Lengths.T7 : Bool × List (List Nat × List Nat) := (true, [([], []), ([], []), ([1], [1]), ([], []), ([2, 3], [2, 3]), ([4], [4]), ([5], [5]), ([6], [6]), ([0, 7], [0, 7]), ([8], [8]), ([], []), ([10], [10]), ([], []), ([11, 12], [11, 12]), ([13], [13]), ([14], [14]), ([9, 15], [9, 15]), ([0, 7, 0, 1, 2, 3, 4, 5, 6, 7, 8, 9, 10, 11, 12, 13, 14, 15, 16], [0, 7]), ([17, 16, 15, 0, 1, 2, 3, 4, 5, 6, 7, 8, 9, 10, 11, 12, 13, 14, 15, 16], [16, 17])])
def leadtrailref25_Lengths.B7 : List Nat := [0, 0, 2, 0, 14, 30, 62, 126, 255, 511, 0, 1024, 0, 7168, 15360, 31744, 65535, 131071, 262143]
theorem leadtrailref25_Lengths.tab7 : rtab .any (opsOf Try.f26 7) = leadtrailref25_Lengths.T7 := by kernel_rfl
theorem leadtrailref25_Lengths.bits7 : waitsOk leadtrailref25_Lengths.T7.2 leadtrailref25_Lengths.B7 = true := by kernel_rfl
end Go.Proofs.Ytkcklnmbeinfkaa.B
