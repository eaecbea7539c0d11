/- Words and walks of this claim, of the text Bx39. -/
import Derived.Test.YtkcklnmbeinfkaaKjQW0
import Derived.Test.YtkcklnmbeinfkaaKjBx0
import Derived.Test.YtkcklnmbeinfkaaKjBx2
import Derived.Test.YtkcklnmbeinfkaaKjBx8
import Derived.Test.YtkcklnmbeinfkaaKjBx9
import Derived.Test.YtkcklnmbeinfkaaKjBx38
namespace Go.Proofs.Ytkcklnmbeinfkaa.B
open Go.RowKit Go.Proofs.YtkcklnmbeinfkaaW.PrintWords Go.Proofs.YtkcklnmbeinfkaaW.PrintLast Go.Proofs.YtkcklnmbeinfkaaW.PrintMore
attribute [local go_sem] max2_int min2_int max_two min_two max_three min_three max_four min_four
set_option linter.unusedVariables false
set_option linter.unusedSimpArgs false
attribute [local go_sem high] eqA102
def repert_Of.T7 : Bool × List (List Nat × List Nat) := (true, [([], []), ([], []), ([1], [1]), ([], []), ([3], [3]), ([], []), ([5], [5]), ([4, 6], [4, 6]), ([7], [7]), ([2, 8], [2, 8]), ([9], [9]), ([0, 10, 6], [0, 10]), ([11, 11, 0, 1, 2, 3, 4, 5, 6, 7, 8, 9, 10, 11], [0, 11])])
def repert_Of.B7 : List Nat := [0, 0, 2, 0, 8, 0, 32, 120, 248, 510, 1022, 2047, 4095]
theorem repert_Of.tab7 : rtab .any (opsOf Try.f21 7) = repert_Of.T7 := by kernel_rfl
theorem repert_Of.bits7 : waitsOk repert_Of.T7.2 repert_Of.B7 = true := by kernel_rfl
def repert_Lengths.T7 : Bool × List (List Nat × List Nat) := (true, [([], []), ([], []), ([1], [1]), ([2], [2]), ([0, 3], [0, 3]), ([4], [4]), ([], []), ([6], [6]), ([5, 7], [5, 7]), ([0, 3, 0, 1, 2, 3, 4, 5, 6, 7, 8], [0, 3]), ([9, 8, 7, 0, 1, 2, 3, 4, 5, 6, 7, 8], [8, 9])])
def repert_Lengths.B7 : List Nat := [0, 0, 2, 6, 15, 31, 0, 64, 255, 511, 1023]
theorem repert_Lengths.tab7 : rtab .any (opsOf Try.f22 7) = repert_Lengths.T7 := by kernel_rfl
theorem repert_Lengths.bits7 : waitsOk repert_Lengths.T7.2 repert_Lengths.B7 = true := by kernel_rfl
end Go.Proofs.Ytkcklnmbeinfkaa.B
