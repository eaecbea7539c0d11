/- Words and walks of this claim, of the text Bx14. -/
import Derived.Test.YtkcklnmbeinfkaaKjQW0
import Derived.Test.YtkcklnmbeinfkaaKjBx0
import Derived.Test.YtkcklnmbeinfkaaKjBx12
import Derived.Test.YtkcklnmbeinfkaaKjBx13
namespace Go.Proofs.Ytkcklnmbeinfkaa.B
open Go.RowKit Go.Proofs.YtkcklnmbeinfkaaW.PrintWords Go.Proofs.YtkcklnmbeinfkaaW.PrintLast Go.Proofs.YtkcklnmbeinfkaaW.PrintMore
attribute [local go_sem] max2_int min2_int max_two min_two max_three min_three max_four min_four
set_option linter.unusedVariables false
set_option linter.unusedSimpArgs false
def leadtrailref09_Rank.T7 : Bool × List (List Nat × List Nat) := (true, [([], []), ([0], [0]), ([], []), ([1, 2], [1, 2]), ([3], [3]), ([], []), ([], []), ([5, 6], [5, 6]), ([7], [7]), ([8], [8]), ([4, 9], [4, 9]), ([10], [10]), ([11], [11]), ([11], [11]), ([12, 10, 0, 1, 2, 3, 4, 5, 6, 7, 8, 9, 10, 11, 12], [12]), ([13, 14, 0, 1, 2, 3, 4, 5, 6, 7, 8, 9, 10, 11, 12, 13, 14], [13])])
def leadtrailref09_Rank.B7 : List Nat := [0, 1, 0, 7, 15, 0, 0, 96, 224, 480, 1023, 2047, 4095, 4095, 8191, 32767]
theorem leadtrailref09_Rank.tab7 : rtab .any (opsOf Try.f49 7) = leadtrailref09_Rank.T7 := by kernel_rfl
theorem leadtrailref09_Rank.bits7 : waitsOk leadtrailref09_Rank.T7.2 leadtrailref09_Rank.B7 = true := by kernel_rfl
end Go.Proofs.Ytkcklnmbeinfkaa.B
