/- Words and walks of this claim, of the text Bx23. -/
import Derived.Test.YtkcklnmbeinfkaaKcBx0
import Derived.Test.YtkcklnmbeinfkaaKcBx11
namespace Go.Proofs.Ytkcklnmbeinfkaa.B
open Go.RowKit Go.Proofs.YtkcklnmbeinfkaaW.PrintWords Go.Proofs.YtkcklnmbeinfkaaW.PrintLast Go.Proofs.YtkcklnmbeinfkaaW.PrintMore
attribute [local go_sem] max2_int min2_int max_two min_two max_three min_three max_four min_four
set_option linter.unusedVariables false
set_option linter.unusedSimpArgs false
def leadtrailref08_meet.T4 : Bool × List (List Nat × List Nat) := (true, [([], []), ([], []), ([0, 1], [0, 1]), ([2], [2]), ([3], [3]), ([], []), ([], []), ([5, 6], [5, 6]), ([7], [7]), ([8], [8]), ([], []), ([], []), ([10, 11], [10, 11]), ([12], [12]), ([13], [13]), ([9, 14], [9, 14]), ([15], [15]), ([4, 16], [4, 16]), ([17, 14], [17]), ([18], [18]), ([18], [18]), ([19, 20, 18], [18, 19, 20]), ([21, 18], [18, 21]), ([22, 18], [18, 22]), ([18], [18]), ([18], [18]), ([24, 25, 18], [18, 24, 25]), ([26, 18], [18, 26]), ([27, 18], [18, 27]), ([18], [18]), ([18], [18]), ([29, 30, 18], [18, 29, 30]), ([31, 18], [18, 31]), ([32, 18, 18], [18, 32]), ([28, 33, 18], [18, 28, 33]), ([34, 18], [18, 34]), ([23, 35, 18], [18, 23, 35]), ([18, 36], [18, 36])])
def leadtrailref08_meet.B4 : List Nat := [0, 0, 3, 7, 15, 0, 0, 96, 224, 480, 0, 0, 3072, 7168, 15360, 32736, 65504, 131071, 262143, 524287, 524287, 2097151, 4194303, 8388607, 524287, 524287, 50855935, 117964799, 252182527, 524287, 524287, 1611137023, 3758620671, 8053587967, 17163616255, 34343485439, 68719476735, 137438953471]
theorem leadtrailref08_meet.tab4 : rtab .any (opsOf Try.f122 4) = leadtrailref08_meet.T4 := by kernel_rfl
theorem leadtrailref08_meet.bits4 : waitsOk leadtrailref08_meet.T4.2 leadtrailref08_meet.B4 = true := by kernel_rfl
end Go.Proofs.Ytkcklnmbeinfkaa.B
