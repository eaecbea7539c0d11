/- Words and walks of this claim, of the text Bx51. -/
import Derived.Test.YtkcklnmbeinfkaaKqQW0
import Derived.Test.YtkcklnmbeinfkaaKqBx0
namespace Go.Proofs.Ytkcklnmbeinfkaa.B
open Go.RowKit Go.Proofs.YtkcklnmbeinfkaaW.PrintWords Go.Proofs.YtkcklnmbeinfkaaW.PrintLast Go.Proofs.YtkcklnmbeinfkaaW.PrintMore
attribute [local go_sem] max2_int min2_int max_two min_two max_three min_three max_four min_four
set_option linter.unusedVariables false
set_option linter.unusedSimpArgs false
def ownOwnRanges.m1 (j : Nat) : List Value := [.int .i64 (-(j : Int) - 5), .int .i64 0]
def ownOwnRanges.m2 (j : Nat) : List Value := [.int .i64 ((j : Int) + 1), .int .i64 0]
def ownOwnInts.m1 (j : Nat) : List Value := [.int .i64 (-(j : Int) - 5)]
def ownOwnInts.m2 (j : Nat) : List Value := [.int .i64 ((j : Int) + 1)]
end Go.Proofs.Ytkcklnmbeinfkaa.B
