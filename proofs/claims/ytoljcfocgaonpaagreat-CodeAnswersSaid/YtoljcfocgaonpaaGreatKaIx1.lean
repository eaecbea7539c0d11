/- Words and walks of this claim, of the text Ix1. -/
import Derived.Test.YtoljcfocgaonpaaGreatKaQW0
import Derived.Test.YtoljcfocgaonpaaGreatKaIx0
namespace Go.Proofs.I
open Go.RowKit Go.Proofs.Zw.PrintWords Go.Proofs.Zw.PrintLast Go.Proofs.Zw.PrintMore
attribute [local go_sem] Dw Ec El Es Dd Dj Dr Eb
set_option linter.unusedVariables false
set_option linter.unusedSimpArgs false
theorem eqA58 (d : Nat) (w : World) (x0 y0 : Int) (x1 y1 : Int) :
 (Op.equalIn (d + 2) 58 (.agg #[.int .i64 x0, .int .i64 x1]) (.agg #[.int .i64 y0, .int .i64 y1])).run Tryz.prog w = .ok (x0 == y0 && (x1 == y1)) w := by
 refine eqA_of Tryz.underlying58 zz ?_; refine Uz (by rfl) (by go_simp; rfl) (by go_simp; rfl) (by go_simp) ?_; exact Uy (by rfl) (by go_simp; rfl) (by go_simp; rfl) (by go_simp)
end Go.Proofs.I
