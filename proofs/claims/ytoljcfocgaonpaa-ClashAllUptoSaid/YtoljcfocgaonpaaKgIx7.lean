/- Words and walks of this claim, of the text Ix7. -/
import Derived.Test.YtoljcfocgaonpaaKgQW0
import Derived.Test.YtoljcfocgaonpaaKgIx0
import Derived.Test.YtoljcfocgaonpaaKgIx1
import Derived.Test.YtoljcfocgaonpaaKgIx6
namespace Go.Proofs.Ytoljcfocgaonpaa.I
open Go.RowKit Go.Proofs.YtoljcfocgaonpaaW.PrintWords Go.Proofs.YtoljcfocgaonpaaW.PrintLast Go.Proofs.YtoljcfocgaonpaaW.PrintMore
attribute [local go_sem] max2_int min2_int max_two min_two max_three min_three max_four min_four
set_option linter.unusedVariables false
set_option linter.unusedSimpArgs false
attribute [local go_sem high] eqA34
theorem blk_new2 (w : World) (o o' : Obj) : ((w.alloc o).alloc o').heap[w.heap.size + 1]? = some o' := by
 have h := blk_new (w.alloc o) o'; rwa [show (w.alloc o).heap.size = w.heap.size + 1 from by simp only [World.alloc, Array.size_push]] at h
def cntB (p : Nat → Bool) : Nat → Nat
 | 0 => 0
 | n + 1 => cntB p n + if p n = true then 1 else 0
end Go.Proofs.Ytoljcfocgaonpaa.I
