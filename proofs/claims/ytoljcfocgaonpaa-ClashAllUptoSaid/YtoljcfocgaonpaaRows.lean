/-
  No cell of these rows narrows 'for every input' (looked for: loops, veiled, ifaces, maps, wideKeys, modest, calm, conditions, laid).
  DERIVED. THE GIVEN ROWS OF THIS SEAT. 10 by the template 'for every input the law returns true; each argument reads behind the call as it read before'; 0 by the template 'total and deterministic' (their statements: YtoljcfocgaonpaaTotals.lean).
  GIVEN WITH THE SEED: the statements are not yours to turn. If you find one false, say at which input.
  Laid BY PROGRAM, IN A SANDBOX (cutbox-rows.mjs): the forced cells as the released guide's own fill.sh prints them over the translation 7895ba576b7c59b1… (all of the seat's roots in one cut). By AI agents, Wed Nov 11 2026. No macro, syntax, notation, axiom, sorry.
-/
import Derived.Test.YtoljcfocgaonpaaChecked
import GoSem.Claim
import GoSem.ClaimJoined
import GoSem.ClaimMapViews
import Derived.JoinedTies
import Derived.KernelRfl
namespace Go.Proofs.Ytoljcfocgaonpaa
/- THE CELL 'sum', in the pinned program and in every row, IS THE sha256 OF THE DUMP (.gsa) THAT YtoljcfocgaonpaaProg.lean LOADS. Nothing in Lean hashes anything: it is a label: what it is worth is what the hold of that sum in a sandbox is worth. -/
noncomputable def Try.pinned : Pinned := { name := "ytoljcfocgaonpaa", sum := "7895ba576b7c59b18701342997e0453eaeba866441dafd7baab4a5c7c800c9a5", checked := Try.checked }
namespace Rows
def none {H : Type} : Left H := { results := [], args := [] }

/-- 'leadtraillaw03.SpansAll': WHATEVER THE INPUT: true; the input reads as it did. -/
def spansAllSpec : ChangeSpec := { name := "spansAll", fn := fun _ => fun
  | [d1, d2, d3] => { results := [.lit (.bool true)], args := [d1, d2, d3] }
  | _ => none }
def spansAllRow : OpenClaim := { program := "ytoljcfocgaonpaa", sum := "7895ba576b7c59b18701342997e0453eaeba866441dafd7baab4a5c7c800c9a5", func := "leadtrail/leadtraillaw03.SpansAll", spec := "spansAll", unfollowed := true, recurses := true, apart := false }
def SpansAllSaid : Prop := spansAllRow.holds Try.pinned (OpenSpec.ofChange spansAllSpec)

/-- ITS FALSE NEIGHBOUR: 'it returns false'. Refute it at one input. -/
def spansAllWrong : ChangeSpec := { name := "spansAll", fn := fun _ => fun
  | [d1, d2, d3] => { results := [.lit (.bool false)], args := [d1, d2, d3] }
  | _ => none }
def SpansAllWrongFalsely : Prop := spansAllRow.holds Try.pinned (OpenSpec.ofChange spansAllWrong)

/-- 'leadtraillaw04.ScalarsAll': WHATEVER THE INPUT: true; the input reads as it did. -/
def scalarsAllSpec : ChangeSpec := { name := "scalarsAll", fn := fun _ => fun
  | [d1, d2, d3] => { results := [.lit (.bool true)], args := [d1, d2, d3] }
  | _ => none }
def scalarsAllRow : OpenClaim := { program := "ytoljcfocgaonpaa", sum := "7895ba576b7c59b18701342997e0453eaeba866441dafd7baab4a5c7c800c9a5", func := "leadtrail/leadtraillaw04.ScalarsAll", spec := "scalarsAll", unfollowed := true, recurses := true, apart := false }
def ScalarsAllSaid : Prop := scalarsAllRow.holds Try.pinned (OpenSpec.ofChange scalarsAllSpec)

/-- ITS FALSE NEIGHBOUR: 'it returns false'. Refute it at one input. -/
def scalarsAllWrong : ChangeSpec := { name := "scalarsAll", fn := fun _ => fun
  | [d1, d2, d3] => { results := [.lit (.bool false)], args := [d1, d2, d3] }
  | _ => none }
def ScalarsAllWrongFalsely : Prop := scalarsAllRow.holds Try.pinned (OpenSpec.ofChange scalarsAllWrong)

/-- 'leadtraillaw09.ShapeBoxes': WHATEVER THE INPUT: true; the input reads as it did. -/
def shapeBoxesSpec : ChangeSpec := { name := "shapeBoxes", fn := fun _ => fun
  | [d1, d2] => { results := [.lit (.bool true)], args := [d1, d2] }
  | _ => none }
def shapeBoxesRow : OpenClaim := { program := "ytoljcfocgaonpaa", sum := "7895ba576b7c59b18701342997e0453eaeba866441dafd7baab4a5c7c800c9a5", func := "leadtrail/leadtraillaw09.ShapeBoxes", spec := "shapeBoxes", unfollowed := true, recurses := true, apart := false }
def ShapeBoxesSaid : Prop := shapeBoxesRow.holds Try.pinned (OpenSpec.ofChange shapeBoxesSpec)

/-- ITS FALSE NEIGHBOUR: 'it returns false'. Refute it at one input. -/
def shapeBoxesWrong : ChangeSpec := { name := "shapeBoxes", fn := fun _ => fun
  | [d1, d2] => { results := [.lit (.bool false)], args := [d1, d2] }
  | _ => none }
def ShapeBoxesWrongFalsely : Prop := shapeBoxesRow.holds Try.pinned (OpenSpec.ofChange shapeBoxesWrong)

/-- 'leadtraillaw09.ShapeBoxed': WHATEVER THE INPUT: true; the input reads as it did. -/
def shapeBoxedSpec : ChangeSpec := { name := "shapeBoxed", fn := fun _ => fun
  | [d1, d2] => { results := [.lit (.bool true)], args := [d1, d2] }
  | _ => none }
def shapeBoxedRow : OpenClaim := { program := "ytoljcfocgaonpaa", sum := "7895ba576b7c59b18701342997e0453eaeba866441dafd7baab4a5c7c800c9a5", func := "leadtrail/leadtraillaw09.ShapeBoxed", spec := "shapeBoxed", unfollowed := true, recurses := true, apart := false }
def ShapeBoxedSaid : Prop := shapeBoxedRow.holds Try.pinned (OpenSpec.ofChange shapeBoxedSpec)

/-- ITS FALSE NEIGHBOUR: 'it returns false'. Refute it at one input. -/
def shapeBoxedWrong : ChangeSpec := { name := "shapeBoxed", fn := fun _ => fun
  | [d1, d2] => { results := [.lit (.bool false)], args := [d1, d2] }
  | _ => none }
def ShapeBoxedWrongFalsely : Prop := shapeBoxedRow.holds Try.pinned (OpenSpec.ofChange shapeBoxedWrong)

/-- 'leadtraillaw09.ShapeAll': WHATEVER THE INPUT: true; the input reads as it did. -/
def shapeAllSpec : ChangeSpec := { name := "shapeAll", fn := fun _ => fun
  | [d1, d2, d3] => { results := [.lit (.bool true)], args := [d1, d2, d3] }
  | _ => none }
def shapeAllRow : OpenClaim := { program := "ytoljcfocgaonpaa", sum := "7895ba576b7c59b18701342997e0453eaeba866441dafd7baab4a5c7c800c9a5", func := "leadtrail/leadtraillaw09.ShapeAll", spec := "shapeAll", unfollowed := true, recurses := true, apart := false }
def ShapeAllSaid : Prop := shapeAllRow.holds Try.pinned (OpenSpec.ofChange shapeAllSpec)

/-- ITS FALSE NEIGHBOUR: 'it returns false'. Refute it at one input. -/
def shapeAllWrong : ChangeSpec := { name := "shapeAll", fn := fun _ => fun
  | [d1, d2, d3] => { results := [.lit (.bool false)], args := [d1, d2, d3] }
  | _ => none }
def ShapeAllWrongFalsely : Prop := shapeAllRow.holds Try.pinned (OpenSpec.ofChange shapeAllWrong)

/-- 'leadtraillaw12.OrderAll': WHATEVER THE INPUT: true; the input reads as it did. -/
def orderAllSpec : ChangeSpec := { name := "orderAll", fn := fun _ => fun
  | [d] => { results := [.lit (.bool true)], args := [d] }
  | _ => none }
def orderAllRow : OpenClaim := { program := "ytoljcfocgaonpaa", sum := "7895ba576b7c59b18701342997e0453eaeba866441dafd7baab4a5c7c800c9a5", func := "leadtrail/leadtraillaw12.OrderAll", spec := "orderAll", inPlace := ["internal/bytealg.Compare"], unfollowed := true, recurses := true, apart := false }
def OrderAllSaid : Prop := orderAllRow.holds Try.pinned (OpenSpec.ofChange orderAllSpec)

/-- ITS FALSE NEIGHBOUR: 'it returns false'. Refute it at one input. -/
def orderAllWrong : ChangeSpec := { name := "orderAll", fn := fun _ => fun
  | [d] => { results := [.lit (.bool false)], args := [d] }
  | _ => none }
def OrderAllWrongFalsely : Prop := orderAllRow.holds Try.pinned (OpenSpec.ofChange orderAllWrong)

/-- 'leadtraillaw09.ShapeOwns': WHATEVER THE INPUT: true; the input reads as it did. -/
def shapeOwnsSpec : ChangeSpec := { name := "shapeOwns", fn := fun _ => fun
  | [d1, d2] => { results := [.lit (.bool true)], args := [d1, d2] }
  | _ => none }
def shapeOwnsRow : OpenClaim := { program := "ytoljcfocgaonpaa", sum := "7895ba576b7c59b18701342997e0453eaeba866441dafd7baab4a5c7c800c9a5", func := "leadtrail/leadtraillaw09.ShapeOwns", spec := "shapeOwns", unfollowed := true, recurses := true, apart := false }
def ShapeOwnsSaid : Prop := shapeOwnsRow.holds Try.pinned (OpenSpec.ofChange shapeOwnsSpec)

/-- ITS FALSE NEIGHBOUR: 'it returns false'. Refute it at one input. -/
def shapeOwnsWrong : ChangeSpec := { name := "shapeOwns", fn := fun _ => fun
  | [d1, d2] => { results := [.lit (.bool false)], args := [d1, d2] }
  | _ => none }
def ShapeOwnsWrongFalsely : Prop := shapeOwnsRow.holds Try.pinned (OpenSpec.ofChange shapeOwnsWrong)

/-- 'leadtraillaw10.CodeAll': WHATEVER THE INPUT: true; the input reads as it did. -/
def codeAllSpec : ChangeSpec := { name := "codeAll", fn := fun _ => fun
  | [d1, d2, d3] => { results := [.lit (.bool true)], args := [d1, d2, d3] }
  | _ => none }
def codeAllRow : OpenClaim := { program := "ytoljcfocgaonpaa", sum := "7895ba576b7c59b18701342997e0453eaeba866441dafd7baab4a5c7c800c9a5", func := "leadtrail/leadtraillaw10.CodeAll", spec := "codeAll", unfollowed := true, recurses := true, apart := false }
def CodeAllSaid : Prop := codeAllRow.holds Try.pinned (OpenSpec.ofChange codeAllSpec)

/-- ITS FALSE NEIGHBOUR: 'it returns false'. Refute it at one input. -/
def codeAllWrong : ChangeSpec := { name := "codeAll", fn := fun _ => fun
  | [d1, d2, d3] => { results := [.lit (.bool false)], args := [d1, d2, d3] }
  | _ => none }
def CodeAllWrongFalsely : Prop := codeAllRow.holds Try.pinned (OpenSpec.ofChange codeAllWrong)

/-- 'leadtraillaw10.CodeOwns': WHATEVER THE INPUT: true; the input reads as it did. -/
def codeOwnsSpec : ChangeSpec := { name := "codeOwns", fn := fun _ => fun
  | [d1, d2] => { results := [.lit (.bool true)], args := [d1, d2] }
  | _ => none }
def codeOwnsRow : OpenClaim := { program := "ytoljcfocgaonpaa", sum := "7895ba576b7c59b18701342997e0453eaeba866441dafd7baab4a5c7c800c9a5", func := "leadtrail/leadtraillaw10.CodeOwns", spec := "codeOwns", unfollowed := true, recurses := true, apart := false }
def CodeOwnsSaid : Prop := codeOwnsRow.holds Try.pinned (OpenSpec.ofChange codeOwnsSpec)

/-- ITS FALSE NEIGHBOUR: 'it returns false'. Refute it at one input. -/
def codeOwnsWrong : ChangeSpec := { name := "codeOwns", fn := fun _ => fun
  | [d1, d2] => { results := [.lit (.bool false)], args := [d1, d2] }
  | _ => none }
def CodeOwnsWrongFalsely : Prop := codeOwnsRow.holds Try.pinned (OpenSpec.ofChange codeOwnsWrong)

/-- 'leadtraillaw11.ClashAll': WHATEVER THE INPUT: true; the input reads as it did. -/
def clashAllSpec : ChangeSpec := { name := "clashAll", fn := fun _ => fun
  | [d] => { results := [.lit (.bool true)], args := [d] }
  | _ => none }
def clashAllRow : OpenClaim := { program := "ytoljcfocgaonpaa", sum := "7895ba576b7c59b18701342997e0453eaeba866441dafd7baab4a5c7c800c9a5", func := "leadtrail/leadtraillaw11.ClashAll", spec := "clashAll", unfollowed := true, recurses := true, apart := false }
def ClashAllSaid : Prop := clashAllRow.holds Try.pinned (OpenSpec.ofChange clashAllSpec)

/-- ITS FALSE NEIGHBOUR: 'it returns false'. Refute it at one input. -/
def clashAllWrong : ChangeSpec := { name := "clashAll", fn := fun _ => fun
  | [d] => { results := [.lit (.bool false)], args := [d] }
  | _ => none }
def ClashAllWrongFalsely : Prop := clashAllRow.holds Try.pinned (OpenSpec.ofChange clashAllWrong)

/- THE SECOND FORM. 'bulk': how many values and letters a reading holds, each counted each time it is reached (what is shared counts as often as it is met; a slice's spare places count too). A statement '..UptoSaid' is the law's where the arguments, and the package variables that the reading takes, are together of bulk at most 1048576: NARROWER than '..Said'. Prove '..Said' where nothing that the law and all that it calls make is longer than what came in: it says more and counts as full. Else prove '..UptoSaid'. A law counts once. -/
mutual
def uptoBulk {H : Type} : DataW H → Nat
  | .lit (.string bytes) => bytes.length + 1
  | .lit _ => 1
  | .nil => 1
  | .ptr d => uptoBulk d + 1
  | .slice elems spare => uptoBulkAll elems + uptoBulkAll spare + 1
  | .agg parts => uptoBulkAll parts + 1
  | .iface _ d => uptoBulk d + 1
  | .map entries => uptoBulkEntries entries + 1
  | .held _ => 1
def uptoBulkAll {H : Type} : List (DataW H) → Nat
  | [] => 0
  | d :: r => uptoBulk d + uptoBulkAll r
def uptoBulkEntries {H : Type} : List (Lit × DataW H) → Nat
  | [] => 0
  | x :: r => uptoBulkEntry x + uptoBulkEntries r
def uptoBulkEntry {H : Type} : Lit × DataW H → Nat
  | (.string bytes, d) => bytes.length + uptoBulk d + 1
  | (_, d) => uptoBulk d + 1
 end
def uptoSmall : (H : Type) → List (DataW H) → Bool := fun _ ds => decide (uptoBulkAll ds ≤ 1048576)
def OpenSpec.upto (s : _root_.Go.ChangeSpec) : _root_.Go.OpenSpec := { _root_.Go.OpenSpec.ofChange s with cond := some uptoSmall }

/-- 'leadtraillaw03.SpansAll', WHERE WHAT IT READS IS OF BULK AT MOST 1048576: true; the input reads as it did. -/
def spansAllUptoRow : OpenClaim := { program := "ytoljcfocgaonpaa", sum := "7895ba576b7c59b18701342997e0453eaeba866441dafd7baab4a5c7c800c9a5", func := "leadtrail/leadtraillaw03.SpansAll", spec := "spansAll", unfollowed := true, recurses := true, apart := false, narrowed := true }
def SpansAllUptoSaid : Prop := spansAllUptoRow.holds Try.pinned (OpenSpec.upto spansAllSpec)

/-- 'leadtraillaw04.ScalarsAll', WHERE WHAT IT READS IS OF BULK AT MOST 1048576: true; the input reads as it did. -/
def scalarsAllUptoRow : OpenClaim := { program := "ytoljcfocgaonpaa", sum := "7895ba576b7c59b18701342997e0453eaeba866441dafd7baab4a5c7c800c9a5", func := "leadtrail/leadtraillaw04.ScalarsAll", spec := "scalarsAll", unfollowed := true, recurses := true, apart := false, narrowed := true }
def ScalarsAllUptoSaid : Prop := scalarsAllUptoRow.holds Try.pinned (OpenSpec.upto scalarsAllSpec)

/-- 'leadtraillaw09.ShapeBoxes', WHERE WHAT IT READS IS OF BULK AT MOST 1048576: true; the input reads as it did. -/
def shapeBoxesUptoRow : OpenClaim := { program := "ytoljcfocgaonpaa", sum := "7895ba576b7c59b18701342997e0453eaeba866441dafd7baab4a5c7c800c9a5", func := "leadtrail/leadtraillaw09.ShapeBoxes", spec := "shapeBoxes", unfollowed := true, recurses := true, apart := false, narrowed := true }
def ShapeBoxesUptoSaid : Prop := shapeBoxesUptoRow.holds Try.pinned (OpenSpec.upto shapeBoxesSpec)

/-- 'leadtraillaw09.ShapeBoxed', WHERE WHAT IT READS IS OF BULK AT MOST 1048576: true; the input reads as it did. -/
def shapeBoxedUptoRow : OpenClaim := { program := "ytoljcfocgaonpaa", sum := "7895ba576b7c59b18701342997e0453eaeba866441dafd7baab4a5c7c800c9a5", func := "leadtrail/leadtraillaw09.ShapeBoxed", spec := "shapeBoxed", unfollowed := true, recurses := true, apart := false, narrowed := true }
def ShapeBoxedUptoSaid : Prop := shapeBoxedUptoRow.holds Try.pinned (OpenSpec.upto shapeBoxedSpec)

/-- 'leadtraillaw09.ShapeAll', WHERE WHAT IT READS IS OF BULK AT MOST 1048576: true; the input reads as it did. -/
def shapeAllUptoRow : OpenClaim := { program := "ytoljcfocgaonpaa", sum := "7895ba576b7c59b18701342997e0453eaeba866441dafd7baab4a5c7c800c9a5", func := "leadtrail/leadtraillaw09.ShapeAll", spec := "shapeAll", unfollowed := true, recurses := true, apart := false, narrowed := true }
def ShapeAllUptoSaid : Prop := shapeAllUptoRow.holds Try.pinned (OpenSpec.upto shapeAllSpec)

/-- 'leadtraillaw12.OrderAll', WHERE WHAT IT READS IS OF BULK AT MOST 1048576: true; the input reads as it did. -/
def orderAllUptoRow : OpenClaim := { program := "ytoljcfocgaonpaa", sum := "7895ba576b7c59b18701342997e0453eaeba866441dafd7baab4a5c7c800c9a5", func := "leadtrail/leadtraillaw12.OrderAll", spec := "orderAll", inPlace := ["internal/bytealg.Compare"], unfollowed := true, recurses := true, apart := false, narrowed := true }
def OrderAllUptoSaid : Prop := orderAllUptoRow.holds Try.pinned (OpenSpec.upto orderAllSpec)

/-- 'leadtraillaw09.ShapeOwns', WHERE WHAT IT READS IS OF BULK AT MOST 1048576: true; the input reads as it did. -/
def shapeOwnsUptoRow : OpenClaim := { program := "ytoljcfocgaonpaa", sum := "7895ba576b7c59b18701342997e0453eaeba866441dafd7baab4a5c7c800c9a5", func := "leadtrail/leadtraillaw09.ShapeOwns", spec := "shapeOwns", unfollowed := true, recurses := true, apart := false, narrowed := true }
def ShapeOwnsUptoSaid : Prop := shapeOwnsUptoRow.holds Try.pinned (OpenSpec.upto shapeOwnsSpec)

/-- 'leadtraillaw10.CodeAll', WHERE WHAT IT READS IS OF BULK AT MOST 1048576: true; the input reads as it did. -/
def codeAllUptoRow : OpenClaim := { program := "ytoljcfocgaonpaa", sum := "7895ba576b7c59b18701342997e0453eaeba866441dafd7baab4a5c7c800c9a5", func := "leadtrail/leadtraillaw10.CodeAll", spec := "codeAll", unfollowed := true, recurses := true, apart := false, narrowed := true }
def CodeAllUptoSaid : Prop := codeAllUptoRow.holds Try.pinned (OpenSpec.upto codeAllSpec)

/-- 'leadtraillaw10.CodeOwns', WHERE WHAT IT READS IS OF BULK AT MOST 1048576: true; the input reads as it did. -/
def codeOwnsUptoRow : OpenClaim := { program := "ytoljcfocgaonpaa", sum := "7895ba576b7c59b18701342997e0453eaeba866441dafd7baab4a5c7c800c9a5", func := "leadtrail/leadtraillaw10.CodeOwns", spec := "codeOwns", unfollowed := true, recurses := true, apart := false, narrowed := true }
def CodeOwnsUptoSaid : Prop := codeOwnsUptoRow.holds Try.pinned (OpenSpec.upto codeOwnsSpec)

/-- 'leadtraillaw11.ClashAll', WHERE WHAT IT READS IS OF BULK AT MOST 1048576: true; the input reads as it did. -/
def clashAllUptoRow : OpenClaim := { program := "ytoljcfocgaonpaa", sum := "7895ba576b7c59b18701342997e0453eaeba866441dafd7baab4a5c7c800c9a5", func := "leadtrail/leadtraillaw11.ClashAll", spec := "clashAll", unfollowed := true, recurses := true, apart := false, narrowed := true }
def ClashAllUptoSaid : Prop := clashAllUptoRow.holds Try.pinned (OpenSpec.upto clashAllSpec)

end Rows
end Go.Proofs.Ytoljcfocgaonpaa
