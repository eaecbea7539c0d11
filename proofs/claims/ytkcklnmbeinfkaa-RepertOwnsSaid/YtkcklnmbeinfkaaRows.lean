/-
  No cell of these rows narrows 'for every input' (looked for: loops, veiled, ifaces, maps, wideKeys, modest, calm, conditions, laid).
  DERIVED. THE GIVEN ROWS OF THIS SEAT. 16 by the template 'for every input the law returns true; each argument reads behind the call as it read before'; 0 by the template 'total and deterministic' (their statements: YtkcklnmbeinfkaaTotals.lean).
  GIVEN WITH THE SEED: the statements are not yours to turn. If you find one false, say at which input.
  Laid BY PROGRAM, IN A SANDBOX (cutbox-rows.mjs): the forced cells as the released guide's own fill.sh prints them over the translation f527aed91f9eb701… (all of the seat's roots in one cut). By AI agents, Wed Nov 11 2026. No macro, syntax, notation, axiom, sorry.
-/
import Derived.Test.YtkcklnmbeinfkaaChecked
import GoSem.Claim
import GoSem.ClaimJoined
import GoSem.ClaimMapViews
import Derived.JoinedTies
import Derived.KernelRfl
namespace Go.Proofs.Ytkcklnmbeinfkaa
/- THE CELL 'sum', in the pinned program and in every row, IS THE sha256 OF THE DUMP (.gsa) THAT YtkcklnmbeinfkaaProg.lean LOADS. Nothing in Lean hashes anything: it is a label: what it is worth is what the hold of that sum in a sandbox is worth. -/
noncomputable def Try.pinned : Pinned := { name := "ytkcklnmbeinfkaa", sum := "f527aed91f9eb7019c42601d8832bd75ace1200426439aa51c624da09161d91f", checked := Try.checked }
namespace Rows
def none {H : Type} : Left H := { results := [], args := [] }

/-- 'leadtraillaw25.RepertAnswers': WHATEVER THE INPUT: true; the input reads as it did. -/
def repertAnswersSpec : ChangeSpec := { name := "repertAnswers", fn := fun _ => fun
  | [d] => { results := [.lit (.bool true)], args := [d] }
  | _ => none }
def repertAnswersRow : OpenClaim := { program := "ytkcklnmbeinfkaa", sum := "f527aed91f9eb7019c42601d8832bd75ace1200426439aa51c624da09161d91f", func := "leadtrail/leadtraillaw25.RepertAnswers", spec := "repertAnswers", unfollowed := true, recurses := true, apart := false }
def RepertAnswersSaid : Prop := repertAnswersRow.holds Try.pinned (OpenSpec.ofChange repertAnswersSpec)

/-- ITS FALSE NEIGHBOUR: 'it returns false'. Refute it at one input. -/
def repertAnswersWrong : ChangeSpec := { name := "repertAnswers", fn := fun _ => fun
  | [d] => { results := [.lit (.bool false)], args := [d] }
  | _ => none }
def RepertAnswersWrongFalsely : Prop := repertAnswersRow.holds Try.pinned (OpenSpec.ofChange repertAnswersWrong)

/-- 'leadtraillaw09.ShapeRanks': WHATEVER THE INPUT: true; the input reads as it did. -/
def shapeRanksSpec : ChangeSpec := { name := "shapeRanks", fn := fun _ => fun
  | [d1, d2, d3] => { results := [.lit (.bool true)], args := [d1, d2, d3] }
  | _ => none }
def shapeRanksRow : OpenClaim := { program := "ytkcklnmbeinfkaa", sum := "f527aed91f9eb7019c42601d8832bd75ace1200426439aa51c624da09161d91f", func := "leadtrail/leadtraillaw09.ShapeRanks", spec := "shapeRanks", unfollowed := true, recurses := true, apart := false }
def ShapeRanksSaid : Prop := shapeRanksRow.holds Try.pinned (OpenSpec.ofChange shapeRanksSpec)

/-- ITS FALSE NEIGHBOUR: 'it returns false'. Refute it at one input. -/
def shapeRanksWrong : ChangeSpec := { name := "shapeRanks", fn := fun _ => fun
  | [d1, d2, d3] => { results := [.lit (.bool false)], args := [d1, d2, d3] }
  | _ => none }
def ShapeRanksWrongFalsely : Prop := shapeRanksRow.holds Try.pinned (OpenSpec.ofChange shapeRanksWrong)

/-- 'leadtraillaw12.OrderCheck': WHATEVER THE INPUT: true; the input reads as it did. -/
def orderCheckSpec : ChangeSpec := { name := "orderCheck", fn := fun _ => fun
  | [d] => { results := [.lit (.bool true)], args := [d] }
  | _ => none }
def orderCheckRow : OpenClaim := { program := "ytkcklnmbeinfkaa", sum := "f527aed91f9eb7019c42601d8832bd75ace1200426439aa51c624da09161d91f", func := "leadtrail/leadtraillaw12.OrderCheck", spec := "orderCheck", inPlace := ["internal/bytealg.Compare"], unfollowed := true, recurses := true, apart := false }
def OrderCheckSaid : Prop := orderCheckRow.holds Try.pinned (OpenSpec.ofChange orderCheckSpec)

/-- ITS FALSE NEIGHBOUR: 'it returns false'. Refute it at one input. -/
def orderCheckWrong : ChangeSpec := { name := "orderCheck", fn := fun _ => fun
  | [d] => { results := [.lit (.bool false)], args := [d] }
  | _ => none }
def OrderCheckWrongFalsely : Prop := orderCheckRow.holds Try.pinned (OpenSpec.ofChange orderCheckWrong)

/-- 'leadtraillaw25.RepertBoth': WHATEVER THE INPUT: true; the input reads as it did. -/
def repertBothSpec : ChangeSpec := { name := "repertBoth", fn := fun _ => fun
  | [d1, d2] => { results := [.lit (.bool true)], args := [d1, d2] }
  | _ => none }
def repertBothRow : OpenClaim := { program := "ytkcklnmbeinfkaa", sum := "f527aed91f9eb7019c42601d8832bd75ace1200426439aa51c624da09161d91f", func := "leadtrail/leadtraillaw25.RepertBoth", spec := "repertBoth", unfollowed := true, recurses := true, apart := false }
def RepertBothSaid : Prop := repertBothRow.holds Try.pinned (OpenSpec.ofChange repertBothSpec)

/-- ITS FALSE NEIGHBOUR: 'it returns false'. Refute it at one input. -/
def repertBothWrong : ChangeSpec := { name := "repertBoth", fn := fun _ => fun
  | [d1, d2] => { results := [.lit (.bool false)], args := [d1, d2] }
  | _ => none }
def RepertBothWrongFalsely : Prop := repertBothRow.holds Try.pinned (OpenSpec.ofChange repertBothWrong)

/-- 'leadtraillaw25.RepertOwns': WHATEVER THE INPUT: true; the input reads as it did. -/
def repertOwnsSpec : ChangeSpec := { name := "repertOwns", fn := fun _ => fun
  | [d] => { results := [.lit (.bool true)], args := [d] }
  | _ => none }
def repertOwnsRow : OpenClaim := { program := "ytkcklnmbeinfkaa", sum := "f527aed91f9eb7019c42601d8832bd75ace1200426439aa51c624da09161d91f", func := "leadtrail/leadtraillaw25.RepertOwns", spec := "repertOwns", unfollowed := true, recurses := true, apart := false }
def RepertOwnsSaid : Prop := repertOwnsRow.holds Try.pinned (OpenSpec.ofChange repertOwnsSpec)

/-- ITS FALSE NEIGHBOUR: 'it returns false'. Refute it at one input. -/
def repertOwnsWrong : ChangeSpec := { name := "repertOwns", fn := fun _ => fun
  | [d] => { results := [.lit (.bool false)], args := [d] }
  | _ => none }
def RepertOwnsWrongFalsely : Prop := repertOwnsRow.holds Try.pinned (OpenSpec.ofChange repertOwnsWrong)

/-- 'leadtraillaw09.ShapeAnswers': WHATEVER THE INPUT: true; the input reads as it did. -/
def shapeAnswersSpec : ChangeSpec := { name := "shapeAnswers", fn := fun _ => fun
  | [d1, d2, d3] => { results := [.lit (.bool true)], args := [d1, d2, d3] }
  | _ => none }
def shapeAnswersRow : OpenClaim := { program := "ytkcklnmbeinfkaa", sum := "f527aed91f9eb7019c42601d8832bd75ace1200426439aa51c624da09161d91f", func := "leadtrail/leadtraillaw09.ShapeAnswers", spec := "shapeAnswers", unfollowed := true, recurses := true, apart := false }
def ShapeAnswersSaid : Prop := shapeAnswersRow.holds Try.pinned (OpenSpec.ofChange shapeAnswersSpec)

/-- ITS FALSE NEIGHBOUR: 'it returns false'. Refute it at one input. -/
def shapeAnswersWrong : ChangeSpec := { name := "shapeAnswers", fn := fun _ => fun
  | [d1, d2, d3] => { results := [.lit (.bool false)], args := [d1, d2, d3] }
  | _ => none }
def ShapeAnswersWrongFalsely : Prop := shapeAnswersRow.holds Try.pinned (OpenSpec.ofChange shapeAnswersWrong)

/-- 'leadtraillaw09.ShapeCommon': WHATEVER THE INPUT: true; the input reads as it did. -/
def shapeCommonSpec : ChangeSpec := { name := "shapeCommon", fn := fun _ => fun
  | [d1, d2, d3] => { results := [.lit (.bool true)], args := [d1, d2, d3] }
  | _ => none }
def shapeCommonRow : OpenClaim := { program := "ytkcklnmbeinfkaa", sum := "f527aed91f9eb7019c42601d8832bd75ace1200426439aa51c624da09161d91f", func := "leadtrail/leadtraillaw09.ShapeCommon", spec := "shapeCommon", unfollowed := true, recurses := true, apart := false }
def ShapeCommonSaid : Prop := shapeCommonRow.holds Try.pinned (OpenSpec.ofChange shapeCommonSpec)

/-- ITS FALSE NEIGHBOUR: 'it returns false'. Refute it at one input. -/
def shapeCommonWrong : ChangeSpec := { name := "shapeCommon", fn := fun _ => fun
  | [d1, d2, d3] => { results := [.lit (.bool false)], args := [d1, d2, d3] }
  | _ => none }
def ShapeCommonWrongFalsely : Prop := shapeCommonRow.holds Try.pinned (OpenSpec.ofChange shapeCommonWrong)

/-- 'leadtraillaw11.ClashInject': WHATEVER THE INPUT: true; the input reads as it did. -/
def clashInjectSpec : ChangeSpec := { name := "clashInject", fn := fun _ => fun
  | [d] => { results := [.lit (.bool true)], args := [d] }
  | _ => none }
def clashInjectRow : OpenClaim := { program := "ytkcklnmbeinfkaa", sum := "f527aed91f9eb7019c42601d8832bd75ace1200426439aa51c624da09161d91f", func := "leadtrail/leadtraillaw11.ClashInject", spec := "clashInject", unfollowed := true, recurses := true, apart := false }
def ClashInjectSaid : Prop := clashInjectRow.holds Try.pinned (OpenSpec.ofChange clashInjectSpec)

/-- ITS FALSE NEIGHBOUR: 'it returns false'. Refute it at one input. -/
def clashInjectWrong : ChangeSpec := { name := "clashInject", fn := fun _ => fun
  | [d] => { results := [.lit (.bool false)], args := [d] }
  | _ => none }
def ClashInjectWrongFalsely : Prop := clashInjectRow.holds Try.pinned (OpenSpec.ofChange clashInjectWrong)

/-- 'leadtraillaw11.ClashFewer': WHATEVER THE INPUT: true; the input reads as it did. -/
def clashFewerSpec : ChangeSpec := { name := "clashFewer", fn := fun _ => fun
  | [d1, d2] => { results := [.lit (.bool true)], args := [d1, d2] }
  | _ => none }
def clashFewerRow : OpenClaim := { program := "ytkcklnmbeinfkaa", sum := "f527aed91f9eb7019c42601d8832bd75ace1200426439aa51c624da09161d91f", func := "leadtrail/leadtraillaw11.ClashFewer", spec := "clashFewer", unfollowed := true, recurses := true, apart := false }
def ClashFewerSaid : Prop := clashFewerRow.holds Try.pinned (OpenSpec.ofChange clashFewerSpec)

/-- ITS FALSE NEIGHBOUR: 'it returns false'. Refute it at one input. -/
def clashFewerWrong : ChangeSpec := { name := "clashFewer", fn := fun _ => fun
  | [d1, d2] => { results := [.lit (.bool false)], args := [d1, d2] }
  | _ => none }
def ClashFewerWrongFalsely : Prop := clashFewerRow.holds Try.pinned (OpenSpec.ofChange clashFewerWrong)

/-- 'leadtraillaw11.ClashPrefix': WHATEVER THE INPUT: true; the input reads as it did. -/
def clashPrefixSpec : ChangeSpec := { name := "clashPrefix", fn := fun _ => fun
  | [d] => { results := [.lit (.bool true)], args := [d] }
  | _ => none }
def clashPrefixRow : OpenClaim := { program := "ytkcklnmbeinfkaa", sum := "f527aed91f9eb7019c42601d8832bd75ace1200426439aa51c624da09161d91f", func := "leadtrail/leadtraillaw11.ClashPrefix", spec := "clashPrefix", unfollowed := true, recurses := true, apart := false }
def ClashPrefixSaid : Prop := clashPrefixRow.holds Try.pinned (OpenSpec.ofChange clashPrefixSpec)

/-- ITS FALSE NEIGHBOUR: 'it returns false'. Refute it at one input. -/
def clashPrefixWrong : ChangeSpec := { name := "clashPrefix", fn := fun _ => fun
  | [d] => { results := [.lit (.bool false)], args := [d] }
  | _ => none }
def ClashPrefixWrongFalsely : Prop := clashPrefixRow.holds Try.pinned (OpenSpec.ofChange clashPrefixWrong)

/-- 'leadtraillaw12.OrderFound': WHATEVER THE INPUT: true; the input reads as it did. -/
def orderFoundSpec : ChangeSpec := { name := "orderFound", fn := fun _ => fun
  | [d1, d2, d3] => { results := [.lit (.bool true)], args := [d1, d2, d3] }
  | _ => none }
def orderFoundRow : OpenClaim := { program := "ytkcklnmbeinfkaa", sum := "f527aed91f9eb7019c42601d8832bd75ace1200426439aa51c624da09161d91f", func := "leadtrail/leadtraillaw12.OrderFound", spec := "orderFound", inPlace := ["internal/bytealg.Compare"], unfollowed := true, recurses := true, apart := false }
def OrderFoundSaid : Prop := orderFoundRow.holds Try.pinned (OpenSpec.ofChange orderFoundSpec)

/-- ITS FALSE NEIGHBOUR: 'it returns false'. Refute it at one input. -/
def orderFoundWrong : ChangeSpec := { name := "orderFound", fn := fun _ => fun
  | [d1, d2, d3] => { results := [.lit (.bool false)], args := [d1, d2, d3] }
  | _ => none }
def OrderFoundWrongFalsely : Prop := orderFoundRow.holds Try.pinned (OpenSpec.ofChange orderFoundWrong)

/-- 'leadtraillaw12.OrderCompare': WHATEVER THE INPUT: true; the input reads as it did. -/
def orderCompareSpec : ChangeSpec := { name := "orderCompare", fn := fun _ => fun
  | [d1, d2, d3] => { results := [.lit (.bool true)], args := [d1, d2, d3] }
  | _ => none }
def orderCompareRow : OpenClaim := { program := "ytkcklnmbeinfkaa", sum := "f527aed91f9eb7019c42601d8832bd75ace1200426439aa51c624da09161d91f", func := "leadtrail/leadtraillaw12.OrderCompare", spec := "orderCompare", inPlace := ["internal/bytealg.Compare"], unfollowed := true, recurses := true, apart := false }
def OrderCompareSaid : Prop := orderCompareRow.holds Try.pinned (OpenSpec.ofChange orderCompareSpec)

/-- ITS FALSE NEIGHBOUR: 'it returns false'. Refute it at one input. -/
def orderCompareWrong : ChangeSpec := { name := "orderCompare", fn := fun _ => fun
  | [d1, d2, d3] => { results := [.lit (.bool false)], args := [d1, d2, d3] }
  | _ => none }
def OrderCompareWrongFalsely : Prop := orderCompareRow.holds Try.pinned (OpenSpec.ofChange orderCompareWrong)

/-- 'leadtraillaw10.CodeBack': WHATEVER THE INPUT: true; the input reads as it did. -/
def codeBackSpec : ChangeSpec := { name := "codeBack", fn := fun _ => fun
  | [d1, d2, d3] => { results := [.lit (.bool true)], args := [d1, d2, d3] }
  | _ => none }
def codeBackRow : OpenClaim := { program := "ytkcklnmbeinfkaa", sum := "f527aed91f9eb7019c42601d8832bd75ace1200426439aa51c624da09161d91f", func := "leadtrail/leadtraillaw10.CodeBack", spec := "codeBack", unfollowed := true, recurses := true, apart := false }
def CodeBackSaid : Prop := codeBackRow.holds Try.pinned (OpenSpec.ofChange codeBackSpec)

/-- ITS FALSE NEIGHBOUR: 'it returns false'. Refute it at one input. -/
def codeBackWrong : ChangeSpec := { name := "codeBack", fn := fun _ => fun
  | [d1, d2, d3] => { results := [.lit (.bool false)], args := [d1, d2, d3] }
  | _ => none }
def CodeBackWrongFalsely : Prop := codeBackRow.holds Try.pinned (OpenSpec.ofChange codeBackWrong)

/-- 'leadtraillaw10.CodeText': WHATEVER THE INPUT: true; the input reads as it did. -/
def codeTextSpec : ChangeSpec := { name := "codeText", fn := fun _ => fun
  | [d1, d2] => { results := [.lit (.bool true)], args := [d1, d2] }
  | _ => none }
def codeTextRow : OpenClaim := { program := "ytkcklnmbeinfkaa", sum := "f527aed91f9eb7019c42601d8832bd75ace1200426439aa51c624da09161d91f", func := "leadtrail/leadtraillaw10.CodeText", spec := "codeText", unfollowed := true, recurses := true, apart := false }
def CodeTextSaid : Prop := codeTextRow.holds Try.pinned (OpenSpec.ofChange codeTextSpec)

/-- ITS FALSE NEIGHBOUR: 'it returns false'. Refute it at one input. -/
def codeTextWrong : ChangeSpec := { name := "codeText", fn := fun _ => fun
  | [d1, d2] => { results := [.lit (.bool false)], args := [d1, d2] }
  | _ => none }
def CodeTextWrongFalsely : Prop := codeTextRow.holds Try.pinned (OpenSpec.ofChange codeTextWrong)

/-- 'leadtraillaw25.RepertMeans': WHATEVER THE INPUT: true; the input reads as it did. -/
def repertMeansSpec : ChangeSpec := { name := "repertMeans", fn := fun _ => fun
  | [d1, d2, d3] => { results := [.lit (.bool true)], args := [d1, d2, d3] }
  | _ => none }
def repertMeansRow : OpenClaim := { program := "ytkcklnmbeinfkaa", sum := "f527aed91f9eb7019c42601d8832bd75ace1200426439aa51c624da09161d91f", func := "leadtrail/leadtraillaw25.RepertMeans", spec := "repertMeans", unfollowed := true, recurses := true, apart := false }
def RepertMeansSaid : Prop := repertMeansRow.holds Try.pinned (OpenSpec.ofChange repertMeansSpec)

/-- ITS FALSE NEIGHBOUR: 'it returns false'. Refute it at one input. -/
def repertMeansWrong : ChangeSpec := { name := "repertMeans", fn := fun _ => fun
  | [d1, d2, d3] => { results := [.lit (.bool false)], args := [d1, d2, d3] }
  | _ => none }
def RepertMeansWrongFalsely : Prop := repertMeansRow.holds Try.pinned (OpenSpec.ofChange repertMeansWrong)

/-- 'leadtraillaw11.ClashFound': WHATEVER THE INPUT: true; the input reads as it did. -/
def clashFoundSpec : ChangeSpec := { name := "clashFound", fn := fun _ => fun
  | [d1, d2, d3] => { results := [.lit (.bool true)], args := [d1, d2, d3] }
  | _ => none }
def clashFoundRow : OpenClaim := { program := "ytkcklnmbeinfkaa", sum := "f527aed91f9eb7019c42601d8832bd75ace1200426439aa51c624da09161d91f", func := "leadtrail/leadtraillaw11.ClashFound", spec := "clashFound", unfollowed := true, recurses := true, apart := false }
def ClashFoundSaid : Prop := clashFoundRow.holds Try.pinned (OpenSpec.ofChange clashFoundSpec)

/-- ITS FALSE NEIGHBOUR: 'it returns false'. Refute it at one input. -/
def clashFoundWrong : ChangeSpec := { name := "clashFound", fn := fun _ => fun
  | [d1, d2, d3] => { results := [.lit (.bool false)], args := [d1, d2, d3] }
  | _ => none }
def ClashFoundWrongFalsely : Prop := clashFoundRow.holds Try.pinned (OpenSpec.ofChange clashFoundWrong)

/- THE SECOND FORM. 'bulk': how many values and letters a reading holds, each counted each time it is reached (what is shared counts as often as it is met; a slice's spare places count too). A statement '..UptoSaid' is the law's where the arguments, and the package variables that the reading takes, are together of bulk at most 1048576: NARROWER than '..Said'. Prove '..Said' where nothing that the law and all that it calls make is longer than what came in: it says more and counts as full. Else prove '..UptoSaid'. A law counts once. -/
mutual
def uptoBulk {H : Type} : DataW H → Nat
  | .lit (.string bytes) => bytes.length + 1
  | .lit _ => 1
  | .nil => 1
  | .ptr d => uptoBulk d + 1
  | .slice elems spare => uptoBulkAll elems + uptoBulkAll spare + 1
  | .agg parts => uptoBulkAll parts + 1
  | .iface _ d => uptoBulk d + 1
  | .map entries => uptoBulkEntries entries + 1
  | .held _ => 1
def uptoBulkAll {H : Type} : List (DataW H) → Nat
  | [] => 0
  | d :: r => uptoBulk d + uptoBulkAll r
def uptoBulkEntries {H : Type} : List (Lit × DataW H) → Nat
  | [] => 0
  | x :: r => uptoBulkEntry x + uptoBulkEntries r
def uptoBulkEntry {H : Type} : Lit × DataW H → Nat
  | (.string bytes, d) => bytes.length + uptoBulk d + 1
  | (_, d) => uptoBulk d + 1
 end
def uptoSmall : (H : Type) → List (DataW H) → Bool := fun _ ds => decide (uptoBulkAll ds ≤ 1048576)
def OpenSpec.upto (s : _root_.Go.ChangeSpec) : _root_.Go.OpenSpec := { _root_.Go.OpenSpec.ofChange s with cond := some uptoSmall }

/-- 'leadtraillaw25.RepertAnswers', WHERE WHAT IT READS IS OF BULK AT MOST 1048576: true; the input reads as it did. -/
def repertAnswersUptoRow : OpenClaim := { program := "ytkcklnmbeinfkaa", sum := "f527aed91f9eb7019c42601d8832bd75ace1200426439aa51c624da09161d91f", func := "leadtrail/leadtraillaw25.RepertAnswers", spec := "repertAnswers", unfollowed := true, recurses := true, apart := false, narrowed := true }
def RepertAnswersUptoSaid : Prop := repertAnswersUptoRow.holds Try.pinned (OpenSpec.upto repertAnswersSpec)

/-- 'leadtraillaw09.ShapeRanks', WHERE WHAT IT READS IS OF BULK AT MOST 1048576: true; the input reads as it did. -/
def shapeRanksUptoRow : OpenClaim := { program := "ytkcklnmbeinfkaa", sum := "f527aed91f9eb7019c42601d8832bd75ace1200426439aa51c624da09161d91f", func := "leadtrail/leadtraillaw09.ShapeRanks", spec := "shapeRanks", unfollowed := true, recurses := true, apart := false, narrowed := true }
def ShapeRanksUptoSaid : Prop := shapeRanksUptoRow.holds Try.pinned (OpenSpec.upto shapeRanksSpec)

/-- 'leadtraillaw12.OrderCheck', WHERE WHAT IT READS IS OF BULK AT MOST 1048576: true; the input reads as it did. -/
def orderCheckUptoRow : OpenClaim := { program := "ytkcklnmbeinfkaa", sum := "f527aed91f9eb7019c42601d8832bd75ace1200426439aa51c624da09161d91f", func := "leadtrail/leadtraillaw12.OrderCheck", spec := "orderCheck", inPlace := ["internal/bytealg.Compare"], unfollowed := true, recurses := true, apart := false, narrowed := true }
def OrderCheckUptoSaid : Prop := orderCheckUptoRow.holds Try.pinned (OpenSpec.upto orderCheckSpec)

/-- 'leadtraillaw25.RepertBoth', WHERE WHAT IT READS IS OF BULK AT MOST 1048576: true; the input reads as it did. -/
def repertBothUptoRow : OpenClaim := { program := "ytkcklnmbeinfkaa", sum := "f527aed91f9eb7019c42601d8832bd75ace1200426439aa51c624da09161d91f", func := "leadtrail/leadtraillaw25.RepertBoth", spec := "repertBoth", unfollowed := true, recurses := true, apart := false, narrowed := true }
def RepertBothUptoSaid : Prop := repertBothUptoRow.holds Try.pinned (OpenSpec.upto repertBothSpec)

/-- 'leadtraillaw25.RepertOwns', WHERE WHAT IT READS IS OF BULK AT MOST 1048576: true; the input reads as it did. -/
def repertOwnsUptoRow : OpenClaim := { program := "ytkcklnmbeinfkaa", sum := "f527aed91f9eb7019c42601d8832bd75ace1200426439aa51c624da09161d91f", func := "leadtrail/leadtraillaw25.RepertOwns", spec := "repertOwns", unfollowed := true, recurses := true, apart := false, narrowed := true }
def RepertOwnsUptoSaid : Prop := repertOwnsUptoRow.holds Try.pinned (OpenSpec.upto repertOwnsSpec)

/-- 'leadtraillaw09.ShapeAnswers', WHERE WHAT IT READS IS OF BULK AT MOST 1048576: true; the input reads as it did. -/
def shapeAnswersUptoRow : OpenClaim := { program := "ytkcklnmbeinfkaa", sum := "f527aed91f9eb7019c42601d8832bd75ace1200426439aa51c624da09161d91f", func := "leadtrail/leadtraillaw09.ShapeAnswers", spec := "shapeAnswers", unfollowed := true, recurses := true, apart := false, narrowed := true }
def ShapeAnswersUptoSaid : Prop := shapeAnswersUptoRow.holds Try.pinned (OpenSpec.upto shapeAnswersSpec)

/-- 'leadtraillaw09.ShapeCommon', WHERE WHAT IT READS IS OF BULK AT MOST 1048576: true; the input reads as it did. -/
def shapeCommonUptoRow : OpenClaim := { program := "ytkcklnmbeinfkaa", sum := "f527aed91f9eb7019c42601d8832bd75ace1200426439aa51c624da09161d91f", func := "leadtrail/leadtraillaw09.ShapeCommon", spec := "shapeCommon", unfollowed := true, recurses := true, apart := false, narrowed := true }
def ShapeCommonUptoSaid : Prop := shapeCommonUptoRow.holds Try.pinned (OpenSpec.upto shapeCommonSpec)

/-- 'leadtraillaw11.ClashInject', WHERE WHAT IT READS IS OF BULK AT MOST 1048576: true; the input reads as it did. -/
def clashInjectUptoRow : OpenClaim := { program := "ytkcklnmbeinfkaa", sum := "f527aed91f9eb7019c42601d8832bd75ace1200426439aa51c624da09161d91f", func := "leadtrail/leadtraillaw11.ClashInject", spec := "clashInject", unfollowed := true, recurses := true, apart := false, narrowed := true }
def ClashInjectUptoSaid : Prop := clashInjectUptoRow.holds Try.pinned (OpenSpec.upto clashInjectSpec)

/-- 'leadtraillaw11.ClashFewer', WHERE WHAT IT READS IS OF BULK AT MOST 1048576: true; the input reads as it did. -/
def clashFewerUptoRow : OpenClaim := { program := "ytkcklnmbeinfkaa", sum := "f527aed91f9eb7019c42601d8832bd75ace1200426439aa51c624da09161d91f", func := "leadtrail/leadtraillaw11.ClashFewer", spec := "clashFewer", unfollowed := true, recurses := true, apart := false, narrowed := true }
def ClashFewerUptoSaid : Prop := clashFewerUptoRow.holds Try.pinned (OpenSpec.upto clashFewerSpec)

/-- 'leadtraillaw11.ClashPrefix', WHERE WHAT IT READS IS OF BULK AT MOST 1048576: true; the input reads as it did. -/
def clashPrefixUptoRow : OpenClaim := { program := "ytkcklnmbeinfkaa", sum := "f527aed91f9eb7019c42601d8832bd75ace1200426439aa51c624da09161d91f", func := "leadtrail/leadtraillaw11.ClashPrefix", spec := "clashPrefix", unfollowed := true, recurses := true, apart := false, narrowed := true }
def ClashPrefixUptoSaid : Prop := clashPrefixUptoRow.holds Try.pinned (OpenSpec.upto clashPrefixSpec)

/-- 'leadtraillaw12.OrderFound', WHERE WHAT IT READS IS OF BULK AT MOST 1048576: true; the input reads as it did. -/
def orderFoundUptoRow : OpenClaim := { program := "ytkcklnmbeinfkaa", sum := "f527aed91f9eb7019c42601d8832bd75ace1200426439aa51c624da09161d91f", func := "leadtrail/leadtraillaw12.OrderFound", spec := "orderFound", inPlace := ["internal/bytealg.Compare"], unfollowed := true, recurses := true, apart := false, narrowed := true }
def OrderFoundUptoSaid : Prop := orderFoundUptoRow.holds Try.pinned (OpenSpec.upto orderFoundSpec)

/-- 'leadtraillaw12.OrderCompare', WHERE WHAT IT READS IS OF BULK AT MOST 1048576: true; the input reads as it did. -/
def orderCompareUptoRow : OpenClaim := { program := "ytkcklnmbeinfkaa", sum := "f527aed91f9eb7019c42601d8832bd75ace1200426439aa51c624da09161d91f", func := "leadtrail/leadtraillaw12.OrderCompare", spec := "orderCompare", inPlace := ["internal/bytealg.Compare"], unfollowed := true, recurses := true, apart := false, narrowed := true }
def OrderCompareUptoSaid : Prop := orderCompareUptoRow.holds Try.pinned (OpenSpec.upto orderCompareSpec)

/-- 'leadtraillaw10.CodeBack', WHERE WHAT IT READS IS OF BULK AT MOST 1048576: true; the input reads as it did. -/
def codeBackUptoRow : OpenClaim := { program := "ytkcklnmbeinfkaa", sum := "f527aed91f9eb7019c42601d8832bd75ace1200426439aa51c624da09161d91f", func := "leadtrail/leadtraillaw10.CodeBack", spec := "codeBack", unfollowed := true, recurses := true, apart := false, narrowed := true }
def CodeBackUptoSaid : Prop := codeBackUptoRow.holds Try.pinned (OpenSpec.upto codeBackSpec)

/-- 'leadtraillaw10.CodeText', WHERE WHAT IT READS IS OF BULK AT MOST 1048576: true; the input reads as it did. -/
def codeTextUptoRow : OpenClaim := { program := "ytkcklnmbeinfkaa", sum := "f527aed91f9eb7019c42601d8832bd75ace1200426439aa51c624da09161d91f", func := "leadtrail/leadtraillaw10.CodeText", spec := "codeText", unfollowed := true, recurses := true, apart := false, narrowed := true }
def CodeTextUptoSaid : Prop := codeTextUptoRow.holds Try.pinned (OpenSpec.upto codeTextSpec)

/-- 'leadtraillaw25.RepertMeans', WHERE WHAT IT READS IS OF BULK AT MOST 1048576: true; the input reads as it did. -/
def repertMeansUptoRow : OpenClaim := { program := "ytkcklnmbeinfkaa", sum := "f527aed91f9eb7019c42601d8832bd75ace1200426439aa51c624da09161d91f", func := "leadtrail/leadtraillaw25.RepertMeans", spec := "repertMeans", unfollowed := true, recurses := true, apart := false, narrowed := true }
def RepertMeansUptoSaid : Prop := repertMeansUptoRow.holds Try.pinned (OpenSpec.upto repertMeansSpec)

/-- 'leadtraillaw11.ClashFound', WHERE WHAT IT READS IS OF BULK AT MOST 1048576: true; the input reads as it did. -/
def clashFoundUptoRow : OpenClaim := { program := "ytkcklnmbeinfkaa", sum := "f527aed91f9eb7019c42601d8832bd75ace1200426439aa51c624da09161d91f", func := "leadtrail/leadtraillaw11.ClashFound", spec := "clashFound", unfollowed := true, recurses := true, apart := false, narrowed := true }
def ClashFoundUptoSaid : Prop := clashFoundUptoRow.holds Try.pinned (OpenSpec.upto clashFoundSpec)

end Rows
end Go.Proofs.Ytkcklnmbeinfkaa
