/-
  No cell of these rows narrows 'for every input' (looked for: loops, veiled, ifaces, maps, wideKeys, modest, calm, conditions, laid).
  DERIVED. THE GIVEN ROWS OF THIS SEAT. 14 by the template 'for every input the law returns true; each argument reads behind the call as it read before'; 0 by the template 'total and deterministic' (their statements: YtddffjhodiengaaTotals.lean).
  GIVEN WITH THE SEED: the statements are not yours to turn. If you find one false, say at which input.
  Laid BY PROGRAM, IN A SANDBOX (cutbox-rows.mjs): the forced cells as the released guide's own fill.sh prints them over the translation 54e274a2bbe18af7… (all of the seat's roots in one cut). By AI agents, Wed Nov 11 2026. No macro, syntax, notation, axiom, sorry.
-/
import Derived.Test.YtddffjhodiengaaChecked
import GoSem.Claim
import GoSem.ClaimJoined
import GoSem.ClaimMapViews
import Derived.JoinedTies
import Derived.KernelRfl
namespace Go.Proofs.Ytddffjhodiengaa
/- THE CELL 'sum', in the pinned program and in every row, IS THE sha256 OF THE DUMP (.gsa) THAT YtddffjhodiengaaProg.lean LOADS. Nothing in Lean hashes anything: it is a label: what it is worth is what the hold of that sum in a sandbox is worth. -/
noncomputable def Try.pinned : Pinned := { name := "ytddffjhodiengaa", sum := "54e274a2bbe18af79827dc9ace122c3e80314a98d0b23d336261429ac0ffc7fd", checked := Try.checked }
namespace Rows
def none {H : Type} : Left H := { results := [], args := [] }

/-- 'leadtraillaw03.SpansNorm': WHATEVER THE INPUT: true; the input reads as it did. -/
def spansNormSpec : ChangeSpec := { name := "spansNorm", fn := fun _ => fun
  | [d] => { results := [.lit (.bool true)], args := [d] }
  | _ => none }
def spansNormRow : OpenClaim := { program := "ytddffjhodiengaa", sum := "54e274a2bbe18af79827dc9ace122c3e80314a98d0b23d336261429ac0ffc7fd", func := "leadtrail/leadtraillaw03.SpansNorm", spec := "spansNorm", unfollowed := true, recurses := true, apart := false }
def SpansNormSaid : Prop := spansNormRow.holds Try.pinned (OpenSpec.ofChange spansNormSpec)

/-- ITS FALSE NEIGHBOUR: 'it returns false'. Refute it at one input. -/
def spansNormWrong : ChangeSpec := { name := "spansNorm", fn := fun _ => fun
  | [d] => { results := [.lit (.bool false)], args := [d] }
  | _ => none }
def SpansNormWrongFalsely : Prop := spansNormRow.holds Try.pinned (OpenSpec.ofChange spansNormWrong)

/-- 'leadtraillaw04.ScalarsNorm': WHATEVER THE INPUT: true; the input reads as it did. -/
def scalarsNormSpec : ChangeSpec := { name := "scalarsNorm", fn := fun _ => fun
  | [d] => { results := [.lit (.bool true)], args := [d] }
  | _ => none }
def scalarsNormRow : OpenClaim := { program := "ytddffjhodiengaa", sum := "54e274a2bbe18af79827dc9ace122c3e80314a98d0b23d336261429ac0ffc7fd", func := "leadtrail/leadtraillaw04.ScalarsNorm", spec := "scalarsNorm", unfollowed := true, recurses := true, apart := false }
def ScalarsNormSaid : Prop := scalarsNormRow.holds Try.pinned (OpenSpec.ofChange scalarsNormSpec)

/-- ITS FALSE NEIGHBOUR: 'it returns false'. Refute it at one input. -/
def scalarsNormWrong : ChangeSpec := { name := "scalarsNorm", fn := fun _ => fun
  | [d] => { results := [.lit (.bool false)], args := [d] }
  | _ => none }
def ScalarsNormWrongFalsely : Prop := scalarsNormRow.holds Try.pinned (OpenSpec.ofChange scalarsNormWrong)

/-- 'leadtraillaw03.SpansAll': WHATEVER THE INPUT: true; the input reads as it did. -/
def spansAllSpec : ChangeSpec := { name := "spansAll", fn := fun _ => fun
  | [d1, d2, d3] => { results := [.lit (.bool true)], args := [d1, d2, d3] }
  | _ => none }
def spansAllRow : OpenClaim := { program := "ytddffjhodiengaa", sum := "54e274a2bbe18af79827dc9ace122c3e80314a98d0b23d336261429ac0ffc7fd", func := "leadtrail/leadtraillaw03.SpansAll", spec := "spansAll", unfollowed := true, recurses := true, apart := false }
def SpansAllSaid : Prop := spansAllRow.holds Try.pinned (OpenSpec.ofChange spansAllSpec)

/-- ITS FALSE NEIGHBOUR: 'it returns false'. Refute it at one input. -/
def spansAllWrong : ChangeSpec := { name := "spansAll", fn := fun _ => fun
  | [d1, d2, d3] => { results := [.lit (.bool false)], args := [d1, d2, d3] }
  | _ => none }
def SpansAllWrongFalsely : Prop := spansAllRow.holds Try.pinned (OpenSpec.ofChange spansAllWrong)

/-- 'leadtraillaw04.ScalarsAll': WHATEVER THE INPUT: true; the input reads as it did. -/
def scalarsAllSpec : ChangeSpec := { name := "scalarsAll", fn := fun _ => fun
  | [d1, d2, d3] => { results := [.lit (.bool true)], args := [d1, d2, d3] }
  | _ => none }
def scalarsAllRow : OpenClaim := { program := "ytddffjhodiengaa", sum := "54e274a2bbe18af79827dc9ace122c3e80314a98d0b23d336261429ac0ffc7fd", func := "leadtrail/leadtraillaw04.ScalarsAll", spec := "scalarsAll", unfollowed := true, recurses := true, apart := false }
def ScalarsAllSaid : Prop := scalarsAllRow.holds Try.pinned (OpenSpec.ofChange scalarsAllSpec)

/-- ITS FALSE NEIGHBOUR: 'it returns false'. Refute it at one input. -/
def scalarsAllWrong : ChangeSpec := { name := "scalarsAll", fn := fun _ => fun
  | [d1, d2, d3] => { results := [.lit (.bool false)], args := [d1, d2, d3] }
  | _ => none }
def ScalarsAllWrongFalsely : Prop := scalarsAllRow.holds Try.pinned (OpenSpec.ofChange scalarsAllWrong)

/-- 'leadtraillaw03.SpansRanks': WHATEVER THE INPUT: true; the input reads as it did. -/
def spansRanksSpec : ChangeSpec := { name := "spansRanks", fn := fun _ => fun
  | [d1, d2, d3] => { results := [.lit (.bool true)], args := [d1, d2, d3] }
  | _ => none }
def spansRanksRow : OpenClaim := { program := "ytddffjhodiengaa", sum := "54e274a2bbe18af79827dc9ace122c3e80314a98d0b23d336261429ac0ffc7fd", func := "leadtrail/leadtraillaw03.SpansRanks", spec := "spansRanks", unfollowed := true, recurses := true, apart := false }
def SpansRanksSaid : Prop := spansRanksRow.holds Try.pinned (OpenSpec.ofChange spansRanksSpec)

/-- ITS FALSE NEIGHBOUR: 'it returns false'. Refute it at one input. -/
def spansRanksWrong : ChangeSpec := { name := "spansRanks", fn := fun _ => fun
  | [d1, d2, d3] => { results := [.lit (.bool false)], args := [d1, d2, d3] }
  | _ => none }
def SpansRanksWrongFalsely : Prop := spansRanksRow.holds Try.pinned (OpenSpec.ofChange spansRanksWrong)

/-- 'leadtraillaw04.ScalarsRanks': WHATEVER THE INPUT: true; the input reads as it did. -/
def scalarsRanksSpec : ChangeSpec := { name := "scalarsRanks", fn := fun _ => fun
  | [d1, d2, d3] => { results := [.lit (.bool true)], args := [d1, d2, d3] }
  | _ => none }
def scalarsRanksRow : OpenClaim := { program := "ytddffjhodiengaa", sum := "54e274a2bbe18af79827dc9ace122c3e80314a98d0b23d336261429ac0ffc7fd", func := "leadtrail/leadtraillaw04.ScalarsRanks", spec := "scalarsRanks", unfollowed := true, recurses := true, apart := false }
def ScalarsRanksSaid : Prop := scalarsRanksRow.holds Try.pinned (OpenSpec.ofChange scalarsRanksSpec)

/-- ITS FALSE NEIGHBOUR: 'it returns false'. Refute it at one input. -/
def scalarsRanksWrong : ChangeSpec := { name := "scalarsRanks", fn := fun _ => fun
  | [d1, d2, d3] => { results := [.lit (.bool false)], args := [d1, d2, d3] }
  | _ => none }
def ScalarsRanksWrongFalsely : Prop := scalarsRanksRow.holds Try.pinned (OpenSpec.ofChange scalarsRanksWrong)

/-- 'leadtraillaw03.SpansAnswers': WHATEVER THE INPUT: true; the input reads as it did. -/
def spansAnswersSpec : ChangeSpec := { name := "spansAnswers", fn := fun _ => fun
  | [d1, d2, d3] => { results := [.lit (.bool true)], args := [d1, d2, d3] }
  | _ => none }
def spansAnswersRow : OpenClaim := { program := "ytddffjhodiengaa", sum := "54e274a2bbe18af79827dc9ace122c3e80314a98d0b23d336261429ac0ffc7fd", func := "leadtrail/leadtraillaw03.SpansAnswers", spec := "spansAnswers", unfollowed := true, recurses := true, apart := false }
def SpansAnswersSaid : Prop := spansAnswersRow.holds Try.pinned (OpenSpec.ofChange spansAnswersSpec)

/-- ITS FALSE NEIGHBOUR: 'it returns false'. Refute it at one input. -/
def spansAnswersWrong : ChangeSpec := { name := "spansAnswers", fn := fun _ => fun
  | [d1, d2, d3] => { results := [.lit (.bool false)], args := [d1, d2, d3] }
  | _ => none }
def SpansAnswersWrongFalsely : Prop := spansAnswersRow.holds Try.pinned (OpenSpec.ofChange spansAnswersWrong)

/-- 'leadtraillaw04.ScalarsAnswers': WHATEVER THE INPUT: true; the input reads as it did. -/
def scalarsAnswersSpec : ChangeSpec := { name := "scalarsAnswers", fn := fun _ => fun
  | [d1, d2, d3] => { results := [.lit (.bool true)], args := [d1, d2, d3] }
  | _ => none }
def scalarsAnswersRow : OpenClaim := { program := "ytddffjhodiengaa", sum := "54e274a2bbe18af79827dc9ace122c3e80314a98d0b23d336261429ac0ffc7fd", func := "leadtrail/leadtraillaw04.ScalarsAnswers", spec := "scalarsAnswers", unfollowed := true, recurses := true, apart := false }
def ScalarsAnswersSaid : Prop := scalarsAnswersRow.holds Try.pinned (OpenSpec.ofChange scalarsAnswersSpec)

/-- ITS FALSE NEIGHBOUR: 'it returns false'. Refute it at one input. -/
def scalarsAnswersWrong : ChangeSpec := { name := "scalarsAnswers", fn := fun _ => fun
  | [d1, d2, d3] => { results := [.lit (.bool false)], args := [d1, d2, d3] }
  | _ => none }
def ScalarsAnswersWrongFalsely : Prop := scalarsAnswersRow.holds Try.pinned (OpenSpec.ofChange scalarsAnswersWrong)

/-- 'leadtraillaw03.SpansBoth': WHATEVER THE INPUT: true; the input reads as it did. -/
def spansBothSpec : ChangeSpec := { name := "spansBoth", fn := fun _ => fun
  | [d1, d2] => { results := [.lit (.bool true)], args := [d1, d2] }
  | _ => none }
def spansBothRow : OpenClaim := { program := "ytddffjhodiengaa", sum := "54e274a2bbe18af79827dc9ace122c3e80314a98d0b23d336261429ac0ffc7fd", func := "leadtrail/leadtraillaw03.SpansBoth", spec := "spansBoth", unfollowed := true, recurses := true, apart := false }
def SpansBothSaid : Prop := spansBothRow.holds Try.pinned (OpenSpec.ofChange spansBothSpec)

/-- ITS FALSE NEIGHBOUR: 'it returns false'. Refute it at one input. -/
def spansBothWrong : ChangeSpec := { name := "spansBoth", fn := fun _ => fun
  | [d1, d2] => { results := [.lit (.bool false)], args := [d1, d2] }
  | _ => none }
def SpansBothWrongFalsely : Prop := spansBothRow.holds Try.pinned (OpenSpec.ofChange spansBothWrong)

/-- 'leadtraillaw03.SpansOwns': WHATEVER THE INPUT: true; the input reads as it did. -/
def spansOwnsSpec : ChangeSpec := { name := "spansOwns", fn := fun _ => fun
  | [d1, d2] => { results := [.lit (.bool true)], args := [d1, d2] }
  | _ => none }
def spansOwnsRow : OpenClaim := { program := "ytddffjhodiengaa", sum := "54e274a2bbe18af79827dc9ace122c3e80314a98d0b23d336261429ac0ffc7fd", func := "leadtrail/leadtraillaw03.SpansOwns", spec := "spansOwns", unfollowed := true, recurses := true, apart := false }
def SpansOwnsSaid : Prop := spansOwnsRow.holds Try.pinned (OpenSpec.ofChange spansOwnsSpec)

/-- ITS FALSE NEIGHBOUR: 'it returns false'. Refute it at one input. -/
def spansOwnsWrong : ChangeSpec := { name := "spansOwns", fn := fun _ => fun
  | [d1, d2] => { results := [.lit (.bool false)], args := [d1, d2] }
  | _ => none }
def SpansOwnsWrongFalsely : Prop := spansOwnsRow.holds Try.pinned (OpenSpec.ofChange spansOwnsWrong)

/-- 'leadtraillaw04.ScalarsBoth': WHATEVER THE INPUT: true; the input reads as it did. -/
def scalarsBothSpec : ChangeSpec := { name := "scalarsBoth", fn := fun _ => fun
  | [d1, d2] => { results := [.lit (.bool true)], args := [d1, d2] }
  | _ => none }
def scalarsBothRow : OpenClaim := { program := "ytddffjhodiengaa", sum := "54e274a2bbe18af79827dc9ace122c3e80314a98d0b23d336261429ac0ffc7fd", func := "leadtrail/leadtraillaw04.ScalarsBoth", spec := "scalarsBoth", unfollowed := true, recurses := true, apart := false }
def ScalarsBothSaid : Prop := scalarsBothRow.holds Try.pinned (OpenSpec.ofChange scalarsBothSpec)

/-- ITS FALSE NEIGHBOUR: 'it returns false'. Refute it at one input. -/
def scalarsBothWrong : ChangeSpec := { name := "scalarsBoth", fn := fun _ => fun
  | [d1, d2] => { results := [.lit (.bool false)], args := [d1, d2] }
  | _ => none }
def ScalarsBothWrongFalsely : Prop := scalarsBothRow.holds Try.pinned (OpenSpec.ofChange scalarsBothWrong)

/-- 'leadtraillaw04.ScalarsOwns': WHATEVER THE INPUT: true; the input reads as it did. -/
def scalarsOwnsSpec : ChangeSpec := { name := "scalarsOwns", fn := fun _ => fun
  | [d1, d2] => { results := [.lit (.bool true)], args := [d1, d2] }
  | _ => none }
def scalarsOwnsRow : OpenClaim := { program := "ytddffjhodiengaa", sum := "54e274a2bbe18af79827dc9ace122c3e80314a98d0b23d336261429ac0ffc7fd", func := "leadtrail/leadtraillaw04.ScalarsOwns", spec := "scalarsOwns", unfollowed := true, recurses := true, apart := false }
def ScalarsOwnsSaid : Prop := scalarsOwnsRow.holds Try.pinned (OpenSpec.ofChange scalarsOwnsSpec)

/-- ITS FALSE NEIGHBOUR: 'it returns false'. Refute it at one input. -/
def scalarsOwnsWrong : ChangeSpec := { name := "scalarsOwns", fn := fun _ => fun
  | [d1, d2] => { results := [.lit (.bool false)], args := [d1, d2] }
  | _ => none }
def ScalarsOwnsWrongFalsely : Prop := scalarsOwnsRow.holds Try.pinned (OpenSpec.ofChange scalarsOwnsWrong)

/-- 'leadtraillaw03.SpansLaws': WHATEVER THE INPUT: true; the input reads as it did. -/
def spansLawsSpec : ChangeSpec := { name := "spansLaws", fn := fun _ => fun
  | [d1, d2] => { results := [.lit (.bool true)], args := [d1, d2] }
  | _ => none }
def spansLawsRow : OpenClaim := { program := "ytddffjhodiengaa", sum := "54e274a2bbe18af79827dc9ace122c3e80314a98d0b23d336261429ac0ffc7fd", func := "leadtrail/leadtraillaw03.SpansLaws", spec := "spansLaws", unfollowed := true, recurses := true, apart := false }
def SpansLawsSaid : Prop := spansLawsRow.holds Try.pinned (OpenSpec.ofChange spansLawsSpec)

/-- ITS FALSE NEIGHBOUR: 'it returns false'. Refute it at one input. -/
def spansLawsWrong : ChangeSpec := { name := "spansLaws", fn := fun _ => fun
  | [d1, d2] => { results := [.lit (.bool false)], args := [d1, d2] }
  | _ => none }
def SpansLawsWrongFalsely : Prop := spansLawsRow.holds Try.pinned (OpenSpec.ofChange spansLawsWrong)

/-- 'leadtraillaw04.ScalarsLaws': WHATEVER THE INPUT: true; the input reads as it did. -/
def scalarsLawsSpec : ChangeSpec := { name := "scalarsLaws", fn := fun _ => fun
  | [d1, d2] => { results := [.lit (.bool true)], args := [d1, d2] }
  | _ => none }
def scalarsLawsRow : OpenClaim := { program := "ytddffjhodiengaa", sum := "54e274a2bbe18af79827dc9ace122c3e80314a98d0b23d336261429ac0ffc7fd", func := "leadtrail/leadtraillaw04.ScalarsLaws", spec := "scalarsLaws", unfollowed := true, recurses := true, apart := false }
def ScalarsLawsSaid : Prop := scalarsLawsRow.holds Try.pinned (OpenSpec.ofChange scalarsLawsSpec)

/-- ITS FALSE NEIGHBOUR: 'it returns false'. Refute it at one input. -/
def scalarsLawsWrong : ChangeSpec := { name := "scalarsLaws", fn := fun _ => fun
  | [d1, d2] => { results := [.lit (.bool false)], args := [d1, d2] }
  | _ => none }
def ScalarsLawsWrongFalsely : Prop := scalarsLawsRow.holds Try.pinned (OpenSpec.ofChange scalarsLawsWrong)

/- THE SECOND FORM. 'bulk': how many values and letters a reading holds, each counted each time it is reached (what is shared counts as often as it is met; a slice's spare places count too). A statement '..UptoSaid' is the law's where the arguments, and the package variables that the reading takes, are together of bulk at most 1048576: NARROWER than '..Said'. Prove '..Said' where nothing that the law and all that it calls make is longer than what came in: it says more and counts as full. Else prove '..UptoSaid'. A law counts once. -/
mutual
def uptoBulk {H : Type} : DataW H → Nat
  | .lit (.string bytes) => bytes.length + 1
  | .lit _ => 1
  | .nil => 1
  | .ptr d => uptoBulk d + 1
  | .slice elems spare => uptoBulkAll elems + uptoBulkAll spare + 1
  | .agg parts => uptoBulkAll parts + 1
  | .iface _ d => uptoBulk d + 1
  | .map entries => uptoBulkEntries entries + 1
  | .held _ => 1
def uptoBulkAll {H : Type} : List (DataW H) → Nat
  | [] => 0
  | d :: r => uptoBulk d + uptoBulkAll r
def uptoBulkEntries {H : Type} : List (Lit × DataW H) → Nat
  | [] => 0
  | x :: r => uptoBulkEntry x + uptoBulkEntries r
def uptoBulkEntry {H : Type} : Lit × DataW H → Nat
  | (.string bytes, d) => bytes.length + uptoBulk d + 1
  | (_, d) => uptoBulk d + 1
 end
def uptoSmall : (H : Type) → List (DataW H) → Bool := fun _ ds => decide (uptoBulkAll ds ≤ 1048576)
def OpenSpec.upto (s : _root_.Go.ChangeSpec) : _root_.Go.OpenSpec := { _root_.Go.OpenSpec.ofChange s with cond := some uptoSmall }

/-- 'leadtraillaw03.SpansNorm', WHERE WHAT IT READS IS OF BULK AT MOST 1048576: true; the input reads as it did. -/
def spansNormUptoRow : OpenClaim := { program := "ytddffjhodiengaa", sum := "54e274a2bbe18af79827dc9ace122c3e80314a98d0b23d336261429ac0ffc7fd", func := "leadtrail/leadtraillaw03.SpansNorm", spec := "spansNorm", unfollowed := true, recurses := true, apart := false, narrowed := true }
def SpansNormUptoSaid : Prop := spansNormUptoRow.holds Try.pinned (OpenSpec.upto spansNormSpec)

/-- 'leadtraillaw04.ScalarsNorm', WHERE WHAT IT READS IS OF BULK AT MOST 1048576: true; the input reads as it did. -/
def scalarsNormUptoRow : OpenClaim := { program := "ytddffjhodiengaa", sum := "54e274a2bbe18af79827dc9ace122c3e80314a98d0b23d336261429ac0ffc7fd", func := "leadtrail/leadtraillaw04.ScalarsNorm", spec := "scalarsNorm", unfollowed := true, recurses := true, apart := false, narrowed := true }
def ScalarsNormUptoSaid : Prop := scalarsNormUptoRow.holds Try.pinned (OpenSpec.upto scalarsNormSpec)

/-- 'leadtraillaw03.SpansAll', WHERE WHAT IT READS IS OF BULK AT MOST 1048576: true; the input reads as it did. -/
def spansAllUptoRow : OpenClaim := { program := "ytddffjhodiengaa", sum := "54e274a2bbe18af79827dc9ace122c3e80314a98d0b23d336261429ac0ffc7fd", func := "leadtrail/leadtraillaw03.SpansAll", spec := "spansAll", unfollowed := true, recurses := true, apart := false, narrowed := true }
def SpansAllUptoSaid : Prop := spansAllUptoRow.holds Try.pinned (OpenSpec.upto spansAllSpec)

/-- 'leadtraillaw04.ScalarsAll', WHERE WHAT IT READS IS OF BULK AT MOST 1048576: true; the input reads as it did. -/
def scalarsAllUptoRow : OpenClaim := { program := "ytddffjhodiengaa", sum := "54e274a2bbe18af79827dc9ace122c3e80314a98d0b23d336261429ac0ffc7fd", func := "leadtrail/leadtraillaw04.ScalarsAll", spec := "scalarsAll", unfollowed := true, recurses := true, apart := false, narrowed := true }
def ScalarsAllUptoSaid : Prop := scalarsAllUptoRow.holds Try.pinned (OpenSpec.upto scalarsAllSpec)

/-- 'leadtraillaw03.SpansRanks', WHERE WHAT IT READS IS OF BULK AT MOST 1048576: true; the input reads as it did. -/
def spansRanksUptoRow : OpenClaim := { program := "ytddffjhodiengaa", sum := "54e274a2bbe18af79827dc9ace122c3e80314a98d0b23d336261429ac0ffc7fd", func := "leadtrail/leadtraillaw03.SpansRanks", spec := "spansRanks", unfollowed := true, recurses := true, apart := false, narrowed := true }
def SpansRanksUptoSaid : Prop := spansRanksUptoRow.holds Try.pinned (OpenSpec.upto spansRanksSpec)

/-- 'leadtraillaw04.ScalarsRanks', WHERE WHAT IT READS IS OF BULK AT MOST 1048576: true; the input reads as it did. -/
def scalarsRanksUptoRow : OpenClaim := { program := "ytddffjhodiengaa", sum := "54e274a2bbe18af79827dc9ace122c3e80314a98d0b23d336261429ac0ffc7fd", func := "leadtrail/leadtraillaw04.ScalarsRanks", spec := "scalarsRanks", unfollowed := true, recurses := true, apart := false, narrowed := true }
def ScalarsRanksUptoSaid : Prop := scalarsRanksUptoRow.holds Try.pinned (OpenSpec.upto scalarsRanksSpec)

/-- 'leadtraillaw03.SpansAnswers', WHERE WHAT IT READS IS OF BULK AT MOST 1048576: true; the input reads as it did. -/
def spansAnswersUptoRow : OpenClaim := { program := "ytddffjhodiengaa", sum := "54e274a2bbe18af79827dc9ace122c3e80314a98d0b23d336261429ac0ffc7fd", func := "leadtrail/leadtraillaw03.SpansAnswers", spec := "spansAnswers", unfollowed := true, recurses := true, apart := false, narrowed := true }
def SpansAnswersUptoSaid : Prop := spansAnswersUptoRow.holds Try.pinned (OpenSpec.upto spansAnswersSpec)

/-- 'leadtraillaw04.ScalarsAnswers', WHERE WHAT IT READS IS OF BULK AT MOST 1048576: true; the input reads as it did. -/
def scalarsAnswersUptoRow : OpenClaim := { program := "ytddffjhodiengaa", sum := "54e274a2bbe18af79827dc9ace122c3e80314a98d0b23d336261429ac0ffc7fd", func := "leadtrail/leadtraillaw04.ScalarsAnswers", spec := "scalarsAnswers", unfollowed := true, recurses := true, apart := false, narrowed := true }
def ScalarsAnswersUptoSaid : Prop := scalarsAnswersUptoRow.holds Try.pinned (OpenSpec.upto scalarsAnswersSpec)

/-- 'leadtraillaw03.SpansBoth', WHERE WHAT IT READS IS OF BULK AT MOST 1048576: true; the input reads as it did. -/
def spansBothUptoRow : OpenClaim := { program := "ytddffjhodiengaa", sum := "54e274a2bbe18af79827dc9ace122c3e80314a98d0b23d336261429ac0ffc7fd", func := "leadtrail/leadtraillaw03.SpansBoth", spec := "spansBoth", unfollowed := true, recurses := true, apart := false, narrowed := true }
def SpansBothUptoSaid : Prop := spansBothUptoRow.holds Try.pinned (OpenSpec.upto spansBothSpec)

/-- 'leadtraillaw03.SpansOwns', WHERE WHAT IT READS IS OF BULK AT MOST 1048576: true; the input reads as it did. -/
def spansOwnsUptoRow : OpenClaim := { program := "ytddffjhodiengaa", sum := "54e274a2bbe18af79827dc9ace122c3e80314a98d0b23d336261429ac0ffc7fd", func := "leadtrail/leadtraillaw03.SpansOwns", spec := "spansOwns", unfollowed := true, recurses := true, apart := false, narrowed := true }
def SpansOwnsUptoSaid : Prop := spansOwnsUptoRow.holds Try.pinned (OpenSpec.upto spansOwnsSpec)

/-- 'leadtraillaw04.ScalarsBoth', WHERE WHAT IT READS IS OF BULK AT MOST 1048576: true; the input reads as it did. -/
def scalarsBothUptoRow : OpenClaim := { program := "ytddffjhodiengaa", sum := "54e274a2bbe18af79827dc9ace122c3e80314a98d0b23d336261429ac0ffc7fd", func := "leadtrail/leadtraillaw04.ScalarsBoth", spec := "scalarsBoth", unfollowed := true, recurses := true, apart := false, narrowed := true }
def ScalarsBothUptoSaid : Prop := scalarsBothUptoRow.holds Try.pinned (OpenSpec.upto scalarsBothSpec)

/-- 'leadtraillaw04.ScalarsOwns', WHERE WHAT IT READS IS OF BULK AT MOST 1048576: true; the input reads as it did. -/
def scalarsOwnsUptoRow : OpenClaim := { program := "ytddffjhodiengaa", sum := "54e274a2bbe18af79827dc9ace122c3e80314a98d0b23d336261429ac0ffc7fd", func := "leadtrail/leadtraillaw04.ScalarsOwns", spec := "scalarsOwns", unfollowed := true, recurses := true, apart := false, narrowed := true }
def ScalarsOwnsUptoSaid : Prop := scalarsOwnsUptoRow.holds Try.pinned (OpenSpec.upto scalarsOwnsSpec)

/-- 'leadtraillaw03.SpansLaws', WHERE WHAT IT READS IS OF BULK AT MOST 1048576: true; the input reads as it did. -/
def spansLawsUptoRow : OpenClaim := { program := "ytddffjhodiengaa", sum := "54e274a2bbe18af79827dc9ace122c3e80314a98d0b23d336261429ac0ffc7fd", func := "leadtrail/leadtraillaw03.SpansLaws", spec := "spansLaws", unfollowed := true, recurses := true, apart := false, narrowed := true }
def SpansLawsUptoSaid : Prop := spansLawsUptoRow.holds Try.pinned (OpenSpec.upto spansLawsSpec)

/-- 'leadtraillaw04.ScalarsLaws', WHERE WHAT IT READS IS OF BULK AT MOST 1048576: true; the input reads as it did. -/
def scalarsLawsUptoRow : OpenClaim := { program := "ytddffjhodiengaa", sum := "54e274a2bbe18af79827dc9ace122c3e80314a98d0b23d336261429ac0ffc7fd", func := "leadtrail/leadtraillaw04.ScalarsLaws", spec := "scalarsLaws", unfollowed := true, recurses := true, apart := false, narrowed := true }
def ScalarsLawsUptoSaid : Prop := scalarsLawsUptoRow.holds Try.pinned (OpenSpec.upto scalarsLawsSpec)

end Rows
end Go.Proofs.Ytddffjhodiengaa
