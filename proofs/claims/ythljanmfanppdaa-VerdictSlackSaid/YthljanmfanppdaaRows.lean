/-
  No cell of these rows narrows 'for every input' (looked for: loops, veiled, ifaces, maps, wideKeys, modest, calm, conditions, laid).
  DERIVED. THE GIVEN ROWS OF THIS SEAT. 14 by the template 'for every input the law returns true; each argument reads behind the call as it read before'; 0 by the template 'total and deterministic' (their statements: YthljanmfanppdaaTotals.lean).
  GIVEN WITH THE SEED: the statements are not yours to turn. If you find one false, say at which input.
  Laid BY PROGRAM, IN A SANDBOX (cutbox-rows.mjs): the forced cells as the released guide's own fill.sh prints them over the translation 42ead75a4286138f… (all of the seat's roots in one cut). By AI agents, Wed Nov 11 2026. No macro, syntax, notation, axiom, sorry.
-/
import Derived.Test.YthljanmfanppdaaChecked
import GoSem.Claim
import GoSem.ClaimJoined
import GoSem.ClaimMapViews
import Derived.JoinedTies
import Derived.KernelRfl
namespace Go.Proofs.Ythljanmfanppdaa
/- THE CELL 'sum', in the pinned program and in every row, IS THE sha256 OF THE DUMP (.gsa) THAT YthljanmfanppdaaProg.lean LOADS. Nothing in Lean hashes anything: it is a label: what it is worth is what the hold of that sum in a sandbox is worth. -/
noncomputable def Try.pinned : Pinned := { name := "ythljanmfanppdaa", sum := "42ead75a4286138fc4c61cf9091b641d369552bc5631c1b16fb7a373757e8b8a", checked := Try.checked }
namespace Rows
def none {H : Type} : Left H := { results := [], args := [] }

/-- 'knelllaw04.RoundWithin': WHATEVER THE INPUT: true; the input reads as it did. -/
def roundWithinSpec : ChangeSpec := { name := "roundWithin", fn := fun _ => fun
  | [d1, d2, d3] => { results := [.lit (.bool true)], args := [d1, d2, d3] }
  | _ => none }
def roundWithinRow : OpenClaim := { program := "ythljanmfanppdaa", sum := "42ead75a4286138fc4c61cf9091b641d369552bc5631c1b16fb7a373757e8b8a", func := "knell/knelllaw04.RoundWithin", spec := "roundWithin", apart := false }
def RoundWithinSaid : Prop := roundWithinRow.holds Try.pinned (OpenSpec.ofChange roundWithinSpec)

/-- ITS FALSE NEIGHBOUR: 'it returns false'. Refute it at one input. -/
def roundWithinWrong : ChangeSpec := { name := "roundWithin", fn := fun _ => fun
  | [d1, d2, d3] => { results := [.lit (.bool false)], args := [d1, d2, d3] }
  | _ => none }
def RoundWithinWrongFalsely : Prop := roundWithinRow.holds Try.pinned (OpenSpec.ofChange roundWithinWrong)

/-- 'knelllaw04.RoundSums': WHATEVER THE INPUT: true; the input reads as it did. -/
def roundSumsSpec : ChangeSpec := { name := "roundSums", fn := fun _ => fun
  | [d1, d2] => { results := [.lit (.bool true)], args := [d1, d2] }
  | _ => none }
def roundSumsRow : OpenClaim := { program := "ythljanmfanppdaa", sum := "42ead75a4286138fc4c61cf9091b641d369552bc5631c1b16fb7a373757e8b8a", func := "knell/knelllaw04.RoundSums", spec := "roundSums", apart := false }
def RoundSumsSaid : Prop := roundSumsRow.holds Try.pinned (OpenSpec.ofChange roundSumsSpec)

/-- ITS FALSE NEIGHBOUR: 'it returns false'. Refute it at one input. -/
def roundSumsWrong : ChangeSpec := { name := "roundSums", fn := fun _ => fun
  | [d1, d2] => { results := [.lit (.bool false)], args := [d1, d2] }
  | _ => none }
def RoundSumsWrongFalsely : Prop := roundSumsRow.holds Try.pinned (OpenSpec.ofChange roundSumsWrong)

/-- 'knelllaw23.BackoffAll': WHATEVER THE INPUT: true; the input reads as it did. -/
def backoffAllSpec : ChangeSpec := { name := "backoffAll", fn := fun _ => fun
  | [d] => { results := [.lit (.bool true)], args := [d] }
  | _ => none }
def backoffAllRow : OpenClaim := { program := "ythljanmfanppdaa", sum := "42ead75a4286138fc4c61cf9091b641d369552bc5631c1b16fb7a373757e8b8a", func := "knell/knelllaw23.BackoffAll", spec := "backoffAll", apart := false }
def BackoffAllSaid : Prop := backoffAllRow.holds Try.pinned (OpenSpec.ofChange backoffAllSpec)

/-- ITS FALSE NEIGHBOUR: 'it returns false'. Refute it at one input. -/
def backoffAllWrong : ChangeSpec := { name := "backoffAll", fn := fun _ => fun
  | [d] => { results := [.lit (.bool false)], args := [d] }
  | _ => none }
def BackoffAllWrongFalsely : Prop := backoffAllRow.holds Try.pinned (OpenSpec.ofChange backoffAllWrong)

/-- 'knelllaw23.BackoffTells': WHATEVER THE INPUT: true; the input reads as it did. -/
def backoffTellsSpec : ChangeSpec := { name := "backoffTells", fn := fun _ => fun
  | [d1, d2, d3, d4] => { results := [.lit (.bool true)], args := [d1, d2, d3, d4] }
  | _ => none }
def backoffTellsRow : OpenClaim := { program := "ythljanmfanppdaa", sum := "42ead75a4286138fc4c61cf9091b641d369552bc5631c1b16fb7a373757e8b8a", func := "knell/knelllaw23.BackoffTells", spec := "backoffTells", apart := false }
def BackoffTellsSaid : Prop := backoffTellsRow.holds Try.pinned (OpenSpec.ofChange backoffTellsSpec)

/-- ITS FALSE NEIGHBOUR: 'it returns false'. Refute it at one input. -/
def backoffTellsWrong : ChangeSpec := { name := "backoffTells", fn := fun _ => fun
  | [d1, d2, d3, d4] => { results := [.lit (.bool false)], args := [d1, d2, d3, d4] }
  | _ => none }
def BackoffTellsWrongFalsely : Prop := backoffTellsRow.holds Try.pinned (OpenSpec.ofChange backoffTellsWrong)

/-- 'knelllaw23.BackoffGrows': WHATEVER THE INPUT: true; the input reads as it did. -/
def backoffGrowsSpec : ChangeSpec := { name := "backoffGrows", fn := fun _ => fun
  | [d1, d2, d3, d4] => { results := [.lit (.bool true)], args := [d1, d2, d3, d4] }
  | _ => none }
def backoffGrowsRow : OpenClaim := { program := "ythljanmfanppdaa", sum := "42ead75a4286138fc4c61cf9091b641d369552bc5631c1b16fb7a373757e8b8a", func := "knell/knelllaw23.BackoffGrows", spec := "backoffGrows", apart := false }
def BackoffGrowsSaid : Prop := backoffGrowsRow.holds Try.pinned (OpenSpec.ofChange backoffGrowsSpec)

/-- ITS FALSE NEIGHBOUR: 'it returns false'. Refute it at one input. -/
def backoffGrowsWrong : ChangeSpec := { name := "backoffGrows", fn := fun _ => fun
  | [d1, d2, d3, d4] => { results := [.lit (.bool false)], args := [d1, d2, d3, d4] }
  | _ => none }
def BackoffGrowsWrongFalsely : Prop := backoffGrowsRow.holds Try.pinned (OpenSpec.ofChange backoffGrowsWrong)

/-- 'knelllaw24.LinkTimes': WHATEVER THE INPUT: true; the input reads as it did. -/
def linkTimesSpec : ChangeSpec := { name := "linkTimes", fn := fun _ => fun
  | [d1, d2, d3] => { results := [.lit (.bool true)], args := [d1, d2, d3] }
  | _ => none }
def linkTimesRow : OpenClaim := { program := "ythljanmfanppdaa", sum := "42ead75a4286138fc4c61cf9091b641d369552bc5631c1b16fb7a373757e8b8a", func := "knell/knelllaw24.LinkTimes", spec := "linkTimes", apart := false }
def LinkTimesSaid : Prop := linkTimesRow.holds Try.pinned (OpenSpec.ofChange linkTimesSpec)

/-- ITS FALSE NEIGHBOUR: 'it returns false'. Refute it at one input. -/
def linkTimesWrong : ChangeSpec := { name := "linkTimes", fn := fun _ => fun
  | [d1, d2, d3] => { results := [.lit (.bool false)], args := [d1, d2, d3] }
  | _ => none }
def LinkTimesWrongFalsely : Prop := linkTimesRow.holds Try.pinned (OpenSpec.ofChange linkTimesWrong)

/-- 'knelllaw24.LinkApart': WHATEVER THE INPUT: true; the input reads as it did. -/
def linkApartSpec : ChangeSpec := { name := "linkApart", fn := fun _ => fun
  | [d1, d2, d3] => { results := [.lit (.bool true)], args := [d1, d2, d3] }
  | _ => none }
def linkApartRow : OpenClaim := { program := "ythljanmfanppdaa", sum := "42ead75a4286138fc4c61cf9091b641d369552bc5631c1b16fb7a373757e8b8a", func := "knell/knelllaw24.LinkApart", spec := "linkApart", apart := false }
def LinkApartSaid : Prop := linkApartRow.holds Try.pinned (OpenSpec.ofChange linkApartSpec)

/-- ITS FALSE NEIGHBOUR: 'it returns false'. Refute it at one input. -/
def linkApartWrong : ChangeSpec := { name := "linkApart", fn := fun _ => fun
  | [d1, d2, d3] => { results := [.lit (.bool false)], args := [d1, d2, d3] }
  | _ => none }
def LinkApartWrongFalsely : Prop := linkApartRow.holds Try.pinned (OpenSpec.ofChange linkApartWrong)

/-- 'knelllaw24.LinkPlays': WHATEVER THE INPUT: true; the input reads as it did. -/
def linkPlaysSpec : ChangeSpec := { name := "linkPlays", fn := fun _ => fun
  | [d1, d2, d3] => { results := [.lit (.bool true)], args := [d1, d2, d3] }
  | _ => none }
def linkPlaysRow : OpenClaim := { program := "ythljanmfanppdaa", sum := "42ead75a4286138fc4c61cf9091b641d369552bc5631c1b16fb7a373757e8b8a", func := "knell/knelllaw24.LinkPlays", spec := "linkPlays", apart := false }
def LinkPlaysSaid : Prop := linkPlaysRow.holds Try.pinned (OpenSpec.ofChange linkPlaysSpec)

/-- ITS FALSE NEIGHBOUR: 'it returns false'. Refute it at one input. -/
def linkPlaysWrong : ChangeSpec := { name := "linkPlays", fn := fun _ => fun
  | [d1, d2, d3] => { results := [.lit (.bool false)], args := [d1, d2, d3] }
  | _ => none }
def LinkPlaysWrongFalsely : Prop := linkPlaysRow.holds Try.pinned (OpenSpec.ofChange linkPlaysWrong)

/-- 'knelllaw25.VerdictFirst': WHATEVER THE INPUT: true; the input reads as it did. -/
def verdictFirstSpec : ChangeSpec := { name := "verdictFirst", fn := fun _ => fun
  | [d1, d2] => { results := [.lit (.bool true)], args := [d1, d2] }
  | _ => none }
def verdictFirstRow : OpenClaim := { program := "ythljanmfanppdaa", sum := "42ead75a4286138fc4c61cf9091b641d369552bc5631c1b16fb7a373757e8b8a", func := "knell/knelllaw25.VerdictFirst", spec := "verdictFirst", apart := false }
def VerdictFirstSaid : Prop := verdictFirstRow.holds Try.pinned (OpenSpec.ofChange verdictFirstSpec)

/-- ITS FALSE NEIGHBOUR: 'it returns false'. Refute it at one input. -/
def verdictFirstWrong : ChangeSpec := { name := "verdictFirst", fn := fun _ => fun
  | [d1, d2] => { results := [.lit (.bool false)], args := [d1, d2] }
  | _ => none }
def VerdictFirstWrongFalsely : Prop := verdictFirstRow.holds Try.pinned (OpenSpec.ofChange verdictFirstWrong)

/-- 'knelllaw25.VerdictFront': WHATEVER THE INPUT: true; the input reads as it did. -/
def verdictFrontSpec : ChangeSpec := { name := "verdictFront", fn := fun _ => fun
  | [d1, d2, d3] => { results := [.lit (.bool true)], args := [d1, d2, d3] }
  | _ => none }
def verdictFrontRow : OpenClaim := { program := "ythljanmfanppdaa", sum := "42ead75a4286138fc4c61cf9091b641d369552bc5631c1b16fb7a373757e8b8a", func := "knell/knelllaw25.VerdictFront", spec := "verdictFront", apart := false }
def VerdictFrontSaid : Prop := verdictFrontRow.holds Try.pinned (OpenSpec.ofChange verdictFrontSpec)

/-- ITS FALSE NEIGHBOUR: 'it returns false'. Refute it at one input. -/
def verdictFrontWrong : ChangeSpec := { name := "verdictFront", fn := fun _ => fun
  | [d1, d2, d3] => { results := [.lit (.bool false)], args := [d1, d2, d3] }
  | _ => none }
def VerdictFrontWrongFalsely : Prop := verdictFrontRow.holds Try.pinned (OpenSpec.ofChange verdictFrontWrong)

/-- 'knelllaw25.VerdictSlack': WHATEVER THE INPUT: true; the input reads as it did. -/
def verdictSlackSpec : ChangeSpec := { name := "verdictSlack", fn := fun _ => fun
  | [d1, d2, d3] => { results := [.lit (.bool true)], args := [d1, d2, d3] }
  | _ => none }
def verdictSlackRow : OpenClaim := { program := "ythljanmfanppdaa", sum := "42ead75a4286138fc4c61cf9091b641d369552bc5631c1b16fb7a373757e8b8a", func := "knell/knelllaw25.VerdictSlack", spec := "verdictSlack", apart := false }
def VerdictSlackSaid : Prop := verdictSlackRow.holds Try.pinned (OpenSpec.ofChange verdictSlackSpec)

/-- ITS FALSE NEIGHBOUR: 'it returns false'. Refute it at one input. -/
def verdictSlackWrong : ChangeSpec := { name := "verdictSlack", fn := fun _ => fun
  | [d1, d2, d3] => { results := [.lit (.bool false)], args := [d1, d2, d3] }
  | _ => none }
def VerdictSlackWrongFalsely : Prop := verdictSlackRow.holds Try.pinned (OpenSpec.ofChange verdictSlackWrong)

/-- 'knelllaw25.VerdictPlays': WHATEVER THE INPUT: true; the input reads as it did. -/
def verdictPlaysSpec : ChangeSpec := { name := "verdictPlays", fn := fun _ => fun
  | [d1, d2] => { results := [.lit (.bool true)], args := [d1, d2] }
  | _ => none }
def verdictPlaysRow : OpenClaim := { program := "ythljanmfanppdaa", sum := "42ead75a4286138fc4c61cf9091b641d369552bc5631c1b16fb7a373757e8b8a", func := "knell/knelllaw25.VerdictPlays", spec := "verdictPlays", apart := false }
def VerdictPlaysSaid : Prop := verdictPlaysRow.holds Try.pinned (OpenSpec.ofChange verdictPlaysSpec)

/-- ITS FALSE NEIGHBOUR: 'it returns false'. Refute it at one input. -/
def verdictPlaysWrong : ChangeSpec := { name := "verdictPlays", fn := fun _ => fun
  | [d1, d2] => { results := [.lit (.bool false)], args := [d1, d2] }
  | _ => none }
def VerdictPlaysWrongFalsely : Prop := verdictPlaysRow.holds Try.pinned (OpenSpec.ofChange verdictPlaysWrong)

/-- 'knelllaw04.RoundBatches': WHATEVER THE INPUT: true; the input reads as it did. -/
def roundBatchesSpec : ChangeSpec := { name := "roundBatches", fn := fun _ => fun
  | [d1, d2] => { results := [.lit (.bool true)], args := [d1, d2] }
  | _ => none }
def roundBatchesRow : OpenClaim := { program := "ythljanmfanppdaa", sum := "42ead75a4286138fc4c61cf9091b641d369552bc5631c1b16fb7a373757e8b8a", func := "knell/knelllaw04.RoundBatches", spec := "roundBatches", recurses := true, apart := false }
def RoundBatchesSaid : Prop := roundBatchesRow.holds Try.pinned (OpenSpec.ofChange roundBatchesSpec)

/-- ITS FALSE NEIGHBOUR: 'it returns false'. Refute it at one input. -/
def roundBatchesWrong : ChangeSpec := { name := "roundBatches", fn := fun _ => fun
  | [d1, d2] => { results := [.lit (.bool false)], args := [d1, d2] }
  | _ => none }
def RoundBatchesWrongFalsely : Prop := roundBatchesRow.holds Try.pinned (OpenSpec.ofChange roundBatchesWrong)

/-- 'knelllaw04.RoundTells': WHATEVER THE INPUT: true; the input reads as it did. -/
def roundTellsSpec : ChangeSpec := { name := "roundTells", fn := fun _ => fun
  | [d1, d2, d3, d4] => { results := [.lit (.bool true)], args := [d1, d2, d3, d4] }
  | _ => none }
def roundTellsRow : OpenClaim := { program := "ythljanmfanppdaa", sum := "42ead75a4286138fc4c61cf9091b641d369552bc5631c1b16fb7a373757e8b8a", func := "knell/knelllaw04.RoundTells", spec := "roundTells", recurses := true, apart := false }
def RoundTellsSaid : Prop := roundTellsRow.holds Try.pinned (OpenSpec.ofChange roundTellsSpec)

/-- ITS FALSE NEIGHBOUR: 'it returns false'. Refute it at one input. -/
def roundTellsWrong : ChangeSpec := { name := "roundTells", fn := fun _ => fun
  | [d1, d2, d3, d4] => { results := [.lit (.bool false)], args := [d1, d2, d3, d4] }
  | _ => none }
def RoundTellsWrongFalsely : Prop := roundTellsRow.holds Try.pinned (OpenSpec.ofChange roundTellsWrong)

/- THE SECOND FORM. 'bulk': how many values and letters a reading holds, each counted each time it is reached (what is shared counts as often as it is met; a slice's spare places count too). A statement '..UptoSaid' is the law's where the arguments, and the package variables that the reading takes, are together of bulk at most 1048576: NARROWER than '..Said'. Prove '..Said' where nothing that the law and all that it calls make is longer than what came in: it says more and counts as full. Else prove '..UptoSaid'. A law counts once. -/
mutual
def uptoBulk {H : Type} : DataW H → Nat
  | .lit (.string bytes) => bytes.length + 1
  | .lit _ => 1
  | .nil => 1
  | .ptr d => uptoBulk d + 1
  | .slice elems spare => uptoBulkAll elems + uptoBulkAll spare + 1
  | .agg parts => uptoBulkAll parts + 1
  | .iface _ d => uptoBulk d + 1
  | .map entries => uptoBulkEntries entries + 1
  | .held _ => 1
def uptoBulkAll {H : Type} : List (DataW H) → Nat
  | [] => 0
  | d :: r => uptoBulk d + uptoBulkAll r
def uptoBulkEntries {H : Type} : List (Lit × DataW H) → Nat
  | [] => 0
  | x :: r => uptoBulkEntry x + uptoBulkEntries r
def uptoBulkEntry {H : Type} : Lit × DataW H → Nat
  | (.string bytes, d) => bytes.length + uptoBulk d + 1
  | (_, d) => uptoBulk d + 1
 end
def uptoSmall : (H : Type) → List (DataW H) → Bool := fun _ ds => decide (uptoBulkAll ds ≤ 1048576)
def OpenSpec.upto (s : _root_.Go.ChangeSpec) : _root_.Go.OpenSpec := { _root_.Go.OpenSpec.ofChange s with cond := some uptoSmall }

/-- 'knelllaw04.RoundWithin', WHERE WHAT IT READS IS OF BULK AT MOST 1048576: true; the input reads as it did. -/
def roundWithinUptoRow : OpenClaim := { program := "ythljanmfanppdaa", sum := "42ead75a4286138fc4c61cf9091b641d369552bc5631c1b16fb7a373757e8b8a", func := "knell/knelllaw04.RoundWithin", spec := "roundWithin", apart := false, narrowed := true }
def RoundWithinUptoSaid : Prop := roundWithinUptoRow.holds Try.pinned (OpenSpec.upto roundWithinSpec)

/-- 'knelllaw04.RoundSums', WHERE WHAT IT READS IS OF BULK AT MOST 1048576: true; the input reads as it did. -/
def roundSumsUptoRow : OpenClaim := { program := "ythljanmfanppdaa", sum := "42ead75a4286138fc4c61cf9091b641d369552bc5631c1b16fb7a373757e8b8a", func := "knell/knelllaw04.RoundSums", spec := "roundSums", apart := false, narrowed := true }
def RoundSumsUptoSaid : Prop := roundSumsUptoRow.holds Try.pinned (OpenSpec.upto roundSumsSpec)

/-- 'knelllaw23.BackoffAll', WHERE WHAT IT READS IS OF BULK AT MOST 1048576: true; the input reads as it did. -/
def backoffAllUptoRow : OpenClaim := { program := "ythljanmfanppdaa", sum := "42ead75a4286138fc4c61cf9091b641d369552bc5631c1b16fb7a373757e8b8a", func := "knell/knelllaw23.BackoffAll", spec := "backoffAll", apart := false, narrowed := true }
def BackoffAllUptoSaid : Prop := backoffAllUptoRow.holds Try.pinned (OpenSpec.upto backoffAllSpec)

/-- 'knelllaw23.BackoffTells', WHERE WHAT IT READS IS OF BULK AT MOST 1048576: true; the input reads as it did. -/
def backoffTellsUptoRow : OpenClaim := { program := "ythljanmfanppdaa", sum := "42ead75a4286138fc4c61cf9091b641d369552bc5631c1b16fb7a373757e8b8a", func := "knell/knelllaw23.BackoffTells", spec := "backoffTells", apart := false, narrowed := true }
def BackoffTellsUptoSaid : Prop := backoffTellsUptoRow.holds Try.pinned (OpenSpec.upto backoffTellsSpec)

/-- 'knelllaw23.BackoffGrows', WHERE WHAT IT READS IS OF BULK AT MOST 1048576: true; the input reads as it did. -/
def backoffGrowsUptoRow : OpenClaim := { program := "ythljanmfanppdaa", sum := "42ead75a4286138fc4c61cf9091b641d369552bc5631c1b16fb7a373757e8b8a", func := "knell/knelllaw23.BackoffGrows", spec := "backoffGrows", apart := false, narrowed := true }
def BackoffGrowsUptoSaid : Prop := backoffGrowsUptoRow.holds Try.pinned (OpenSpec.upto backoffGrowsSpec)

/-- 'knelllaw24.LinkTimes', WHERE WHAT IT READS IS OF BULK AT MOST 1048576: true; the input reads as it did. -/
def linkTimesUptoRow : OpenClaim := { program := "ythljanmfanppdaa", sum := "42ead75a4286138fc4c61cf9091b641d369552bc5631c1b16fb7a373757e8b8a", func := "knell/knelllaw24.LinkTimes", spec := "linkTimes", apart := false, narrowed := true }
def LinkTimesUptoSaid : Prop := linkTimesUptoRow.holds Try.pinned (OpenSpec.upto linkTimesSpec)

/-- 'knelllaw24.LinkApart', WHERE WHAT IT READS IS OF BULK AT MOST 1048576: true; the input reads as it did. -/
def linkApartUptoRow : OpenClaim := { program := "ythljanmfanppdaa", sum := "42ead75a4286138fc4c61cf9091b641d369552bc5631c1b16fb7a373757e8b8a", func := "knell/knelllaw24.LinkApart", spec := "linkApart", apart := false, narrowed := true }
def LinkApartUptoSaid : Prop := linkApartUptoRow.holds Try.pinned (OpenSpec.upto linkApartSpec)

/-- 'knelllaw24.LinkPlays', WHERE WHAT IT READS IS OF BULK AT MOST 1048576: true; the input reads as it did. -/
def linkPlaysUptoRow : OpenClaim := { program := "ythljanmfanppdaa", sum := "42ead75a4286138fc4c61cf9091b641d369552bc5631c1b16fb7a373757e8b8a", func := "knell/knelllaw24.LinkPlays", spec := "linkPlays", apart := false, narrowed := true }
def LinkPlaysUptoSaid : Prop := linkPlaysUptoRow.holds Try.pinned (OpenSpec.upto linkPlaysSpec)

/-- 'knelllaw25.VerdictFirst', WHERE WHAT IT READS IS OF BULK AT MOST 1048576: true; the input reads as it did. -/
def verdictFirstUptoRow : OpenClaim := { program := "ythljanmfanppdaa", sum := "42ead75a4286138fc4c61cf9091b641d369552bc5631c1b16fb7a373757e8b8a", func := "knell/knelllaw25.VerdictFirst", spec := "verdictFirst", apart := false, narrowed := true }
def VerdictFirstUptoSaid : Prop := verdictFirstUptoRow.holds Try.pinned (OpenSpec.upto verdictFirstSpec)

/-- 'knelllaw25.VerdictFront', WHERE WHAT IT READS IS OF BULK AT MOST 1048576: true; the input reads as it did. -/
def verdictFrontUptoRow : OpenClaim := { program := "ythljanmfanppdaa", sum := "42ead75a4286138fc4c61cf9091b641d369552bc5631c1b16fb7a373757e8b8a", func := "knell/knelllaw25.VerdictFront", spec := "verdictFront", apart := false, narrowed := true }
def VerdictFrontUptoSaid : Prop := verdictFrontUptoRow.holds Try.pinned (OpenSpec.upto verdictFrontSpec)

/-- 'knelllaw25.VerdictSlack', WHERE WHAT IT READS IS OF BULK AT MOST 1048576: true; the input reads as it did. -/
def verdictSlackUptoRow : OpenClaim := { program := "ythljanmfanppdaa", sum := "42ead75a4286138fc4c61cf9091b641d369552bc5631c1b16fb7a373757e8b8a", func := "knell/knelllaw25.VerdictSlack", spec := "verdictSlack", apart := false, narrowed := true }
def VerdictSlackUptoSaid : Prop := verdictSlackUptoRow.holds Try.pinned (OpenSpec.upto verdictSlackSpec)

/-- 'knelllaw25.VerdictPlays', WHERE WHAT IT READS IS OF BULK AT MOST 1048576: true; the input reads as it did. -/
def verdictPlaysUptoRow : OpenClaim := { program := "ythljanmfanppdaa", sum := "42ead75a4286138fc4c61cf9091b641d369552bc5631c1b16fb7a373757e8b8a", func := "knell/knelllaw25.VerdictPlays", spec := "verdictPlays", apart := false, narrowed := true }
def VerdictPlaysUptoSaid : Prop := verdictPlaysUptoRow.holds Try.pinned (OpenSpec.upto verdictPlaysSpec)

/-- 'knelllaw04.RoundBatches', WHERE WHAT IT READS IS OF BULK AT MOST 1048576: true; the input reads as it did. -/
def roundBatchesUptoRow : OpenClaim := { program := "ythljanmfanppdaa", sum := "42ead75a4286138fc4c61cf9091b641d369552bc5631c1b16fb7a373757e8b8a", func := "knell/knelllaw04.RoundBatches", spec := "roundBatches", recurses := true, apart := false, narrowed := true }
def RoundBatchesUptoSaid : Prop := roundBatchesUptoRow.holds Try.pinned (OpenSpec.upto roundBatchesSpec)

/-- 'knelllaw04.RoundTells', WHERE WHAT IT READS IS OF BULK AT MOST 1048576: true; the input reads as it did. -/
def roundTellsUptoRow : OpenClaim := { program := "ythljanmfanppdaa", sum := "42ead75a4286138fc4c61cf9091b641d369552bc5631c1b16fb7a373757e8b8a", func := "knell/knelllaw04.RoundTells", spec := "roundTells", recurses := true, apart := false, narrowed := true }
def RoundTellsUptoSaid : Prop := roundTellsUptoRow.holds Try.pinned (OpenSpec.upto roundTellsSpec)

end Rows
end Go.Proofs.Ythljanmfanppdaa
