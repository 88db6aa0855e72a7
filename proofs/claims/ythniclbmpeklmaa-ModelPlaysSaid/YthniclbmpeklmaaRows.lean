/-
  No cell of these rows narrows 'for every input' (looked for: loops, veiled, ifaces, maps, wideKeys, modest, calm, conditions, laid).
  DERIVED. THE GIVEN ROWS OF THIS SEAT. 12 by the template 'for every input the law returns true; each argument reads behind the call as it read before'; 0 by the template 'total and deterministic' (their statements: YthniclbmpeklmaaTotals.lean).
  GIVEN WITH THE SEED: the statements are not yours to turn. If you find one false, say at which input.
  Laid BY PROGRAM, IN A SANDBOX (cutbox-rows.mjs): the forced cells as the released guide's own fill.sh prints them over the translation 73f2a6bb039570aa… (all of the seat's roots in one cut). By AI agents, Wed Nov 11 2026. No macro, syntax, notation, axiom, sorry.
-/
import Derived.Test.YthniclbmpeklmaaChecked
import GoSem.Claim
import GoSem.ClaimJoined
import GoSem.ClaimMapViews
import Derived.JoinedTies
import Derived.KernelRfl
namespace Go.Proofs.Ythniclbmpeklmaa
/- THE CELL 'sum', in the pinned program and in every row, IS THE sha256 OF THE DUMP (.gsa) THAT YthniclbmpeklmaaProg.lean LOADS. Nothing in Lean hashes anything: it is a label: what it is worth is what the hold of that sum in a sandbox is worth. -/
noncomputable def Try.pinned : Pinned := { name := "ythniclbmpeklmaa", sum := "73f2a6bb039570aabba02f1de1f116e6fd87170d1bb868513f38eceaf29b9d93", checked := Try.checked }
namespace Rows
def none {H : Type} : Left H := { results := [], args := [] }

/-- 'knelllaw14.AuditFires': WHATEVER THE INPUT: true; the input reads as it did. -/
def auditFiresSpec : ChangeSpec := { name := "auditFires", fn := fun _ => fun
  | [d] => { results := [.lit (.bool true)], args := [d] }
  | _ => none }
def auditFiresRow : OpenClaim := { program := "ythniclbmpeklmaa", sum := "73f2a6bb039570aabba02f1de1f116e6fd87170d1bb868513f38eceaf29b9d93", func := "knell/knelllaw14.AuditFires", spec := "auditFires", unfollowed := true, recurses := true, plainKeys := false, apart := false }
def AuditFiresSaid : Prop := auditFiresRow.holds Try.pinned (OpenSpec.ofChange auditFiresSpec)

/-- ITS FALSE NEIGHBOUR: 'it returns false'. Refute it at one input. -/
def auditFiresWrong : ChangeSpec := { name := "auditFires", fn := fun _ => fun
  | [d] => { results := [.lit (.bool false)], args := [d] }
  | _ => none }
def AuditFiresWrongFalsely : Prop := auditFiresRow.holds Try.pinned (OpenSpec.ofChange auditFiresWrong)

/-- 'knelllaw14.AuditMore': WHATEVER THE INPUT: true; the input reads as it did. -/
def auditMoreSpec : ChangeSpec := { name := "auditMore", fn := fun _ => fun
  | [d1, d2] => { results := [.lit (.bool true)], args := [d1, d2] }
  | _ => none }
def auditMoreRow : OpenClaim := { program := "ythniclbmpeklmaa", sum := "73f2a6bb039570aabba02f1de1f116e6fd87170d1bb868513f38eceaf29b9d93", func := "knell/knelllaw14.AuditMore", spec := "auditMore", unfollowed := true, recurses := true, plainKeys := false, apart := false }
def AuditMoreSaid : Prop := auditMoreRow.holds Try.pinned (OpenSpec.ofChange auditMoreSpec)

/-- ITS FALSE NEIGHBOUR: 'it returns false'. Refute it at one input. -/
def auditMoreWrong : ChangeSpec := { name := "auditMore", fn := fun _ => fun
  | [d1, d2] => { results := [.lit (.bool false)], args := [d1, d2] }
  | _ => none }
def AuditMoreWrongFalsely : Prop := auditMoreRow.holds Try.pinned (OpenSpec.ofChange auditMoreWrong)

/-- 'knelllaw14.AuditSlack': WHATEVER THE INPUT: true; the input reads as it did. -/
def auditSlackSpec : ChangeSpec := { name := "auditSlack", fn := fun _ => fun
  | [d1, d2, d3, d4, d5] => { results := [.lit (.bool true)], args := [d1, d2, d3, d4, d5] }
  | _ => none }
def auditSlackRow : OpenClaim := { program := "ythniclbmpeklmaa", sum := "73f2a6bb039570aabba02f1de1f116e6fd87170d1bb868513f38eceaf29b9d93", func := "knell/knelllaw14.AuditSlack", spec := "auditSlack", unfollowed := true, recurses := true, plainKeys := false, apart := false }
def AuditSlackSaid : Prop := auditSlackRow.holds Try.pinned (OpenSpec.ofChange auditSlackSpec)

/-- ITS FALSE NEIGHBOUR: 'it returns false'. Refute it at one input. -/
def auditSlackWrong : ChangeSpec := { name := "auditSlack", fn := fun _ => fun
  | [d1, d2, d3, d4, d5] => { results := [.lit (.bool false)], args := [d1, d2, d3, d4, d5] }
  | _ => none }
def AuditSlackWrongFalsely : Prop := auditSlackRow.holds Try.pinned (OpenSpec.ofChange auditSlackWrong)

/-- 'knelllaw13.JudgePlays': WHATEVER THE INPUT: true; the input reads as it did. -/
def judgePlaysSpec : ChangeSpec := { name := "judgePlays", fn := fun _ => fun
  | [d1, d2, d3] => { results := [.lit (.bool true)], args := [d1, d2, d3] }
  | _ => none }
def judgePlaysRow : OpenClaim := { program := "ythniclbmpeklmaa", sum := "73f2a6bb039570aabba02f1de1f116e6fd87170d1bb868513f38eceaf29b9d93", func := "knell/knelllaw13.JudgePlays", spec := "judgePlays", unfollowed := true, recurses := true, plainKeys := false, apart := false }
def JudgePlaysSaid : Prop := judgePlaysRow.holds Try.pinned (OpenSpec.ofChange judgePlaysSpec)

/-- ITS FALSE NEIGHBOUR: 'it returns false'. Refute it at one input. -/
def judgePlaysWrong : ChangeSpec := { name := "judgePlays", fn := fun _ => fun
  | [d1, d2, d3] => { results := [.lit (.bool false)], args := [d1, d2, d3] }
  | _ => none }
def JudgePlaysWrongFalsely : Prop := judgePlaysRow.holds Try.pinned (OpenSpec.ofChange judgePlaysWrong)

/-- 'knelllaw13.JudgeFirst': WHATEVER THE INPUT: true; the input reads as it did. -/
def judgeFirstSpec : ChangeSpec := { name := "judgeFirst", fn := fun _ => fun
  | [d1, d2] => { results := [.lit (.bool true)], args := [d1, d2] }
  | _ => none }
def judgeFirstRow : OpenClaim := { program := "ythniclbmpeklmaa", sum := "73f2a6bb039570aabba02f1de1f116e6fd87170d1bb868513f38eceaf29b9d93", func := "knell/knelllaw13.JudgeFirst", spec := "judgeFirst", unfollowed := true, recurses := true, plainKeys := false, apart := false }
def JudgeFirstSaid : Prop := judgeFirstRow.holds Try.pinned (OpenSpec.ofChange judgeFirstSpec)

/-- ITS FALSE NEIGHBOUR: 'it returns false'. Refute it at one input. -/
def judgeFirstWrong : ChangeSpec := { name := "judgeFirst", fn := fun _ => fun
  | [d1, d2] => { results := [.lit (.bool false)], args := [d1, d2] }
  | _ => none }
def JudgeFirstWrongFalsely : Prop := judgeFirstRow.holds Try.pinned (OpenSpec.ofChange judgeFirstWrong)

/-- 'knelllaw13.JudgeFront': WHATEVER THE INPUT: true; the input reads as it did. -/
def judgeFrontSpec : ChangeSpec := { name := "judgeFront", fn := fun _ => fun
  | [d1, d2, d3] => { results := [.lit (.bool true)], args := [d1, d2, d3] }
  | _ => none }
def judgeFrontRow : OpenClaim := { program := "ythniclbmpeklmaa", sum := "73f2a6bb039570aabba02f1de1f116e6fd87170d1bb868513f38eceaf29b9d93", func := "knell/knelllaw13.JudgeFront", spec := "judgeFront", unfollowed := true, recurses := true, plainKeys := false, apart := false }
def JudgeFrontSaid : Prop := judgeFrontRow.holds Try.pinned (OpenSpec.ofChange judgeFrontSpec)

/-- ITS FALSE NEIGHBOUR: 'it returns false'. Refute it at one input. -/
def judgeFrontWrong : ChangeSpec := { name := "judgeFront", fn := fun _ => fun
  | [d1, d2, d3] => { results := [.lit (.bool false)], args := [d1, d2, d3] }
  | _ => none }
def JudgeFrontWrongFalsely : Prop := judgeFrontRow.holds Try.pinned (OpenSpec.ofChange judgeFrontWrong)

/-- 'knelllaw13.JudgeNames': WHATEVER THE INPUT: true; the input reads as it did. -/
def judgeNamesSpec : ChangeSpec := { name := "judgeNames", fn := fun _ => fun
  | [d1, d2, d3, d4] => { results := [.lit (.bool true)], args := [d1, d2, d3, d4] }
  | _ => none }
def judgeNamesRow : OpenClaim := { program := "ythniclbmpeklmaa", sum := "73f2a6bb039570aabba02f1de1f116e6fd87170d1bb868513f38eceaf29b9d93", func := "knell/knelllaw13.JudgeNames", spec := "judgeNames", unfollowed := true, recurses := true, plainKeys := false, apart := false }
def JudgeNamesSaid : Prop := judgeNamesRow.holds Try.pinned (OpenSpec.ofChange judgeNamesSpec)

/-- ITS FALSE NEIGHBOUR: 'it returns false'. Refute it at one input. -/
def judgeNamesWrong : ChangeSpec := { name := "judgeNames", fn := fun _ => fun
  | [d1, d2, d3, d4] => { results := [.lit (.bool false)], args := [d1, d2, d3, d4] }
  | _ => none }
def JudgeNamesWrongFalsely : Prop := judgeNamesRow.holds Try.pinned (OpenSpec.ofChange judgeNamesWrong)

/-- 'knelllaw14.AuditJudged': WHATEVER THE INPUT: true; the input reads as it did. -/
def auditJudgedSpec : ChangeSpec := { name := "auditJudged", fn := fun _ => fun
  | [d1, d2] => { results := [.lit (.bool true)], args := [d1, d2] }
  | _ => none }
def auditJudgedRow : OpenClaim := { program := "ythniclbmpeklmaa", sum := "73f2a6bb039570aabba02f1de1f116e6fd87170d1bb868513f38eceaf29b9d93", func := "knell/knelllaw14.AuditJudged", spec := "auditJudged", unfollowed := true, recurses := true, plainKeys := false, apart := false }
def AuditJudgedSaid : Prop := auditJudgedRow.holds Try.pinned (OpenSpec.ofChange auditJudgedSpec)

/-- ITS FALSE NEIGHBOUR: 'it returns false'. Refute it at one input. -/
def auditJudgedWrong : ChangeSpec := { name := "auditJudged", fn := fun _ => fun
  | [d1, d2] => { results := [.lit (.bool false)], args := [d1, d2] }
  | _ => none }
def AuditJudgedWrongFalsely : Prop := auditJudgedRow.holds Try.pinned (OpenSpec.ofChange auditJudgedWrong)

/-- 'knelllaw12.ModelOnce': WHATEVER THE INPUT: true; the input reads as it did. -/
def modelOnceSpec : ChangeSpec := { name := "modelOnce", fn := fun _ => fun
  | [d] => { results := [.lit (.bool true)], args := [d] }
  | _ => none }
def modelOnceRow : OpenClaim := { program := "ythniclbmpeklmaa", sum := "73f2a6bb039570aabba02f1de1f116e6fd87170d1bb868513f38eceaf29b9d93", func := "knell/knelllaw12.ModelOnce", spec := "modelOnce", unfollowed := true, recurses := true, plainKeys := false, apart := false }
def ModelOnceSaid : Prop := modelOnceRow.holds Try.pinned (OpenSpec.ofChange modelOnceSpec)

/-- ITS FALSE NEIGHBOUR: 'it returns false'. Refute it at one input. -/
def modelOnceWrong : ChangeSpec := { name := "modelOnce", fn := fun _ => fun
  | [d] => { results := [.lit (.bool false)], args := [d] }
  | _ => none }
def ModelOnceWrongFalsely : Prop := modelOnceRow.holds Try.pinned (OpenSpec.ofChange modelOnceWrong)

/-- 'knelllaw12.ModelRefuses': WHATEVER THE INPUT: true; the input reads as it did. -/
def modelRefusesSpec : ChangeSpec := { name := "modelRefuses", fn := fun _ => fun
  | [d] => { results := [.lit (.bool true)], args := [d] }
  | _ => none }
def modelRefusesRow : OpenClaim := { program := "ythniclbmpeklmaa", sum := "73f2a6bb039570aabba02f1de1f116e6fd87170d1bb868513f38eceaf29b9d93", func := "knell/knelllaw12.ModelRefuses", spec := "modelRefuses", unfollowed := true, recurses := true, plainKeys := false, apart := false }
def ModelRefusesSaid : Prop := modelRefusesRow.holds Try.pinned (OpenSpec.ofChange modelRefusesSpec)

/-- ITS FALSE NEIGHBOUR: 'it returns false'. Refute it at one input. -/
def modelRefusesWrong : ChangeSpec := { name := "modelRefuses", fn := fun _ => fun
  | [d] => { results := [.lit (.bool false)], args := [d] }
  | _ => none }
def ModelRefusesWrongFalsely : Prop := modelRefusesRow.holds Try.pinned (OpenSpec.ofChange modelRefusesWrong)

/-- 'knelllaw12.ModelNodes': WHATEVER THE INPUT: true; the input reads as it did. -/
def modelNodesSpec : ChangeSpec := { name := "modelNodes", fn := fun _ => fun
  | [d] => { results := [.lit (.bool true)], args := [d] }
  | _ => none }
def modelNodesRow : OpenClaim := { program := "ythniclbmpeklmaa", sum := "73f2a6bb039570aabba02f1de1f116e6fd87170d1bb868513f38eceaf29b9d93", func := "knell/knelllaw12.ModelNodes", spec := "modelNodes", unfollowed := true, recurses := true, plainKeys := false, apart := false }
def ModelNodesSaid : Prop := modelNodesRow.holds Try.pinned (OpenSpec.ofChange modelNodesSpec)

/-- ITS FALSE NEIGHBOUR: 'it returns false'. Refute it at one input. -/
def modelNodesWrong : ChangeSpec := { name := "modelNodes", fn := fun _ => fun
  | [d] => { results := [.lit (.bool false)], args := [d] }
  | _ => none }
def ModelNodesWrongFalsely : Prop := modelNodesRow.holds Try.pinned (OpenSpec.ofChange modelNodesWrong)

/-- 'knelllaw12.ModelPlays': WHATEVER THE INPUT: true; the input reads as it did. -/
def modelPlaysSpec : ChangeSpec := { name := "modelPlays", fn := fun _ => fun
  | [d1, d2] => { results := [.lit (.bool true)], args := [d1, d2] }
  | _ => none }
def modelPlaysRow : OpenClaim := { program := "ythniclbmpeklmaa", sum := "73f2a6bb039570aabba02f1de1f116e6fd87170d1bb868513f38eceaf29b9d93", func := "knell/knelllaw12.ModelPlays", spec := "modelPlays", unfollowed := true, recurses := true, plainKeys := false, apart := false }
def ModelPlaysSaid : Prop := modelPlaysRow.holds Try.pinned (OpenSpec.ofChange modelPlaysSpec)

/-- ITS FALSE NEIGHBOUR: 'it returns false'. Refute it at one input. -/
def modelPlaysWrong : ChangeSpec := { name := "modelPlays", fn := fun _ => fun
  | [d1, d2] => { results := [.lit (.bool false)], args := [d1, d2] }
  | _ => none }
def ModelPlaysWrongFalsely : Prop := modelPlaysRow.holds Try.pinned (OpenSpec.ofChange modelPlaysWrong)

/- THE SECOND FORM. 'bulk': how many values and letters a reading holds, each counted each time it is reached (what is shared counts as often as it is met; a slice's spare places count too). A statement '..UptoSaid' is the law's where the arguments, and the package variables that the reading takes, are together of bulk at most 1048576: NARROWER than '..Said'. Prove '..Said' where nothing that the law and all that it calls make is longer than what came in: it says more and counts as full. Else prove '..UptoSaid'. A law counts once. -/
mutual
def uptoBulk {H : Type} : DataW H → Nat
  | .lit (.string bytes) => bytes.length + 1
  | .lit _ => 1
  | .nil => 1
  | .ptr d => uptoBulk d + 1
  | .slice elems spare => uptoBulkAll elems + uptoBulkAll spare + 1
  | .agg parts => uptoBulkAll parts + 1
  | .iface _ d => uptoBulk d + 1
  | .map entries => uptoBulkEntries entries + 1
  | .held _ => 1
def uptoBulkAll {H : Type} : List (DataW H) → Nat
  | [] => 0
  | d :: r => uptoBulk d + uptoBulkAll r
def uptoBulkEntries {H : Type} : List (Lit × DataW H) → Nat
  | [] => 0
  | x :: r => uptoBulkEntry x + uptoBulkEntries r
def uptoBulkEntry {H : Type} : Lit × DataW H → Nat
  | (.string bytes, d) => bytes.length + uptoBulk d + 1
  | (_, d) => uptoBulk d + 1
 end
def uptoSmall : (H : Type) → List (DataW H) → Bool := fun _ ds => decide (uptoBulkAll ds ≤ 1048576)
def OpenSpec.upto (s : _root_.Go.ChangeSpec) : _root_.Go.OpenSpec := { _root_.Go.OpenSpec.ofChange s with cond := some uptoSmall }

/-- 'knelllaw14.AuditFires', WHERE WHAT IT READS IS OF BULK AT MOST 1048576: true; the input reads as it did. -/
def auditFiresUptoRow : OpenClaim := { program := "ythniclbmpeklmaa", sum := "73f2a6bb039570aabba02f1de1f116e6fd87170d1bb868513f38eceaf29b9d93", func := "knell/knelllaw14.AuditFires", spec := "auditFires", unfollowed := true, recurses := true, plainKeys := false, apart := false, narrowed := true }
def AuditFiresUptoSaid : Prop := auditFiresUptoRow.holds Try.pinned (OpenSpec.upto auditFiresSpec)

/-- 'knelllaw14.AuditMore', WHERE WHAT IT READS IS OF BULK AT MOST 1048576: true; the input reads as it did. -/
def auditMoreUptoRow : OpenClaim := { program := "ythniclbmpeklmaa", sum := "73f2a6bb039570aabba02f1de1f116e6fd87170d1bb868513f38eceaf29b9d93", func := "knell/knelllaw14.AuditMore", spec := "auditMore", unfollowed := true, recurses := true, plainKeys := false, apart := false, narrowed := true }
def AuditMoreUptoSaid : Prop := auditMoreUptoRow.holds Try.pinned (OpenSpec.upto auditMoreSpec)

/-- 'knelllaw14.AuditSlack', WHERE WHAT IT READS IS OF BULK AT MOST 1048576: true; the input reads as it did. -/
def auditSlackUptoRow : OpenClaim := { program := "ythniclbmpeklmaa", sum := "73f2a6bb039570aabba02f1de1f116e6fd87170d1bb868513f38eceaf29b9d93", func := "knell/knelllaw14.AuditSlack", spec := "auditSlack", unfollowed := true, recurses := true, plainKeys := false, apart := false, narrowed := true }
def AuditSlackUptoSaid : Prop := auditSlackUptoRow.holds Try.pinned (OpenSpec.upto auditSlackSpec)

/-- 'knelllaw13.JudgePlays', WHERE WHAT IT READS IS OF BULK AT MOST 1048576: true; the input reads as it did. -/
def judgePlaysUptoRow : OpenClaim := { program := "ythniclbmpeklmaa", sum := "73f2a6bb039570aabba02f1de1f116e6fd87170d1bb868513f38eceaf29b9d93", func := "knell/knelllaw13.JudgePlays", spec := "judgePlays", unfollowed := true, recurses := true, plainKeys := false, apart := false, narrowed := true }
def JudgePlaysUptoSaid : Prop := judgePlaysUptoRow.holds Try.pinned (OpenSpec.upto judgePlaysSpec)

/-- 'knelllaw13.JudgeFirst', WHERE WHAT IT READS IS OF BULK AT MOST 1048576: true; the input reads as it did. -/
def judgeFirstUptoRow : OpenClaim := { program := "ythniclbmpeklmaa", sum := "73f2a6bb039570aabba02f1de1f116e6fd87170d1bb868513f38eceaf29b9d93", func := "knell/knelllaw13.JudgeFirst", spec := "judgeFirst", unfollowed := true, recurses := true, plainKeys := false, apart := false, narrowed := true }
def JudgeFirstUptoSaid : Prop := judgeFirstUptoRow.holds Try.pinned (OpenSpec.upto judgeFirstSpec)

/-- 'knelllaw13.JudgeFront', WHERE WHAT IT READS IS OF BULK AT MOST 1048576: true; the input reads as it did. -/
def judgeFrontUptoRow : OpenClaim := { program := "ythniclbmpeklmaa", sum := "73f2a6bb039570aabba02f1de1f116e6fd87170d1bb868513f38eceaf29b9d93", func := "knell/knelllaw13.JudgeFront", spec := "judgeFront", unfollowed := true, recurses := true, plainKeys := false, apart := false, narrowed := true }
def JudgeFrontUptoSaid : Prop := judgeFrontUptoRow.holds Try.pinned (OpenSpec.upto judgeFrontSpec)

/-- 'knelllaw13.JudgeNames', WHERE WHAT IT READS IS OF BULK AT MOST 1048576: true; the input reads as it did. -/
def judgeNamesUptoRow : OpenClaim := { program := "ythniclbmpeklmaa", sum := "73f2a6bb039570aabba02f1de1f116e6fd87170d1bb868513f38eceaf29b9d93", func := "knell/knelllaw13.JudgeNames", spec := "judgeNames", unfollowed := true, recurses := true, plainKeys := false, apart := false, narrowed := true }
def JudgeNamesUptoSaid : Prop := judgeNamesUptoRow.holds Try.pinned (OpenSpec.upto judgeNamesSpec)

/-- 'knelllaw14.AuditJudged', WHERE WHAT IT READS IS OF BULK AT MOST 1048576: true; the input reads as it did. -/
def auditJudgedUptoRow : OpenClaim := { program := "ythniclbmpeklmaa", sum := "73f2a6bb039570aabba02f1de1f116e6fd87170d1bb868513f38eceaf29b9d93", func := "knell/knelllaw14.AuditJudged", spec := "auditJudged", unfollowed := true, recurses := true, plainKeys := false, apart := false, narrowed := true }
def AuditJudgedUptoSaid : Prop := auditJudgedUptoRow.holds Try.pinned (OpenSpec.upto auditJudgedSpec)

/-- 'knelllaw12.ModelOnce', WHERE WHAT IT READS IS OF BULK AT MOST 1048576: true; the input reads as it did. -/
def modelOnceUptoRow : OpenClaim := { program := "ythniclbmpeklmaa", sum := "73f2a6bb039570aabba02f1de1f116e6fd87170d1bb868513f38eceaf29b9d93", func := "knell/knelllaw12.ModelOnce", spec := "modelOnce", unfollowed := true, recurses := true, plainKeys := false, apart := false, narrowed := true }
def ModelOnceUptoSaid : Prop := modelOnceUptoRow.holds Try.pinned (OpenSpec.upto modelOnceSpec)

/-- 'knelllaw12.ModelRefuses', WHERE WHAT IT READS IS OF BULK AT MOST 1048576: true; the input reads as it did. -/
def modelRefusesUptoRow : OpenClaim := { program := "ythniclbmpeklmaa", sum := "73f2a6bb039570aabba02f1de1f116e6fd87170d1bb868513f38eceaf29b9d93", func := "knell/knelllaw12.ModelRefuses", spec := "modelRefuses", unfollowed := true, recurses := true, plainKeys := false, apart := false, narrowed := true }
def ModelRefusesUptoSaid : Prop := modelRefusesUptoRow.holds Try.pinned (OpenSpec.upto modelRefusesSpec)

/-- 'knelllaw12.ModelNodes', WHERE WHAT IT READS IS OF BULK AT MOST 1048576: true; the input reads as it did. -/
def modelNodesUptoRow : OpenClaim := { program := "ythniclbmpeklmaa", sum := "73f2a6bb039570aabba02f1de1f116e6fd87170d1bb868513f38eceaf29b9d93", func := "knell/knelllaw12.ModelNodes", spec := "modelNodes", unfollowed := true, recurses := true, plainKeys := false, apart := false, narrowed := true }
def ModelNodesUptoSaid : Prop := modelNodesUptoRow.holds Try.pinned (OpenSpec.upto modelNodesSpec)

/-- 'knelllaw12.ModelPlays', WHERE WHAT IT READS IS OF BULK AT MOST 1048576: true; the input reads as it did. -/
def modelPlaysUptoRow : OpenClaim := { program := "ythniclbmpeklmaa", sum := "73f2a6bb039570aabba02f1de1f116e6fd87170d1bb868513f38eceaf29b9d93", func := "knell/knelllaw12.ModelPlays", spec := "modelPlays", unfollowed := true, recurses := true, plainKeys := false, apart := false, narrowed := true }
def ModelPlaysUptoSaid : Prop := modelPlaysUptoRow.holds Try.pinned (OpenSpec.upto modelPlaysSpec)

end Rows
end Go.Proofs.Ythniclbmpeklmaa
