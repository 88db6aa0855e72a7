/- What is proved: each Go function named here comes to what the plain function of its name comes to, whatever the memory; no conditions. Written by a program of this session (kp.py) over the kit's print. -/
import Derived.Test.YthljanmfanppdaaProg
import Derived.Below
import Derived.Deep.Draws
import Derived.Deep.AppendLies
import Derived.Maps.AppendAt
import Derived.OwnWalk
import Derived.Laws.BytesArg
import Derived.Laws.MakeOwn
import Derived.Laws.OwnMore
import Derived.Deep.OwnRows
import Derived.Tactics
import Derived.Lib.ConvBytes
import Derived.Laws.Slices
import Derived.WalkKit
import Derived.KernelRfl
import Derived.RowKit3
import Derived.Deep.LoopGhost
import Derived.Deep.QuietTactic
import Derived.BigQuiet
import Derived.WideLaws
import Derived.Deep.DeepCutAuto
import Derived.Deep.CutBlock
import Derived.Deep.RegionHeld3
import Derived.Laws.Rows
import Derived.Lib.AppendStr
import Derived.ArgAppend
import Derived.Laws.IdiomCopy
import Derived.OrdersHeld
import Derived.Laws.BitsLemmas
import Derived.RowKit
import Derived.Test.YthljanmfanppdaaKw
import Derived.Test.YthljanmfanppdaaWWords
import Derived.Test.YthljanmfanppdaaWLast
import Derived.Test.YthljanmfanppdaaWTab
import Derived.Test.YthljanmfanppdaaWFour
import Derived.Test.YthljanmfanppdaaWQPut
import Derived.Test.YthljanmfanppdaaWApart
import Derived.Test.YthljanmfanppdaaWArr
import Derived.Test.YthljanmfanppdaaWZeros
import Derived.Test.YthljanmfanppdaaWFoot
import Derived.Test.YthljanmfanppdaaWKept
import Derived.Test.YthljanmfanppdaaWShare
import Derived.Test.YthljanmfanppdaaWN
import Derived.Test.YthljanmfanppdaaWFootNe
import Derived.Test.YthljanmfanppdaaWAt
import Derived.Test.YthljanmfanppdaaWEqStruct
import Derived.Test.YthljanmfanppdaaWRepsOne
import Derived.Test.YthljanmfanppdaaWGuard
import Derived.Test.YthljanmfanppdaaWNEv
import Derived.Test.YthljanmfanppdaaWMore
namespace Go.Proofs.Ythljanmfanppdaa.KBack
open Go.RowKit Go.Proofs.YthljanmfanppdaaW.PrintWords Go.Proofs.YthljanmfanppdaaW.PrintLast Go.Proofs.YthljanmfanppdaaW.PrintMore
attribute [local go_sem] max2_int min2_int max_two min_two max_three min_three max_four min_four   -- for this text's walks alone
set_option linter.unusedVariables false
set_option linter.unusedSimpArgs false



def errW : Option Int → Value
  | none => .nilIface
  | some c => .iface 0 (.int .i64 c)
theorem errW_none : errW none = .nilIface := rfl
theorem errW_some (c : Int) : errW (some c) = .iface 0 (.int .i64 c) := rfl

end Go.Proofs.Ythljanmfanppdaa.KBack
