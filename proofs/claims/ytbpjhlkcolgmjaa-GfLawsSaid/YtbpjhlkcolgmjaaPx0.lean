/- What Go functions of the translation come to, as plain functions, and that their calls come to just that. No condition but that the plain function answers. (Written by a program of this session.) -/
import Derived.Test.YtbpjhlkcolgmjaaProg
import Derived.Below
import Derived.Deep.Draws
import Derived.Deep.AppendLies
import Derived.Maps.AppendAt
import Derived.OwnWalk
import Derived.Laws.BytesArg
import Derived.Laws.MakeOwn
import Derived.Laws.OwnMore
import Derived.Deep.OwnRows
import Derived.Tactics
import Derived.Lib.ConvBytes
import Derived.Laws.Slices
import Derived.WalkKit
import Derived.KernelRfl
import Derived.RowKit3
import Derived.Deep.LoopGhost
import Derived.Deep.QuietTactic
import Derived.BigQuiet
import Derived.WideLaws
import Derived.Deep.DeepCutAuto
import Derived.Deep.CutBlock
import Derived.Deep.RegionHeld3
import Derived.Laws.Rows
import Derived.Lib.AppendStr
import Derived.ArgAppend
import Derived.Laws.IdiomCopy
import Derived.OrdersHeld
import Derived.Laws.BitsLemmas
import Derived.RowKit
import Derived.WalkMore
import Derived.Test.YtbpjhlkcolgmjaaWWords
import Derived.Test.YtbpjhlkcolgmjaaWLast
import Derived.Test.YtbpjhlkcolgmjaaWTab
import Derived.Test.YtbpjhlkcolgmjaaWFour
import Derived.Test.YtbpjhlkcolgmjaaWQPut
import Derived.Test.YtbpjhlkcolgmjaaWApart
import Derived.Test.YtbpjhlkcolgmjaaWArr
import Derived.Test.YtbpjhlkcolgmjaaWZeros
import Derived.Test.YtbpjhlkcolgmjaaWFoot
import Derived.Test.YtbpjhlkcolgmjaaWKept
import Derived.Test.YtbpjhlkcolgmjaaWShare
import Derived.Test.YtbpjhlkcolgmjaaWN
import Derived.Test.YtbpjhlkcolgmjaaWFootNe
import Derived.Test.YtbpjhlkcolgmjaaWAt
import Derived.Test.YtbpjhlkcolgmjaaWEqStruct
import Derived.Test.YtbpjhlkcolgmjaaWRepsOne
import Derived.Test.YtbpjhlkcolgmjaaWInv
import Derived.Test.YtbpjhlkcolgmjaaWInvWords
import Derived.Test.YtbpjhlkcolgmjaaWGuard
import Derived.Test.YtbpjhlkcolgmjaaWNEv
import Derived.Test.YtbpjhlkcolgmjaaWMore
namespace Go.Proofs.Ytbpjhlkcolgmjaa.P
open Go.RowKit Go.Proofs.YtbpjhlkcolgmjaaW.PrintWords Go.Proofs.YtbpjhlkcolgmjaaW.PrintLast Go.Proofs.YtbpjhlkcolgmjaaW.PrintMore
attribute [local go_sem] max2_int min2_int max_two min_two max_three min_three max_four min_four   -- for this text's walks alone
set_option linter.unusedVariables false
set_option linter.unusedSimpArgs false



def errW : Option Int → Value
  | none => .nilIface
  | some c => .iface 0 (.int .i64 c)
theorem errW_none : errW none = .nilIface := rfl
theorem errW_some (c : Int) : errW (some c) = .iface 0 (.int .i64 c) := rfl

-- the values' own types

end Go.Proofs.Ytbpjhlkcolgmjaa.P
