-- Written by a program of this session (wip/tools), over the kit's printer; Lean checks it.
import Derived.Test.YtdfnhmgopihfcaaProg
import Derived.Test.YtdfnhmgopihfcaaH4
import Derived.Below
import Derived.Deep.Draws
import Derived.Deep.AppendLies
import Derived.Maps.AppendAt
import Derived.OwnWalk
import Derived.Laws.BytesArg
import Derived.Laws.MakeOwn
import Derived.Laws.OwnMore
import Derived.Deep.OwnRows
import Derived.Tactics
import Derived.Lib.ConvBytes
import Derived.Laws.Slices
import Derived.WalkKit
import Derived.KernelRfl
import Derived.RowKit3
import Derived.Deep.LoopGhost
import Derived.Deep.QuietTactic
import Derived.BigQuiet
import Derived.WideLaws
import Derived.Deep.DeepCutAuto
import Derived.Deep.CutBlock
import Derived.Deep.RegionHeld3
import Derived.Laws.Rows
import Derived.Lib.AppendStr
import Derived.ArgAppend
import Derived.Laws.IdiomCopy
import Derived.OrdersHeld
import Derived.Laws.BitsLemmas
import Derived.RowKit
import Derived.Test.YtdfnhmgopihfcaaWWords
import Derived.Test.YtdfnhmgopihfcaaWLast
import Derived.Test.YtdfnhmgopihfcaaWTab
import Derived.Test.YtdfnhmgopihfcaaWFour
import Derived.Test.YtdfnhmgopihfcaaWQPut
import Derived.Test.YtdfnhmgopihfcaaWApart
import Derived.Test.YtdfnhmgopihfcaaWArr
import Derived.Test.YtdfnhmgopihfcaaWZeros
import Derived.Test.YtdfnhmgopihfcaaWFoot
import Derived.Test.YtdfnhmgopihfcaaWKept
import Derived.Test.YtdfnhmgopihfcaaWShare
import Derived.Test.YtdfnhmgopihfcaaWN
import Derived.Test.YtdfnhmgopihfcaaWFootNe
import Derived.Test.YtdfnhmgopihfcaaWAt
import Derived.Test.YtdfnhmgopihfcaaWEqStruct
import Derived.Test.YtdfnhmgopihfcaaWRepsOne
import Derived.Test.YtdfnhmgopihfcaaWInv
import Derived.Test.YtdfnhmgopihfcaaWInvWords
import Derived.Test.YtdfnhmgopihfcaaWGuard
import Derived.Test.YtdfnhmgopihfcaaWNEv
import Derived.Test.YtdfnhmgopihfcaaWMore
namespace Go.Proofs.Ytdfnhmgopihfcaa.QMarkHas
open Go.RowKit Go.Proofs.YtdfnhmgopihfcaaW.PrintWords Go.Proofs.YtdfnhmgopihfcaaW.PrintLast Go.Proofs.YtdfnhmgopihfcaaW.PrintMore
attribute [local go_sem] max2_int min2_int max_two min_two max_three min_three max_four min_four   -- for this text's walks alone
set_option linter.unusedVariables false
set_option linter.unusedSimpArgs false



def errW : Option Int → Value
  | none => .nilIface
  | some c => .iface 0 (.int .i64 c)
theorem errW_none : errW none = .nilIface := rfl
theorem errW_some (c : Int) : errW (some c) = .iface 0 (.int .i64 c) := rfl

-- the values' own types

end Go.Proofs.Ytdfnhmgopihfcaa.QMarkHas
