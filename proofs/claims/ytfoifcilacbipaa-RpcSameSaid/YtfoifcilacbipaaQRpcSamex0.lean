-- Written by a program of this session (wip/tools), over the kit's printer; Lean checks it.
import Derived.Test.YtfoifcilacbipaaProg
import Derived.Test.YtfoifcilacbipaaH22
import Derived.Below
import Derived.Deep.Draws
import Derived.Deep.AppendLies
import Derived.Maps.AppendAt
import Derived.OwnWalk
import Derived.Laws.BytesArg
import Derived.Laws.MakeOwn
import Derived.Laws.OwnMore
import Derived.Deep.OwnRows
import Derived.Tactics
import Derived.Lib.ConvBytes
import Derived.Laws.Slices
import Derived.WalkKit
import Derived.KernelRfl
import Derived.RowKit3
import Derived.Deep.LoopGhost
import Derived.Deep.QuietTactic
import Derived.BigQuiet
import Derived.WideLaws
import Derived.Deep.DeepCutAuto
import Derived.Deep.CutBlock
import Derived.Deep.RegionHeld3
import Derived.Laws.Rows
import Derived.Lib.AppendStr
import Derived.ArgAppend
import Derived.Laws.IdiomCopy
import Derived.OrdersHeld
import Derived.Laws.BitsLemmas
import Derived.RowKit
import Derived.Test.YtfoifcilacbipaaWWords
import Derived.Test.YtfoifcilacbipaaWLast
import Derived.Test.YtfoifcilacbipaaWTab
import Derived.Test.YtfoifcilacbipaaWFour
import Derived.Test.YtfoifcilacbipaaWQPut
import Derived.Test.YtfoifcilacbipaaWApart
import Derived.Test.YtfoifcilacbipaaWArr
import Derived.Test.YtfoifcilacbipaaWZeros
import Derived.Test.YtfoifcilacbipaaWFoot
import Derived.Test.YtfoifcilacbipaaWKept
import Derived.Test.YtfoifcilacbipaaWShare
import Derived.Test.YtfoifcilacbipaaWN
import Derived.Test.YtfoifcilacbipaaWFootNe
import Derived.Test.YtfoifcilacbipaaWAt
import Derived.Test.YtfoifcilacbipaaWEqStruct
import Derived.Test.YtfoifcilacbipaaWRepsOne
import Derived.Test.YtfoifcilacbipaaWInv
import Derived.Test.YtfoifcilacbipaaWInvWords
import Derived.Test.YtfoifcilacbipaaWGuard
import Derived.Test.YtfoifcilacbipaaWNEv
import Derived.Test.YtfoifcilacbipaaWMore
namespace Go.Proofs.Ytfoifcilacbipaa.QRpcSame
open Go.RowKit Go.Proofs.YtfoifcilacbipaaW.PrintWords Go.Proofs.YtfoifcilacbipaaW.PrintLast Go.Proofs.YtfoifcilacbipaaW.PrintMore
attribute [local go_sem] max2_int min2_int max_two min_two max_three min_three max_four min_four   -- for this text's walks alone
set_option linter.unusedVariables false
set_option linter.unusedSimpArgs false



def errW : Option Int → Value
  | none => .nilIface
  | some c => .iface 0 (.int .i64 c)
theorem errW_none : errW none = .nilIface := rfl
theorem errW_some (c : Int) : errW (some c) = .iface 0 (.int .i64 c) := rfl

-- the values' own types

end Go.Proofs.Ytfoifcilacbipaa.QRpcSame
