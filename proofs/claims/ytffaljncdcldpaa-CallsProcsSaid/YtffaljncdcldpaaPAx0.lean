-- Written by a program of this session (wip/tools), over the kit's printer; Lean checks it.
import Derived.Test.YtffaljncdcldpaaProg
import Derived.Test.YtffaljncdcldpaaG0
import Derived.Test.YtffaljncdcldpaaG1
import Derived.Below
import Derived.Deep.Draws
import Derived.Deep.AppendLies
import Derived.Maps.AppendAt
import Derived.OwnWalk
import Derived.Laws.BytesArg
import Derived.Laws.MakeOwn
import Derived.Laws.OwnMore
import Derived.Deep.OwnRows
import Derived.Tactics
import Derived.Lib.ConvBytes
import Derived.Laws.Slices
import Derived.WalkKit
import Derived.KernelRfl
import Derived.RowKit3
import Derived.Deep.LoopGhost
import Derived.Deep.QuietTactic
import Derived.BigQuiet
import Derived.WideLaws
import Derived.Deep.DeepCutAuto
import Derived.Deep.CutBlock
import Derived.Deep.RegionHeld3
import Derived.Laws.Rows
import Derived.Lib.AppendStr
import Derived.ArgAppend
import Derived.Laws.IdiomCopy
import Derived.OrdersHeld
import Derived.Laws.BitsLemmas
import Derived.RowKit
import Derived.Test.YtffaljncdcldpaaWWords
import Derived.Test.YtffaljncdcldpaaWLast
import Derived.Test.YtffaljncdcldpaaWTab
import Derived.Test.YtffaljncdcldpaaWFour
import Derived.Test.YtffaljncdcldpaaWQPut
import Derived.Test.YtffaljncdcldpaaWApart
import Derived.Test.YtffaljncdcldpaaWArr
import Derived.Test.YtffaljncdcldpaaWZeros
import Derived.Test.YtffaljncdcldpaaWFoot
import Derived.Test.YtffaljncdcldpaaWKept
import Derived.Test.YtffaljncdcldpaaWShare
import Derived.Test.YtffaljncdcldpaaWN
import Derived.Test.YtffaljncdcldpaaWFootNe
import Derived.Test.YtffaljncdcldpaaWAt
import Derived.Test.YtffaljncdcldpaaWEqStruct
import Derived.Test.YtffaljncdcldpaaWRepsOne
import Derived.Test.YtffaljncdcldpaaWInv
import Derived.Test.YtffaljncdcldpaaWInvWords
import Derived.Test.YtffaljncdcldpaaWGuard
import Derived.Test.YtffaljncdcldpaaWNEv
import Derived.Test.YtffaljncdcldpaaWMore
namespace Go.Proofs.Ytffaljncdcldpaa.PA
open Go.RowKit Go.Proofs.YtffaljncdcldpaaW.PrintWords Go.Proofs.YtffaljncdcldpaaW.PrintLast Go.Proofs.YtffaljncdcldpaaW.PrintMore
attribute [local go_sem] max2_int min2_int max_two min_two max_three min_three max_four min_four   -- for this text's walks alone
set_option linter.unusedVariables false
set_option linter.unusedSimpArgs false



def errW : Option Int → Value
  | none => .nilIface
  | some c => .iface 0 (.int .i64 c)
theorem errW_none : errW none = .nilIface := rfl
theorem errW_some (c : Int) : errW (some c) = .iface 0 (.int .i64 c) := rfl

theorem info5 : (Try.prog.info? 5).map (fun i => (i.zero, i.size, i.bytes)) = some (some (.int .u8 0), 1, 1) := by kernel_rfl
-- the values' own types

end Go.Proofs.Ytffaljncdcldpaa.PA
