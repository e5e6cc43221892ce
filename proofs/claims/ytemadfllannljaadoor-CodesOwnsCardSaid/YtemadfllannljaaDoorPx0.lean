-- Written by a program of this session (wip/tools), over the kit's printer; Lean checks it.
import Derived.Test.YtemadfllannljaaDoorProg
import Derived.Test.YtemadfllannljaaDoorG0
import Derived.Test.YtemadfllannljaaDoorG10
import Derived.Below
import Derived.Deep.Draws
import Derived.Deep.AppendLies
import Derived.Maps.AppendAt
import Derived.OwnWalk
import Derived.Laws.BytesArg
import Derived.Laws.MakeOwn
import Derived.Laws.OwnMore
import Derived.Deep.OwnRows
import Derived.Tactics
import Derived.Lib.ConvBytes
import Derived.Laws.Slices
import Derived.WalkKit
import Derived.KernelRfl
import Derived.RowKit3
import Derived.Deep.LoopGhost
import Derived.Deep.QuietTactic
import Derived.BigQuiet
import Derived.WideLaws
import Derived.Deep.DeepCutAuto
import Derived.Deep.CutBlock
import Derived.Deep.RegionHeld3
import Derived.Laws.Rows
import Derived.Lib.AppendStr
import Derived.ArgAppend
import Derived.Laws.IdiomCopy
import Derived.OrdersHeld
import Derived.Laws.BitsLemmas
import Derived.RowKit
import Derived.Test.YtemadfllannljaaDoorWWords
import Derived.Test.YtemadfllannljaaDoorWLast
import Derived.Test.YtemadfllannljaaDoorWTab
import Derived.Test.YtemadfllannljaaDoorWFour
import Derived.Test.YtemadfllannljaaDoorWQPut
import Derived.Test.YtemadfllannljaaDoorWApart
import Derived.Test.YtemadfllannljaaDoorWArr
import Derived.Test.YtemadfllannljaaDoorWZeros
import Derived.Test.YtemadfllannljaaDoorWFoot
import Derived.Test.YtemadfllannljaaDoorWKept
import Derived.Test.YtemadfllannljaaDoorWShare
import Derived.Test.YtemadfllannljaaDoorWN
import Derived.Test.YtemadfllannljaaDoorWFootNe
import Derived.Test.YtemadfllannljaaDoorWAt
import Derived.Test.YtemadfllannljaaDoorWEqStruct
import Derived.Test.YtemadfllannljaaDoorWRepsOne
import Derived.Test.YtemadfllannljaaDoorWInv
import Derived.Test.YtemadfllannljaaDoorWInvWords
import Derived.Test.YtemadfllannljaaDoorWGuard
import Derived.Test.YtemadfllannljaaDoorWNEv
import Derived.Test.YtemadfllannljaaDoorWMore
namespace Go.Proofs.YtemadfllannljaaDoor.P
open Go.RowKit Go.Proofs.YtemadfllannljaaDoorW.PrintWords Go.Proofs.YtemadfllannljaaDoorW.PrintLast Go.Proofs.YtemadfllannljaaDoorW.PrintMore
attribute [local go_sem] max2_int min2_int max_two min_two max_three min_three max_four min_four   -- for this text's walks alone
set_option linter.unusedVariables false
set_option linter.unusedSimpArgs false



def errW : Option Int → Value
  | none => .nilIface
  | some c => .iface 0 (.int .i64 c)
theorem errW_none : errW none = .nilIface := rfl
theorem errW_some (c : Int) : errW (some c) = .iface 0 (.int .i64 c) := rfl

theorem info9 : (Tryd.prog.info? 9).map (fun i => (i.zero, i.size, i.bytes)) = some (some (.string ⟨#[]⟩), 1, 16) := by kernel_rfl
theorem info22 : (Tryd.prog.info? 22).map (fun i => (i.zero, i.size, i.bytes)) = some (some (.int .i64 0), 1, 8) := by kernel_rfl
theorem info25 : (Tryd.prog.info? 25).map (fun i => (i.zero, i.size, i.bytes)) = some (some (.int .u32 0), 1, 4) := by kernel_rfl
-- the values' own types

end Go.Proofs.YtemadfllannljaaDoor.P
