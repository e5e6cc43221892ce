-- Written by a program of this session (wip/tools), over the kit's printer; Lean checks it.
import Derived.Test.YtfoifcilacbipaaQRpcSamex0
namespace Go.Proofs.Ytfoifcilacbipaa.QRpcSame
open Go.RowKit Go.Proofs.YtfoifcilacbipaaW.PrintWords Go.Proofs.YtfoifcilacbipaaW.PrintLast Go.Proofs.YtfoifcilacbipaaW.PrintMore
attribute [local go_sem] max2_int min2_int max_two min_two max_three min_three max_four min_four   -- for this text's walks alone
set_option linter.unusedVariables false
set_option linter.unusedSimpArgs false

/-! ### truchmanlaw06_RpcSame: function 3 -/
def truchmanlaw06_RpcSame.Pure : Prop := True
theorem truchmanlaw06_RpcSame.walk (P : truchmanlaw06_RpcSame.Pure) (a0_0 : Bool) (a0_1 : Int) (a0_2 : Int) (a0_3 : ByteArray) (a1_0 : Bool) (a1_1 : Int) (a1_2 : Int) (a1_3 : ByteArray) (w : World)  (g0_ : (Lit.int .u32 a0_1).wf = true) (g1_ : (Lit.int .u32 a0_2).wf = true) (g2_ : a0_3.size ≤ maxLen) (g3_ : (Lit.int .u32 a1_1).wf = true) (g4_ : (Lit.int .u32 a1_2).wf = true) (g5_ : a1_3.size ≤ maxLen) :
    Calls Try.prog 3 #[.agg #[.bool a0_0, .int .u32 a0_1, .int .u32 a0_2, .string a0_3], .agg #[.bool a1_0, .int .u32 a1_1, .int .u32 a1_2, .string a1_3]] w fun e w' => e = .returned (.bool true) ∧ Below w.heap.size w w' :=
  G.RpcSame_walk a0_0 a0_1 a0_2 a0_3 a1_0 a1_1 a1_2 a1_3 w  g0_ g1_ g2_ g3_ g4_ g5_

end Go.Proofs.Ytfoifcilacbipaa.QRpcSame
