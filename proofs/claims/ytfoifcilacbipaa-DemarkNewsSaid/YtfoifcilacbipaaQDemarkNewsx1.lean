-- Written by a program of this session (wip/tools), over the kit's printer; Lean checks it.
import Derived.Test.YtfoifcilacbipaaQDemarkNewsx0
namespace Go.Proofs.Ytfoifcilacbipaa.QDemarkNews
open Go.RowKit Go.Proofs.YtfoifcilacbipaaW.PrintWords Go.Proofs.YtfoifcilacbipaaW.PrintLast Go.Proofs.YtfoifcilacbipaaW.PrintMore
attribute [local go_sem] max2_int min2_int max_two min_two max_three min_three max_four min_four   -- for this text's walks alone
set_option linter.unusedVariables false
set_option linter.unusedSimpArgs false

/-! ### truchmanlaw04_DemarkNews: function 9 -/
def truchmanlaw04_DemarkNews.Pure : Prop := True
theorem truchmanlaw04_DemarkNews.walk (P : truchmanlaw04_DemarkNews.Pure) (a0 : Int) (a1 : Int) (w : World)  (g0_ : (Lit.int .i64 a0).wf = true) (g1_ : (Lit.int .i64 a1).wf = true) :
    Calls Try.prog 9 #[.int .i64 a0, .int .i64 a1] w fun e w' => e = .returned (.bool true) ∧ Below w.heap.size w w' :=
  G.DemarkNews_walk a0 a1 w  g0_ g1_

end Go.Proofs.Ytfoifcilacbipaa.QDemarkNews
