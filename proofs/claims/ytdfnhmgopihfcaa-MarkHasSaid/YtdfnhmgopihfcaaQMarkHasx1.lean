-- Written by a program of this session (wip/tools), over the kit's printer; Lean checks it.
import Derived.Test.YtdfnhmgopihfcaaQMarkHasx0
namespace Go.Proofs.Ytdfnhmgopihfcaa.QMarkHas
open Go.RowKit Go.Proofs.YtdfnhmgopihfcaaW.PrintWords Go.Proofs.YtdfnhmgopihfcaaW.PrintLast Go.Proofs.YtdfnhmgopihfcaaW.PrintMore
attribute [local go_sem] max2_int min2_int max_two min_two max_three min_three max_four min_four   -- for this text's walks alone
set_option linter.unusedVariables false
set_option linter.unusedSimpArgs false

/-! ### truchmanlaw03_MarkHas: function 10 -/
def truchmanlaw03_MarkHas.Pure : Prop := True
theorem truchmanlaw03_MarkHas.walk (P : truchmanlaw03_MarkHas.Pure) (A0 : Option Addr) (c0 : Nat) (l0 : List Int) (a1 : Int) (w : World) (hr0 : Kd.C (Kd.int .u8) w A0 l0.length l0) (hc0 : l0.length ≤ c0) (g0_ : l0.length ≤ maxLen) (g1_ : l0.length * 1 ≤ 140737488351232) (g2_ : (∀ x ∈ l0, (Lit.int .u8 x).wf = true)) (g3_ : (Lit.int .i64 a1).wf = true) :
    Calls Try.prog 10 #[.slice A0 l0.length c0, .int .i64 a1] w fun e w' => e = .returned (.bool true) ∧ Below w.heap.size w w' :=
  H.MarkHas_row A0 c0 l0 a1 w hr0 hc0 g0_ g1_ g2_ g3_

end Go.Proofs.Ytdfnhmgopihfcaa.QMarkHas
