-- Written by a program of this session (wip/tools), over the kit's printer; Lean checks it.
import Derived.Test.YtdfnhmgopihfcaaQXdrPadsx0
namespace Go.Proofs.Ytdfnhmgopihfcaa.QXdrPads
open Go.RowKit Go.Proofs.YtdfnhmgopihfcaaW.PrintWords Go.Proofs.YtdfnhmgopihfcaaW.PrintLast Go.Proofs.YtdfnhmgopihfcaaW.PrintMore
attribute [local go_sem] max2_int min2_int max_two min_two max_three min_three max_four min_four   -- for this text's walks alone
set_option linter.unusedVariables false
set_option linter.unusedSimpArgs false

/-! ### truchmanlaw01_XdrPads: function 8 -/
def truchmanlaw01_XdrPads.Pure : Prop := True
theorem truchmanlaw01_XdrPads.walk (P : truchmanlaw01_XdrPads.Pure) (A0 : Option Addr) (c0 : Nat) (l0 : List Int) (a1 : Int) (a2 : Int) (a3 : Int) (w : World) (hr0 : Kd.C (Kd.int .u8) w A0 l0.length l0) (hc0 : l0.length ≤ c0) (g0_ : l0.length ≤ maxLen) (g1_ : l0.length * 1 ≤ 140737488351232) (g2_ : (∀ x ∈ l0, (Lit.int .u8 x).wf = true)) (g3_ : (Lit.int .i64 a1).wf = true) (g4_ : (Lit.int .u8 a2).wf = true) (g5_ : (Lit.int .i64 a3).wf = true) :
    Calls Try.prog 8 #[.slice A0 l0.length c0, .int .i64 a1, .int .u8 a2, .int .i64 a3] w fun e w' => e = .returned (.bool true) ∧ Below w.heap.size w w' :=
  H.XdrPads_full A0 c0 l0 a1 a2 a3 w hr0 hc0 g0_ g1_ g2_ g3_ g4_ g5_

end Go.Proofs.Ytdfnhmgopihfcaa.QXdrPads
