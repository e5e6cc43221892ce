-- Written by a program of this session (wip/tools), over the kit's printer; Lean checks it.
import Derived.Test.YtdfnhmgopihfcaaQXdrRoundx0
namespace Go.Proofs.Ytdfnhmgopihfcaa.QXdrRound
open Go.RowKit Go.Proofs.YtdfnhmgopihfcaaW.PrintWords Go.Proofs.YtdfnhmgopihfcaaW.PrintLast Go.Proofs.YtdfnhmgopihfcaaW.PrintMore
attribute [local go_sem] max2_int min2_int max_two min_two max_three min_three max_four min_four   -- for this text's walks alone
set_option linter.unusedVariables false
set_option linter.unusedSimpArgs false

/-! ### truchmanlaw01_XdrRound: function 12 -/
def truchmanlaw01_XdrRound.Pure : Prop := True
theorem truchmanlaw01_XdrRound.walk (P : truchmanlaw01_XdrRound.Pure) (A0 : Option Addr) (c0 : Nat) (l0 : List Int) (A1 : Option Addr) (c1 : Nat) (l1 : List (List Int)) (a2 : Int) (a3 : Bool) (w : World) (hr0 : Kd.C (Kd.int .u32) w A0 l0.length l0) (hc0 : l0.length ≤ c0) (hr1 : Kd.C (Kd.slice 5 (Kd.int .u8)) w A1 l1.length l1) (hc1 : l1.length ≤ c1) (g0_ : l0.length ≤ maxLen) (g1_ : l0.length * 4 ≤ 140737488351232) (g2_ : (∀ x ∈ l0, (Lit.int .u32 x).wf = true)) (g3_ : l1.length ≤ maxLen) (g4_ : (∀ y0_ ∈ l1, (∀ y1_ ∈ y0_, (Lit.int .u8 y1_).wf = true))) (g5_ : (Lit.int .u64 a2).wf = true) :
    Calls Try.prog 12 #[.slice A0 l0.length c0, .slice A1 l1.length c1, .int .u64 a2, .bool a3] w fun e w' => e = .returned (.bool true) ∧ Below w.heap.size w w' :=
  H.XdrRound_row A0 c0 l0 A1 c1 l1 a2 a3 w hr0 hc0 hr1 hc1 g0_ g1_ g2_ g3_ g4_ g5_

end Go.Proofs.Ytdfnhmgopihfcaa.QXdrRound
