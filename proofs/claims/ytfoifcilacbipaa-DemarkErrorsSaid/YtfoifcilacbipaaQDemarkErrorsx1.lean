-- Written by a program of this session (wip/tools), over the kit's printer; Lean checks it.
import Derived.Test.YtfoifcilacbipaaQDemarkErrorsx0
namespace Go.Proofs.Ytfoifcilacbipaa.QDemarkErrors
open Go.RowKit Go.Proofs.YtfoifcilacbipaaW.PrintWords Go.Proofs.YtfoifcilacbipaaW.PrintLast Go.Proofs.YtfoifcilacbipaaW.PrintMore
attribute [local go_sem] max2_int min2_int max_two min_two max_three min_three max_four min_four   -- for this text's walks alone
set_option linter.unusedVariables false
set_option linter.unusedSimpArgs false

/-! ### truchmanlaw04_DemarkErrors: function 8 -/
def truchmanlaw04_DemarkErrors.Pure : Prop := True
theorem truchmanlaw04_DemarkErrors.walk (P : truchmanlaw04_DemarkErrors.Pure) (A0 : Option Addr) (c0 : Nat) (l0 : List (List Int)) (a1 : Bool) (A2 : Option Addr) (c2 : Nat) (l2 : List (List Int)) (w : World) (hr0 : Kd.C (Kd.slice 5 (Kd.int .u8)) w A0 l0.length l0) (hc0 : l0.length ≤ c0) (hr2 : Kd.C (Kd.slice 5 (Kd.int .u8)) w A2 l2.length l2) (hc2 : l2.length ≤ c2) (g0_ : l0.length ≤ maxLen) (g1_ : (∀ y0_ ∈ l0, (∀ y1_ ∈ y0_, (Lit.int .u8 y1_).wf = true))) (g2_ : l2.length ≤ maxLen) (g3_ : (∀ y0_ ∈ l2, (∀ y1_ ∈ y0_, (Lit.int .u8 y1_).wf = true))) :
    Calls Try.prog 8 #[.slice A0 l0.length c0, .bool a1, .slice A2 l2.length c2] w fun e w' => e = .returned (.bool true) ∧ Below w.heap.size w w' :=
  G.DemarkErrors_walk A0 c0 l0 a1 A2 c2 l2 w hr0 hc0 hr2 hc2 g0_ g1_ g2_ g3_

end Go.Proofs.Ytfoifcilacbipaa.QDemarkErrors
