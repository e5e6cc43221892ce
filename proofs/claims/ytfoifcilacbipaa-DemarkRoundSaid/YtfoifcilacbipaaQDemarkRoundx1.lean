-- Written by a program of this session (wip/tools), over the kit's printer; Lean checks it.
import Derived.Test.YtfoifcilacbipaaQDemarkRoundx0
namespace Go.Proofs.Ytfoifcilacbipaa.QDemarkRound
open Go.RowKit Go.Proofs.YtfoifcilacbipaaW.PrintWords Go.Proofs.YtfoifcilacbipaaW.PrintLast Go.Proofs.YtfoifcilacbipaaW.PrintMore
attribute [local go_sem] max2_int min2_int max_two min_two max_three min_three max_four min_four   -- for this text's walks alone
set_option linter.unusedVariables false
set_option linter.unusedSimpArgs false

/-! ### truchmanlaw04_DemarkRound: function 6 -/
def truchmanlaw04_DemarkRound.Pure : Prop := True
theorem truchmanlaw04_DemarkRound.walk (P : truchmanlaw04_DemarkRound.Pure) (A0 : Option Addr) (c0 : Nat) (l0 : List (List Int)) (A1 : Option Addr) (c1 : Nat) (l1 : List Int) (A2 : Option Addr) (c2 : Nat) (l2 : List Int) (w : World) (hr0 : Kd.C (Kd.slice 5 (Kd.int .u8)) w A0 l0.length l0) (hc0 : l0.length ≤ c0) (hr1 : Kd.C (Kd.int .i64) w A1 l1.length l1) (hc1 : l1.length ≤ c1) (hr2 : Kd.C (Kd.int .i64) w A2 l2.length l2) (hc2 : l2.length ≤ c2) (g0_ : l0.length ≤ maxLen) (g1_ : (∀ y0_ ∈ l0, (∀ y1_ ∈ y0_, (Lit.int .u8 y1_).wf = true))) (g2_ : l1.length ≤ maxLen) (g3_ : l1.length * 8 ≤ 140737488351232) (g4_ : (∀ x ∈ l1, (Lit.int .i64 x).wf = true)) (g5_ : l2.length ≤ maxLen) (g6_ : l2.length * 8 ≤ 140737488351232) (g7_ : (∀ x ∈ l2, (Lit.int .i64 x).wf = true)) :
    Calls Try.prog 6 #[.slice A0 l0.length c0, .slice A1 l1.length c1, .slice A2 l2.length c2] w fun e w' => e = .returned (.bool true) ∧ Below w.heap.size w w' :=
  G.DemarkRound_walk A0 c0 l0 A1 c1 l1 A2 c2 l2 w hr0 hc0 hr1 hc1 hr2 hc2 g0_ g1_ g2_ g3_ g4_ g5_ g6_ g7_

end Go.Proofs.Ytfoifcilacbipaa.QDemarkRound
