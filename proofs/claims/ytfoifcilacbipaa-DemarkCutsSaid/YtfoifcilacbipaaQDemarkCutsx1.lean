-- Written by a program of this session (wip/tools), over the kit's printer; Lean checks it.
import Derived.Test.YtfoifcilacbipaaQDemarkCutsx0
namespace Go.Proofs.Ytfoifcilacbipaa.QDemarkCuts
open Go.RowKit Go.Proofs.YtfoifcilacbipaaW.PrintWords Go.Proofs.YtfoifcilacbipaaW.PrintLast Go.Proofs.YtfoifcilacbipaaW.PrintMore
attribute [local go_sem] max2_int min2_int max_two min_two max_three min_three max_four min_four   -- for this text's walks alone
set_option linter.unusedVariables false
set_option linter.unusedSimpArgs false

/-! ### truchmanlaw04_DemarkCuts: function 7 -/
def truchmanlaw04_DemarkCuts.Pure : Prop := True
theorem truchmanlaw04_DemarkCuts.walk (P : truchmanlaw04_DemarkCuts.Pure) (A0 : Option Addr) (c0 : Nat) (l0 : List Int) (a1 : Int) (a2 : Int) (A3 : Option Addr) (c3 : Nat) (l3 : List Int) (A4 : Option Addr) (c4 : Nat) (l4 : List Int) (w : World) (hr0 : Kd.C (Kd.int .u8) w A0 l0.length l0) (hc0 : l0.length ≤ c0) (hr3 : Kd.C (Kd.int .i64) w A3 l3.length l3) (hc3 : l3.length ≤ c3) (hr4 : Kd.C (Kd.int .i64) w A4 l4.length l4) (hc4 : l4.length ≤ c4) (g0_ : l0.length ≤ maxLen) (g1_ : l0.length * 1 ≤ 140737488351232) (g2_ : (∀ x ∈ l0, (Lit.int .u8 x).wf = true)) (g3_ : (Lit.int .i64 a1).wf = true) (g4_ : (Lit.int .i64 a2).wf = true) (g5_ : l3.length ≤ maxLen) (g6_ : l3.length * 8 ≤ 140737488351232) (g7_ : (∀ x ∈ l3, (Lit.int .i64 x).wf = true)) (g8_ : l4.length ≤ maxLen) (g9_ : l4.length * 8 ≤ 140737488351232) (g10_ : (∀ x ∈ l4, (Lit.int .i64 x).wf = true)) :
    Calls Try.prog 7 #[.slice A0 l0.length c0, .int .i64 a1, .int .i64 a2, .slice A3 l3.length c3, .slice A4 l4.length c4] w fun e w' => e = .returned (.bool true) ∧ Below w.heap.size w w' :=
  G.DemarkCuts_walk A0 c0 l0 a1 a2 A3 c3 l3 A4 c4 l4 w hr0 hc0 hr3 hc3 hr4 hc4 g0_ g1_ g2_ g3_ g4_ g5_ g6_ g7_ g8_ g9_ g10_

end Go.Proofs.Ytfoifcilacbipaa.QDemarkCuts
