-- Written by a program of this session (wip/tools), over the kit's printer; Lean checks it.
import Derived.Test.YtfoifcilacbipaaQDemarkFeedsx0
namespace Go.Proofs.Ytfoifcilacbipaa.QDemarkFeeds
open Go.RowKit Go.Proofs.YtfoifcilacbipaaW.PrintWords Go.Proofs.YtfoifcilacbipaaW.PrintLast Go.Proofs.YtfoifcilacbipaaW.PrintMore
attribute [local go_sem] max2_int min2_int max_two min_two max_three min_three max_four min_four   -- for this text's walks alone
set_option linter.unusedVariables false
set_option linter.unusedSimpArgs false

/-! ### truchmanlaw04_DemarkFeeds: function 5 -/
def truchmanlaw04_DemarkFeeds.Pure : Prop := True
theorem truchmanlaw04_DemarkFeeds.walk (P : truchmanlaw04_DemarkFeeds.Pure) (A0 : Option Addr) (c0 : Nat) (l0 : List Int) (A1 : Option Addr) (c1 : Nat) (l1 : List (List Int)) (A2 : Option Addr) (c2 : Nat) (l2 : List Int) (a3 : Int) (a4 : Int) (A5 : Option Addr) (c5 : Nat) (l5 : List Int) (w : World) (hr0 : Kd.C (Kd.int .u8) w A0 l0.length l0) (hc0 : l0.length ≤ c0) (hr1 : Kd.C (Kd.slice 5 (Kd.int .u8)) w A1 l1.length l1) (hc1 : l1.length ≤ c1) (hr2 : Kd.C (Kd.int .i64) w A2 l2.length l2) (hc2 : l2.length ≤ c2) (hr5 : Kd.C (Kd.int .i64) w A5 l5.length l5) (hc5 : l5.length ≤ c5) (g0_ : l0.length ≤ maxLen) (g1_ : l0.length * 1 ≤ 140737488351232) (g2_ : (∀ x ∈ l0, (Lit.int .u8 x).wf = true)) (g3_ : l1.length ≤ maxLen) (g4_ : (∀ y0_ ∈ l1, (∀ y1_ ∈ y0_, (Lit.int .u8 y1_).wf = true))) (g5_ : l2.length ≤ maxLen) (g6_ : l2.length * 8 ≤ 140737488351232) (g7_ : (∀ x ∈ l2, (Lit.int .i64 x).wf = true)) (g8_ : (Lit.int .i64 a3).wf = true) (g9_ : (Lit.int .i64 a4).wf = true) (g10_ : l5.length ≤ maxLen) (g11_ : l5.length * 8 ≤ 140737488351232) (g12_ : (∀ x ∈ l5, (Lit.int .i64 x).wf = true)) :
    Calls Try.prog 5 #[.slice A0 l0.length c0, .slice A1 l1.length c1, .slice A2 l2.length c2, .int .i64 a3, .int .i64 a4, .slice A5 l5.length c5] w fun e w' => e = .returned (.bool true) ∧ Below w.heap.size w w' :=
  G.DemarkFeeds_walk A0 c0 l0 A1 c1 l1 A2 c2 l2 a3 a4 A5 c5 l5 w hr0 hc0 hr1 hc1 hr2 hc2 hr5 hc5 g0_ g1_ g2_ g3_ g4_ g5_ g6_ g7_ g8_ g9_ g10_ g11_ g12_

end Go.Proofs.Ytfoifcilacbipaa.QDemarkFeeds
