-- Written by a program of this session (wip/tools), over the kit's printer; Lean checks it.
import Derived.Test.YtfoifcilacbipaaRows
import Derived.Test.YtfoifcilacbipaaQDemarkFeedsx1
import Derived.Test.YtfoifcilacbipaaPureDemarkFeeds
import Derived.Test.YtfoifcilacbipaaR0
import Derived.Test.YtfoifcilacbipaaWSized
import Derived.WalkKit
import Derived.ProofKit
import Derived.OpenShut
import Derived.ShutString
import Derived.ChangeOld
import Derived.Below
import Derived.SizedLaws
namespace Go.Proofs.Ytfoifcilacbipaa.demarkFeeds
open Go.ChangeShapes Go.WideShapes Go.ChangeAt Go.RowKit Go.Proofs.Ytfoifcilacbipaa Go.Proofs.Ytfoifcilacbipaa.QDemarkFeeds Go.Proofs.YtfoifcilacbipaaW.PrintWords Go.Proofs.YtfoifcilacbipaaW.PrintLast
open Go.ChangeMaps (open_string shut_string)
set_option linter.unusedVariables false
theorem own : ownKnob Try.prog.godebug = none := by kernel_rfl
theorem laidOut : laidOutB Try.prog = true := by kernel_rfl
set_option maxRecDepth 100000 in
set_option maxHeartbeats 4000000 in
theorem lifted (os : Os) (started : os.Started) (H : Type) (enc : TypeId × Value → H) :
    ReturnsInHanded {} Try.checked os 5 .any (Rows.demarkFeedsSpec.pre6 enc Try.prog Try.f5 Rows.demarkFeedsRow.domain false) (Rows.demarkFeedsSpec.post enc Try.prog Try.f5 false true false false) := by
  refine returnsInHanded_of_change_sized (C := Try.checked) own started (by kernel_rfl) Try.func5
    (ChangeSpec.witness6 (enc := enc) (C := Try.checked) false ⟨#[], #[.slice none 0 0, .slice none 0 0, .slice none 0 0, .int .i64 0, .int .i64 0, .slice none 0 0], []⟩ 8 (by kernel_rfl) (by kernel_rfl) (by kernel_rfl) (by kernel_rfl)) ?_
  intro W base args ds gs before hval0 hW hcnd hsz0 _
  have hsz : (DataW.weightsEach Try.prog (Try.f5.params.toList ++ Rows.demarkFeedsSpec.plain.varTypes Try.prog) (ds ++ gs)).all (· ≤ reachBytes) = true := hsz0
  have hval : ∀ (j : Nat) t v, Try.f5.params[j]? = some t → args[j]? = some v → Value.okWide Try.prog W .any base t v := hval0
  have hW' := hW
  obtain ⟨p, q, hA0, hV, rfl, hfz, hnd⟩ := hW
  have hA : DataW.TrodAll enc Try.prog W 0 (fun _ => true) true Try.f5.params.toList args.toList ds p := hA0
  rw [Try.params5] at hA hval hsz
  obtain ⟨v0, vs0, d0, ds0, p0, q0, hargs, rfl, rfl, h0, r0⟩ := trodAll_cons hA
  obtain ⟨v1, vs1, d1, ds1, p1, q1, rfl, rfl, rfl, h1, r1⟩ := trodAll_cons r0
  obtain ⟨v2, vs2, d2, ds2, p2, q2, rfl, rfl, rfl, h2, r2⟩ := trodAll_cons r1
  obtain ⟨v3, vs3, d3, ds3, p3, q3, rfl, rfl, rfl, h3, r3⟩ := trodAll_cons r2
  obtain ⟨v4, vs4, d4, ds4, p4, q4, rfl, rfl, rfl, h4, r4⟩ := trodAll_cons r3
  obtain ⟨v5, vs5, d5, ds5, p5, q5, rfl, rfl, rfl, h5, r5⟩ := trodAll_cons r4
  obtain ⟨rfl, rfl, rfl⟩ := trodAll_nil r5
  obtain rfl : args = #[v0, v1, v2, v3, v4, v5] := by cases args; simp_all
  obtain ⟨rfl, rfl⟩ := trodVars_none hV
  have k0 := h0
  have lt0 : ∀ x ∈ p0, x.block < W.heap.size := by obtain ⟨m, hm⟩ := k0; exact DataW.trod_lt m _ _ _ hm
  obtain ⟨a0, len0, cap0, rfl⟩ := okWide_slice Try.underlying28 (hval 0 28 v0 rfl rfl)
  have y0 : len0 * 1 ≤ 140737488351232 := Go.Proofs.YtfoifcilacbipaaW.PrintWords.sized_ints hsz (j := 0) (t := 28) rfl rfl Try.underlying28 Try.underlying5 (by kernel_rfl) (by kernel_rfl) h0
  obtain ⟨l0, A0, c0, e0, hc0, hr0, hG0⟩ : ∃ (x_ : List Int) (A_ : Option Addr) (c_ : Nat), (Value.slice a0 len0 cap0).cells.toList = [.slice A_ x_.length c_] ∧ x_.length ≤ c_ ∧ Kd.C (Kd.int .u8) W A_ x_.length x_ ∧ (x_.length ≤ maxLen ∧ ∀ z0 ∈ x_, (Lit.int .u8 z0).wf = true) := by
    obtain ⟨fuel, hf⟩ := h0
    obtain ⟨x_, ⟨A_, c_, e_, hc_, hr_⟩, hG_⟩ := (Row.opens_slice Try.underlying28 (by kernel_rfl) (Row.opens_int Try.underlying5)) enc W fuel _ _ hf
    exact ⟨x_, A_, c_, e_, hc_, hr_, hG_⟩
  simp [Value.cells] at e0
  obtain ⟨rfl, rfl, rfl⟩ := e0
  have k1 := h1
  have lt1 : ∀ x ∈ p1, x.block < W.heap.size := by obtain ⟨m, hm⟩ := k1; exact DataW.trod_lt m _ _ _ hm
  obtain ⟨a1, len1, cap1, rfl⟩ := okWide_slice Try.underlying42 (hval 1 42 v1 rfl rfl)
  obtain ⟨l1, A1, c1, e1, hc1, hr1, hG1⟩ : ∃ (x_ : List (List Int)) (A_ : Option Addr) (c_ : Nat), (Value.slice a1 len1 cap1).cells.toList = [.slice A_ x_.length c_] ∧ x_.length ≤ c_ ∧ Kd.C (Kd.slice 5 (Kd.int .u8)) W A_ x_.length x_ ∧ (x_.length ≤ maxLen ∧ ∀ z0 ∈ x_, (z0.length ≤ maxLen ∧ ∀ z1 ∈ z0, (Lit.int .u8 z1).wf = true)) := by
    obtain ⟨fuel, hf⟩ := h1
    obtain ⟨x_, ⟨A_, c_, e_, hc_, hr_⟩, hG_⟩ := (Row.opens_slice Try.underlying42 (by kernel_rfl) (Row.opens_slice Try.underlying28 (by kernel_rfl) (Row.opens_int Try.underlying5))) enc W fuel _ _ hf
    exact ⟨x_, A_, c_, e_, hc_, hr_, hG_⟩
  simp [Value.cells] at e1
  obtain ⟨rfl, rfl, rfl⟩ := e1
  have k2 := h2
  have lt2 : ∀ x ∈ p2, x.block < W.heap.size := by obtain ⟨m, hm⟩ := k2; exact DataW.trod_lt m _ _ _ hm
  obtain ⟨a2, len2, cap2, rfl⟩ := okWide_slice Try.underlying43 (hval 2 43 v2 rfl rfl)
  have y2 : len2 * 8 ≤ 140737488351232 := Go.Proofs.YtfoifcilacbipaaW.PrintWords.sized_ints hsz (j := 2) (t := 43) rfl rfl Try.underlying43 Try.underlying3 (by kernel_rfl) (by kernel_rfl) h2
  obtain ⟨l2, A2, c2, e2, hc2, hr2, hG2⟩ : ∃ (x_ : List Int) (A_ : Option Addr) (c_ : Nat), (Value.slice a2 len2 cap2).cells.toList = [.slice A_ x_.length c_] ∧ x_.length ≤ c_ ∧ Kd.C (Kd.int .i64) W A_ x_.length x_ ∧ (x_.length ≤ maxLen ∧ ∀ z0 ∈ x_, (Lit.int .i64 z0).wf = true) := by
    obtain ⟨fuel, hf⟩ := h2
    obtain ⟨x_, ⟨A_, c_, e_, hc_, hr_⟩, hG_⟩ := (Row.opens_slice Try.underlying43 (by kernel_rfl) (Row.opens_int Try.underlying3)) enc W fuel _ _ hf
    exact ⟨x_, A_, c_, e_, hc_, hr_, hG_⟩
  simp [Value.cells] at e2
  obtain ⟨rfl, rfl, rfl⟩ := e2
  obtain ⟨a3, rfl, rfl, rfl, w3⟩ := open_int Try.underlying3 (hval 3 3 v3 rfl rfl) h3
  obtain ⟨a4, rfl, rfl, rfl, w4⟩ := open_int Try.underlying3 (hval 4 3 v4 rfl rfl) h4
  have k5 := h5
  have lt5 : ∀ x ∈ p5, x.block < W.heap.size := by obtain ⟨m, hm⟩ := k5; exact DataW.trod_lt m _ _ _ hm
  obtain ⟨a5, len5, cap5, rfl⟩ := okWide_slice Try.underlying43 (hval 5 43 v5 rfl rfl)
  have y5 : len5 * 8 ≤ 140737488351232 := Go.Proofs.YtfoifcilacbipaaW.PrintWords.sized_ints hsz (j := 5) (t := 43) rfl rfl Try.underlying43 Try.underlying3 (by kernel_rfl) (by kernel_rfl) h5
  obtain ⟨l5, A5, c5, e5, hc5, hr5, hG5⟩ : ∃ (x_ : List Int) (A_ : Option Addr) (c_ : Nat), (Value.slice a5 len5 cap5).cells.toList = [.slice A_ x_.length c_] ∧ x_.length ≤ c_ ∧ Kd.C (Kd.int .i64) W A_ x_.length x_ ∧ (x_.length ≤ maxLen ∧ ∀ z0 ∈ x_, (Lit.int .i64 z0).wf = true) := by
    obtain ⟨fuel, hf⟩ := h5
    obtain ⟨x_, ⟨A_, c_, e_, hc_, hr_⟩, hG_⟩ := (Row.opens_slice Try.underlying43 (by kernel_rfl) (Row.opens_int Try.underlying3)) enc W fuel _ _ hf
    exact ⟨x_, A_, c_, e_, hc_, hr_, hG_⟩
  simp [Value.cells] at e5
  obtain ⟨rfl, rfl, rfl⟩ := e5
  clear hA0 hval0 hsz0 hsz
  refine (QDemarkFeeds.truchmanlaw04_DemarkFeeds.walk Pure.DemarkFeeds a0 cap0 l0 a1 cap1 l1 a2 cap2 l2 a3 a4 a5 cap5 l5 W hr0 hc0 hr1 hc1 hr2 hc2 hr5 hc5 hG0.1 y0 hG0.2 hG1.1 (fun z0 hz0 => (fun z1 hz1 => ((hG1.2 z0 hz0).2 z1 hz1))) hG2.1 y2 hG2.2 w3 w4 hG5.1 y5 hG5.2).mono fun e W' ⟨he, bel⟩ => ?_
  subst he
  exact ⟨_, rfl, _, _, _, [], _, [], hW', trodAll_mk1 (shut_bool Try.underlying4 _), (trodAll_cons_mk (Below.trod laidOut (by kernel_rfl) (of_decide_eq_true (by kernel_rfl)) k0 bel lt0) (trodAll_cons_mk (Below.trod laidOut (by kernel_rfl) (of_decide_eq_true (by kernel_rfl)) k1 bel lt1) (trodAll_cons_mk (Below.trod laidOut (by kernel_rfl) (of_decide_eq_true (by kernel_rfl)) k2 bel lt2) (trodAll_cons_mk (shut_int Try.underlying3 w3) (trodAll_cons_mk (shut_int Try.underlying3 w4) (trodAll_cons_mk (Below.trod laidOut (by kernel_rfl) (of_decide_eq_true (by kernel_rfl)) k5 bel lt5) trodAll_mk0)))))), rfl, bel.frame _, fun h => by cases h⟩
theorem over : Rows.demarkFeedsRow.holds Try.pinned (OpenSpec.ofChange Rows.demarkFeedsSpec) :=
  OpenClaim.holds_of_wide 5 Try.f5 rfl rfl rfl rfl rfl rfl rfl ⟨rfl, rfl, rfl, rfl, rfl⟩ rfl rfl rfl rfl rfl (by kernel_rfl) Try.func5 (by kernel_rfl)
    (of_decide_eq_true (by kernel_rfl)) (by unfold Func.isWrapper; first | (rw [if_pos (by decide +kernel)]; kernel_rfl) | (rw [if_neg (by decide +kernel)]; exact ⟨rfl, rfl⟩))
    (fun os started H enc _ => lifted os started H enc)
theorem proved : Rows.DemarkFeedsSaid := over
end Go.Proofs.Ytfoifcilacbipaa.demarkFeeds
namespace Go.Proofs.Ytfoifcilacbipaa
/-- The row, under a short name, for the claim. -/
theorem demarkFeeds_holds : Rows.DemarkFeedsSaid := demarkFeeds.proved
end Go.Proofs.Ytfoifcilacbipaa
