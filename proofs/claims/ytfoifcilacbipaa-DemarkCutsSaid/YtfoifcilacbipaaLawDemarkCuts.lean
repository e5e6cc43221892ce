-- Written by a program of this session (wip/tools), over the kit's printer; Lean checks it.
import Derived.Test.YtfoifcilacbipaaRows
import Derived.Test.YtfoifcilacbipaaQDemarkCutsx1
import Derived.Test.YtfoifcilacbipaaPureDemarkCuts
import Derived.Test.YtfoifcilacbipaaR0
import Derived.Test.YtfoifcilacbipaaWSized
import Derived.WalkKit
import Derived.ProofKit
import Derived.OpenShut
import Derived.ShutString
import Derived.ChangeOld
import Derived.Below
import Derived.SizedLaws
namespace Go.Proofs.Ytfoifcilacbipaa.demarkCuts
open Go.ChangeShapes Go.WideShapes Go.ChangeAt Go.RowKit Go.Proofs.Ytfoifcilacbipaa Go.Proofs.Ytfoifcilacbipaa.QDemarkCuts Go.Proofs.YtfoifcilacbipaaW.PrintWords Go.Proofs.YtfoifcilacbipaaW.PrintLast
open Go.ChangeMaps (open_string shut_string)
set_option linter.unusedVariables false
theorem own : ownKnob Try.prog.godebug = none := by kernel_rfl
theorem laidOut : laidOutB Try.prog = true := by kernel_rfl
set_option maxRecDepth 100000 in
set_option maxHeartbeats 4000000 in
theorem lifted (os : Os) (started : os.Started) (H : Type) (enc : TypeId × Value → H) :
    ReturnsInHanded {} Try.checked os 7 .any (Rows.demarkCutsSpec.pre6 enc Try.prog Try.f7 Rows.demarkCutsRow.domain false) (Rows.demarkCutsSpec.post enc Try.prog Try.f7 false true false false) := by
  refine returnsInHanded_of_change_sized (C := Try.checked) own started (by kernel_rfl) Try.func7
    (ChangeSpec.witness6 (enc := enc) (C := Try.checked) false ⟨#[], #[.slice none 0 0, .int .i64 0, .int .i64 0, .slice none 0 0, .slice none 0 0], []⟩ 8 (by kernel_rfl) (by kernel_rfl) (by kernel_rfl) (by kernel_rfl)) ?_
  intro W base args ds gs before hval0 hW hcnd hsz0 _
  have hsz : (DataW.weightsEach Try.prog (Try.f7.params.toList ++ Rows.demarkCutsSpec.plain.varTypes Try.prog) (ds ++ gs)).all (· ≤ reachBytes) = true := hsz0
  have hval : ∀ (j : Nat) t v, Try.f7.params[j]? = some t → args[j]? = some v → Value.okWide Try.prog W .any base t v := hval0
  have hW' := hW
  obtain ⟨p, q, hA0, hV, rfl, hfz, hnd⟩ := hW
  have hA : DataW.TrodAll enc Try.prog W 0 (fun _ => true) true Try.f7.params.toList args.toList ds p := hA0
  rw [Try.params7] at hA hval hsz
  obtain ⟨v0, vs0, d0, ds0, p0, q0, hargs, rfl, rfl, h0, r0⟩ := trodAll_cons hA
  obtain ⟨v1, vs1, d1, ds1, p1, q1, rfl, rfl, rfl, h1, r1⟩ := trodAll_cons r0
  obtain ⟨v2, vs2, d2, ds2, p2, q2, rfl, rfl, rfl, h2, r2⟩ := trodAll_cons r1
  obtain ⟨v3, vs3, d3, ds3, p3, q3, rfl, rfl, rfl, h3, r3⟩ := trodAll_cons r2
  obtain ⟨v4, vs4, d4, ds4, p4, q4, rfl, rfl, rfl, h4, r4⟩ := trodAll_cons r3
  obtain ⟨rfl, rfl, rfl⟩ := trodAll_nil r4
  obtain rfl : args = #[v0, v1, v2, v3, v4] := by cases args; simp_all
  obtain ⟨rfl, rfl⟩ := trodVars_none hV
  have k0 := h0
  have lt0 : ∀ x ∈ p0, x.block < W.heap.size := by obtain ⟨m, hm⟩ := k0; exact DataW.trod_lt m _ _ _ hm
  obtain ⟨a0, len0, cap0, rfl⟩ := okWide_slice Try.underlying28 (hval 0 28 v0 rfl rfl)
  have y0 : len0 * 1 ≤ 140737488351232 := Go.Proofs.YtfoifcilacbipaaW.PrintWords.sized_ints hsz (j := 0) (t := 28) rfl rfl Try.underlying28 Try.underlying5 (by kernel_rfl) (by kernel_rfl) h0
  obtain ⟨l0, A0, c0, e0, hc0, hr0, hG0⟩ : ∃ (x_ : List Int) (A_ : Option Addr) (c_ : Nat), (Value.slice a0 len0 cap0).cells.toList = [.slice A_ x_.length c_] ∧ x_.length ≤ c_ ∧ Kd.C (Kd.int .u8) W A_ x_.length x_ ∧ (x_.length ≤ maxLen ∧ ∀ z0 ∈ x_, (Lit.int .u8 z0).wf = true) := by
    obtain ⟨fuel, hf⟩ := h0
    obtain ⟨x_, ⟨A_, c_, e_, hc_, hr_⟩, hG_⟩ := (Row.opens_slice Try.underlying28 (by kernel_rfl) (Row.opens_int Try.underlying5)) enc W fuel _ _ hf
    exact ⟨x_, A_, c_, e_, hc_, hr_, hG_⟩
  simp [Value.cells] at e0
  obtain ⟨rfl, rfl, rfl⟩ := e0
  obtain ⟨a1, rfl, rfl, rfl, w1⟩ := open_int Try.underlying3 (hval 1 3 v1 rfl rfl) h1
  obtain ⟨a2, rfl, rfl, rfl, w2⟩ := open_int Try.underlying3 (hval 2 3 v2 rfl rfl) h2
  have k3 := h3
  have lt3 : ∀ x ∈ p3, x.block < W.heap.size := by obtain ⟨m, hm⟩ := k3; exact DataW.trod_lt m _ _ _ hm
  obtain ⟨a3, len3, cap3, rfl⟩ := okWide_slice Try.underlying43 (hval 3 43 v3 rfl rfl)
  have y3 : len3 * 8 ≤ 140737488351232 := Go.Proofs.YtfoifcilacbipaaW.PrintWords.sized_ints hsz (j := 3) (t := 43) rfl rfl Try.underlying43 Try.underlying3 (by kernel_rfl) (by kernel_rfl) h3
  obtain ⟨l3, A3, c3, e3, hc3, hr3, hG3⟩ : ∃ (x_ : List Int) (A_ : Option Addr) (c_ : Nat), (Value.slice a3 len3 cap3).cells.toList = [.slice A_ x_.length c_] ∧ x_.length ≤ c_ ∧ Kd.C (Kd.int .i64) W A_ x_.length x_ ∧ (x_.length ≤ maxLen ∧ ∀ z0 ∈ x_, (Lit.int .i64 z0).wf = true) := by
    obtain ⟨fuel, hf⟩ := h3
    obtain ⟨x_, ⟨A_, c_, e_, hc_, hr_⟩, hG_⟩ := (Row.opens_slice Try.underlying43 (by kernel_rfl) (Row.opens_int Try.underlying3)) enc W fuel _ _ hf
    exact ⟨x_, A_, c_, e_, hc_, hr_, hG_⟩
  simp [Value.cells] at e3
  obtain ⟨rfl, rfl, rfl⟩ := e3
  have k4 := h4
  have lt4 : ∀ x ∈ p4, x.block < W.heap.size := by obtain ⟨m, hm⟩ := k4; exact DataW.trod_lt m _ _ _ hm
  obtain ⟨a4, len4, cap4, rfl⟩ := okWide_slice Try.underlying43 (hval 4 43 v4 rfl rfl)
  have y4 : len4 * 8 ≤ 140737488351232 := Go.Proofs.YtfoifcilacbipaaW.PrintWords.sized_ints hsz (j := 4) (t := 43) rfl rfl Try.underlying43 Try.underlying3 (by kernel_rfl) (by kernel_rfl) h4
  obtain ⟨l4, A4, c4, e4, hc4, hr4, hG4⟩ : ∃ (x_ : List Int) (A_ : Option Addr) (c_ : Nat), (Value.slice a4 len4 cap4).cells.toList = [.slice A_ x_.length c_] ∧ x_.length ≤ c_ ∧ Kd.C (Kd.int .i64) W A_ x_.length x_ ∧ (x_.length ≤ maxLen ∧ ∀ z0 ∈ x_, (Lit.int .i64 z0).wf = true) := by
    obtain ⟨fuel, hf⟩ := h4
    obtain ⟨x_, ⟨A_, c_, e_, hc_, hr_⟩, hG_⟩ := (Row.opens_slice Try.underlying43 (by kernel_rfl) (Row.opens_int Try.underlying3)) enc W fuel _ _ hf
    exact ⟨x_, A_, c_, e_, hc_, hr_, hG_⟩
  simp [Value.cells] at e4
  obtain ⟨rfl, rfl, rfl⟩ := e4
  clear hA0 hval0 hsz0 hsz
  refine (QDemarkCuts.truchmanlaw04_DemarkCuts.walk Pure.DemarkCuts a0 cap0 l0 a1 a2 a3 cap3 l3 a4 cap4 l4 W hr0 hc0 hr3 hc3 hr4 hc4 hG0.1 y0 hG0.2 w1 w2 hG3.1 y3 hG3.2 hG4.1 y4 hG4.2).mono fun e W' ⟨he, bel⟩ => ?_
  subst he
  exact ⟨_, rfl, _, _, _, [], _, [], hW', trodAll_mk1 (shut_bool Try.underlying4 _), (trodAll_cons_mk (Below.trod laidOut (by kernel_rfl) (of_decide_eq_true (by kernel_rfl)) k0 bel lt0) (trodAll_cons_mk (shut_int Try.underlying3 w1) (trodAll_cons_mk (shut_int Try.underlying3 w2) (trodAll_cons_mk (Below.trod laidOut (by kernel_rfl) (of_decide_eq_true (by kernel_rfl)) k3 bel lt3) (trodAll_cons_mk (Below.trod laidOut (by kernel_rfl) (of_decide_eq_true (by kernel_rfl)) k4 bel lt4) trodAll_mk0))))), rfl, bel.frame _, fun h => by cases h⟩
theorem over : Rows.demarkCutsRow.holds Try.pinned (OpenSpec.ofChange Rows.demarkCutsSpec) :=
  OpenClaim.holds_of_wide 7 Try.f7 rfl rfl rfl rfl rfl rfl rfl ⟨rfl, rfl, rfl, rfl, rfl⟩ rfl rfl rfl rfl rfl (by kernel_rfl) Try.func7 (by kernel_rfl)
    (of_decide_eq_true (by kernel_rfl)) (by unfold Func.isWrapper; first | (rw [if_pos (by decide +kernel)]; kernel_rfl) | (rw [if_neg (by decide +kernel)]; exact ⟨rfl, rfl⟩))
    (fun os started H enc _ => lifted os started H enc)
theorem proved : Rows.DemarkCutsSaid := over
end Go.Proofs.Ytfoifcilacbipaa.demarkCuts
namespace Go.Proofs.Ytfoifcilacbipaa
/-- The row, under a short name, for the claim. -/
theorem demarkCuts_holds : Rows.DemarkCutsSaid := demarkCuts.proved
end Go.Proofs.Ytfoifcilacbipaa
