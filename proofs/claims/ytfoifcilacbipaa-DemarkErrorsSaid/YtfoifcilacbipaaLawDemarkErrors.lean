-- Written by a program of this session (wip/tools), over the kit's printer; Lean checks it.
import Derived.Test.YtfoifcilacbipaaRows
import Derived.Test.YtfoifcilacbipaaQDemarkErrorsx1
import Derived.Test.YtfoifcilacbipaaPureDemarkErrors
import Derived.Test.YtfoifcilacbipaaR0
import Derived.Test.YtfoifcilacbipaaWSized
import Derived.WalkKit
import Derived.ProofKit
import Derived.OpenShut
import Derived.ShutString
import Derived.ChangeOld
import Derived.Below
import Derived.SizedLaws
namespace Go.Proofs.Ytfoifcilacbipaa.demarkErrors
open Go.ChangeShapes Go.WideShapes Go.ChangeAt Go.RowKit Go.Proofs.Ytfoifcilacbipaa Go.Proofs.Ytfoifcilacbipaa.QDemarkErrors Go.Proofs.YtfoifcilacbipaaW.PrintWords Go.Proofs.YtfoifcilacbipaaW.PrintLast
open Go.ChangeMaps (open_string shut_string)
set_option linter.unusedVariables false
theorem own : ownKnob Try.prog.godebug = none := by kernel_rfl
theorem laidOut : laidOutB Try.prog = true := by kernel_rfl
set_option maxRecDepth 100000 in
set_option maxHeartbeats 4000000 in
theorem lifted (os : Os) (started : os.Started) (H : Type) (enc : TypeId × Value → H) :
    ReturnsInHanded {} Try.checked os 8 .any (Rows.demarkErrorsSpec.pre6 enc Try.prog Try.f8 Rows.demarkErrorsRow.domain false) (Rows.demarkErrorsSpec.post enc Try.prog Try.f8 false true false false) := by
  refine returnsInHanded_of_change_sized (C := Try.checked) own started (by kernel_rfl) Try.func8
    (ChangeSpec.witness6 (enc := enc) (C := Try.checked) false ⟨#[], #[.slice none 0 0, .bool false, .slice none 0 0], []⟩ 8 (by kernel_rfl) (by kernel_rfl) (by kernel_rfl) (by kernel_rfl)) ?_
  intro W base args ds gs before hval0 hW hcnd hsz0 _
  have hsz : (DataW.weightsEach Try.prog (Try.f8.params.toList ++ Rows.demarkErrorsSpec.plain.varTypes Try.prog) (ds ++ gs)).all (· ≤ reachBytes) = true := hsz0
  have hval : ∀ (j : Nat) t v, Try.f8.params[j]? = some t → args[j]? = some v → Value.okWide Try.prog W .any base t v := hval0
  have hW' := hW
  obtain ⟨p, q, hA0, hV, rfl, hfz, hnd⟩ := hW
  have hA : DataW.TrodAll enc Try.prog W 0 (fun _ => true) true Try.f8.params.toList args.toList ds p := hA0
  rw [Try.params8] at hA hval hsz
  obtain ⟨v0, vs0, d0, ds0, p0, q0, hargs, rfl, rfl, h0, r0⟩ := trodAll_cons hA
  obtain ⟨v1, vs1, d1, ds1, p1, q1, rfl, rfl, rfl, h1, r1⟩ := trodAll_cons r0
  obtain ⟨v2, vs2, d2, ds2, p2, q2, rfl, rfl, rfl, h2, r2⟩ := trodAll_cons r1
  obtain ⟨rfl, rfl, rfl⟩ := trodAll_nil r2
  obtain rfl : args = #[v0, v1, v2] := by cases args; simp_all
  obtain ⟨rfl, rfl⟩ := trodVars_none hV
  have k0 := h0
  have lt0 : ∀ x ∈ p0, x.block < W.heap.size := by obtain ⟨m, hm⟩ := k0; exact DataW.trod_lt m _ _ _ hm
  obtain ⟨a0, len0, cap0, rfl⟩ := okWide_slice Try.underlying42 (hval 0 42 v0 rfl rfl)
  obtain ⟨l0, A0, c0, e0, hc0, hr0, hG0⟩ : ∃ (x_ : List (List Int)) (A_ : Option Addr) (c_ : Nat), (Value.slice a0 len0 cap0).cells.toList = [.slice A_ x_.length c_] ∧ x_.length ≤ c_ ∧ Kd.C (Kd.slice 5 (Kd.int .u8)) W A_ x_.length x_ ∧ (x_.length ≤ maxLen ∧ ∀ z0 ∈ x_, (z0.length ≤ maxLen ∧ ∀ z1 ∈ z0, (Lit.int .u8 z1).wf = true)) := by
    obtain ⟨fuel, hf⟩ := h0
    obtain ⟨x_, ⟨A_, c_, e_, hc_, hr_⟩, hG_⟩ := (Row.opens_slice Try.underlying42 (by kernel_rfl) (Row.opens_slice Try.underlying28 (by kernel_rfl) (Row.opens_int Try.underlying5))) enc W fuel _ _ hf
    exact ⟨x_, A_, c_, e_, hc_, hr_, hG_⟩
  simp [Value.cells] at e0
  obtain ⟨rfl, rfl, rfl⟩ := e0
  obtain ⟨a1, rfl, rfl, rfl⟩ := open_bool Try.underlying4 (hval 1 4 v1 rfl rfl) h1
  have k2 := h2
  have lt2 : ∀ x ∈ p2, x.block < W.heap.size := by obtain ⟨m, hm⟩ := k2; exact DataW.trod_lt m _ _ _ hm
  obtain ⟨a2, len2, cap2, rfl⟩ := okWide_slice Try.underlying42 (hval 2 42 v2 rfl rfl)
  obtain ⟨l2, A2, c2, e2, hc2, hr2, hG2⟩ : ∃ (x_ : List (List Int)) (A_ : Option Addr) (c_ : Nat), (Value.slice a2 len2 cap2).cells.toList = [.slice A_ x_.length c_] ∧ x_.length ≤ c_ ∧ Kd.C (Kd.slice 5 (Kd.int .u8)) W A_ x_.length x_ ∧ (x_.length ≤ maxLen ∧ ∀ z0 ∈ x_, (z0.length ≤ maxLen ∧ ∀ z1 ∈ z0, (Lit.int .u8 z1).wf = true)) := by
    obtain ⟨fuel, hf⟩ := h2
    obtain ⟨x_, ⟨A_, c_, e_, hc_, hr_⟩, hG_⟩ := (Row.opens_slice Try.underlying42 (by kernel_rfl) (Row.opens_slice Try.underlying28 (by kernel_rfl) (Row.opens_int Try.underlying5))) enc W fuel _ _ hf
    exact ⟨x_, A_, c_, e_, hc_, hr_, hG_⟩
  simp [Value.cells] at e2
  obtain ⟨rfl, rfl, rfl⟩ := e2
  clear hA0 hval0 hsz0 hsz
  refine (QDemarkErrors.truchmanlaw04_DemarkErrors.walk Pure.DemarkErrors a0 cap0 l0 a1 a2 cap2 l2 W hr0 hc0 hr2 hc2 hG0.1 (fun z0 hz0 => (fun z1 hz1 => ((hG0.2 z0 hz0).2 z1 hz1))) hG2.1 (fun z0 hz0 => (fun z1 hz1 => ((hG2.2 z0 hz0).2 z1 hz1)))).mono fun e W' ⟨he, bel⟩ => ?_
  subst he
  exact ⟨_, rfl, _, _, _, [], _, [], hW', trodAll_mk1 (shut_bool Try.underlying4 _), (trodAll_cons_mk (Below.trod laidOut (by kernel_rfl) (of_decide_eq_true (by kernel_rfl)) k0 bel lt0) (trodAll_cons_mk (shut_bool Try.underlying4 _) (trodAll_cons_mk (Below.trod laidOut (by kernel_rfl) (of_decide_eq_true (by kernel_rfl)) k2 bel lt2) trodAll_mk0))), rfl, bel.frame _, fun h => by cases h⟩
theorem over : Rows.demarkErrorsRow.holds Try.pinned (OpenSpec.ofChange Rows.demarkErrorsSpec) :=
  OpenClaim.holds_of_wide 8 Try.f8 rfl rfl rfl rfl rfl rfl rfl ⟨rfl, rfl, rfl, rfl, rfl⟩ rfl rfl rfl rfl rfl (by kernel_rfl) Try.func8 (by kernel_rfl)
    (of_decide_eq_true (by kernel_rfl)) (by unfold Func.isWrapper; first | (rw [if_pos (by decide +kernel)]; kernel_rfl) | (rw [if_neg (by decide +kernel)]; exact ⟨rfl, rfl⟩))
    (fun os started H enc _ => lifted os started H enc)
theorem proved : Rows.DemarkErrorsSaid := over
end Go.Proofs.Ytfoifcilacbipaa.demarkErrors
namespace Go.Proofs.Ytfoifcilacbipaa
/-- The row, under a short name, for the claim. -/
theorem demarkErrors_holds : Rows.DemarkErrorsSaid := demarkErrors.proved
end Go.Proofs.Ytfoifcilacbipaa
