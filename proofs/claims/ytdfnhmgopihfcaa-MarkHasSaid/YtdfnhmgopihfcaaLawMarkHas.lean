-- Written by a program of this session (wip/tools), over the kit's printer; Lean checks it.
import Derived.Test.YtdfnhmgopihfcaaRows
import Derived.Test.YtdfnhmgopihfcaaQMarkHasx1
import Derived.Test.YtdfnhmgopihfcaaPureMarkHas
import Derived.Test.YtdfnhmgopihfcaaR0
import Derived.Test.YtdfnhmgopihfcaaWSized
import Derived.WalkKit
import Derived.ProofKit
import Derived.OpenShut
import Derived.ShutString
import Derived.ChangeOld
import Derived.Below
import Derived.SizedLaws
namespace Go.Proofs.Ytdfnhmgopihfcaa.markHas
open Go.ChangeShapes Go.WideShapes Go.ChangeAt Go.RowKit Go.Proofs.Ytdfnhmgopihfcaa Go.Proofs.Ytdfnhmgopihfcaa.QMarkHas Go.Proofs.YtdfnhmgopihfcaaW.PrintWords Go.Proofs.YtdfnhmgopihfcaaW.PrintLast
open Go.ChangeMaps (open_string shut_string)
set_option linter.unusedVariables false
theorem own : ownKnob Try.prog.godebug = none := by kernel_rfl
theorem laidOut : laidOutB Try.prog = true := by kernel_rfl
set_option maxRecDepth 100000 in
set_option maxHeartbeats 4000000 in
theorem lifted (os : Os) (started : os.Started) (H : Type) (enc : TypeId × Value → H) :
    ReturnsInHanded {} Try.checked os 10 .any (Rows.markHasSpec.pre6 enc Try.prog Try.f10 Rows.markHasRow.domain false) (Rows.markHasSpec.post enc Try.prog Try.f10 false true false false) := by
  refine returnsInHanded_of_change_sized (C := Try.checked) own started (by kernel_rfl) Try.func10
    (ChangeSpec.witness6 (enc := enc) (C := Try.checked) false ⟨#[], #[.slice none 0 0, .int .i64 0], []⟩ 8 (by kernel_rfl) (by kernel_rfl) (by kernel_rfl) (by kernel_rfl)) ?_
  intro W base args ds gs before hval0 hW hcnd hsz0 _
  have hsz : (DataW.weightsEach Try.prog (Try.f10.params.toList ++ Rows.markHasSpec.plain.varTypes Try.prog) (ds ++ gs)).all (· ≤ reachBytes) = true := hsz0
  have hval : ∀ (j : Nat) t v, Try.f10.params[j]? = some t → args[j]? = some v → Value.okWide Try.prog W .any base t v := hval0
  have hW' := hW
  obtain ⟨p, q, hA0, hV, rfl, hfz, hnd⟩ := hW
  have hA : DataW.TrodAll enc Try.prog W 0 (fun _ => true) true Try.f10.params.toList args.toList ds p := hA0
  rw [Try.params10] at hA hval hsz
  obtain ⟨v0, vs0, d0, ds0, p0, q0, hargs, rfl, rfl, h0, r0⟩ := trodAll_cons hA
  obtain ⟨v1, vs1, d1, ds1, p1, q1, rfl, rfl, rfl, h1, r1⟩ := trodAll_cons r0
  obtain ⟨rfl, rfl, rfl⟩ := trodAll_nil r1
  obtain rfl : args = #[v0, v1] := by cases args; simp_all
  obtain ⟨rfl, rfl⟩ := trodVars_none hV
  have k0 := h0
  have lt0 : ∀ x ∈ p0, x.block < W.heap.size := by obtain ⟨m, hm⟩ := k0; exact DataW.trod_lt m _ _ _ hm
  obtain ⟨a0, len0, cap0, rfl⟩ := okWide_slice Try.underlying24 (hval 0 24 v0 rfl rfl)
  have y0 : len0 * 1 ≤ 140737488351232 := Go.Proofs.YtdfnhmgopihfcaaW.PrintWords.sized_ints hsz (j := 0) (t := 24) rfl rfl Try.underlying24 Try.underlying5 (by kernel_rfl) (by kernel_rfl) h0
  obtain ⟨l0, A0, c0, e0, hc0, hr0, hG0⟩ : ∃ (x_ : List Int) (A_ : Option Addr) (c_ : Nat), (Value.slice a0 len0 cap0).cells.toList = [.slice A_ x_.length c_] ∧ x_.length ≤ c_ ∧ Kd.C (Kd.int .u8) W A_ x_.length x_ ∧ (x_.length ≤ maxLen ∧ ∀ z0 ∈ x_, (Lit.int .u8 z0).wf = true) := by
    obtain ⟨fuel, hf⟩ := h0
    obtain ⟨x_, ⟨A_, c_, e_, hc_, hr_⟩, hG_⟩ := (Row.opens_slice Try.underlying24 (by kernel_rfl) (Row.opens_int Try.underlying5)) enc W fuel _ _ hf
    exact ⟨x_, A_, c_, e_, hc_, hr_, hG_⟩
  simp [Value.cells] at e0
  obtain ⟨rfl, rfl, rfl⟩ := e0
  obtain ⟨a1, rfl, rfl, rfl, w1⟩ := open_int Try.underlying3 (hval 1 3 v1 rfl rfl) h1
  clear hA0 hval0 hsz0 hsz
  refine (QMarkHas.truchmanlaw03_MarkHas.walk Pure.MarkHas a0 cap0 l0 a1 W hr0 hc0 hG0.1 y0 hG0.2 w1).mono fun e W' ⟨he, bel⟩ => ?_
  subst he
  exact ⟨_, rfl, _, _, _, [], _, [], hW', trodAll_mk1 (shut_bool Try.underlying4 _), (trodAll_cons_mk (Below.trod laidOut (by kernel_rfl) (of_decide_eq_true (by kernel_rfl)) k0 bel lt0) (trodAll_cons_mk (shut_int Try.underlying3 w1) trodAll_mk0)), rfl, bel.frame _, fun h => by cases h⟩
theorem over : Rows.markHasRow.holds Try.pinned (OpenSpec.ofChange Rows.markHasSpec) :=
  OpenClaim.holds_of_wide 10 Try.f10 rfl rfl rfl rfl rfl rfl rfl ⟨rfl, rfl, rfl, rfl, rfl⟩ rfl rfl rfl rfl rfl (by kernel_rfl) Try.func10 (by kernel_rfl)
    (of_decide_eq_true (by kernel_rfl)) (by unfold Func.isWrapper; first | (rw [if_pos (by decide +kernel)]; kernel_rfl) | (rw [if_neg (by decide +kernel)]; exact ⟨rfl, rfl⟩))
    (fun os started H enc _ => lifted os started H enc)
theorem proved : Rows.MarkHasSaid := over
end Go.Proofs.Ytdfnhmgopihfcaa.markHas
namespace Go.Proofs.Ytdfnhmgopihfcaa
/-- The row, under a short name, for the claim. -/
theorem markHas_holds : Rows.MarkHasSaid := markHas.proved
end Go.Proofs.Ytdfnhmgopihfcaa
