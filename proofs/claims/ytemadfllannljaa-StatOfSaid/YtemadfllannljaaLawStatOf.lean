-- Written by a program of this session (wip/tools), over the kit's printer; Lean checks it.
import Derived.Test.YtemadfllannljaaRows
import Derived.Test.YtemadfllannljaaPx5
import Derived.Test.YtemadfllannljaaPureStatOf
import Derived.Test.YtemadfllannljaaR2
import Derived.Test.YtemadfllannljaaWSized
import Derived.WalkKit
import Derived.ProofKit
import Derived.OpenShut
import Derived.ShutString
import Derived.ChangeOld
import Derived.Below
import Derived.SizedLaws
namespace Go.Proofs.Ytemadfllannljaa.statOf
open Go.ChangeShapes Go.WideShapes Go.ChangeAt Go.RowKit Go.Proofs.Ytemadfllannljaa Go.Proofs.Ytemadfllannljaa.P Go.Proofs.YtemadfllannljaaW.PrintWords Go.Proofs.YtemadfllannljaaW.PrintLast
open Go.ChangeMaps (open_string shut_string)
set_option linter.unusedVariables false
theorem own : ownKnob Try.prog.godebug = none := by kernel_rfl
theorem laidOut : laidOutB Try.prog = true := by kernel_rfl
set_option maxRecDepth 100000 in
set_option maxHeartbeats 4000000 in
theorem lifted (os : Os) (started : os.Started) (H : Type) (enc : TypeId × Value → H) :
    ReturnsInHanded {} Try.checked os 4 .any (Rows.statOfSpec.pre6 enc Try.prog Try.f4 Rows.statOfRow.domain false) (Rows.statOfSpec.post enc Try.prog Try.f4 false true false false) := by
  refine returnsInHanded_of_change_sized (C := Try.checked) own started (by kernel_rfl) Try.func4
    (ChangeSpec.witness6 (enc := enc) (C := Try.checked) false ⟨#[], #[.agg #[.int .i64 0, .int .i64 0, .int .i64 0, .int .i64 0, .int .i64 0], .string ByteArray.empty], []⟩ 8 (by kernel_rfl) (by kernel_rfl) (by kernel_rfl) (by kernel_rfl)) ?_
  intro W base args ds gs before hval0 hW hcnd hsz0 _
  have hsz : (DataW.weightsEach Try.prog (Try.f4.params.toList ++ Rows.statOfSpec.plain.varTypes Try.prog) (ds ++ gs)).all (· ≤ reachBytes) = true := hsz0
  have hval : ∀ (j : Nat) t v, Try.f4.params[j]? = some t → args[j]? = some v → Value.okWide Try.prog W .any base t v := hval0
  have hW' := hW
  obtain ⟨p, q, hA0, hV, rfl, hfz, hnd⟩ := hW
  have hA : DataW.TrodAll enc Try.prog W 0 (fun _ => true) true Try.f4.params.toList args.toList ds p := hA0
  rw [Try.params4] at hA hval hsz
  obtain ⟨v0, vs0, d0, ds0, p0, q0, hargs, rfl, rfl, h0, r0⟩ := trodAll_cons hA
  obtain ⟨v1, vs1, d1, ds1, p1, q1, rfl, rfl, rfl, h1, r1⟩ := trodAll_cons r0
  obtain ⟨rfl, rfl, rfl⟩ := trodAll_nil r1
  obtain rfl : args = #[v0, v1] := by cases args; simp_all
  obtain ⟨rfl, rfl⟩ := trodVars_none hV
  have k0 := h0
  have lt0 : ∀ x ∈ p0, x.block < W.heap.size := by obtain ⟨m, hm⟩ := k0; exact DataW.trod_lt m _ _ _ hm
  obtain ⟨cs0, rfl⟩ := Row.okWide_struct Try.underlying34 (hval 0 34 v0 rfl rfl)
  obtain ⟨m0, hm0⟩ := h0
  have hz0 : DataW.trod enc Try.prog W 0 (fun _ => true) true m0 34 cs0.toList = some _ := hm0
  have hl0x := Row.trod_len Try.underlying34 hz0 5 (by kernel_rfl)
  obtain ⟨n0x_0, y0x_0, hy0x_0⟩ := Row.trod_field Try.underlying34 hz0 0 _ rfl 32 0 2 rfl rfl (by kernel_rfl)
  have hl0x_0 := Row.trod_len Try.underlying32 hy0x_0 2 (by kernel_rfl)
  obtain ⟨n0x_0_0, y0x_0_0, hy0x_0_0⟩ := Row.trod_field Try.underlying32 hy0x_0 0 _ rfl 3 0 1 rfl rfl (by kernel_rfl)
  obtain ⟨a0_0, hp0x_0_0, hG0_0⟩ : ∃ x_ : Int, ((((cs0.toList).drop 0).take 2).drop 0).take 1 = [.int .i64 x_] ∧ (Lit.int .i64 x_).wf = true := (Row.opens_int Try.underlying3) enc W n0x_0_0 _ _ hy0x_0_0
  obtain ⟨n0x_0_1, y0x_0_1, hy0x_0_1⟩ := Row.trod_field Try.underlying32 hy0x_0 1 _ rfl 3 1 1 rfl rfl (by kernel_rfl)
  obtain ⟨a0_1, hp0x_0_1, hG0_1⟩ : ∃ x_ : Int, ((((cs0.toList).drop 0).take 2).drop 1).take 1 = [.int .i64 x_] ∧ (Lit.int .i64 x_).wf = true := (Row.opens_int Try.underlying3) enc W n0x_0_1 _ _ hy0x_0_1
  have hp0x_0 : ((cs0.toList).drop 0).take 2 = [.int .i64 a0_0, .int .i64 a0_1] := by
    have e0_ : ((cs0.toList).drop 0).take 2 = (((cs0.toList).drop 0).take 2).drop 0 := rfl
    rw [e0_, Row.cut_at _ 0 1, hp0x_0_0, Row.cut_at _ 1 1, hp0x_0_1, List.drop_of_length_le (by rw [hl0x_0]; exact Nat.le_refl _)]
    rfl
  obtain ⟨n0x_1, y0x_1, hy0x_1⟩ := Row.trod_field Try.underlying34 hz0 1 _ rfl 3 2 1 rfl rfl (by kernel_rfl)
  obtain ⟨a0_2, hp0x_1, hG0_2⟩ : ∃ x_ : Int, ((cs0.toList).drop 2).take 1 = [.int .i64 x_] ∧ (Lit.int .i64 x_).wf = true := (Row.opens_int Try.underlying3) enc W n0x_1 _ _ hy0x_1
  obtain ⟨n0x_2, y0x_2, hy0x_2⟩ := Row.trod_field Try.underlying34 hz0 2 _ rfl 3 3 1 rfl rfl (by kernel_rfl)
  obtain ⟨a0_3, hp0x_2, hG0_3⟩ : ∃ x_ : Int, ((cs0.toList).drop 3).take 1 = [.int .i64 x_] ∧ (Lit.int .i64 x_).wf = true := (Row.opens_int Try.underlying3) enc W n0x_2 _ _ hy0x_2
  obtain ⟨n0x_3, y0x_3, hy0x_3⟩ := Row.trod_field Try.underlying34 hz0 3 _ rfl 3 4 1 rfl rfl (by kernel_rfl)
  obtain ⟨a0_4, hp0x_3, hG0_4⟩ : ∃ x_ : Int, ((cs0.toList).drop 4).take 1 = [.int .i64 x_] ∧ (Lit.int .i64 x_).wf = true := (Row.opens_int Try.underlying3) enc W n0x_3 _ _ hy0x_3
  have hp0x : cs0.toList = [.int .i64 a0_0, .int .i64 a0_1, .int .i64 a0_2, .int .i64 a0_3, .int .i64 a0_4] := by
    have e0_ : cs0.toList = (cs0.toList).drop 0 := rfl
    rw [e0_, Row.cut_at _ 0 2, hp0x_0, Row.cut_at _ 2 1, hp0x_1, Row.cut_at _ 3 1, hp0x_2, Row.cut_at _ 4 1, hp0x_3, List.drop_of_length_le (by rw [hl0x]; exact Nat.le_refl _)]
    rfl
  obtain rfl : cs0 = #[.int .i64 a0_0, .int .i64 a0_1, .int .i64 a0_2, .int .i64 a0_3, .int .i64 a0_4] := Array.ext' hp0x
  obtain ⟨a1, rfl, rfl, rfl, y1⟩ := open_string Try.underlying9 (hval 1 9 v1 rfl rfl) h1
  have w1 : a1.size ≤ 140737488351232 := by
    have z := sized_string hsz (j := 1) (t := 9) rfl rfl
    rw [Array.length_toList] at z
    exact z
  clear hA0 hval0 hsz0 hsz
  refine (P.truchmanlaw19_StatOf.walk Pure.StatOf a0_0 a0_1 a0_2 a0_3 a0_4 a1 W  hG0_0 hG0_1 hG0_2 hG0_3 hG0_4 w1).mono fun e W' ⟨he, bel⟩ => ?_
  subst he
  exact ⟨_, rfl, _, _, _, [], _, [], hW', trodAll_mk1 (shut_bool Try.underlying4 _), (trodAll_cons_mk (Below.trod laidOut (by kernel_rfl) (of_decide_eq_true (by kernel_rfl)) k0 bel lt0) (trodAll_cons_mk (shut_string Try.underlying9 y1) trodAll_mk0)), rfl, bel.frame _, fun h => by cases h⟩
theorem over : Rows.statOfRow.holds Try.pinned (OpenSpec.ofChange Rows.statOfSpec) :=
  OpenClaim.holds_of_wide 4 Try.f4 rfl rfl rfl rfl rfl rfl rfl ⟨rfl, rfl, rfl, rfl, rfl⟩ rfl rfl rfl rfl rfl (by kernel_rfl) Try.func4 (by kernel_rfl)
    (of_decide_eq_true (by kernel_rfl)) (by unfold Func.isWrapper; first | (rw [if_pos (by decide +kernel)]; kernel_rfl) | (rw [if_neg (by decide +kernel)]; exact ⟨rfl, rfl⟩))
    (fun os started H enc _ => lifted os started H enc)
theorem proved : Rows.StatOfSaid := over
end Go.Proofs.Ytemadfllannljaa.statOf
namespace Go.Proofs.Ytemadfllannljaa
/-- The row, under a short name, for the claim. -/
theorem statOf_holds : Rows.StatOfSaid := statOf.proved
end Go.Proofs.Ytemadfllannljaa
