-- Written by a program of this session (wip/tools), over the kit's printer; Lean checks it.
import Derived.Test.YtfoifcilacbipaaRows
import Derived.Test.YtfoifcilacbipaaQRpcSamex1
import Derived.Test.YtfoifcilacbipaaPureRpcSame
import Derived.Test.YtfoifcilacbipaaR2
import Derived.Test.YtfoifcilacbipaaWSized
import Derived.WalkKit
import Derived.ProofKit
import Derived.OpenShut
import Derived.ShutString
import Derived.ChangeOld
import Derived.Below
import Derived.SizedLaws
namespace Go.Proofs.Ytfoifcilacbipaa.rpcSame
open Go.ChangeShapes Go.WideShapes Go.ChangeAt Go.RowKit Go.Proofs.Ytfoifcilacbipaa Go.Proofs.Ytfoifcilacbipaa.QRpcSame Go.Proofs.YtfoifcilacbipaaW.PrintWords Go.Proofs.YtfoifcilacbipaaW.PrintLast
open Go.ChangeMaps (open_string shut_string)
set_option linter.unusedVariables false
theorem own : ownKnob Try.prog.godebug = none := by kernel_rfl
theorem laidOut : laidOutB Try.prog = true := by kernel_rfl
set_option maxRecDepth 100000 in
set_option maxHeartbeats 4000000 in
theorem lifted (os : Os) (started : os.Started) (H : Type) (enc : TypeId × Value → H) :
    ReturnsInHanded {} Try.checked os 3 .any (Rows.rpcSameSpec.pre6 enc Try.prog Try.f3 Rows.rpcSameRow.domain false) (Rows.rpcSameSpec.post enc Try.prog Try.f3 false true false false) := by
  refine returnsInHanded_of_change_sized (C := Try.checked) own started (by kernel_rfl) Try.func3
    (ChangeSpec.witness6 (enc := enc) (C := Try.checked) false ⟨#[], #[.agg #[.bool false, .int .u32 0, .int .u32 0, .string ByteArray.empty], .agg #[.bool false, .int .u32 0, .int .u32 0, .string ByteArray.empty]], []⟩ 8 (by kernel_rfl) (by kernel_rfl) (by kernel_rfl) (by kernel_rfl)) ?_
  intro W base args ds gs before hval0 hW hcnd hsz0 _
  have hsz : (DataW.weightsEach Try.prog (Try.f3.params.toList ++ Rows.rpcSameSpec.plain.varTypes Try.prog) (ds ++ gs)).all (· ≤ reachBytes) = true := hsz0
  have hval : ∀ (j : Nat) t v, Try.f3.params[j]? = some t → args[j]? = some v → Value.okWide Try.prog W .any base t v := hval0
  have hW' := hW
  obtain ⟨p, q, hA0, hV, rfl, hfz, hnd⟩ := hW
  have hA : DataW.TrodAll enc Try.prog W 0 (fun _ => true) true Try.f3.params.toList args.toList ds p := hA0
  rw [Try.params3] at hA hval hsz
  obtain ⟨v0, vs0, d0, ds0, p0, q0, hargs, rfl, rfl, h0, r0⟩ := trodAll_cons hA
  obtain ⟨v1, vs1, d1, ds1, p1, q1, rfl, rfl, rfl, h1, r1⟩ := trodAll_cons r0
  obtain ⟨rfl, rfl, rfl⟩ := trodAll_nil r1
  obtain rfl : args = #[v0, v1] := by cases args; simp_all
  obtain ⟨rfl, rfl⟩ := trodVars_none hV
  have k0 := h0
  have lt0 : ∀ x ∈ p0, x.block < W.heap.size := by obtain ⟨m, hm⟩ := k0; exact DataW.trod_lt m _ _ _ hm
  obtain ⟨cs0, rfl⟩ := Row.okWide_struct Try.underlying24 (hval 0 24 v0 rfl rfl)
  obtain ⟨m0, hm0⟩ := h0
  have hz0 : DataW.trod enc Try.prog W 0 (fun _ => true) true m0 24 cs0.toList = some _ := hm0
  have hl0x := Row.trod_len Try.underlying24 hz0 4 (by kernel_rfl)
  obtain ⟨n0x_0, y0x_0, hy0x_0⟩ := Row.trod_field Try.underlying24 hz0 0 _ rfl 4 0 1 rfl rfl (by kernel_rfl)
  obtain ⟨a0_0, hp0x_0, hG0_0⟩ : ∃ x_ : Bool, ((cs0.toList).drop 0).take 1 = [.bool x_] ∧ True := (Row.opens_bool Try.underlying4) enc W n0x_0 _ _ hy0x_0
  obtain ⟨n0x_1, y0x_1, hy0x_1⟩ := Row.trod_field Try.underlying24 hz0 1 _ rfl 22 1 1 rfl rfl (by kernel_rfl)
  obtain ⟨a0_1, hp0x_1, hG0_1⟩ : ∃ x_ : Int, ((cs0.toList).drop 1).take 1 = [.int .u32 x_] ∧ (Lit.int .u32 x_).wf = true := (Row.opens_int Try.underlying22) enc W n0x_1 _ _ hy0x_1
  obtain ⟨n0x_2, y0x_2, hy0x_2⟩ := Row.trod_field Try.underlying24 hz0 2 _ rfl 22 2 1 rfl rfl (by kernel_rfl)
  obtain ⟨a0_2, hp0x_2, hG0_2⟩ : ∃ x_ : Int, ((cs0.toList).drop 2).take 1 = [.int .u32 x_] ∧ (Lit.int .u32 x_).wf = true := (Row.opens_int Try.underlying22) enc W n0x_2 _ _ hy0x_2
  obtain ⟨n0x_3, y0x_3, hy0x_3⟩ := Row.trod_field Try.underlying24 hz0 3 _ rfl 9 3 1 rfl rfl (by kernel_rfl)
  obtain ⟨a0_3, hp0x_3, hG0_3⟩ : ∃ x_ : ByteArray, ((cs0.toList).drop 3).take 1 = [.string x_] ∧ x_.size ≤ maxLen := (Row.opens_string Try.underlying9) enc W n0x_3 _ _ hy0x_3
  have hp0x : cs0.toList = [.bool a0_0, .int .u32 a0_1, .int .u32 a0_2, .string a0_3] := by
    have e0_ : cs0.toList = (cs0.toList).drop 0 := rfl
    rw [e0_, Row.cut_at _ 0 1, hp0x_0, Row.cut_at _ 1 1, hp0x_1, Row.cut_at _ 2 1, hp0x_2, Row.cut_at _ 3 1, hp0x_3, List.drop_of_length_le (by rw [hl0x]; exact Nat.le_refl _)]
    rfl
  obtain rfl : cs0 = #[.bool a0_0, .int .u32 a0_1, .int .u32 a0_2, .string a0_3] := Array.ext' hp0x
  have k1 := h1
  have lt1 : ∀ x ∈ p1, x.block < W.heap.size := by obtain ⟨m, hm⟩ := k1; exact DataW.trod_lt m _ _ _ hm
  obtain ⟨cs1, rfl⟩ := Row.okWide_struct Try.underlying24 (hval 1 24 v1 rfl rfl)
  obtain ⟨m1, hm1⟩ := h1
  have hz1 : DataW.trod enc Try.prog W 0 (fun _ => true) true m1 24 cs1.toList = some _ := hm1
  have hl1x := Row.trod_len Try.underlying24 hz1 4 (by kernel_rfl)
  obtain ⟨n1x_0, y1x_0, hy1x_0⟩ := Row.trod_field Try.underlying24 hz1 0 _ rfl 4 0 1 rfl rfl (by kernel_rfl)
  obtain ⟨a1_0, hp1x_0, hG1_0⟩ : ∃ x_ : Bool, ((cs1.toList).drop 0).take 1 = [.bool x_] ∧ True := (Row.opens_bool Try.underlying4) enc W n1x_0 _ _ hy1x_0
  obtain ⟨n1x_1, y1x_1, hy1x_1⟩ := Row.trod_field Try.underlying24 hz1 1 _ rfl 22 1 1 rfl rfl (by kernel_rfl)
  obtain ⟨a1_1, hp1x_1, hG1_1⟩ : ∃ x_ : Int, ((cs1.toList).drop 1).take 1 = [.int .u32 x_] ∧ (Lit.int .u32 x_).wf = true := (Row.opens_int Try.underlying22) enc W n1x_1 _ _ hy1x_1
  obtain ⟨n1x_2, y1x_2, hy1x_2⟩ := Row.trod_field Try.underlying24 hz1 2 _ rfl 22 2 1 rfl rfl (by kernel_rfl)
  obtain ⟨a1_2, hp1x_2, hG1_2⟩ : ∃ x_ : Int, ((cs1.toList).drop 2).take 1 = [.int .u32 x_] ∧ (Lit.int .u32 x_).wf = true := (Row.opens_int Try.underlying22) enc W n1x_2 _ _ hy1x_2
  obtain ⟨n1x_3, y1x_3, hy1x_3⟩ := Row.trod_field Try.underlying24 hz1 3 _ rfl 9 3 1 rfl rfl (by kernel_rfl)
  obtain ⟨a1_3, hp1x_3, hG1_3⟩ : ∃ x_ : ByteArray, ((cs1.toList).drop 3).take 1 = [.string x_] ∧ x_.size ≤ maxLen := (Row.opens_string Try.underlying9) enc W n1x_3 _ _ hy1x_3
  have hp1x : cs1.toList = [.bool a1_0, .int .u32 a1_1, .int .u32 a1_2, .string a1_3] := by
    have e0_ : cs1.toList = (cs1.toList).drop 0 := rfl
    rw [e0_, Row.cut_at _ 0 1, hp1x_0, Row.cut_at _ 1 1, hp1x_1, Row.cut_at _ 2 1, hp1x_2, Row.cut_at _ 3 1, hp1x_3, List.drop_of_length_le (by rw [hl1x]; exact Nat.le_refl _)]
    rfl
  obtain rfl : cs1 = #[.bool a1_0, .int .u32 a1_1, .int .u32 a1_2, .string a1_3] := Array.ext' hp1x
  clear hA0 hval0 hsz0 hsz
  refine (QRpcSame.truchmanlaw06_RpcSame.walk Pure.RpcSame a0_0 a0_1 a0_2 a0_3 a1_0 a1_1 a1_2 a1_3 W  hG0_1 hG0_2 hG0_3 hG1_1 hG1_2 hG1_3).mono fun e W' ⟨he, bel⟩ => ?_
  subst he
  exact ⟨_, rfl, _, _, _, [], _, [], hW', trodAll_mk1 (shut_bool Try.underlying4 _), (trodAll_cons_mk (Below.trod laidOut (by kernel_rfl) (of_decide_eq_true (by kernel_rfl)) k0 bel lt0) (trodAll_cons_mk (Below.trod laidOut (by kernel_rfl) (of_decide_eq_true (by kernel_rfl)) k1 bel lt1) trodAll_mk0)), rfl, bel.frame _, fun h => by cases h⟩
theorem over : Rows.rpcSameRow.holds Try.pinned (OpenSpec.ofChange Rows.rpcSameSpec) :=
  OpenClaim.holds_of_wide 3 Try.f3 rfl rfl rfl rfl rfl rfl rfl ⟨rfl, rfl, rfl, rfl, rfl⟩ rfl rfl rfl rfl rfl (by kernel_rfl) Try.func3 (by kernel_rfl)
    (of_decide_eq_true (by kernel_rfl)) (by unfold Func.isWrapper; first | (rw [if_pos (by decide +kernel)]; kernel_rfl) | (rw [if_neg (by decide +kernel)]; exact ⟨rfl, rfl⟩))
    (fun os started H enc _ => lifted os started H enc)
theorem proved : Rows.RpcSameSaid := over
end Go.Proofs.Ytfoifcilacbipaa.rpcSame
namespace Go.Proofs.Ytfoifcilacbipaa
/-- The row, under a short name, for the claim. -/
theorem rpcSame_holds : Rows.RpcSameSaid := rpcSame.proved
end Go.Proofs.Ytfoifcilacbipaa
