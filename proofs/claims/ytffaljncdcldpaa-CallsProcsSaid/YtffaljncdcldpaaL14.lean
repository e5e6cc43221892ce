/- Plain laws of calls: Around; the document's example. -/
import Derived.Test.YtffaljncdcldpaaPx2
namespace Go.Proofs.Ytffaljncdcldpaa.Pure
open Go.RowKit Go.Proofs.Ytffaljncdcldpaa.P Go.Proofs.Ytffaljncdcldpaa.G Go.Proofs.YtffaljncdcldpaaW.PrintWords Go.Proofs.YtffaljncdcldpaaW.PrintLast Go.Proofs.YtffaljncdcldpaaW.PrintMore

theorem wrap_id {n : Int} (h0 : -9223372036854775808 ≤ n) (h1 : n ≤ 9223372036854775807) : wrap64 n = n := by
  unfold wrap64; omega

theorem around_eq (a m : Int) (ha : (Lit.int .i64 a).wf = true) (hm : 0 < m) (hm2 : m ≤ 9223372036854775807) : ∃ r : Nat, (r : Int) < m ∧ truchmanref01_Around.f a m = some (r : Int) := by
  have hw : -9223372036854775808 ≤ a ∧ a ≤ 9223372036854775807 := by
    simp [Lit.wf, IntKind.min, IntKind.max, IntKind.signed, IntKind.bits] at ha
    omega
  unfold truchmanref01_Around.f
  by_cases h : a < 0
  · rw [if_pos h, if_neg (by omega), wrap_id (n := a + 1) (by omega) (by omega), wrap_id (by omega) (by omega)]
    have h1 : Int.tmod (-(a + 1)) m = (-(a + 1)) % m := Int.tmod_eq_emod_of_nonneg (by omega)
    have h2 := Int.emod_nonneg (-(a + 1)) (show m ≠ 0 by omega)
    have h3 := Int.emod_lt_of_pos (-(a + 1)) hm
    exact ⟨((-(a + 1)) % m).toNat, by omega, by rw [h1]; congr 1; omega⟩
  · rw [if_neg h, if_neg (by omega)]
    have h1 : Int.tmod a m = a % m := Int.tmod_eq_emod_of_nonneg (by omega)
    have h2 := Int.emod_nonneg a (show m ≠ 0 by omega)
    have h3 := Int.emod_lt_of_pos a hm
    exact ⟨(a % m).toNat, by omega, by rw [h1]; congr 1; omega⟩

theorem lives14 : truchmanlaw14_lives.f = some true := by decide +kernel
end Go.Proofs.Ytffaljncdcldpaa.Pure
