/- Plain laws of codes: the table's rows differ; program and reference find the same places. -/
import Derived.Test.YtemadfllannljaaDoorPx1
import Derived.Lib.Bytes
namespace Go.Proofs.YtemadfllannljaaDoor.Pure
open Go.RowKit Go.Proofs.YtemadfllannljaaDoor.P Go.Proofs.YtemadfllannljaaDoorW.PrintWords Go.Proofs.YtemadfllannljaaDoorW.PrintLast Go.Proofs.YtemadfllannljaaDoorW.PrintMore
open Go.Proofs.YtemadfllannljaaDoor.G (errs stats texts eOf sOf tOf codeOf placeOf fromCode findFrom codeOf_lt placeOf_lt)

theorem wrap_id {n : Int} (h0 : -9223372036854775808 ≤ n) (h1 : n ≤ 9223372036854775807) : wrap64 n = n := by
  unfold wrap64; omega

theorem around_eq (a m : Int) (ha : (Lit.int .i64 a).wf = true) (hm : 0 < m) (hm2 : m ≤ 9223372036854775807) : ∃ r : Nat, (r : Int) < m ∧ truchmanref01_Around.f a m = some (r : Int) := by
  have hw : -9223372036854775808 ≤ a ∧ a ≤ 9223372036854775807 := by
    simp [Lit.wf, IntKind.min, IntKind.max, IntKind.signed, IntKind.bits] at ha
    omega
  unfold truchmanref01_Around.f
  by_cases h : a < 0
  · rw [if_pos h, if_neg (by omega), wrap_id (n := a + 1) (by omega) (by omega), wrap_id (by omega) (by omega)]
    have h1 : Int.tmod (-(a + 1)) m = (-(a + 1)) % m := Int.tmod_eq_emod_of_nonneg (by omega)
    have h2 := Int.emod_nonneg (-(a + 1)) (show m ≠ 0 by omega)
    have h3 := Int.emod_lt_of_pos (-(a + 1)) hm
    exact ⟨((-(a + 1)) % m).toNat, by omega, by rw [h1]; congr 1; omega⟩
  · rw [if_neg h, if_neg (by omega)]
    have h1 : Int.tmod a m = a % m := Int.tmod_eq_emod_of_nonneg (by omega)
    have h2 := Int.emod_nonneg a (show m ≠ 0 by omega)
    have h3 := Int.emod_lt_of_pos a hm
    exact ⟨(a % m).toNat, by omega, by rw [h1]; congr 1; omega⟩

theorem place_status : ∀ k, k < 19 → placeOf (sOf k) = k := by decide
theorem code_err : ∀ k, k < 19 → codeOf (eOf k) = k := by decide
theorem lives08 : truchmanlaw08_lives.f = some true := by decide +kernel

theorem rd_errs (i : Nat) : rd errs (i : Int) = eOf i := rfl
theorem rd_stats (i : Nat) : rd stats (i : Int) = sOf i := rfl

theorem refCode_l0 (a : Int) (d : Nat) : ∀ i : Nat, i + d = 19 → Ev (fun k => truchmanref08_Code.l0 k a errs (i : Int)) ((findFrom (fun i => eOf i == a) d i : Nat) : Int) := by
  induction d with
  | zero =>
    intro i hd
    refine Ev.step (f := fun _ => some 15) (fun k => ?_) (Ev.now _)
    simp only [truchmanref08_Code.l0]
    rw [if_neg (by have : errs.length = 19 := rfl; omega)]
  | succ d ih =>
    intro i hd
    have hl : errs.length = 19 := rfl
    by_cases h : eOf i = a
    · refine Ev.step (f := fun _ => some (i : Int)) (fun k => ?_) ?_
      · simp only [truchmanref08_Code.l0]
        rw [if_pos (by omega), if_pos (by omega), rd_errs, if_pos h]
      · simp only [findFrom]
        rw [if_pos (beq_iff_eq.mpr h)]
        exact Ev.now _
    · refine Ev.step (f := fun k => truchmanref08_Code.l0 k a errs ((i + 1 : Nat) : Int)) (fun k => ?_) ?_
      · simp only [truchmanref08_Code.l0]
        rw [if_pos (by omega), if_pos (by omega), rd_errs, if_neg h, wrap_id (by omega) (by omega)]
        rfl
      · simp only [findFrom]
        rw [if_neg (by simp [h])]
        exact ih (i + 1) (by omega)

theorem refCode_ev (a : Int) : Ev (fun k => truchmanref08_Code.f k a) ((codeOf a : Nat) : Int) := refCode_l0 a 19 0 rfl

theorem refStatus_ev (a : Int) : Ev (fun k => truchmanref08_Status.f k a) (sOf (codeOf a)) := by
  unfold truchmanref08_Status.f
  refine Ev.congr (f := fun k => (truchmanref08_Code.f k a).bind fun t114 => (if 0 ≤ t114 then (if t114 < (stats.length : Int) then (some (rd stats t114)) else (none)) else (none))) (fun k => rfl) ?_
  refine Ev.bind (refCode_ev a) ?_
  refine Ev.congr (fun k => ?_) (Ev.now _)
  have := codeOf_lt a
  rw [if_pos (by omega), if_pos (by have : stats.length = 19 := rfl; omega), rd_stats]

theorem refText_ev (a : Int) : Ev (fun k => truchmanref08_Text.f k a) (tOf (codeOf a)) := by
  refine Ev.congr (f := fun k => (truchmanref08_Code.f k a).bind fun t119 => (if 0 ≤ t119 then (if t119 < (texts.length : Int) then (some (rdOf ByteArray.empty texts t119)) else (none)) else (none))) (fun k => rfl) ?_
  refine Ev.bind (refCode_ev a) ?_
  refine Ev.congr (fun k => ?_) (Ev.now _)
  have := codeOf_lt a
  rw [if_pos (by omega), if_pos (by have : texts.length = 19 := rfl; omega)]
  rfl

end Go.Proofs.YtemadfllannljaaDoor.Pure
