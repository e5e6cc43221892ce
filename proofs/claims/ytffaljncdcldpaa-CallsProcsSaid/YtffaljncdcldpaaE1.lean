/- Hand-made contracts of calls: fields, own. -/
import Derived.Test.YtffaljncdcldpaaG0
import Derived.Test.YtffaljncdcldpaaWMore
import Derived.Test.YtffaljncdcldpaaWEqStruct
import Derived.Deep.RegionHeld3
import Derived.Deep.LoopGhost
import Derived.Lib.OthersKept
import Derived.Below
namespace Go.Proofs.Ytffaljncdcldpaa.G
open Go.RowKit Go.Proofs.YtffaljncdcldpaaW.PrintWords Go.Proofs.YtffaljncdcldpaaW.PrintLast Go.Proofs.YtffaljncdcldpaaW.PrintMore
set_option linter.unusedVariables false
set_option linter.unusedSimpArgs false

/-- The letters of a procedure's fields. -/
def fieldsB (p : Int) : ByteArray :=
  if p = 1 then ⟨#[104]⟩ else if p = 2 then ⟨#[104, 115]⟩ else if p = 3 ∨ p = 12 ∨ p = 13 then ⟨#[104, 110]⟩ else if p = 6 ∨ p = 16 then ⟨#[104, 111, 99]⟩ else if p = 7 then ⟨#[104, 111, 100]⟩ else if p = 8 ∨ p = 9 then ⟨#[104, 110, 109]⟩ else if p = 14 then ⟨#[104, 110, 72, 78]⟩ else ⟨#[]⟩

theorem p_cases (p : Int) : p = 1 ∨ p = 2 ∨ p = 3 ∨ p = 12 ∨ p = 13 ∨ p = 6 ∨ p = 16 ∨ p = 7 ∨ p = 8 ∨ p = 9 ∨ p = 14 ∨ (p ≠ 1 ∧ p ≠ 2 ∧ p ≠ 3 ∧ p ≠ 12 ∧ p ≠ 13 ∧ p ≠ 6 ∧ p ≠ 16 ∧ p ≠ 7 ∧ p ≠ 8 ∧ p ≠ 9 ∧ p ≠ 14) := by omega

set_option maxHeartbeats 4000000 in
theorem fields_calls (p : Int) (w : World) : Calls Try.prog 41 #[.int .i64 p] w fun e w' => e = .returned (.string (fieldsB p)) ∧ w' = w := by
  rcases p_cases p with rfl | rfl | rfl | rfl | rfl | rfl | rfl | rfl | rfl | rfl | rfl | ⟨h1, h2, h3, h4, h5, h6, h7, h8, h9, h10, h11⟩
  all_goals first
    | (go_enter Try.func41, Try.ntmps41; go_wp2_with fail; go_ret; exact ⟨rfl, rfl⟩)
    | skip
  have hf : fieldsB p = ⟨#[]⟩ := by unfold fieldsB; simp [h1, h2, h3, h4, h5, h6, h7, h8, h9, h10, h11]
  rw [hf]
  clear hf
  have b1 : (p == 1) = false := by simpa using h1
  have b2 : (p == 2) = false := by simpa using h2
  have b3 : (p == 3) = false := by simpa using h3
  have b4 : (p == 12) = false := by simpa using h4
  have b5 : (p == 13) = false := by simpa using h5
  have b6 : (p == 6) = false := by simpa using h6
  have b7 : (p == 16) = false := by simpa using h7
  have b8 : (p == 7) = false := by simpa using h8
  have b9 : (p == 8) = false := by simpa using h9
  have b10 : (p == 9) = false := by simpa using h10
  have b11 : (p == 14) = false := by simpa using h11
  go_enter Try.func41, Try.ntmps41
  go_wp2_with fail
  go_ret
  exact ⟨rfl, rfl⟩
end Go.Proofs.Ytffaljncdcldpaa.G
