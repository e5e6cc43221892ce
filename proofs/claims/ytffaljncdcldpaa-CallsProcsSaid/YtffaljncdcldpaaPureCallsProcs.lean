/- All procedures are told, rising, and each has bytes of its own: for every input that the statement takes. -/
import Derived.Test.YtffaljncdcldpaaL14
import Derived.Test.YtffaljncdcldpaaPx2
namespace Go.Proofs.Ytffaljncdcldpaa.Pure
open Go.RowKit Go.Proofs.Ytffaljncdcldpaa.P Go.Proofs.Ytffaljncdcldpaa.G Go.Proofs.YtffaljncdcldpaaW.PrintWords Go.Proofs.YtffaljncdcldpaaW.PrintLast Go.Proofs.YtffaljncdcldpaaW.PrintMore

def procsL : List Int := [1, 2, 3, 6, 7, 8, 9, 12, 13, 14, 16]
theorem procs_at : ∀ d, calls_Procs.f (20 + d) = some procsL := by
  intro d
  induction d with
  | zero => decide +kernel
  | succ d ih => exact calls_Procs.mono (20 + d) _ ih
theorem procs_one : ∀ i : Fin 11, truchmanlaw14_CallsProcs.f 40 (procsL.getD i.val 0) = some true := by decide +kernel

theorem step (n : Int) (h : ∀ i : Fin 11, (procsL.getD i.val 0 == n) = false) (k i : Nat) (hi : i < 11) : truchmanlaw14_CallsProcs.l0 (k + 1) n procsL procsL false (i : Int) = truchmanlaw14_CallsProcs.l0 k n procsL procsL false ((i + 1 : Nat) : Int) := by
  simp only [truchmanlaw14_CallsProcs.l0]
  have hl : (procsL.length : Int) = 11 := rfl
  have hr : (rd procsL (i : Int) == n) = false := by have := h ⟨i, hi⟩; unfold rd; rw [Int.toNat_natCast]; exact this
  rw [if_pos (by omega), if_pos (by omega), if_pos (by omega), if_pos (by omega), if_pos trivial, if_neg (by decide), hr, wrap_id (by omega) (by omega)]
  rfl

theorem may_none (n : Int) (h1 : n ≠ 1) (h2 : n ≠ 2) (h3 : n ≠ 3) (h4 : n ≠ 12) (h5 : n ≠ 13) (h6 : n ≠ 6) (h7 : n ≠ 16) (h8 : n ≠ 7) (h9 : n ≠ 8) (h10 : n ≠ 9) (h11 : n ≠ 14) : calls_May.f n 0 0 0 0 0 0 0 0 (⟨#[]⟩ : ByteArray) (⟨#[]⟩ : ByteArray) ([] : List Int) = some false := by
  have hf := fieldsB_none h1 h2 h3 h4 h5 h6 h7 h8 h9 h10 h11
  unfold calls_May.f
  rw [if_pos (by decide)]
  unfold mayA
  have e : (arOf n 0 0 0 0 0 0 0 0 ⟨#[]⟩ ⟨#[]⟩ []).p = n := rfl
  rw [e, hf]
  have z : decide ((⟨#[]⟩ : ByteArray).size ≠ 0) = false := by decide
  rw [z, Bool.false_and, Bool.and_false, Bool.and_false]

theorem CallsProcs : truchmanlaw14_CallsProcs.Pure := by
  intro n hn
  rcases p_cases n with rfl | rfl | rfl | rfl | rfl | rfl | rfl | rfl | rfl | rfl | rfl | ⟨h1, h2, h3, h4, h5, h6, h7, h8, h9, h10, h11⟩
  · exact ⟨40, procs_one ⟨0, by decide⟩⟩
  · exact ⟨40, procs_one ⟨1, by decide⟩⟩
  · exact ⟨40, procs_one ⟨2, by decide⟩⟩
  · exact ⟨40, procs_one ⟨7, by decide⟩⟩
  · exact ⟨40, procs_one ⟨8, by decide⟩⟩
  · exact ⟨40, procs_one ⟨3, by decide⟩⟩
  · exact ⟨40, procs_one ⟨10, by decide⟩⟩
  · exact ⟨40, procs_one ⟨4, by decide⟩⟩
  · exact ⟨40, procs_one ⟨5, by decide⟩⟩
  · exact ⟨40, procs_one ⟨6, by decide⟩⟩
  · exact ⟨40, procs_one ⟨9, by decide⟩⟩
  · refine ⟨40, ?_⟩
    have h : ∀ i : Fin 11, (procsL.getD i.val 0 == n) = false := by
      intro i
      rcases i with ⟨i, hi⟩
      rcases i with _ | _ | _ | _ | _ | _ | _ | _ | _ | _ | _ | i
      all_goals first
        | omega
        | exact beq_eq_false_iff_ne.mpr (fun h => by have h' : _ = n := h; simp [procsL] at h'; omega)
    unfold truchmanlaw14_CallsProcs.f
    rw [procs_at 20, Option.bind_some, if_pos (by decide)]
    show truchmanlaw14_CallsProcs.l0 40 n procsL procsL false ((0 : Nat) : Int) = some true
    rw [step n h 39 0 (by omega), step n h 38 1 (by omega), step n h 37 2 (by omega), step n h 36 3 (by omega), step n h 35 4 (by omega), step n h 34 5 (by omega), step n h 33 6 (by omega), step n h 32 7 (by omega), step n h 31 8 (by omega), step n h 30 9 (by omega), step n h 29 10 (by omega)]
    simp only [truchmanlaw14_CallsProcs.l0]
    rw [if_neg (by decide), may_none n h1 h2 h3 h4 h5 h6 h7 h8 h9 h10 h11, Option.bind_some, if_pos (by decide), lives14]
    rfl

end Go.Proofs.Ytffaljncdcldpaa.Pure
