/- Each of these errors is found again by its status and its code; no two have one text: any two of them. -/
import Derived.Test.YtemadfllannljaaDoorL08
import Derived.Test.YtemadfllannljaaDoorPx3
namespace Go.Proofs.YtemadfllannljaaDoor.Pure
open Go.RowKit Go.Proofs.YtemadfllannljaaDoor.P Go.Proofs.YtemadfllannljaaDoorW.PrintWords Go.Proofs.YtemadfllannljaaDoorW.PrintLast Go.Proofs.YtemadfllannljaaDoorW.PrintMore
open Go.Proofs.YtemadfllannljaaDoor.G (errs stats texts eOf sOf tOf codeOf placeOf fromCode findFrom codeOf_lt placeOf_lt)

theorem texts_apart : ∀ i, i < 19 → ∀ j, j < 19 → (((tOf i).toList == (tOf j).toList) == (eOf i == eOf j)) = true := by decide +kernel
theorem status_apart : ∀ i, i < 19 → ∀ j, j < 19 → ((sOf i == sOf j) == (eOf i == eOf j)) = true := by decide +kernel

theorem round_l0 (a b : Int) (d : Nat) : ∀ i : Nat, i + d = 19 → Ev (fun k => truchmanlaw08_CodesRound.l0 k a b errs errs (19 : Nat)) true → Ev (fun k => truchmanlaw08_CodesRound.l0 k a b errs errs (i : Int)) true := by
  have hl : errs.length = 19 := rfl
  induction d with
  | zero => intro i hd h; rw [show i = 19 by omega]; exact h
  | succ d ih =>
    intro i hd h
    refine Ev.step (f := fun k => truchmanlaw08_CodesRound.l0 k a b errs errs ((i + 1 : Nat) : Int)) (fun k => ?_) (ih (i + 1) (by omega) h)
    simp only [truchmanlaw08_CodesRound.l0]
    rw [if_pos (by omega), if_pos (by omega), if_pos (by omega), if_pos trivial, rd_errs]
    unfold codes_Code.f
    rw [Option.bind_some, code_err i (by omega), if_pos rfl, wrap_id (by omega) (by omega)]
    rfl

theorem CodesRound : truchmanlaw08_CodesRound.Pure := by
  intro a b ha hb
  obtain ⟨s, hs, es⟩ := around_eq a 19 ha (by decide) (by decide)
  obtain ⟨t, ht, et⟩ := around_eq b 19 hb (by decide) (by decide)
  have hs' : s < 19 := by omega
  have ht' : t < 19 := by omega
  have hl : (errs.length : Int) = 19 := rfl
  have hf : fromCode ((s : Nat) : Int) = eOf s := by
    unfold fromCode
    rw [if_pos (by omega), Int.toNat_natCast]
  refine Ev.rounds (Ev.congr (f := fun k => truchmanlaw08_CodesRound.l0 k a b errs errs ((0 : Nat) : Int)) (fun k => rfl) (round_l0 a b 19 0 rfl ?_))
  refine Ev.step (f := fun _ => some true) (fun k => ?_) (Ev.now _)
  simp only [truchmanlaw08_CodesRound.l0]
  rw [if_neg (by omega), hl, es, Option.bind_some, if_pos (by omega), if_pos (by omega), et, Option.bind_some, if_pos (by omega), if_pos (by omega)]
  unfold codes_Status.f codes_FromStatus.f codes_Code.f codes_FromCode.f codes_Text.f
  simp only [Option.bind_some]
  rw [rd_errs, rd_errs, code_err s hs', code_err t ht', place_status s hs', if_pos rfl, hf, if_pos rfl, if_pos (texts_apart s hs' t ht'), if_pos (status_apart s hs' t ht'), lives08]
  rfl

end Go.Proofs.YtemadfllannljaaDoor.Pure
