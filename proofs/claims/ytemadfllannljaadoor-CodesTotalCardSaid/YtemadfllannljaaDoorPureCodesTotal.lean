/- Every number's status leads to an error that is told outside, and stays there. -/
import Derived.Test.YtemadfllannljaaDoorL08
import Derived.Test.YtemadfllannljaaDoorPx2
namespace Go.Proofs.YtemadfllannljaaDoor.Pure
open Go.RowKit Go.Proofs.YtemadfllannljaaDoor.P Go.Proofs.YtemadfllannljaaDoorW.PrintWords Go.Proofs.YtemadfllannljaaDoorW.PrintLast Go.Proofs.YtemadfllannljaaDoorW.PrintMore
open Go.Proofs.YtemadfllannljaaDoor.G (errs stats texts eOf sOf tOf codeOf placeOf fromCode findFrom codeOf_lt placeOf_lt)

theorem CodesTotal : truchmanlaw08_CodesTotal.Pure := by
  intro a0 _
  have hk := codeOf_lt a0
  unfold truchmanlaw08_CodesTotal.f codes_Status.f codes_FromStatus.f codes_Code.f codes_FromCode.f
  simp only [Option.bind_some]
  have hf : fromCode ((codeOf a0 : Nat) : Int) = eOf (codeOf a0) := by
    unfold fromCode
    rw [if_pos (by omega), Int.toNat_natCast]
  rw [place_status _ hk, code_err _ hk, if_pos (by omega), if_pos (by omega), hf, if_pos rfl, if_pos rfl, lives08]
  rfl

end Go.Proofs.YtemadfllannljaaDoor.Pure
