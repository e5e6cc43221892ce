/- What is told may be changed, and it is told again. -/
import Derived.Test.YtemadfllannljaaDoorL08
import Derived.Test.YtemadfllannljaaDoorPx3
namespace Go.Proofs.YtemadfllannljaaDoor.Pure
open Go.RowKit Go.Proofs.YtemadfllannljaaDoor.P Go.Proofs.YtemadfllannljaaDoorW.PrintWords Go.Proofs.YtemadfllannljaaDoorW.PrintLast Go.Proofs.YtemadfllannljaaDoorW.PrintMore
open Go.Proofs.YtemadfllannljaaDoor.G (errs stats texts eOf sOf tOf codeOf placeOf fromCode findFrom codeOf_lt placeOf_lt)

theorem CodesOwns : truchmanlaw08_CodesOwns.Pure := by
  intro a ha
  obtain ⟨s, hs, es⟩ := around_eq a 19 ha (by decide) (by decide)
  have hl : (errs.length : Int) = 19 := rfl
  have hA : codes_All.f = some errs := rfl
  have hR : truchmanref08_All.f = some errs := rfl
  unfold truchmanlaw08_CodesOwns.f
  rw [hA, hR]
  simp only [Option.bind_some]
  rw [hl, if_neg (by decide), es]
  simp only [Option.bind_some]
  rw [if_pos (by omega), if_pos (by omega), if_pos trivial, if_pos (by omega), if_pos (by omega), if_pos (by omega), if_pos (by omega), if_pos trivial, lives08]
  rfl

end Go.Proofs.YtemadfllannljaaDoor.Pure
