/- An error's status, code and text are the document's: any number, raw, and made -1 to 24. -/
import Derived.Test.YtemadfllannljaaDoorL08
import Derived.Test.YtemadfllannljaaDoorPx1
namespace Go.Proofs.YtemadfllannljaaDoor.Pure
open Go.RowKit Go.Proofs.YtemadfllannljaaDoor.P Go.Proofs.YtemadfllannljaaDoorW.PrintWords Go.Proofs.YtemadfllannljaaDoorW.PrintLast Go.Proofs.YtemadfllannljaaDoorW.PrintMore
open Go.Proofs.YtemadfllannljaaDoor.G (errs stats texts eOf sOf tOf codeOf placeOf fromCode findFrom codeOf_lt placeOf_lt)

theorem of_round (L : List Int) (i : Nat) (a : Int) (hi : i < 2) (hL : L.length = 2) (hr : rd L (i : Int) = a) (h : Ev (fun k => truchmanlaw08_CodesOf.l0 k L ((i + 1 : Nat) : Int)) true) :
    Ev (fun k => truchmanlaw08_CodesOf.l0 k L (i : Int)) true := by
  refine Ev.step (f := fun k => (truchmanref08_Status.f k a).bind fun t132 => (if sOf (codeOf a) = t132 then ((truchmanref08_Code.f k a).bind fun t134 => (if ((codeOf a : Nat) : Int) = t134 then ((truchmanref08_Text.f k a).bind fun t136 => (if (tOf (codeOf a)).toList = t136.toList then (truchmanlaw08_CodesOf.l0 k L ((i + 1 : Nat) : Int)) else (some false))) else (some false))) else (some false))) (fun k => ?_) ?_
  · simp only [truchmanlaw08_CodesOf.l0]
    rw [if_pos (by omega), if_pos (by omega), if_pos (by omega), hr, wrap_id (by omega) (by omega)]
    rfl
  · refine Ev.bind (refStatus_ev a) ?_
    refine Ev.congr (fun k => if_pos rfl) ?_
    refine Ev.bind (refCode_ev a) ?_
    refine Ev.congr (fun k => if_pos rfl) ?_
    refine Ev.bind (refText_ev a) ?_
    exact Ev.congr (fun k => if_pos rfl) h

theorem CodesOf : truchmanlaw08_CodesOf.Pure := by
  intro a0 h1
  obtain ⟨s, hs, es⟩ := around_eq a0 26 h1 (by decide) (by decide)
  refine Ev.rounds (Ev.congr (f := fun k => truchmanlaw08_CodesOf.l0 k [a0, wrap64 ((s : Int) - 1)] ((0 : Nat) : Int)) (fun k => ?_) ?_)
  · unfold truchmanlaw08_CodesOf.f
    rw [es, Option.bind_some]
    rfl
  · refine of_round _ 0 a0 (by omega) rfl rfl (of_round _ 1 (wrap64 ((s : Int) - 1)) (by omega) rfl rfl ?_)
    refine Ev.step (f := fun _ => some true) (fun k => ?_) (Ev.now _)
    simp only [truchmanlaw08_CodesOf.l0]
    rw [if_neg (by decide), lives08]
    rfl

end Go.Proofs.YtemadfllannljaaDoor.Pure
