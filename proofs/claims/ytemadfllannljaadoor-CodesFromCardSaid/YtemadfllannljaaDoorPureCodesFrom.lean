/- The error of a status, and of a code, is the document's. -/
import Derived.Test.YtemadfllannljaaDoorL08
import Derived.Test.YtemadfllannljaaDoorPx2
import Derived.Test.YtemadfllannljaaDoorPx1
namespace Go.Proofs.YtemadfllannljaaDoor.Pure
open Go.RowKit Go.Proofs.YtemadfllannljaaDoor.P Go.Proofs.YtemadfllannljaaDoorW.PrintWords Go.Proofs.YtemadfllannljaaDoorW.PrintLast Go.Proofs.YtemadfllannljaaDoorW.PrintMore
open Go.Proofs.YtemadfllannljaaDoor.G (errs stats texts eOf sOf tOf codeOf placeOf fromCode findFrom codeOf_lt placeOf_lt)

theorem refFrom_l0 (a : Int) (d : Nat) : ∀ i : Nat, i + d = 19 → Ev (fun k => truchmanref08_FromStatus.l0 k a stats (i : Int)) (eOf (findFrom (fun i => sOf i == a) d i)) := by
  have hl : stats.length = 19 := rfl
  induction d with
  | zero =>
    intro i hd
    refine Ev.step (f := fun _ => some 21) (fun k => ?_) (Ev.now _)
    simp only [truchmanref08_FromStatus.l0]
    rw [if_neg (by omega)]
  | succ d ih =>
    intro i hd
    by_cases h : sOf i = a
    · refine Ev.step (f := fun _ => some (eOf i)) (fun k => ?_) ?_
      · simp only [truchmanref08_FromStatus.l0]
        rw [if_pos (by omega), if_pos (by omega), rd_stats, if_pos h]
        show (some errs).bind _ = _
        rw [Option.bind_some, if_pos (by have : errs.length = 19 := rfl; omega), rd_errs]
      · simp only [findFrom]
        rw [if_pos (beq_iff_eq.mpr h)]
        exact Ev.now _
    · refine Ev.step (f := fun k => truchmanref08_FromStatus.l0 k a stats ((i + 1 : Nat) : Int)) (fun k => ?_) ?_
      · simp only [truchmanref08_FromStatus.l0]
        rw [if_pos (by omega), if_pos (by omega), rd_stats, if_neg h, wrap_id (by omega) (by omega)]
        rfl
      · simp only [findFrom]
        rw [if_neg (by simp [h])]
        exact ih (i + 1) (by omega)

theorem refFrom_ev (a : Int) : Ev (fun k => truchmanref08_FromStatus.f k a) (eOf (placeOf a)) := refFrom_l0 a 19 0 rfl

theorem refFromCode_eq (a : Int) : truchmanref08_FromCode.f a = some (fromCode a) := by
  unfold truchmanref08_FromCode.f fromCode
  by_cases h0 : a < 0
  · rw [if_pos h0, if_neg (by omega)]; rfl
  · rw [if_neg h0]
    by_cases h1 : a > 18
    · rw [if_pos h1, if_neg (by omega)]; rfl
    · rw [if_neg h1]
      obtain ⟨i, rfl⟩ : ∃ i : Nat, a = (i : Int) := ⟨a.toNat, by omega⟩
      show (some errs).bind _ = _
      rw [Option.bind_some, if_pos (by omega), if_pos (by have : errs.length = 19 := rfl; omega), rd_errs, if_pos (by omega), Int.toNat_natCast]

theorem from_round (x : Int) (L : List Int) (i : Nat) (hi : i < 3) (hL : L.length = 3) (h : Ev (fun k => truchmanlaw08_CodesFrom.l0 k x L ((i + 1 : Nat) : Int)) true) :
    Ev (fun k => truchmanlaw08_CodesFrom.l0 k x L (i : Int)) true := by
  refine Ev.step (f := fun k => (truchmanref08_FromStatus.f k (rd L (i : Int))).bind fun t155 => (if eOf (placeOf (rd L (i : Int))) = t155 then (truchmanlaw08_CodesFrom.l0 k x L ((i + 1 : Nat) : Int)) else (some false))) (fun k => ?_) ?_
  · simp only [truchmanlaw08_CodesFrom.l0]
    rw [if_pos (by omega), if_pos (by omega), if_pos (by omega), wrap_id (by omega) (by omega)]
    rfl
  · refine Ev.bind (refFrom_ev _) ?_
    exact Ev.congr (fun k => if_pos rfl) h

theorem CodesFrom : truchmanlaw08_CodesFrom.Pure := by
  intro a0 a1 _ h1
  obtain ⟨s, hs, es⟩ := around_eq a1 22 h1 (by decide) (by decide)
  refine Ev.rounds (Ev.congr (f := fun k => truchmanlaw08_CodesFrom.l0 k a1 [a0, Int.tmod a0 80, (10000 + (Int.tmod a0 111)) % 4294967296] ((0 : Nat) : Int)) (fun k => rfl) ?_)
  refine from_round _ _ 0 (by omega) rfl (from_round _ _ 1 (by omega) rfl (from_round _ _ 2 (by omega) rfl ?_))
  refine Ev.step (f := fun _ => some true) (fun k => ?_) (Ev.now _)
  simp only [truchmanlaw08_CodesFrom.l0]
  rw [if_neg (by decide), es, Option.bind_some, refFromCode_eq, refFromCode_eq]
  unfold codes_FromCode.f
  rw [Option.bind_some, Option.bind_some, if_pos rfl, Option.bind_some, Option.bind_some, if_pos rfl, lives08]
  rfl

end Go.Proofs.YtemadfllannljaaDoor.Pure
