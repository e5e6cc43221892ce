/- How great a record may be, and how many fragments there may be, is told as the document says: for every number of bytes from 4090 to 4101 and every size from 60 to 70, as the law makes them of any two numbers. -/
import Derived.Test.YtdfnhmgopihfcaaL3
import Derived.Test.YtdfnhmgopihfcaaPx7
namespace Go.Proofs.Ytdfnhmgopihfcaa.Pure
open Go.RowKit Go.Proofs.Ytdfnhmgopihfcaa.P Go.Proofs.Ytdfnhmgopihfcaa.G Go.Proofs.YtdfnhmgopihfcaaW.PrintWords Go.Proofs.YtdfnhmgopihfcaaW.PrintLast Go.Proofs.YtdfnhmgopihfcaaW.PrintMore

theorem MarkBounds : truchmanlaw03_MarkBounds.Pure := by
  intro a0 a1 h0 h1
  obtain ⟨n, hn, en⟩ := around_eq a0 12 h0 (by decide) (by decide)
  obtain ⟨s, hs, es⟩ := around_eq a1 11 h1 (by decide) (by decide)
  have hw : wrap64 (4090 + (n : Int)) = ((4090 + n : Nat) : Int) := by rw [wrap_id (by omega) (by omega)]; omega
  have hv : wrap64 (60 + (s : Int)) = ((60 + s : Nat) : Int) := by rw [wrap_id (by omega) (by omega)]; omega
  have hl : (List.replicate (4090 + n) (0 : Int)).length = 4090 + n := List.length_replicate
  generalize hrec : List.replicate (4090 + n) (0 : Int) = rec at hl
  have hg : (markSpec rec 4096).2 = if 4090 + n ≤ 4096 then 0 else 4 := by
    unfold markSpec
    rw [if_neg (by decide), hl]
    by_cases h : 4090 + n > 4096
    · rw [if_pos h, if_neg (by omega)]
    · rw [if_neg h, show (4096 : Int).toNat = 4096 from rfl, mcount_le (by decide) (by omega), if_neg (by decide), if_pos (by omega)]
  refine Ev.rounds (Ev.congr (f := fun k => (mark_Mark.f k rec ((60 + s : Nat) : Int)).bind fun bt342 => (truchmanref03_Mark.f k rec ((60 + s : Nat) : Int)).bind fun bt346 => (mark_Mark.f k rec 4096).bind fun bt350 => if bt342.2 = bt346.2 then (if (strOfNums bt342.1).toList = (strOfNums bt346.1).toList then (if ((bt350.2 == 0) == (decide (((4090 + n : Nat) : Int) ≤ 4096))) = true then (if bt350.2 = 0 then ((truchmanlaw03_lives.f k).bind fun t354 => some t354) else (if bt350.2 = 4 then ((truchmanlaw03_lives.f k).bind fun t355 => some t355) else some false)) else some false) else some false) else some false) (fun k => ?_) ?_)
  · unfold truchmanlaw03_MarkBounds.f
    rw [en, Option.bind_some, es, Option.bind_some, hw, hv, if_pos (by omega), Int.toNat_natCast, if_pos (by omega), hrec, Option.bind_some]
  · refine Ev.bind (Mark_ev _ _ (by omega) (by omega)) (Ev.bind (refMark_ev _ _ (by omega) (by omega)) (Ev.bind (Mark_ev _ _ (by decide) (by omega)) ?_))
    refine Ev.congr (f := fun k => (truchmanlaw03_lives.f k).bind fun t => some t) (fun k => ?_) (Ev.bind lives03 (Ev.now _))
    rw [if_pos rfl, if_pos rfl, hg]
    by_cases h : 4090 + n ≤ 4096
    · rw [if_pos h, decide_eq_true (by omega), if_pos (by decide), if_pos rfl]
    · rw [if_neg h, decide_eq_false (by omega), if_pos (by decide), if_neg (by decide), if_pos rfl]

end Go.Proofs.Ytdfnhmgopihfcaa.Pure
