/- A record's fragments, or the error, are the document's: for every record (the law takes its first 100 bytes) and every size, raw and made 0 to 40. -/
import Derived.Test.YtdfnhmgopihfcaaL3
import Derived.Test.YtdfnhmgopihfcaaPx7
namespace Go.Proofs.Ytdfnhmgopihfcaa.Pure
open Go.RowKit Go.Proofs.Ytdfnhmgopihfcaa.P Go.Proofs.Ytdfnhmgopihfcaa.G Go.Proofs.YtdfnhmgopihfcaaW.PrintWords Go.Proofs.YtdfnhmgopihfcaaW.PrintLast Go.Proofs.YtdfnhmgopihfcaaW.PrintMore

theorem marks_end (l0 : List Int) (L : List Int) : Ev (fun k => truchmanlaw03_MarkMarks.l0 k l0 (l0.take 100) L 2) true := by
  refine Ev.step (f := fun k => (truchmanlaw03_lives.f k).bind fun t => some t) (fun k => ?_) (Ev.bind lives03 (Ev.now _))
  simp only [truchmanlaw03_MarkMarks.l0]
  rw [if_neg (by decide), show (100 : Int) = ((100 : Nat) : Int) from rfl, Few_eq l0 100 (by decide), Option.bind_some, if_pos rfl]

theorem marks_round (l0 L : List Int) (i : Nat) (a : Int) (hi : i < 2) (hL : L.length = 2) (hr : rd L (i : Int) = a) (ha : a ≤ 9223372036854775807) (h : Ev (fun k => truchmanlaw03_MarkMarks.l0 k l0 (l0.take 100) L ((i + 1 : Nat) : Int)) true) :
    Ev (fun k => truchmanlaw03_MarkMarks.l0 k l0 (l0.take 100) L (i : Int)) true := by
  have hl : (l0.take 100).length ≤ 1000000 := by rw [List.length_take]; omega
  refine Ev.step (f := fun k => (mark_Mark.f k (l0.take 100) a).bind fun bt328 => (truchmanref03_Mark.f k (l0.take 100) a).bind fun bt333 => if bt328.2 = bt333.2 then (if (strOfNums bt328.1).toList = (strOfNums bt333.1).toList then truchmanlaw03_MarkMarks.l0 k l0 (l0.take 100) L ((i + 1 : Nat) : Int) else some false) else some false) (fun k => ?_) ?_
  · simp only [truchmanlaw03_MarkMarks.l0]
    rw [if_pos (by omega), if_pos (by omega), if_pos (by omega), hr, wrap_id (by omega) (by omega)]
    rfl
  · refine Ev.bind (Mark_ev _ a ha hl) (Ev.bind (refMark_ev _ a ha hl) ?_)
    exact Ev.congr (fun k => by rw [if_pos rfl, if_pos rfl]) h

theorem MarkMarks : truchmanlaw03_MarkMarks.Pure := by
  intro l0 a1 _ _ _ h1
  obtain ⟨s, hs, es⟩ := around_eq a1 41 h1 (by decide) (by decide)
  have ha : a1 ≤ 9223372036854775807 := by
    simp [Lit.wf, IntKind.min, IntKind.max, IntKind.signed, IntKind.bits] at h1
    omega
  refine Ev.rounds (Ev.congr (f := fun k => truchmanlaw03_MarkMarks.l0 k l0 (l0.take 100) [a1, (s : Int)] ((0 : Nat) : Int)) (fun k => ?_) ?_)
  · unfold truchmanlaw03_MarkMarks.f
    rw [show (100 : Int) = ((100 : Nat) : Int) from rfl, Few_eq l0 100 (by decide), Option.bind_some, es, Option.bind_some]
    rfl
  · exact marks_round l0 _ 0 a1 (by omega) rfl rfl ha (marks_round l0 _ 1 (s : Int) (by omega) rfl rfl (by omega) (marks_end l0 _))

end Go.Proofs.Ytdfnhmgopihfcaa.Pure
