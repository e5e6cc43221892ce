/- A node's qid and stat are the document's: for every input that the statement takes. -/
import Derived.Test.YtemadfllannljaaL20
import Derived.Test.YtemadfllannljaaPx5
namespace Go.Proofs.Ytemadfllannljaa.Pure
open Go.RowKit Go.Proofs.Ytemadfllannljaa.P Go.Proofs.Ytemadfllannljaa.G Go.Proofs.YtemadfllannljaaW.PrintWords Go.Proofs.YtemadfllannljaaW.PrintLast Go.Proofs.YtemadfllannljaaW.PrintMore

theorem short_ev (s : ByteArray) (m : Nat) : ∃ t, truchmanref01_Short.f s (m : Int) = some t := by
  unfold truchmanref01_Short.f
  split
  · rw [if_pos (by omega), if_pos (by omega)]; exact ⟨_, rfl⟩
  · exact ⟨_, rfl⟩

theorem statOf_round (t : ByteArray) (L : List S34) (i : Nat) (a : S34) (hi : i < 2) (hL : L.length = 2) (hr : rd_T34 L (i : Int) = a) (m : Nat) (hm : m < 512) (ha : a.f2 = (m : Int)) (h : Ev (fun k => truchmanlaw19_StatOf.l0 k t L ((i + 1 : Nat) : Int)) true) :
    Ev (fun k => truchmanlaw19_StatOf.l0 k t L (i : Int)) true := by
  refine Ev.step (fun k => ?_) h
  have hor := or_dir ⟨m, hm⟩
  simp only at hor
  simp only [truchmanlaw19_StatOf.l0]
  rw [if_pos (by omega), if_pos (by omega), if_pos (by omega), hr, ha]
  unfold stat_Qid.f truchmanref19_Qid.f stat_Of.f truchmanref19_Of.f truchmanref19_Qid.f
  simp only [Option.bind_some, beq_self_eq_true, Bool.not_true, Bool.or_self]
  rw [if_neg (by decide)]
  rw [wrap_id (n := (i : Int) + 1) (by omega) (by omega)]
  by_cases hk : a.f1 = 1
  · rw [if_pos hk, if_pos hk, if_pos hk, hor, wrap_id (by omega) (by omega)]
    simp [hk]
  · rw [if_neg hk, if_neg hk, if_neg hk]
    simp [hk]

theorem StatOf : truchmanlaw19_StatOf.Pure := by
  intro a0 a1 a2 a3 a4 s h0 h1 h2 h3 h4 hs
  obtain ⟨m, hm, em⟩ := around_eq a3 512 h3 (by decide) (by decide)
  obtain ⟨k2, hk2, ek⟩ := around_eq a2 2 h2 (by decide) (by decide)
  obtain ⟨t, et⟩ := short_ev s 40
  refine Ev.rounds (Ev.congr (f := fun k => truchmanlaw19_StatOf.l0 k t [⟨⟨a0, a1⟩, a2, (m : Int), a4⟩, ⟨⟨a0, a1⟩, wrap64 (1 + (k2 : Int)), (m : Int), a4⟩] ((0 : Nat) : Int)) (fun k => ?_) ?_)
  · unfold truchmanlaw19_StatOf.f
    have et' : truchmanref01_Short.f s 40 = some t := et
    rw [em, Option.bind_some, et', Option.bind_some, ek, Option.bind_some]
    rfl
  · refine statOf_round t _ 0 ⟨⟨a0, a1⟩, a2, (m : Int), a4⟩ (by omega) rfl rfl m (by omega) rfl (statOf_round t _ 1 ⟨⟨a0, a1⟩, wrap64 (1 + (k2 : Int)), (m : Int), a4⟩ (by omega) rfl rfl m (by omega) rfl ?_)
    refine Ev.step (f := fun k => (truchmanlaw19_lives.f k).bind fun t => some t) (fun k => ?_) (Ev.bind lives19 (Ev.now _))
    simp only [truchmanlaw19_StatOf.l0]
    rw [if_neg (by decide)]

end Go.Proofs.Ytemadfllannljaa.Pure
