/- What permissions say is the document's: any number, raw, made 0 to 1023, and with the bit of directories. -/
import Derived.Test.YtemadfllannljaaL19
import Derived.Test.YtemadfllannljaaPx5
namespace Go.Proofs.Ytemadfllannljaa.Pure
open Go.RowKit Go.Proofs.Ytemadfllannljaa.P Go.Proofs.Ytemadfllannljaa.G Go.Proofs.YtemadfllannljaaW.PrintWords Go.Proofs.YtemadfllannljaaW.PrintLast Go.Proofs.YtemadfllannljaaW.PrintMore

theorem perms_round (L : List Int) (i : Nat) (a : Int) (hi : i < 4) (hL : L.length = 4) (hr : rd L (i : Int) = a) (ha : a ≤ 9223372036854775807) (h : Ev (fun k => truchmanlaw19_StatPerms.l0 k L ((i + 1 : Nat) : Int)) true) :
    Ev (fun k => truchmanlaw19_StatPerms.l0 k L (i : Int)) true := by
  refine Ev.step (f := fun k => (truchmanref19_Perm.f k a).bind fun bt152 => (if (permSpec a).1 = bt152.1 then (if ((permSpec a).2.1 != bt152.2.1) = true then (some false) else (if (((permSpec a).2.2 == 0) != bt152.2.2) = true then (some false) else (if bt152.2.2 = true then (truchmanlaw19_StatPerms.l0 k L ((i + 1 : Nat) : Int)) else (if (permSpec a).2.2 = 19 then (truchmanlaw19_StatPerms.l0 k L ((i + 1 : Nat) : Int)) else (some false))))) else (some false))) (fun k => ?_) ?_
  · simp only [truchmanlaw19_StatPerms.l0]
    rw [if_pos (by omega), if_pos (by omega), if_pos (by omega), hr, Perm_eq a ha, Option.bind_some, wrap_id (by omega) (by omega)]
    rfl
  · refine Ev.bind (refPerm_ev a ha) ?_
    refine Ev.congr (fun k => ?_) h
    have h19 : ((permSpec a).2.2 == 0) = false → (permSpec a).2.2 = 19 := by
      unfold permSpec
      split
      · intro h; cases h
      · split
        · intro h; cases h
        · intro _; rfl
    rw [if_pos rfl, if_neg (by simp), if_neg (by simp)]
    cases hb : ((permSpec a).2.2 == 0)
    · rw [if_neg (by simp), if_pos (h19 hb)]
    · rw [if_pos rfl]

theorem StatPerms : truchmanlaw19_StatPerms.Pure := by
  intro a0 h1
  obtain ⟨s, hs, es⟩ := around_eq a0 1024 h1 (by decide) (by decide)
  have ha : a0 ≤ 9223372036854775807 := by
    simp [Lit.wf, IntKind.min, IntKind.max, IntKind.signed, IntKind.bits] at h1
    omega
  refine Ev.rounds (Ev.congr (f := fun k => truchmanlaw19_StatPerms.l0 k [a0, (s : Int), 2147483648 + (s : Int), 1073741824 + (s : Int)] ((0 : Nat) : Int)) (fun k => ?_) ?_)
  · unfold truchmanlaw19_StatPerms.f
    rw [es, Option.bind_some, wrap_id (by omega) (by omega), wrap_id (by omega) (by omega)]
    rfl
  · refine perms_round _ 0 a0 (by omega) rfl rfl ha (perms_round _ 1 (s : Int) (by omega) rfl rfl (by omega) (perms_round _ 2 (2147483648 + (s : Int)) (by omega) rfl rfl (by omega) (perms_round _ 3 (1073741824 + (s : Int)) (by omega) rfl rfl (by omega) ?_)))
    refine Ev.step (f := fun k => (truchmanlaw19_lives.f k).bind fun t => some t) (fun k => ?_) (Ev.bind lives19 (Ev.now _))
    simp only [truchmanlaw19_StatPerms.l0]
    rw [if_neg (by decide)]

end Go.Proofs.Ytemadfllannljaa.Pure
