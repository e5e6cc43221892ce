/- The hand-made contracts of demark.Deframer, third part: body, number. -/
import Derived.Test.YtfoifcilacbipaaD2
namespace Go.Proofs.Ytfoifcilacbipaa.G
open Go.RowKit Go.Proofs.YtfoifcilacbipaaW.PrintWords Go.Proofs.YtfoifcilacbipaaW.PrintLast Go.Proofs.YtfoifcilacbipaaW.PrintMore
set_option linter.unusedVariables false
set_option linter.unusedSimpArgs false

/-- A row that is apart from what was grown, is apart from what it has grown to. -/
theorem R_apart {ok : Nat → Prop} {w w1 : World} {v u u1 : Value} {xs : List Int} (h : Kd.R (Kd.int .u8) 5 w 0 (fun k => ok k ∧ some k ≠ u.ownBlock) v xs) (hg : w.grownBy w1 u.ownBlock) (hat : u1.ownBlock = u.ownBlock ∨ ∃ b, u1.ownBlock = some b ∧ w.heap.size ≤ b) : Kd.R (Kd.int .u8) 5 w1 0 (fun k => ok k ∧ some k ≠ u1.ownBlock) v xs := by
  refine Kd.R_mono (Kd.R_step (Kd.R_bound h) (fun k hk hlt => hg.block k hlt hk.1.2)) (fun k hk => ⟨hk.1.1, ?_⟩)
  rcases hat with hat | ⟨b, hb, hle⟩
  · rw [hat]; exact hk.1.2
  · rw [hb]
    intro he
    injection he with he
    have := hk.2.2.1
    omega
theorem DRows_frag {ok : Nat → Prop} {w w1 : World} {g : Nat} {s : DSt} {vh vr vo v1 : Value} {xs : List Int} (h : DRows ok w g s vh vr vo) (hg : w.grownBy w1 vr.ownBlock) (hat : v1.ownBlock = vr.ownBlock ∨ ∃ b, v1.ownBlock = some b ∧ w.heap.size ≤ b)
    (hr : Kd.R (Kd.int .u8) 5 w1 0 (fun k => (ok k ∧ k ≠ g) ∧ some k ≠ vh.ownBlock) v1 xs) : DRows ok w1 g { s with frag := xs } vh v1 vo := by
  refine ⟨Kd.R_mono (Kd.R_grown (Kd.R_tight2 rfl h.1) hg (fun k hk e => (h.2.1.1 k e.symm).2 hk.1)) (fun k hk => hk.2), hr, Kd.N_after h.2.2 hg hat⟩
theorem DRows_head {ok : Nat → Prop} {w w1 : World} {g : Nat} {s : DSt} {vh vr vo v1 : Value} {xs : List Int} (h : DRows ok w g s vh vr vo) (hg : w.grownBy w1 vh.ownBlock) (hat : v1.ownBlock = vh.ownBlock ∨ ∃ b, v1.ownBlock = some b ∧ w.heap.size ≤ b)
    (hr : Kd.R (Kd.int .u8) 5 w1 0 (fun k => ok k ∧ k ≠ g) v1 xs) : DRows ok w1 g { s with head := xs } v1 vr vo := by
  refine ⟨hr, R_apart h.2.1 hg hat, ?_⟩
  exact Kd.N_mono (Kd.N_after (ok := fun k => (ok k ∧ k ≠ g) ∧ some k ≠ vr.ownBlock) (Kd.N_mono h.2.2 (fun k hk => ⟨⟨hk.1.1, hk.2⟩, hk.1.2⟩)) hg hat) (fun k hk => ⟨⟨hk.1.1, hk.2⟩, hk.1.2⟩)
theorem DRows_ne {ok : Nat → Prop} {w : World} {g : Nat} {s : DSt} {vh vr vo : Value} (h : DRows ok w g s vh vr vo) : some g ≠ vh.ownBlock ∧ some g ≠ vr.ownBlock ∧ some g ≠ vo.ownBlock :=
  ⟨fun e => (h.1.1 g e.symm).2 rfl, fun e => (h.2.1.1 g e.symm).1.2 rfl, fun e => (h.2.2.1 g e.symm).1.1.2 rfl⟩

set_option maxHeartbeats 8000000 in
set_option maxRecDepth 100000 in
theorem body_calls (ok : Nat → Prop) (g : Nat) (s : DSt) (c : Int) (w : World) (h : DF ok w g s) (hl : s.out.length ≤ 1000000) (hlr : s.frag.length ≤ 1000000) (hlf : -1000000 ≤ s.left ∧ s.left ≤ 10000000000) (hnew : ∀ k, w.heap.size ≤ k → ok k) :
    Calls Try.prog 48 #[.pointer (some ⟨g, 0, none⟩), .int .u8 c] w fun r w' => r = .returned (.tuple #[]) ∧ DF ok w' g (dBody s c) ∧ Frm ok w w' := by
  have hu := Try.underlying86
  obtain ⟨hg, vh, vr, vo, hb, hrows⟩ := h
  obtain ⟨Ar, cr, rfl⟩ := Kd.R_slice hrows.2.1
  have c4 : w.cell? ⟨g, 4, none⟩ = some (.slice Ar s.frag.length cr) := (blk_cell hb 4).trans rfl
  have HB := Aside0.mk hb
  have HR := Aside0.mk hrows
  have HNE := Aside0.mk (DRows_ne hrows)
  have HGL := Aside0.mk (blk_lt hb)
  have HW := Aside0.mk hnew
  have HLH := Aside0.mk (Kd.R_lt hrows.1)
  clear hb hrows hnew
  obtain ⟨hlf1, hlf2⟩ := hlf
  rcases Classical.em (s.left - 1 = 0) with h1 | h1
  case' inl =>
    have k1 : (s.left - 1 == 0) = true := beq_iff_eq.mpr h1
    have HSt : Aside0 (dBody s c = dOver { s with frag := s.frag ++ [c], left := s.left - 1 }) := ⟨by unfold dBody; exact if_pos h1⟩
  case' inr =>
    have k1 : (s.left - 1 == 0) = false := beq_eq_false_iff_ne.mpr h1
    have HSt : Aside0 (dBody s c = { s with frag := s.frag ++ [c], left := s.left - 1 }) := ⟨by unfold dBody; exact if_neg h1⟩
  all_goals
    clear h1
    go_enter Try.func48, Try.ntmps48
    go_wp2_with (first | ((with_reducible refine gate_builtin (b := .append) (xs := #[.tmp 8, .tmp 10]) rfl ?_); at_builtin; refine Kd.R_append (Kd.int .u8) (w0 := w) 0 rfl (.tmp 8) (.tmp 10) 28 5 (.int .u8 0) 1 rfl Try.underlying28 infoU8r rfl (by decide) (by omega) (.slice Ar s.frag.length cr) s.frag c [.int .u8 c] (fun k => (ok k ∧ k ≠ g) ∧ some k ≠ vh.ownBlock) (fun _ => False) rfl rfl ?aP (fun _ hk => hk.elim) ?aF ?aO ?aB ?aS ?aL ?_; (case aP => exact rfl); (case aF => exact (fun k hk => ⟨⟨HW.out k hk, by have := HGL.out; omega⟩, fun e => by have := HLH.out k e.symm; omega⟩)); (case aO => exact HR.out.2.1); (case aB => exact Below.refl 0 _); (case aS => exact Nat.zero_le _); (case aL => omega); intro v1 w1 hr1 hb1 hg1 hat1; obtain ⟨A1, c1, rfl, hl1, _⟩ := Kd.R_reads hr1; have hgb := (hg1.block g HGL.out HNE.out.2.1).trans HB.out; have c4' : w1.cell? ⟨g, 4, none⟩ = some (.slice Ar s.frag.length cr) := (blk_cell hgb 4).trans rfl; have z4' := blk_frozen hgb 4; have c5' : w1.cell? ⟨g, 5, none⟩ = some (.int .i64 s.left) := (blk_cell hgb 5).trans rfl; have z5' := blk_frozen hgb 5; have HGB := Aside0.mk hgb; have HD1 := Aside0.mk (DRows_frag HR.out hg1 hat1 hr1); have HF1 := Aside0.mk ((Frm.refl ok w).grown hg1 (fun k hk _ => (HR.out.2.1.1 k hk).1.1)); have HS1 := Aside0.mk hg1.size; clear hgb hr1 hb1 hg1 hat1 hl1))
    have hlen : (s.frag ++ [c]).length = s.frag.length + 1 := by simp
    have HDF : Aside0 (DF ok ((w1.setCell ⟨g, 4, none⟩ (.slice A1 (s.frag.length + 1) c1)).setCell ⟨g, 5, none⟩ (.int .i64 (s.left - 1))) g { s with frag := s.frag ++ [c], left := s.left - 1 }) := ⟨⟨hg, vh, .slice A1 (s.frag.length + 1) c1, vo, by
      exact blk_put (blk_put HGB.out 4 (.slice A1 (s.frag.length + 1) c1) rfl) 5 (.int .i64 (s.left - 1)) rfl, by
      have h := HD1.out
      rw [hlen] at h
      exact DRows_set (DRows_set h 4 _) 5 _⟩⟩
    have HFr := Aside0.mk ((HF1.out.set g 4 hg (.slice A1 (s.frag.length + 1) c1)).set g 5 hg (.int .i64 (s.left - 1)))
    first
    | (refine (over_calls ok g _ _ HDF.out (by exact hl) (fun k hk => HW.out k (by have := HS1.out; simp at hk; omega))).mono ?_
       rintro r w3 ⟨rfl, hd3, hf3⟩
       have HD3 := Aside0.mk hd3
       have HF3 := Aside0.mk hf3
       clear hd3 hf3
       go_wp2_with fail
       go_end0
       rw [HSt.out]
       exact ⟨rfl, HD3.out, HFr.out.trans HF3.out⟩)
    | (go_end0
       rw [HSt.out]
       exact ⟨rfl, HDF.out, HFr.out⟩)
end Go.Proofs.Ytfoifcilacbipaa.G
