/- The hand-made contracts of demark.Deframer, second part: fail, over. -/
import Derived.Test.YtfoifcilacbipaaD1
import Derived.Deep.AppendLies
import Derived.Deep.RegionLaw
import Derived.Laws.EntriesVeiled
namespace Go.Proofs.Ytfoifcilacbipaa.G
open Go.RowKit Go.Proofs.YtfoifcilacbipaaW.PrintWords Go.Proofs.YtfoifcilacbipaaW.PrintLast Go.Proofs.YtfoifcilacbipaaW.PrintMore
set_option linter.unusedVariables false
set_option linter.unusedSimpArgs false

theorem Frm.drew {ok : Nat → Prop} {a w : World} (h : Frm ok a w) : Frm ok a w.drew := ⟨h.os, h.tape, h.output, h.size, h.block⟩
theorem DRows_set {ok : Nat → Prop} {w : World} {g : Nat} {s : DSt} {vh vr vo : Value} (h : DRows ok w g s vh vr vo) (j : Nat) (u : Value) : DRows ok (w.setCell ⟨g, j, none⟩ u) g s vh vr vo :=
  ⟨Kd.R_far (p := ⟨g, j, none⟩) h.1 (fun _ hk => hk.2) u, Kd.R_far (p := ⟨g, j, none⟩) h.2.1 (fun _ hk => hk.1.2) u, Kd.N_far (p := ⟨g, j, none⟩) h.2.2 (fun _ hk => hk.1.1.2) u⟩

set_option maxHeartbeats 8000000 in
set_option maxRecDepth 100000 in
theorem fail_calls_d (ok : Nat → Prop) (g : Nat) (s : DSt) (e1 : Int) (w : World) (h : DF ok w g s) :
    Calls Try.prog 46 #[.pointer (some ⟨g, 0, none⟩), .int .i64 e1] w fun r w' => r = .returned (.tuple #[]) ∧ DF ok w' g (dFail s e1) ∧ Frm ok w w' := by
  have hu := Try.underlying86
  obtain ⟨hg, vh, vr, vo, hb, hrows⟩ := h
  obtain ⟨Ah, ch, rfl⟩ := Kd.R_slice hrows.1
  obtain ⟨Ar, cr, rfl⟩ := Kd.R_slice hrows.2.1
  obtain ⟨Ao, co, rfl⟩ := Kd.N_slice hrows.2.2
  have c2 : w.cell? ⟨g, 2, none⟩ = some (nextV g s.mode) := (blk_cell hb 2).trans rfl
  have c3 : w.cell? ⟨g, 3, none⟩ = some (.slice Ah s.head.length ch) := (blk_cell hb 3).trans rfl
  have c4 : w.cell? ⟨g, 4, none⟩ = some (.slice Ar s.frag.length cr) := (blk_cell hb 4).trans rfl
  have c9 : w.cell? ⟨g, 9, none⟩ = some (.int .i64 s.e) := (blk_cell hb 9).trans rfl
  have z2 := blk_frozen hb 2
  have z3 := blk_frozen hb 3
  have z4 := blk_frozen hb 4
  have z9 := blk_frozen hb 9
  have HB := Aside0.mk hb
  have HR := Aside0.mk hrows
  clear hb hrows
  go_enter Try.func46, Try.ntmps46
  go_wp2_with fail
  go_end0
  refine ⟨rfl, ⟨hg, .slice none 0 0, .slice none 0 0, .slice Ao s.out.length co, ?_, ?_⟩, ((((Frm.refl ok w).set g 9 hg _).set g 3 hg _).set g 4 hg _).set g 2 hg _⟩
  · exact blk_put (blk_put (blk_put (blk_put HB.out 9 (.int .i64 e1) rfl) 3 (.slice none 0 0) rfl) 4 (.slice none 0 0) rfl) 2 (nextV g 2) rfl
  · have h := DRows_set (DRows_set (DRows_set (DRows_set HR.out 9 (.int .i64 e1)) 3 (.slice none 0 0)) 4 (.slice none 0 0)) 2 (nextV g 2)
    exact ⟨Kd.R_nil _ _ _ _ _, Kd.R_nil _ _ _ _ _, Kd.N_mono h.2.2 (fun k hk => ⟨⟨hk.1.1, by simp [Value.ownBlock]⟩, by simp [Value.ownBlock]⟩)⟩

theorem infoSl : (Try.prog.info? 28).map (fun i => (i.zero, i.size, i.bytes)) = some (some (.slice none 0 0), 1, 24) := by kernel_rfl

set_option maxHeartbeats 8000000 in
set_option maxRecDepth 100000 in
theorem over_calls (ok : Nat → Prop) (g : Nat) (s : DSt) (w : World) (h : DF ok w g s) (hl : s.out.length ≤ 1000000) (hnew : ∀ k, w.heap.size ≤ k → ok k) :
    Calls Try.prog 47 #[.pointer (some ⟨g, 0, none⟩)] w fun r w' => r = .returned (.tuple #[]) ∧ DF ok w' g (dOver s) ∧ Frm ok w w' := by
  have hu := Try.underlying86
  have hmf : ∀ (fn : Fn) (first cap : Array Value) (w : World), (Instr.makeFunc fn first cap).run Try.prog w = .ok (.func fn first cap) w := fun _ _ _ _ => rfl
  obtain ⟨hg, vh, vr, vo, hb, hrows⟩ := h
  obtain ⟨Ah, ch, rfl⟩ := Kd.R_slice hrows.1
  obtain ⟨Ar, cr, rfl⟩ := Kd.R_slice hrows.2.1
  obtain ⟨Ao, co, rfl⟩ := Kd.N_slice hrows.2.2
  have c2 : w.cell? ⟨g, 2, none⟩ = some (nextV g s.mode) := (blk_cell hb 2).trans rfl
  have c4 : w.cell? ⟨g, 4, none⟩ = some (.slice Ar s.frag.length cr) := (blk_cell hb 4).trans rfl
  have c6 : w.cell? ⟨g, 6, none⟩ = some (.int .i64 s.n) := (blk_cell hb 6).trans rfl
  have c7 : w.cell? ⟨g, 7, none⟩ = some (.bool s.ends) := (blk_cell hb 7).trans rfl
  have c8 : w.cell? ⟨g, 8, none⟩ = some (.slice Ao s.out.length co) := (blk_cell hb 8).trans rfl
  have z2 := blk_frozen hb 2
  have z4 := blk_frozen hb 4
  have z6 := blk_frozen hb 6
  have z8 := blk_frozen hb 8
  have HB := Aside0.mk hb
  have HR := Aside0.mk hrows
  clear hb hrows
  rcases Bool.eq_false_or_eq_true s.ends with he | he
  · rw [he] at c7
    have HE : Aside0 (dOver s = { s with mode := 0, out := s.out ++ [s.frag], frag := [], n := 0 }) := ⟨by unfold dOver; rw [he]; rfl⟩
    clear he
    go_enter Try.func47, Try.ntmps47
    go_wp2_with fail
    have hR2 := DRows_set HR.out 2 (nextV g 0)
    have hlth := Kd.R_lt hR2.1
    have hgl := blk_lt HB.out
    have HN := Aside0.mk (Kd.N_drew (Kd.N_drop hR2.2.2))
    have HF := Aside0.mk (Kd.FK_slice_mk (e := 5) (Kd.R_reads' (Kd.R_drew hR2.2.1)).2.1 (Kd.R_F (Kd.R_tight rfl (Kd.R_drew hR2.2.1))))
    have HOK : Aside0 (∀ k, some k = (Value.slice Ar s.frag.length cr).ownBlock → ((ok k ∧ k ≠ g) ∧ some k ≠ (Value.slice Ah s.head.length ch).ownBlock) ∧ some k ≠ (Value.slice Ao s.out.length co).ownBlock) := ⟨fun k hk => ⟨hR2.2.1.1 k hk.symm, fun e => (hR2.2.2.1 k e.symm).2 hk⟩⟩
    have HFR : Aside0 (∀ k, w.heap.size ≤ k → (ok k ∧ k ≠ g) ∧ some k ≠ (Value.slice Ah s.head.length ch).ownBlock) := ⟨fun k hk => ⟨⟨hnew k hk, by omega⟩, fun e => by have := hlth k e.symm; simp at this; omega⟩⟩
    have HGV : Aside0 (some g ≠ (Value.slice Ao s.out.length co).ownBlock) := ⟨fun e => (hR2.2.2.1 g e.symm).1.1.2 rfl⟩
    have HH := Aside0.mk (Kd.R_tight2 rfl hR2.1)
    have HHV : Aside0 (∀ k, some k = (Value.slice Ah s.head.length ch).ownBlock → some k ≠ (Value.slice Ao s.out.length co).ownBlock) := ⟨fun k hk e => (hR2.2.2.1 k e.symm).1.2 hk⟩
    have HOV : Aside0 (∀ k, (Value.slice Ao s.out.length co).ownBlock = some k → ok k) := ⟨fun k hk => (hR2.2.2.1 k hk).1.1.1⟩
    clear hR2 hlth
    go_region_law (refine Kd.N_append_step (Kd.slice 5 (Kd.int .u8)) (w0 := (w.setCell ⟨g, 2, none⟩ (nextV g 0)).drew) 0 (by rfl) (.tmp 15) (.tmp 20) 42 28 (.slice none 0 0) 24 rfl Try.underlying42 infoSl rfl (by decide) (by decide) (.slice Ao s.out.length co) s.out s.frag [.slice Ar s.frag.length cr] _ _ (by rfl) (by simp [Act.eval, Act.put]) HF.out HOK.out (fun k hk => HFR.out k (by simpa using hk)) HN.out (Below.refl 0 _) (Nat.zero_le _) (by omega) ?_; intro v1 w2 hn hb2 hg2 hat2; obtain ⟨A1, c1, rfl⟩ := Kd.N_slice hn; have hgb := (hg2.block g (by simpa using hgl) (fun e => HGV.out e)).trans (blk_put HB.out 2 (nextV g 0) rfl); have c8' : w2.cell? ⟨g, 8, none⟩ = some (.slice Ao s.out.length co) := (blk_cell hgb 8).trans rfl; have z8' := blk_frozen hgb 8; have c4' : w2.cell? ⟨g, 4, none⟩ = some (.slice Ar s.frag.length cr) := (blk_cell hgb 4).trans rfl; have z4' := blk_frozen hgb 4; have c6' : w2.cell? ⟨g, 6, none⟩ = some (.int .i64 s.n) := (blk_cell hgb 6).trans rfl; have z6' := blk_frozen hgb 6)
    all_goals
      have HNN := Aside0.mk hn
      have HG2 := Aside0.mk hg2
      have HGB := Aside0.mk hgb
      clear hn hg2 hgb hb2 hat2
      go_wp2_with fail
      go_end0
      rw [HE.out]
      have hlen : (s.out ++ [s.frag]).length = s.out.length + 1 := by simp
      have hnn := HNN.out
      rw [hlen] at hnn
      refine ⟨rfl, ⟨hg, .slice Ah s.head.length ch, .slice none 0 0, .slice A1 (s.out.length + 1) c1, ?_, ?_⟩, ((((((Frm.refl ok w).set g 2 hg (nextV g 0)).drew).grown HG2.out (fun k hk _ => HOV.out k hk)).set g 8 hg _).set g 4 hg _).set g 6 hg _⟩
      · exact blk_put (blk_put (blk_put HGB.out 8 (.slice A1 (s.out.length + 1) c1) rfl) 4 (.slice none 0 0) rfl) 6 (.int .i64 0) rfl
      · refine DRows_set (DRows_set (DRows_set (s := { s with mode := 0, out := s.out ++ [s.frag], frag := [], n := 0 }) ⟨?_, Kd.R_nil _ _ _ _ _, ?_⟩ 8 _) 4 _) 6 _
        · exact Kd.R_mono (Kd.R_grown (Kd.R_drew HH.out) HG2.out (fun k hk => HHV.out k hk.1)) (fun k hk => hk.2)
        · exact Kd.N_mono hnn (fun k hk => ⟨hk, by simp [Value.ownBlock]⟩)
  · rw [he] at c7
    have HE : Aside0 (dOver s = { s with mode := 0 }) := ⟨by unfold dOver; rw [he]; rfl⟩
    clear he
    go_enter Try.func47, Try.ntmps47
    go_wp2_with fail
    go_end0
    rw [HE.out]
    exact ⟨rfl, ⟨hg, _, _, _, blk_put HB.out 2 (nextV g 0) rfl, DRows_set HR.out 2 (nextV g 0)⟩, (Frm.refl ok w).set g 2 hg _⟩
end Go.Proofs.Ytfoifcilacbipaa.G
