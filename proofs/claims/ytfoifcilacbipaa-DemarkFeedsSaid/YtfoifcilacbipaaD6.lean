/- The hand-made contracts of demark.Deframer, sixth part: Errno, Held, Clean, New. -/
import Derived.Test.YtfoifcilacbipaaD5
namespace Go.Proofs.Ytfoifcilacbipaa.G
open Go.RowKit Go.Proofs.YtfoifcilacbipaaW.PrintWords Go.Proofs.YtfoifcilacbipaaW.PrintLast Go.Proofs.YtfoifcilacbipaaW.PrintMore
set_option linter.unusedVariables false
set_option linter.unusedSimpArgs false

set_option maxHeartbeats 8000000 in
set_option maxRecDepth 100000 in
theorem Errno_calls_d (ok : Nat → Prop) (g : Nat) (s : DSt) (w : World) (h : DF ok w g s) :
    Calls Try.prog 27 #[.pointer (some ⟨g, 0, none⟩)] w fun r w' => r = .returned (.int .i64 s.e) ∧ w' = w := by
  have hu := Try.underlying86
  obtain ⟨hg, vh, vr, vo, hb, hrows⟩ := h
  have c9 : w.cell? ⟨g, 9, none⟩ = some (.int .i64 s.e) := (blk_cell hb 9).trans rfl
  clear hb hrows
  go_enter Try.func27, Try.ntmps27
  go_wp2_with fail
  go_ret
  exact ⟨rfl, rfl⟩

set_option maxHeartbeats 8000000 in
set_option maxRecDepth 100000 in
theorem Held_calls_d (ok : Nat → Prop) (g : Nat) (s : DSt) (w : World) (h : DF ok w g s) (hl : s.head.length ≤ 1000000) (hr : s.frag.length ≤ 1000000) :
    Calls Try.prog 28 #[.pointer (some ⟨g, 0, none⟩)] w fun r w' => r = .returned (.int .i64 ((s.head.length : Int) + (s.frag.length : Int))) ∧ ∃ n, w' = w.drewN n := by
  have hu := Try.underlying86
  obtain ⟨hg, vh, vr, vo, hb, hrows⟩ := h
  obtain ⟨Ah, ch, rfl⟩ := Kd.R_slice hrows.1
  obtain ⟨Ar, cr, rfl⟩ := Kd.R_slice hrows.2.1
  have c3 : w.cell? ⟨g, 3, none⟩ = some (.slice Ah s.head.length ch) := (blk_cell hb 3).trans rfl
  have c4 : w.cell? ⟨g, 4, none⟩ = some (.slice Ar s.frag.length cr) := (blk_cell hb 4).trans rfl
  clear hb hrows
  go_enter Try.func28, Try.ntmps28
  go_wp2_with fail
  go_quiet (fail)
  go_wp2_with fail
  go_ret
  exact ⟨rfl, _, rfl⟩

theorem Held_quiet (ok : Nat → Prop) (g : Nat) (s : DSt) (w : World) (h : DF ok w g s) (hl : s.head.length ≤ 1000000) (hr : s.frag.length ≤ 1000000) :
    Calls Try.prog 28 #[.pointer (some ⟨g, 0, none⟩)] w fun r w' => r = .returned (.int .i64 ((s.head.length : Int) + (s.frag.length : Int))) ∧ Frm (fun _ => False) w w' :=
  (Held_calls_d ok g s w h hl hr).mono (fun r w' ⟨h1, n, h2⟩ => ⟨h1, h2 ▸ (Frm.refl _ w).drewN n⟩)

def dClean (s : DSt) : Bool := (decide (s.e = 0) && decide (s.n = 0)) && decide ((s.head.length : Int) + (s.frag.length : Int) = 0)

set_option maxHeartbeats 8000000 in
set_option maxRecDepth 100000 in
theorem Clean_calls_d (ok : Nat → Prop) (g : Nat) (s : DSt) (w : World) (h : DF ok w g s) (hl : s.head.length ≤ 1000000) (hr : s.frag.length ≤ 1000000) :
    Calls Try.prog 29 #[.pointer (some ⟨g, 0, none⟩)] w fun r w' => r = .returned (.bool (dClean s)) ∧ Frm (fun _ => False) w w' := by
  have hu := Try.underlying86
  have HD := Aside0.mk h
  obtain ⟨hg, vh, vr, vo, hb, hrows⟩ := h
  have c9 : w.cell? ⟨g, 9, none⟩ = some (.int .i64 s.e) := (blk_cell hb 9).trans rfl
  have c6 : w.cell? ⟨g, 6, none⟩ = some (.int .i64 s.n) := (blk_cell hb 6).trans rfl
  clear hb hrows
  go_enter Try.func29, Try.ntmps29
  rcases Classical.em (s.e = 0) with e0 | e0
  · rcases Classical.em (s.n = 0) with n0 | n0
    · have hv : dClean s = decide ((s.head.length : Int) + (s.frag.length : Int) = 0) := by unfold dClean; rw [decide_eq_true e0, decide_eq_true n0]; rfl
      rw [hv]
      clear hv
      go_wp2_with fail
      refine (Held_quiet ok g s _ HD.out hl hr).mono ?_
      rintro r w1 ⟨rfl, hf⟩
      have HF := Aside0.mk hf
      clear hf
      go_wp2_with fail
      go_ret
      exact ⟨rfl, HF.out⟩
    · have hv : dClean s = false := by unfold dClean; rw [decide_eq_false n0, Bool.and_false]; rfl
      rw [hv]
      clear hv
      go_wp2_with fail
      go_ret
      exact ⟨rfl, Frm.refl _ _⟩
  · have hv : dClean s = false := by unfold dClean; rw [decide_eq_false e0]; rfl
    rw [hv]
    clear hv
    go_wp2_with fail
    go_ret
    exact ⟨rfl, Frm.refl _ _⟩

/-- What a new one is. -/
def dNew (most frags : Int) : DSt := ⟨most, frags, 0, [], [], 0, 0, false, [], 0⟩
def dIn (most frags : Int) : Bool := decide (0 ≤ most) && decide (most ≤ 4096) && decide (1 ≤ frags) && decide (frags ≤ 64)

set_option maxHeartbeats 8000000 in
set_option maxRecDepth 100000 in
theorem New_in (m f : Int) (w : World) (h : dIn m f = true) :
    Calls Try.prog 22 #[.int .i64 m, .int .i64 f] w fun r w' => r = .returned (.tuple #[.pointer (some ⟨w.heap.size, 0, none⟩), .int .i64 0]) ∧ DF (fun k => w.heap.size ≤ k) w' w.heap.size (dNew m f) ∧ Below w.heap.size w w' := by
  have hu := Try.underlying86
  unfold dIn at h
  simp only [Bool.and_eq_true, decide_eq_true_eq] at h
  obtain ⟨⟨⟨m0, m1⟩, f0⟩, f1⟩ := h
  go_enter Try.func22, Try.ntmps22
  go_wp2_with fail
  go_ret2
  refine ⟨rfl, ⟨Nat.le_refl _, .slice none 0 0, .slice none 0 0, .slice none 0 0, heap_alloc_new w _, Kd.R_nil _ _ _ _ _, Kd.R_nil _ _ _ _ _, Kd.N_nil _ _ _ _ _⟩, ?_⟩
  exact below_alloc (Below.refl _ _) _

set_option maxHeartbeats 8000000 in
set_option maxRecDepth 100000 in
theorem New_out (m f : Int) (w : World) (h : dIn m f = false) :
    Calls Try.prog 22 #[.int .i64 m, .int .i64 f] w fun r w' => r = .returned (.tuple #[.pointer none, .int .i64 1]) ∧ w' = w := by
  have h2 : m < 0 ∨ m > 4096 ∨ f < 1 ∨ f > 64 := by
    refine Classical.byContradiction fun hn => ?_
    have : dIn m f = true := by unfold dIn; simp only [Bool.and_eq_true, decide_eq_true_eq]; omega
    rw [this] at h; cases h
  clear h
  go_enter Try.func22, Try.ntmps22
  rcases Classical.em (m < 0) with m0 | m0
  · go_wp2_with fail
    go_ret2
    exact ⟨rfl, rfl⟩
  · rcases Classical.em (m > 4096) with m1 | m1
    · go_wp2_with fail
      go_ret2
      exact ⟨rfl, rfl⟩
    · rcases Classical.em (f < 1) with f0 | f0
      · go_wp2_with fail
        go_ret2
        exact ⟨rfl, rfl⟩
      · have f1 : f > 64 := by omega
        go_wp2_with fail
        go_ret2
        exact ⟨rfl, rfl⟩
end Go.Proofs.Ytfoifcilacbipaa.G
