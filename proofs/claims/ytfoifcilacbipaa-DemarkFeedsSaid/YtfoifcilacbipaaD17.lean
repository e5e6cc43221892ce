/- Quiet contracts for law04: piece, Clean; the document's All in a law's terms. -/
import Derived.Test.YtfoifcilacbipaaD16
namespace Go.Proofs.Ytfoifcilacbipaa.G
open Go.RowKit Go.Proofs.Ytfoifcilacbipaa.P Go.Proofs.Ytfoifcilacbipaa.Pure Go.Proofs.YtfoifcilacbipaaW.PrintWords Go.Proofs.YtfoifcilacbipaaW.PrintLast Go.Proofs.YtfoifcilacbipaaW.PrintMore
set_option linter.unusedVariables false
set_option linter.unusedSimpArgs false

attribute [local go_sem] max2_int min2_int max_two min_two

set_option maxHeartbeats 8000000 in
set_option maxRecDepth 100000 in
theorem piece_q (A0 : Option Addr) (c0 : Nat) (l0 : List Int) (i : Nat) (w : World) (hr0 : Kd.C (Kd.int .i64) w A0 l0.length l0) (hc0 : l0.length ≤ c0) (h : ∀ x ∈ l0, (Lit.int .i64 x).wf = true) :
    ∃ n : Nat, n ≤ 11 ∧ (i % 9 = 8 → 1 ≤ n) ∧ ∀ W, (∃ m, W = w.drewN m) → Calls Try.prog 23 #[.slice A0 l0.length c0, .int .i64 (i : Int)] W fun e w' => e = .returned (.int .i64 (n : Int)) ∧ ∃ m, w' = W.drewN m := by
  obtain ⟨q, hq⟩ : ∃ q : Nat, q = i % 9 := ⟨_, rfl⟩
  have hq9 : (i : Int) % 9 = (q : Int) := by omega
  have hq' : q < 9 := by omega
  rw [← hq]
  clear hq
  rcases Nat.eq_zero_or_pos l0.length with h0 | h0
  · refine ⟨7, by omega, fun _ => by omega, ?_⟩
    rintro W ⟨m, rfl⟩
    rw [h0]
    clear hr0 hc0 h h0
    rcases Nat.lt_or_ge q 8 with h8 | h8
    · go_enter Try.func23, Try.ntmps23
      go_wp2_with fail
      go_ret
      exact ⟨rfl, 0, rfl⟩
    · obtain rfl : q = 8 := by omega
      clear h8
      go_enter Try.func23, Try.ntmps23
      go_wp2_with fail
      go_ret
      exact ⟨rfl, 0, rfl⟩
  · obtain ⟨j, hj⟩ : ∃ j : Nat, j = i % l0.length := ⟨_, rfl⟩
    have hjl : j < l0.length := by rw [hj]; exact Nat.mod_lt _ h0
    have hji : (i : Int) % (l0.length : Int) = (j : Int) := by rw [hj]; simp
    obtain ⟨r, hr, he⟩ := around_eq (rd l0 (j : Int)) 12 (wf_rd h _) (by omega) (by omega)
    obtain ⟨ad, rfl, hx⟩ := Kd.at_int hr0 (j : Int) (by omega) (by omega)
    rw [Int.toNat_natCast] at hx
    obtain ⟨v, hv⟩ : ∃ v, v = rd l0 (j : Int) := ⟨_, rfl⟩
    rw [← hv] at he hx
    have HE := Aside0.mk he
    clear hr0 h hj hv he
    rcases Nat.lt_or_ge q 8 with h8 | h8
    · refine ⟨r, by omega, fun h => by omega, ?_⟩
      rintro W ⟨m, rfl⟩
      have hx' : (w.drewN m).cell? (ad.add j) = some (.int .i64 v) := hx
      clear hx
      go_enter Try.func23, Try.ntmps23
      go_wp2_with fail
      refine (truchmanref01_Around.calls v 12 (r : Int) _ HE.out).mono ?_
      rintro e w1 ⟨rfl, n1, rfl⟩
      go_wp2_with fail
      go_ret
      exact ⟨rfl, n1, by rw [World.drewN_drewN]⟩
    · obtain rfl : q = 8 := by omega
      clear h8
      refine ⟨max r 1, by omega, fun _ => by omega, ?_⟩
      rintro W ⟨m, rfl⟩
      have hx' : (w.drewN m).cell? (ad.add j) = some (.int .i64 v) := hx
      have hmx : (if (r : Int) < 1 then 1 else (r : Int)) = ((max r 1 : Nat) : Int) := by split <;> omega
      obtain ⟨z, hz⟩ : ∃ z : Nat, z = max r 1 := ⟨_, rfl⟩
      rw [← hz] at hmx ⊢
      clear hx hz
      go_enter Try.func23, Try.ntmps23
      go_wp2_with fail
      refine (truchmanref01_Around.calls v 12 (r : Int) _ HE.out).mono ?_
      rintro e w1 ⟨rfl, n1, rfl⟩
      go_wp2_with fail
      go_ret
      exact ⟨rfl, n1, by rw [World.drewN_drewN]⟩

set_option maxHeartbeats 8000000 in
set_option maxRecDepth 100000 in
theorem Clean_q (ok : Nat → Prop) (g : Nat) (s : DSt) (w : World) (h : DF ok w g s) (hl : s.head.length ≤ 1000000) (hr : s.frag.length ≤ 1000000) :
    Calls Try.prog 29 #[.pointer (some ⟨g, 0, none⟩)] w fun r w' => r = .returned (.bool (dClean s)) ∧ ∃ m, w' = w.drewN m := by
  have hu := Try.underlying86
  have HD := Aside0.mk h
  obtain ⟨hg, vh, vr, vo, hb, hrows⟩ := h
  have c9 : w.cell? ⟨g, 9, none⟩ = some (.int .i64 s.e) := (blk_cell hb 9).trans rfl
  have c6 : w.cell? ⟨g, 6, none⟩ = some (.int .i64 s.n) := (blk_cell hb 6).trans rfl
  clear hb hrows
  go_enter Try.func29, Try.ntmps29
  rcases Classical.em (s.e = 0) with e0 | e0
  · rcases Classical.em (s.n = 0) with n0 | n0
    · have hv : dClean s = decide ((s.head.length : Int) + (s.frag.length : Int) = 0) := by unfold dClean; rw [decide_eq_true e0, decide_eq_true n0]; rfl
      rw [hv]
      clear hv
      go_wp2_with fail
      refine (Held_calls_d ok g s _ HD.out hl hr).mono ?_
      rintro r w1 ⟨rfl, hf⟩
      have HF := Aside0.mk hf
      clear hf
      go_wp2_with fail
      go_ret
      exact ⟨rfl, HF.out⟩
    · have hv : dClean s = false := by unfold dClean; rw [decide_eq_false n0, Bool.and_false]; rfl
      rw [hv]
      clear hv
      go_wp2_with fail
      go_ret
      exact ⟨rfl, 0, rfl⟩
  · have hv : dClean s = false := by unfold dClean; rw [decide_eq_false e0]; rfl
    rw [hv]
    clear hv
    go_wp2_with fail
    go_ret
    exact ⟨rfl, 0, rfl⟩

theorem refAll_law (P0 : Nat → Prop) (A0 : Option Addr) (c0 : Nat) (b : List Int) (m f : Int) (w : World) (h : dIn m f = true) (hb : By b) (hl : b.length ≤ 1000000) (hs0 : Kd.V (Kd.int .u8) 5 w w.heap.size P0 (.slice A0 b.length c0) b) :
    Calls Try.prog 25 #[.slice A0 b.length c0, .int .i64 m, .int .i64 f] w fun e w' => ∃ (A : Option Addr) (c : Nat), e = .returned (.agg #[.slice A (dAns (dRun (dNew m f) b)).1.length c, .int .i64 (dAns (dRun (dNew m f) b)).2.1, .int .i64 (dAns (dRun (dNew m f) b)).2.2.1, .bool (dAns (dRun (dNew m f) b)).2.2.2]) ∧ (dAns (dRun (dNew m f) b)).1.length ≤ c ∧ Kd.C (Kd.slice 5 (Kd.int .u8)) w' A (dAns (dRun (dNew m f) b)).1.length (dAns (dRun (dNew m f) b)).1 ∧ Below w.heap.size w w' := by
  obtain ⟨k, hk⟩ := (refAll_ev b m f h hb hl).rounds
  refine (truchmanref04_All.calls k P0 A0 c0 b m f _ _ _ _ w hs0 hk).mono ?_
  rintro e w' ⟨v0, rfl, hr, hbl⟩
  obtain ⟨A, c, rfl⟩ := Kd.S_slice hr
  exact ⟨A, c, rfl, (Kd.S_reads' hr).2.1, (Kd.S_reads' hr).2.2, hbl⟩
end Go.Proofs.Ytfoifcilacbipaa.G
