/- Walks of law04's laws: the pieces, and what is told behind each. -/
import Derived.Test.YtfoifcilacbipaaD10
import Derived.Test.YtfoifcilacbipaaPx2
import Derived.Test.YtfoifcilacbipaaPx1
namespace Go.Proofs.Ytfoifcilacbipaa.G
open Go.RowKit Go.Proofs.Ytfoifcilacbipaa.P Go.Proofs.Ytfoifcilacbipaa.Pure Go.Proofs.YtfoifcilacbipaaW.PrintWords Go.Proofs.YtfoifcilacbipaaW.PrintLast Go.Proofs.YtfoifcilacbipaaW.PrintMore
set_option linter.unusedVariables false
set_option linter.unusedSimpArgs false

theorem mn_eq (a b : Int) : mn a b = if a ≤ b then a else b := by unfold mn; split <;> split <;> omega
theorem mx_eq (a b : Int) : mx a b = if a ≤ b then b else a := by unfold mx; split <;> split <;> omega

theorem Few_eq (l : List Int) (m : Nat) (hm : m ≤ 1000000) : truchmanref01_Few.f l (m : Int) = some (l.take m) := by
  have h : (mn (l.length : Int) (m : Int)).toNat = min l.length m := by rw [mn_eq]; split <;> omega
  have h2 : (l.take (min l.length m)) = l.take m := by
    rcases Nat.le_total l.length m with h3 | h3
    · rw [Nat.min_eq_left h3, List.take_length, List.take_of_length_le h3]
    · rw [Nat.min_eq_right h3]
  have h3 : 0 ≤ mn (l.length : Int) (m : Int) := by rw [mn_eq]; split <;> omega
  have h4 : mn (l.length : Int) (m : Int) ≤ (l.length : Int) := by rw [mn_eq]; split <;> omega
  unfold truchmanref01_Few.f
  rw [if_pos h3, if_pos h4, h, h2, if_pos (by simp; omega), List.nil_append]

theorem Few_law (A0 : Option Addr) (c0 : Nat) (l0 : List Int) (m : Nat) (hm : m ≤ 1000000) (w : World) (hr0 : Kd.C (Kd.int .u8) w A0 l0.length l0) (hc0 : l0.length ≤ c0) :
    Calls Try.prog 20 #[.slice A0 l0.length c0, .int .i64 (m : Int)] w fun e w' => ∃ A c, e = .returned (.slice A (l0.take m).length c) ∧ Kd.R (Kd.int .u8) 5 w' w.heap.size (fun _ => True) (.slice A (l0.take m).length c) (l0.take m) ∧ Below w.heap.size w w' := by
  refine (truchmanref01_Few.calls A0 c0 l0 (m : Int) _ w hr0 hc0 (Few_eq l0 m hm)).mono ?_
  rintro e w' ⟨v, rfl, hr, hb⟩
  obtain ⟨A, c, rfl⟩ := Kd.R_slice hr
  exact ⟨A, c, rfl, hr, hb⟩

theorem wf_rd {l : List Int} (h : ∀ x ∈ l, (Lit.int .i64 x).wf = true) (i : Int) : (Lit.int .i64 (rd l i)).wf = true := by
  unfold rd
  rw [List.getD_eq_getElem?_getD]
  by_cases hi : i.toNat < l.length
  · rw [List.getElem?_eq_getElem hi]
    exact h _ (List.getElem_mem hi)
  · rw [List.getElem?_eq_none (by omega)]
    rfl

theorem piece_eq (l : List Int) (i : Nat) (h : ∀ x ∈ l, (Lit.int .i64 x).wf = true) : ∃ n : Nat, n ≤ 11 ∧ (i % 9 = 8 → 1 ≤ n) ∧ truchmanlaw04_piece.f l (i : Int) = some (n : Int) := by
  unfold truchmanlaw04_piece.f
  have h9 : Int.tmod (i : Int) 9 = ((i % 9 : Nat) : Int) := by rw [Int.tmod_eq_emod_of_nonneg (by omega)]; omega
  by_cases hl : (l.length : Int) > 0
  · rw [if_pos hl, if_neg (by omega)]
    have hm : Int.tmod (i : Int) (l.length : Int) = ((i % l.length : Nat) : Int) := by rw [Int.tmod_eq_emod_of_nonneg (by omega)]; simp
    have hlt : i % l.length < l.length := Nat.mod_lt _ (by omega)
    rw [hm, if_pos (by omega), if_pos (by omega)]
    obtain ⟨r, hr, he⟩ := around_eq (rd l ((i % l.length : Nat) : Int)) 12 (wf_rd h _) (by omega) (by omega)
    rw [he, h9]
    simp only [Option.bind_some]
    by_cases h8 : i % 9 = 8
    · rw [if_pos (by omega), mx_eq]
      split
      · exact ⟨1, by omega, fun _ => Nat.le_refl _, rfl⟩
      · exact ⟨r, by omega, fun _ => by omega, rfl⟩
    · rw [if_neg (by omega)]
      exact ⟨r, by omega, fun h => absurd h h8, rfl⟩
  · rw [if_neg hl, h9]
    by_cases h8 : i % 9 = 8
    · rw [if_pos (by omega)]
      exact ⟨7, by omega, fun _ => by omega, rfl⟩
    · rw [if_neg (by omega)]
      exact ⟨7, by omega, fun h => absurd h h8, rfl⟩

theorem piece_law (A0 : Option Addr) (c0 : Nat) (l0 : List Int) (i : Nat) (w : World) (hr0 : Kd.C (Kd.int .i64) w A0 l0.length l0) (hc0 : l0.length ≤ c0) (h : ∀ x ∈ l0, (Lit.int .i64 x).wf = true) :
    Calls Try.prog 23 #[.slice A0 l0.length c0, .int .i64 (i : Int)] w fun e w' => ∃ n : Nat, n ≤ 11 ∧ (i % 9 = 8 → 1 ≤ n) ∧ e = .returned (.int .i64 (n : Int)) ∧ Below w.heap.size w w' := by
  obtain ⟨n, h1, h2, h3⟩ := piece_eq l0 i h
  refine (truchmanlaw04_piece.calls A0 c0 l0 (i : Int) (n : Int) w hr0 hc0 h3).mono ?_
  rintro e w' ⟨rfl, hb⟩
  exact ⟨n, h1, h2, rfl, hb⟩

/-- A deframer of a law, and what it has told so far. -/
structure LP (B : Nat) (okX okY : Nat → Prop) (w : World) (g : Nat) (s : DSt) (vp : Value) (p : List (List Int)) : Prop where mk ::
  d : DL B okX w g s 0
  n : Kd.N (Kd.slice 5 (Kd.int .u8)) 28 w 0 (fun k => B ≤ k ∧ ¬ okX k ∧ ¬ okY k) vp p
  y : ∀ k, okY k → k < w.heap.size ∧ ¬ okX k
  b : B ≤ w.heap.size

theorem LP_frm {B : Nat} {okX okY ok : Nat → Prop} {w w' : World} {g : Nat} {s : DSt} {vp : Value} {p : List (List Int)} (h : LP B okX okY w g s vp p) (m : Frm ok w w') (hd : ∀ k, k < w.heap.size → ¬ ok k) : LP B okX okY w' g s vp p :=
  ⟨DL_frm (ok := fun _ => False) h.d (m.mono (fun k hk h => hd k hk h)) (fun _ _ h => h), Kd.N_step h.n (fun k _ hk => m.block k hk (hd k hk)), fun k hk => ⟨Nat.lt_of_lt_of_le (h.y k hk).1 m.size, (h.y k hk).2⟩, Nat.le_trans h.b m.size⟩
theorem LP_below {B : Nat} {okX okY : Nat → Prop} {w w' : World} {g : Nat} {s : DSt} {vp : Value} {p : List (List Int)} (h : LP B okX okY w g s vp p) (m : Below w.heap.size w w') : LP B okX okY w' g s vp p :=
  LP_frm (ok := fun _ => False) h (Frm.of_below m) (fun _ _ h => h)

/-- Behind a piece, ahead of the append. -/
structure LJ (B : Nat) (okX okY : Nat → Prop) (w0 w : World) (g : Nat) (s : DSt) (vp : Value) (p : List (List Int)) (A : Option Addr) (outs : List (List Int)) (okN okp okE : Nat → Prop) : Prop where mk ::
  f : Kd.F (Kd.slice 5 (Kd.int .u8)) w okp A outs.length outs
  fp : ∀ k, okp k → okN k ∧ some k ≠ vp.ownBlock
  n : Kd.N (Kd.slice 5 (Kd.int .u8)) 28 w 0 okN vp p
  fresh : ∀ k, w.heap.size ≤ k → okN k
  frm : Frm (fun k => B ≤ k ∧ ¬ okY k) w0 w
  next : ∀ v1 w1 q, Kd.N (Kd.slice 5 (Kd.int .u8)) 28 w1 0 okN v1 q → w.grownBy w1 vp.ownBlock → LP B okE okY w1 g { s with out := [] } v1 q ∧ Frm (fun k => B ≤ k ∧ ¬ okY k) w0 w1

theorem Feed_join (B : Nat) (okX okY : Nat → Prop) (g : Nat) (s : DSt) (vp : Value) (p : List (List Int)) (A : Option Addr) (c : Nat) (xs : List Int) (w : World) (h : LP B okX okY w g s vp p) (hc : xs.length ≤ c) (hxl : xs.length ≤ 1000000) (hf : Kd.F (Kd.int .u8) w (fun k => ¬ okX k ∧ k < w.heap.size) A xs.length xs) :
    Calls Try.prog 24 #[.pointer (some ⟨g, 0, none⟩), .slice A xs.length c] w fun r w' => ∃ (A2 : Option Addr) (c2 : Nat) (okN okp okE : Nat → Prop), r = .returned (.slice A2 (dRun s xs).out.length c2) ∧ LJ B okX okY w w' g (dRun s xs) vp p A2 (dRun s xs).out okN okp okE ∧ (dRun s xs).out.length ≤ xs.length := by
  refine (Feed_law B okX g s 0 A c xs w h.d h.b hc (by omega) hf).mono ?_
  rintro r w' ⟨vo, okE, rfl, hn, hd, hs, hfr⟩
  obtain ⟨A2, c2, rfl⟩ := Kd.N_slice hn
  have hX : ∀ k, okX k → B ≤ k ∧ ¬ okY k := fun k hk => ⟨(h.d.2.1 k hk).1, fun hy => (h.y k hy).2 hk⟩
  have hown : ∀ k, vp.ownBlock = some k → (B ≤ k ∧ ¬ okX k ∧ ¬ okY k) ∧ k < w.heap.size := fun k hk => ⟨h.n.1 k hk, Kd.N_lt h.n k hk⟩
  have hfr2 : Frm (fun k => B ≤ k ∧ ¬ okY k) w w' := hfr.mono (fun k _ hk => hX k hk)
  refine ⟨A2, c2, fun k => B ≤ k ∧ ¬ okE k ∧ ¬ okY k, fun k => (okX k ∨ w.heap.size ≤ k) ∧ k < w'.heap.size ∧ ¬ okE k, okE, rfl, ⟨Kd.N_F hn, ?_, ?_, ?_, hfr2, ?_⟩, ?_⟩
  · rintro k ⟨h1, h2, h3⟩
    refine ⟨⟨?_, h3, ?_⟩, ?_⟩
    · rcases h1 with h1 | h1
      · exact (h.d.2.1 k h1).1
      · exact Nat.le_trans h.b h1
    · rcases h1 with h1 | h1
      · exact (hX k h1).2
      · exact fun hy => by have := (h.y k hy).1; omega
    · intro e
      obtain ⟨h4, h5⟩ := hown k e.symm
      rcases h1 with h1 | h1
      · exact h4.2.1 h1
      · omega
  · refine Kd.N_mono (Kd.N_step (Kd.N_bound h.n) (fun k hk hlt => hfr.block k hlt hk.1.2.1)) (fun k hk => ⟨hk.1.1, fun he => ?_, hk.1.2.2⟩)
    rcases hs k he with h1 | h1
    · exact hk.1.2.1 h1
    · have := hk.2; omega
  · intro k hk
    refine ⟨Nat.le_trans (Nat.le_trans h.b hfr.size) hk, fun he => ?_, fun hy => ?_⟩
    · have := (hd.2.1 k he).2; omega
    · have := (h.y k hy).1; have := hfr.size; omega
  · intro v1 w1 q hq hg
    have hfg : Frm (fun k => some k = vp.ownBlock) w' w1 := Frm.grown (Frm.refl _ _) hg (fun k hk _ => hk.symm)
    refine ⟨⟨DL_frm hd hfg (fun k he e => ?_), hq, fun k hy => ⟨?_, fun he => ?_⟩, Nat.le_trans h.b (Nat.le_trans hfr.size hfg.size)⟩, hfr2.trans (hfg.mono (fun k _ e => ?_))⟩
    · obtain ⟨h4, h5⟩ := hown k e.symm
      rcases hs k he with h1 | h1
      · exact h4.2.1 h1
      · omega
    · have := (h.y k hy).1; have := hfr.size; have := hfg.size; omega
    · rcases hs k he with h1 | h1
      · exact (h.y k hy).2 h1
      · have := (h.y k hy).1; omega
    · obtain ⟨h4, h5⟩ := hown k e.symm
      exact ⟨h4.1, h4.2.2⟩
  · have := (dInv_run xs h.d.2.2).out
    omega
end Go.Proofs.Ytfoifcilacbipaa.G
