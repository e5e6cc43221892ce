/- Plain laws of the deframer's steps, and of the document's All: piece by piece is all at once. -/
import Derived.Test.YtfoifcilacbipaaD6
import Derived.Test.YtfoifcilacbipaaPx3
namespace Go.Proofs.Ytfoifcilacbipaa.Pure
open Go.RowKit Go.Proofs.Ytfoifcilacbipaa.P Go.Proofs.Ytfoifcilacbipaa.G Go.Proofs.YtfoifcilacbipaaW.PrintWords Go.Proofs.YtfoifcilacbipaaW.PrintLast Go.Proofs.YtfoifcilacbipaaW.PrintMore
set_option linter.unusedVariables false
set_option linter.unusedSimpArgs false

theorem dRun_cons (s : DSt) (x : Int) (xs : List Int) : dRun s (x :: xs) = dRun (dStep s x) xs := rfl
theorem dRun_append (s : DSt) (xs ys : List Int) : dRun s (xs ++ ys) = dRun (dRun s xs) ys := by simp [dRun, List.foldl_append]
theorem dRun_nil (s : DSt) : dRun s [] = s := rfl

theorem dStep_two {s : DSt} (h : 2 ≤ s.mode) (x : Int) : dStep s x = s := by
  obtain ⟨a, b, m, c, d, e, f, g, o, i⟩ := s
  rcases m with _ | _ | m
  · simp at h
  · simp at h
  · rfl
theorem dRun_two {s : DSt} (h : 2 ≤ s.mode) (xs : List Int) : dRun s xs = s := by
  induction xs with
  | nil => rfl
  | cons x xs ih => rw [dRun_cons, dStep_two h, ih]

/-- What holds of a deframer, at the latest with N records told. -/
structure DInv (s : DSt) (N : Nat) : Prop where mk ::
  most0 : 0 ≤ s.most
  most1 : s.most ≤ 4096
  frags0 : 1 ≤ s.frags
  frags1 : s.frags ≤ 64
  n0 : 0 ≤ s.n
  n1 : s.n ≤ s.frags + 1
  n2 : s.mode < 2 → s.n ≤ s.frags
  out : s.out.length ≤ N
  frag : (s.frag.length : Int) ≤ s.most
  head : s.head.length ≤ 3
  l0 : 0 ≤ s.left
  l1 : s.left ≤ 4294967296
  m1 : s.mode = 1 → s.head = [] ∧ 0 < s.left ∧ (s.frag.length : Int) + s.left ≤ s.most ∧ 1 ≤ s.n
  e0 : s.mode < 2 → s.e = 0
  nf : s.n = 0 → s.frag = []

theorem dInv_bnd {s : DSt} {N : Nat} (h : DInv s N) (hN : N ≤ 1000000) : Bnd s :=
  ⟨h.n0, by have := h.n1; have := h.frags1; omega, Nat.le_trans h.out hN, by have := h.frag; have := h.most1; omega, h.head, h.most0, by have := h.most1; omega, by have := h.l0; omega, by have := h.l1; omega⟩
theorem dInv_new {m f : Int} (h : dIn m f = true) : DInv (dNew m f) 0 := by
  unfold dIn at h
  simp only [Bool.and_eq_true, decide_eq_true_eq] at h
  obtain ⟨⟨⟨m0, m1⟩, f0⟩, f1⟩ := h
  exact ⟨m0, m1, f0, f1, Int.le_refl _, by simp only [dNew]; omega, fun _ => by simp only [dNew]; omega, Nat.le_refl _, by simpa [dNew] using m0, by simp [dNew], Int.le_refl _, by simp [dNew], fun h => by simp [dNew] at h, fun _ => rfl, fun _ => rfl⟩
theorem dInv_out {s : DSt} {N : Nat} (h : DInv s N) (o : List (List Int)) : DInv { s with out := o } o.length :=
  ⟨h.most0, h.most1, h.frags0, h.frags1, h.n0, h.n1, h.n2, Nat.le_refl _, h.frag, h.head, h.l0, h.l1, h.m1, h.e0, h.nf⟩

theorem dInv_over {s : DSt} {N : Nat} (h : DInv s N) (hm : s.mode < 2) (hh : s.head.length ≤ 3) : DInv (dOver s) (N + 1) := by
  unfold dOver
  split
  · exact ⟨h.most0, h.most1, h.frags0, h.frags1, Int.le_refl _, by have := h.frags0; simp only; omega, fun _ => by have := h.frags0; simp only; omega, by have := h.out; simp; omega, by simpa using h.most0, h.head, h.l0, h.l1, fun h => by simp at h, fun _ => h.e0 hm, fun _ => rfl⟩
  · exact ⟨h.most0, h.most1, h.frags0, h.frags1, h.n0, h.n1, fun _ => h.n2 hm, by have := h.out; simp; omega, h.frag, h.head, h.l0, h.l1, fun h => by simp at h, fun _ => h.e0 hm, h.nf⟩
theorem dInv_fail {s : DSt} {N : Nat} (h : DInv s N) (e : Int) (hn : s.n ≤ s.frags + 1) : DInv (dFail s e) (N + 1) :=
  ⟨h.most0, h.most1, h.frags0, h.frags1, h.n0, hn, fun h => by simp [dFail] at h, by have := h.out; simp [dFail]; omega, by simpa [dFail] using h.most0, by simp [dFail], h.l0, h.l1, fun h => by simp [dFail] at h, fun h => by simp [dFail] at h, fun _ => rfl⟩

theorem num4_le (l : List Int) : 0 ≤ num4 l ∧ num4 l < 4294967296 := by unfold num4; omega

theorem dInv_step {s : DSt} {N : Nat} (h : DInv s N) (x : Int) : DInv (dStep s x) (N + 1) := by
  obtain ⟨most, frags, mode, head, frag, left, n, ends, out, e⟩ := s
  obtain ⟨most0, most1, frags0, frags1, n0, n1, n2, hout, hfrag, hhead, l0, l1, m1, e0, nf⟩ := h
  simp only at most0 most1 frags0 frags1 n0 n1 n2 hout hfrag hhead l0 l1 m1 e0 nf
  rcases mode with _ | _ | m
  · have n2' := n2 (by decide)
    have e0' := e0 (by decide)
    subst e0'
    show DInv (dNumber _ x) (N + 1)
    unfold dNumber
    simp only
    split
    · exact ⟨most0, most1, frags0, frags1, n0, n1, fun _ => n2', by simp only; omega, hfrag, by simp; omega, l0, l1, fun h => by simp at h, fun _ => rfl, nf⟩
    · have h4 := num4_le (head ++ [x])
      generalize num4 (head ++ [x]) = v at h4
      split
      · exact ⟨most0, most1, frags0, frags1, by simp only [dFail]; omega, by simp only [dFail]; omega, fun h => by simp [dFail] at h, by simp only [dFail]; omega, by simpa [dFail] using most0, by simp [dFail], by simp only [dFail]; omega, by simp only [dFail]; omega, fun h => by simp [dFail] at h, fun h => by simp [dFail] at h, fun _ => rfl⟩
      · split
        · exact ⟨most0, most1, frags0, frags1, by simp only [dFail]; omega, by simp only [dFail]; omega, fun h => by simp [dFail] at h, by simp only [dFail]; omega, by simpa [dFail] using most0, by simp [dFail], by simp only [dFail]; omega, by simp only [dFail]; omega, fun h => by simp [dFail] at h, fun h => by simp [dFail] at h, fun _ => rfl⟩
        · split
          · exact dInv_over (N := N) ⟨most0, most1, frags0, frags1, by simp only; omega, by simp only; omega, fun _ => by simp only; omega, hout, hfrag, by simp, by simp only; omega, by simp only; omega, fun h => by simp at h, fun _ => rfl, fun h => absurd h (by show ¬ (n + 1 = 0); omega)⟩ (by simp) (by simp)
          · exact ⟨most0, most1, frags0, frags1, by simp only; omega, by simp only; omega, fun _ => by simp only; omega, by simp only; omega, hfrag, by simp, by simp only; omega, by simp only; omega, fun _ => ⟨rfl, by simp only; omega, by simp only; omega, by simp only; omega⟩, fun _ => rfl, fun h => absurd h (by show ¬ (n + 1 = 0); omega)⟩
  · obtain ⟨rfl, m2, m3, m4⟩ := m1 rfl
    have n2' := n2 (by decide)
    have e0' := e0 (by decide)
    subst e0'
    show DInv (dBody _ x) (N + 1)
    unfold dBody
    simp only
    split
    · exact dInv_over (N := N) (s := ⟨most, frags, 0, [], frag ++ [x], left - 1, n, ends, out, 0⟩) ⟨most0, most1, frags0, frags1, n0, n1, fun _ => n2', hout, by simp; omega, by simp, by simp only; omega, by simp only; omega, fun h => by simp at h, fun _ => rfl, fun h => absurd h (by show ¬ (n = 0); omega)⟩ (by simp) (by simp)
    · exact ⟨most0, most1, frags0, frags1, n0, n1, fun _ => n2', by simp only; omega, by simp; omega, by simp, by simp only; omega, by simp only; omega, fun _ => ⟨rfl, by simp only; omega, by simp; omega, m4⟩, fun _ => rfl, fun h => absurd h (by show ¬ (n = 0); omega)⟩
  · exact ⟨most0, most1, frags0, frags1, n0, n1, fun h => absurd h (by show ¬ (m + 1 + 1 < 2); omega), (by show out.length ≤ N + 1; omega), hfrag, hhead, l0, l1, fun h => absurd h (by show ¬ (m + 1 + 1 = 1); omega), fun h => absurd h (by show ¬ (m + 1 + 1 < 2); omega), nf⟩

theorem dInv_run (xs : List Int) : ∀ {s : DSt} {N : Nat}, DInv s N → DInv (dRun s xs) (N + xs.length) := by
  induction xs with
  | nil => intro s N h; exact h
  | cons x xs ih => intro s N h; have := ih (dInv_step h x); rw [dRun_cons]; rwa [show N + (x :: xs).length = N + 1 + xs.length by simp; omega]
end Go.Proofs.Ytfoifcilacbipaa.Pure
