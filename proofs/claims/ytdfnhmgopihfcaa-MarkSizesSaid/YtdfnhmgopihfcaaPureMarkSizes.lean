/- How many bytes each fragment has is the document's, and together they are all: for every number of bytes from 0 to 4096 and every size from 1 on, as the law makes them of any two numbers. -/
import Derived.Test.YtdfnhmgopihfcaaL3
import Derived.Test.YtdfnhmgopihfcaaPx6
namespace Go.Proofs.Ytdfnhmgopihfcaa.Pure
open Go.RowKit Go.Proofs.Ytdfnhmgopihfcaa.P Go.Proofs.Ytdfnhmgopihfcaa.G Go.Proofs.YtdfnhmgopihfcaaW.PrintWords Go.Proofs.YtdfnhmgopihfcaaW.PrintLast Go.Proofs.YtdfnhmgopihfcaaW.PrintMore

theorem sizes_j1 (a1 : Int) (n : Nat) (hn : n ≤ 4096) (ha : a1 ≤ 9223372036854775807) : Ev (fun k => truchmanlaw03_MarkSizes.j1 k a1 (n : Int) false) true := by
  obtain ⟨s, hs, h1, h2⟩ : ∃ s : Nat, mx a1 1 = (s : Int) ∧ 1 ≤ s ∧ s ≤ 9223372036854775807 := by
    unfold mx
    split
    · exact ⟨1, rfl, by omega, by omega⟩
    · exact ⟨a1.toNat, by omega, by omega, by omega⟩
  refine Ev.step (f := fun k => (mark_Sizes.f k (n : Int) (s : Int)).bind fun t280 => (truchmanref03_Sizes.f k (n : Int) (s : Int)).bind fun t283 => (truchmanlaw03_same.f k t280 t283).bind fun t286 => if t286 = true then (truchmanlaw03_lives.f k).bind fun t287 => some t287 else some false) (fun k => ?_) ?_
  · simp only [truchmanlaw03_MarkSizes.j1]
    rw [if_neg (by decide), hs]
  · refine Ev.bind (Sizes_ev n s h1 h2 (by omega)) (Ev.bind (refSizes_ev n s h1 h2 (by omega)) (Ev.bind (same_ev _ ?_) ?_))
    · have := mcount_bound s n h1
      rw [ints_length, goS_len h1 n n (Nat.le_refl _)]; omega
    · refine Ev.congr (f := fun k => (truchmanlaw03_lives.f k).bind fun t287 => some t287) (fun k => if_pos rfl) (Ev.bind lives03 (Ev.now _))

theorem sizes_l0' (a1 : Int) (n s : Nat) (hn : n ≤ 4096) (h1 : 1 ≤ s) (h2 : s ≤ 9223372036854775807) (ha : a1 ≤ 9223372036854775807) (d : Nat) : ∀ (i sum : Nat), i + d = (goS s n n).length → sum + ((goS s n n).drop i).sum = n →
    Ev (fun k => truchmanlaw03_MarkSizes.l0 k a1 (n : Int) (s : Int) (ints (goS s n n)) (sum : Int) (i : Int)) true := by
  have hlen : (goS s n n).length ≤ 4097 := by
    have := mcount_bound s n h1
    rw [goS_len h1 n n (Nat.le_refl _)]; omega
  generalize hL : goS s n n = L at hlen
  induction d with
  | zero =>
    intro i sum hd hs
    rw [List.drop_of_length_le (by omega)] at hs
    simp at hs
    subst hs
    refine Ev.step (f := fun k => (truchmanref03_Sizes.f k (sum : Int) (s : Int)).bind fun t276 => (truchmanlaw03_same.f k (ints L) t276).bind fun t279 => if t279 = true then truchmanlaw03_MarkSizes.j1 k a1 (sum : Int) ((sum : Int) != (sum : Int)) else truchmanlaw03_MarkSizes.j1 k a1 (sum : Int) true) (fun k => ?_) ?_
    · simp only [truchmanlaw03_MarkSizes.l0]
      rw [if_neg (by rw [ints_length]; omega)]
    · refine Ev.bind (refSizes_ev sum s h1 h2 (by omega)) ?_
      rw [hL]
      refine Ev.bind (same_ev _ (by rw [ints_length]; omega)) ?_
      refine Ev.congr (f := fun k => truchmanlaw03_MarkSizes.j1 k a1 (sum : Int) false) (fun k => ?_) (sizes_j1 a1 sum hn ha)
      rw [if_pos rfl, bne_self_eq_false]
  | succ d ih =>
    intro i sum hd hs
    have hi : i < L.length := by omega
    rw [drop_cons L i hi] at hs
    simp only [List.sum_cons] at hs
    have hrd := rd_ints L i hi
    refine Ev.step (f := fun k => truchmanlaw03_MarkSizes.l0 k a1 (n : Int) (s : Int) (ints L) ((sum + L[i] : Nat) : Int) ((i + 1 : Nat) : Int)) (fun k => ?_) (ih (i + 1) (sum + L[i]) (by omega) (by omega))
    simp only [truchmanlaw03_MarkSizes.l0]
    rw [if_pos (by rw [ints_length]; omega), if_pos (by omega), hrd, wrap_id (by omega) (by omega), wrap_id (by omega) (by omega)]
    rfl

theorem MarkSizes : truchmanlaw03_MarkSizes.Pure := by
  intro a0 a1 h0 h1
  obtain ⟨n, hn, en⟩ := around_eq a0 4097 h0 (by decide) (by decide)
  obtain ⟨s, hs, es⟩ := around_eq a1 100 h1 (by decide) (by decide)
  have ha : a1 ≤ 9223372036854775807 := by
    simp [Lit.wf, IntKind.min, IntKind.max, IntKind.signed, IntKind.bits] at h1
    omega
  have hw : wrap64 (1 + (s : Int)) = ((s + 1 : Nat) : Int) := by rw [wrap_id (by omega) (by omega)]; omega
  refine Ev.rounds (Ev.congr (f := fun k => (mark_Sizes.f k (n : Int) ((s + 1 : Nat) : Int)).bind fun t272 => truchmanlaw03_MarkSizes.l0 k a1 (n : Int) ((s + 1 : Nat) : Int) t272 0 0) (fun k => ?_) ?_)
  · unfold truchmanlaw03_MarkSizes.f
    rw [en, Option.bind_some, es, Option.bind_some, hw]
  · refine Ev.bind (Sizes_ev n (s + 1) (by omega) (by omega) (by omega)) ?_
    exact sizes_l0' a1 n (s + 1) (by omega) (by omega) (by omega) ha _ 0 0 (Nat.zero_add _) (by simpa using goS_sum (s := s + 1) (by omega) n n (Nat.le_refl _))

end Go.Proofs.Ytdfnhmgopihfcaa.Pure
