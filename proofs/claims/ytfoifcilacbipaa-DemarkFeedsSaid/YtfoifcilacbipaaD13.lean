/- Plain laws of the document's marking of records, and of what a deframer makes of it. -/
import Derived.Test.YtfoifcilacbipaaD11
import Derived.Test.YtfoifcilacbipaaD12
import Derived.Test.YtfoifcilacbipaaG1
import Derived.Test.YtfoifcilacbipaaPx1
import Derived.Test.YtfoifcilacbipaaPx2
namespace Go.Proofs.Ytfoifcilacbipaa.G
open Go.RowKit Go.Proofs.Ytfoifcilacbipaa.P Go.Proofs.Ytfoifcilacbipaa.Pure Go.Proofs.YtfoifcilacbipaaW.PrintWords Go.Proofs.YtfoifcilacbipaaW.PrintLast Go.Proofs.YtfoifcilacbipaaW.PrintMore
set_option linter.unusedVariables false
set_option linter.unusedSimpArgs false

theorem refU32_eq (n : Nat) (h : n < 4294967296) : truchmanref01_U32.f (n : Int) = some (beN (n : Int) 4) := by
  unfold truchmanref01_U32.f
  have d : ∀ m : Nat, Int.tdiv (n : Int) (m : Int) = ((n / m : Nat) : Int) := fun m => by rw [Int.tdiv_eq_ediv_of_nonneg (by omega)]; simp
  have h1 : Int.tdiv (n : Int) 16777216 = ((n / 16777216 : Nat) : Int) := d 16777216
  have h2 : Int.tdiv (n : Int) 65536 = ((n / 65536 : Nat) : Int) := d 65536
  have h3 : Int.tdiv (n : Int) 256 = ((n / 256 : Nat) : Int) := d 256
  rw [h1, h2, h3, Int.tmod_eq_emod_of_nonneg (by omega)]
  simp only [beN]
  congr 1
  simp

/-- How many bytes each fragment has. -/
def goS (s : Nat) : Nat → Nat → List Nat
  | 0, n => [n]
  | d + 1, n => if s < n then s :: goS s d (n - s) else [n]
def mcount (s n : Nat) : Nat := if n = 0 then 1 else (n - 1) / s + 1
def ints (l : List Nat) : List Int := l.map (fun n : Nat => (n : Int))

theorem mcount_le {s n : Nat} (h1 : 1 ≤ s) (h : n ≤ s) : mcount s n = 1 := by
  unfold mcount
  split
  · rfl
  · rw [Nat.div_eq_of_lt (by omega)]
theorem mcount_gt {s n : Nat} (h1 : 1 ≤ s) (h : s < n) : mcount s n = mcount s (n - s) + 1 := by
  unfold mcount
  rw [if_neg (by omega), if_neg (by omega)]
  have h2 : n - 1 = (n - s - 1) + s := by omega
  rw [h2, Nat.add_div_right _ (by omega)]

theorem mcount_bound (s n : Nat) (_h1 : 1 ≤ s) : mcount s n ≤ n + 1 := by
  unfold mcount
  split
  · omega
  · have := Nat.div_le_self (n - 1) s
    omega

theorem goS_len {s : Nat} (h1 : 1 ≤ s) : ∀ d n, n ≤ d → (goS s d n).length = mcount s n := by
  intro d
  induction d with
  | zero => intro n h; rw [mcount_le h1 (by omega)]; rfl
  | succ d ih =>
    intro n h
    unfold goS
    split
    · rename_i hs
      rw [List.length_cons, ih _ (by omega), mcount_gt h1 hs]
    · rw [mcount_le h1 (by omega)]; rfl
theorem goS_sum {s : Nat} (h1 : 1 ≤ s) : ∀ d n, n ≤ d → (goS s d n).sum = n := by
  intro d
  induction d with
  | zero => intro n h; simp [goS]
  | succ d ih =>
    intro n h
    unfold goS
    split
    · rename_i hs
      rw [List.sum_cons, ih _ (by omega)]
      omega
    · simp

theorem refSizes_l0 (s : Nat) (h1 : 1 ≤ s) (hs : s ≤ 9223372036854775807) (d : Nat) : ∀ (n : Nat) (out : List Int), n ≤ d → n ≤ 1000000 → out.length + n ≤ 1000000 →
    Ev (fun k => truchmanref03_Sizes.l0 k (n : Int) (s : Int) out) (out ++ ints (goS s d n)) := by
  have fin : ∀ (n : Nat) (out : List Int), n ≤ s → out.length ≤ 1000000 → Ev (fun k => truchmanref03_Sizes.l0 k (n : Int) (s : Int) out) (out ++ [(n : Int)]) := by
    intro n out h hl
    refine Ev.step (f := fun _ => some (out ++ [(n : Int)])) (fun k => ?_) (Ev.now _)
    simp only [truchmanref03_Sizes.l0]
    rw [if_neg (by omega), if_pos (by omega)]
  induction d with
  | zero =>
    intro n out hd hn hl
    exact fin n out (by omega) (by omega)
  | succ d ih =>
    intro n out hd hn hl
    by_cases h : s < n
    · have hg : goS s (d + 1) n = s :: goS s d (n - s) := by simp only [goS]; rw [if_pos h]
      rw [hg, show ints (s :: goS s d (n - s)) = (s : Int) :: ints (goS s d (n - s)) from rfl, ← List.singleton_append, ← List.append_assoc]
      refine Ev.step (f := fun k => truchmanref03_Sizes.l0 k ((n - s : Nat) : Int) (s : Int) (out ++ [(s : Int)])) (fun k => ?_) (ih (n - s) _ (by omega) (by omega) (by simp; omega))
      simp only [truchmanref03_Sizes.l0]
      rw [if_pos (by omega), if_pos (by omega), wrap_id (by omega) (by omega)]
      congr 1
      omega
    · have hg : goS s (d + 1) n = [n] := by simp only [goS]; rw [if_neg h]
      rw [hg]
      exact fin n out (by omega) (by omega)

theorem refSizes_ev (n s : Nat) (h1 : 1 ≤ s) (hs : s ≤ 9223372036854775807) (hn : n ≤ 1000000) : Ev (fun k => truchmanref03_Sizes.f k (n : Int) (s : Int)) (ints (goS s n n)) :=
  refSizes_l0 s h1 hs n n [] (Nat.le_refl _) hn (by simpa using hn)

/-- A record's fragments: their numbers, the last one marked, and their bytes. -/
def frames : List Int → List Nat → List Int
  | _, [] => []
  | rest, x :: xs => beN ((x : Int) + (if xs.isEmpty then 2147483648 else 0)) 4 ++ rest.take x ++ frames (rest.drop x) xs

theorem frames_length : ∀ (L : List Nat) (rest : List Int), rest.length = L.sum → (frames rest L).length = 4 * L.length + rest.length := by
  intro L
  induction L with
  | nil => intro rest h; simp at h; simp [frames, h]
  | cons x xs ih =>
    intro rest h
    simp only [List.sum_cons] at h
    simp only [frames, List.length_append, beN_length, List.length_take, List.length_cons]
    rw [ih (rest.drop x) (by rw [List.length_drop]; omega), List.length_drop]
    omega

def markSpec (l : List Int) (a : Int) : List Int × Int :=
  if a < 1 then ([], 1) else if l.length > 4096 then ([], 4) else if mcount a.toNat l.length > 64 then ([], 5) else (frames l (goS a.toNat l.length l.length), 0)

theorem ints_length (L : List Nat) : (ints L).length = L.length := by simp [ints]
theorem rd_ints (L : List Nat) (i : Nat) (h : i < L.length) : rd (ints L) (i : Int) = ((L[i] : Nat) : Int) := by
  unfold rd ints
  rw [Int.toNat_natCast, List.getD_eq_getElem?_getD]
  simp [h]
theorem drop_cons {α : Type} (L : List α) (i : Nat) (h : i < L.length) : L.drop i = L[i] :: L.drop (i + 1) := List.drop_eq_getElem_cons h

theorem refMark_l0 (rec : List Int) (L : List Nat) (hL : L.length ≤ 5000) (hrec : rec.length ≤ 5000) (d : Nat) : ∀ (i at_ : Nat) (out : List Int), i + d = L.length → at_ + (L.drop i).sum = rec.length → out.length ≤ 10000 * i →
    Ev (fun k => truchmanref03_Mark.l0 k rec (ints L) out (at_ : Int) (i : Int)) (out ++ frames (rec.drop at_) (L.drop i), 0) := by
  induction d with
  | zero =>
    intro i at_ out hd hs ho
    refine Ev.step (f := fun _ => some (out ++ frames (rec.drop at_) (L.drop i), 0)) (fun k => ?_) (Ev.now _)
    simp only [truchmanref03_Mark.l0]
    rw [ints_length, if_neg (by omega), List.drop_of_length_le (i := i) (by omega)]
    simp [frames]
  | succ d ih =>
    intro i at_ out hd hs ho
    have hi : i < L.length := by omega
    rw [drop_cons L i hi] at hs ⊢
    simp only [List.sum_cons] at hs
    have hrd := rd_ints L i hi
    generalize hxx : L[i] = x at hs hrd
    have hb := fun n : Int => beN_length n 4
    have htk : (rec.take (at_ + x)).drop at_ = (rec.drop at_).take x := by rw [List.drop_take]; congr 1; omega
    have hlt : ((rec.drop at_).take x).length ≤ 5000 := by simp only [List.length_take, List.length_drop]; omega
    refine Ev.step (f := fun k => truchmanref03_Mark.l0 k rec (ints L) (out ++ beN ((x : Int) + (if (L.drop (i + 1)).isEmpty then 2147483648 else 0)) 4 ++ (rec.drop at_).take x) ((at_ + x : Nat) : Int) ((i + 1 : Nat) : Int)) (fun k => ?_) ?_
    · simp only [truchmanref03_Mark.l0]
      rw [if_pos (by rw [ints_length]; omega), if_pos (by omega), hrd, ints_length, wrap_id (a := (L.length : Int) - 1) (by omega) (by omega), wrap_id (a := (at_ : Int) + (x : Int)) (by omega) (by omega)]
      have hm : (x : Int) % 4294967296 = (x : Int) := by omega
      rw [hm]
      have ht : ((at_ : Int) + (x : Int)).toNat = at_ + x := by omega
      by_cases hl : (i : Int) = (L.length : Int) - 1
      · have he : (L.drop (i + 1)).isEmpty = true := by rw [List.drop_of_length_le (by omega)]; rfl
        have hm2 : ((x : Int) + 2147483648) % 4294967296 = ((x + 2147483648 : Nat) : Int) := by omega
        rw [if_pos hl, he, hm2, refU32_eq _ (by omega), Option.bind_some, if_pos (by rw [hb]; omega), Option.bind_some, if_pos (by omega), if_pos (by omega), if_pos (by omega), ht, Int.toNat_natCast, htk,
          if_pos (by rw [List.length_append, hb]; omega), wrap_id (by omega) (by omega)]
        congr 1
      · have he : (L.drop (i + 1)).isEmpty = false := by
          rw [List.drop_eq_getElem_cons (show i + 1 < L.length by omega)]; rfl
        rw [if_neg hl, he, refU32_eq _ (by omega), Option.bind_some, if_pos (by rw [hb]; omega), Option.bind_some, if_pos (by omega), if_pos (by omega), if_pos (by omega), ht, Int.toNat_natCast, htk,
          if_pos (by rw [List.length_append, hb]; omega), wrap_id (by omega) (by omega)]
        simp
    · have h := ih (i + 1) (at_ + x) (out ++ beN ((x : Int) + (if (L.drop (i + 1)).isEmpty then 2147483648 else 0)) 4 ++ (rec.drop at_).take x) (by omega) (by omega) (by rw [List.length_append, List.length_append, hb]; omega)
      simp only [frames]
      rw [← List.append_assoc, ← List.append_assoc, List.drop_drop]
      exact h

theorem refMark_ev (l : List Int) (a : Int) (ha : a ≤ 9223372036854775807) (hl : l.length ≤ 1000000) : Ev (fun k => truchmanref03_Mark.f k l a) (markSpec l a) := by
  unfold markSpec
  by_cases h1 : a < 1
  · rw [if_pos h1]
    exact Ev.congr (f := fun _ => some ([], 1)) (fun k => by unfold truchmanref03_Mark.f; rw [if_pos h1]) (Ev.now _)
  · rw [if_neg h1]
    obtain ⟨s, rfl⟩ : ∃ s : Nat, a = (s : Int) := ⟨a.toNat, by omega⟩
    rw [Int.toNat_natCast]
    by_cases h2 : l.length > 4096
    · rw [if_pos h2]
      exact Ev.congr (f := fun _ => some ([], 4)) (fun k => by unfold truchmanref03_Mark.f; rw [if_neg h1, if_pos (by omega)]) (Ev.now _)
    · rw [if_neg h2]
      have hsl := goS_len (s := s) (by omega) l.length l.length (Nat.le_refl _)
      have hss := goS_sum (s := s) (by omega) l.length l.length (Nat.le_refl _)
      refine Ev.congr (f := fun k => (truchmanref03_Sizes.f k (l.length : Int) (s : Int)).bind fun t => if (t.length : Int) > 64 then some ([], 5) else truchmanref03_Mark.l0 k l t ([] : List Int) 0 0) (fun k => by unfold truchmanref03_Mark.f; rw [if_neg h1, if_neg (by omega)]) ?_
      refine Ev.bind (refSizes_ev l.length s (by omega) (by omega) hl) ?_
      rw [ints_length, hsl]
      by_cases h3 : mcount s l.length > 64
      · rw [if_pos h3]
        exact Ev.congr (f := fun _ => some ([], 5)) (fun k => by rw [if_pos (by omega)]) (Ev.now _)
      · rw [if_neg h3]
        refine Ev.congr (f := fun k => truchmanref03_Mark.l0 k l (ints (goS s l.length l.length)) ([] : List Int) ((0 : Nat) : Int) ((0 : Nat) : Int)) (fun k => by rw [if_neg (by omega)]; rfl) ?_
        have h := refMark_l0 l (goS s l.length l.length) (by omega) (by omega) _ 0 0 [] (Nat.zero_add _) (by simpa using hss) (by simp)
        simpa using h


theorem num4_be (v : Int) (h0 : 0 ≤ v) (h1 : v < 4294967296) : num4 (beN v 4) = v := by
  obtain ⟨n, rfl⟩ : ∃ n : Nat, v = (n : Int) := ⟨v.toNat, by omega⟩
  simp only [beN, List.nil_append, List.cons_append]
  rw [num4_eq (by omega) (by omega) (by omega) (by omega)]
  omega

theorem dRun_num (most frags : Int) (frag : List Int) (left n : Int) (ends : Bool) (out : List (List Int)) (e : Int) (v : Int) (h0 : 0 ≤ v) (h1 : v < 4294967296) :
    dRun ⟨most, frags, 0, [], frag, left, n, ends, out, e⟩ (beN v 4) =
      (if n + 1 > frags then dFail ⟨most, frags, 0, [], frag, v % 2147483648, n + 1, decide (2147483648 ≤ v), out, e⟩ 5 else if v % 2147483648 > most - (frag.length : Int) then dFail ⟨most, frags, 0, [], frag, v % 2147483648, n + 1, decide (2147483648 ≤ v), out, e⟩ 4 else if v % 2147483648 = 0 then dOver ⟨most, frags, 0, [], frag, v % 2147483648, n + 1, decide (2147483648 ≤ v), out, e⟩ else ⟨most, frags, 1, [], frag, v % 2147483648, n + 1, decide (2147483648 ≤ v), out, e⟩) := by
  have hv := num4_be v h0 h1
  obtain ⟨a, b, c, d, hb⟩ : ∃ a b c d, beN v 4 = [a, b, c, d] := ⟨_, _, _, _, rfl⟩
  rw [hb] at hv ⊢
  rw [show [a, b, c, d] = [a, b, c] ++ [d] from rfl, dRun_append, dRun_head [a, b, c] _ rfl (by simp)]
  show dNumber ⟨most, frags, 0, [a, b, c], frag, left, n, ends, out, e⟩ d = _
  unfold dNumber
  rw [if_neg (by simp)]
  rw [show (⟨most, frags, 0, [a, b, c], frag, left, n, ends, out, e⟩ : DSt).head ++ [d] = [a, b, c, d] from rfl, hv]

theorem dRun_frames : ∀ (L : List Nat) (rest : List Int) (most frags : Int) (frag : List Int) (left n : Int) (ends : Bool) (out : List (List Int)), L ≠ [] → rest.length = L.sum → n + L.length ≤ frags → (frag.length : Int) + rest.length ≤ most → most ≤ 4096 →
    ∃ left2 ends2, dRun ⟨most, frags, 0, [], frag, left, n, ends, out, 0⟩ (frames rest L) = ⟨most, frags, 0, [], [], left2, 0, ends2, out ++ [frag ++ rest], 0⟩ := by
  intro L
  induction L with
  | nil => intro rest most frags frag left n ends out h; exact absurd rfl h
  | cons x xs ih =>
    intro rest most frags frag left n ends out _ hs hn hm hm2
    simp only [List.sum_cons] at hs
    simp only [List.length_cons] at hn
    have hx : x ≤ 4096 := by omega
    have hxr : (rest.take x).length = x := by rw [List.length_take]; omega
    simp only [frames]
    rw [List.append_assoc, dRun_append, dRun_append]
    rcases xs with _ | ⟨y, ys⟩
    · rw [show ([] : List Nat).isEmpty = true from rfl, if_pos rfl, show frames (rest.drop x) [] = [] from rfl]
      simp only [List.sum_nil] at hs
      rw [dRun_num _ _ _ _ _ _ _ _ _ (by omega) (by omega)]
      have h1 : ((x : Int) + 2147483648) % 2147483648 = (x : Int) := by omega
      rw [h1, if_neg (by simp at hn; omega), if_neg (by omega)]
      have ht : rest.take x = rest := List.take_of_length_le (by omega)
      obtain ⟨y, hy⟩ : ∃ y : Int, y = (x : Int) := ⟨_, rfl⟩
      have hd : decide (2147483648 ≤ (x : Int) + 2147483648) = true := by rw [← hy]; exact decide_eq_true (by omega)
      rw [ht]
      by_cases h0 : (x : Int) = 0
      · have hr : rest = [] := List.eq_nil_of_length_eq_zero (by omega)
        subst hr
        rw [if_pos h0, dRun_nil, dRun_nil, List.append_nil]
        unfold dOver
        simp only [hd]
        exact ⟨_, _, rfl⟩
      · rw [if_neg h0, dRun_full rest _ rfl (by intro h; subst h; simp at hs; omega) (by simp only; omega), dRun_nil]
        unfold dOver
        simp only [hd]
        exact ⟨_, _, rfl⟩
    · rw [show (y :: ys).isEmpty = false from rfl, if_neg (by simp), Int.add_zero]
      rw [dRun_num _ _ _ _ _ _ _ _ _ (by omega) (by omega)]
      have h1 : (x : Int) % 2147483648 = (x : Int) := by omega
      simp only [List.length_cons] at hn
      rw [h1, if_neg (by omega), if_neg (by omega)]
      have hmid : dRun (if (x : Int) = 0 then dOver ⟨most, frags, 0, [], frag, (x : Int), n + 1, decide (2147483648 ≤ (x : Int)), out, 0⟩ else ⟨most, frags, 1, [], frag, (x : Int), n + 1, decide (2147483648 ≤ (x : Int)), out, 0⟩) (rest.take x) = ⟨most, frags, 0, [], frag ++ rest.take x, 0, n + 1, decide (2147483648 ≤ (x : Int)), out, 0⟩ := by
        have hd : decide (2147483648 ≤ (x : Int)) = false := decide_eq_false (by omega)
        by_cases h0 : (x : Int) = 0
        · have hr : rest.take x = [] := List.eq_nil_of_length_eq_zero (by omega)
          rw [hr, if_pos h0, dRun_nil, List.append_nil, h0]
          unfold dOver
          rw [if_neg (by simp)]
        · rw [if_neg h0, dRun_full (rest.take x) _ rfl (by intro h; rw [h] at hxr; simp at hxr; omega) (by simp only; omega)]
          unfold dOver
          simp only [hd]
          rfl
      rw [hmid]
      obtain ⟨l2, e2, h2⟩ := ih (rest.drop x) most frags (frag ++ rest.take x) 0 (n + 1) (decide (2147483648 ≤ (x : Int))) out (by simp) (by rw [List.length_drop]; simp only [List.sum_cons] at hs ⊢; omega) (by simp only [List.length_cons]; omega) (by rw [List.length_append, hxr, List.length_drop]; omega) hm2
      rw [h2]
      refine ⟨l2, e2, ?_⟩
      rw [List.append_assoc, List.take_append_drop]
end Go.Proofs.Ytfoifcilacbipaa.G
