/- Plain laws of mark's functions: program and reference lay the same fragments. -/
import Derived.Test.YtdfnhmgopihfcaaL1
import Derived.Test.YtdfnhmgopihfcaaPx4
import Derived.Test.YtdfnhmgopihfcaaPx5
import Derived.Test.YtdfnhmgopihfcaaPx3
import Derived.Test.YtdfnhmgopihfcaaPx2
import Derived.Laws.BitsLemmas
namespace Go.Proofs.Ytdfnhmgopihfcaa.Pure
open Go.RowKit Go.Proofs.Ytdfnhmgopihfcaa.P Go.Proofs.Ytdfnhmgopihfcaa.G Go.Proofs.YtdfnhmgopihfcaaW.PrintWords Go.Proofs.YtdfnhmgopihfcaaW.PrintLast Go.Proofs.YtdfnhmgopihfcaaW.PrintMore

theorem or_high (n : Nat) (h : n < 2147483648) : Go.bits .or .u32 (n : Int) 2147483648 = (n : Int) + 2147483648 := by
  have h1 := (bits_nat .u32 32 (by decide) (fun m h0 h1 => by rw [IntKind.wrap_u32]; omega) n 2147483648 (by omega) (by decide)).2
  have h3 : n ||| 2147483648 = 2147483648 + n := by
    have h4 := Nat.two_pow_add_eq_or_of_lt (i := 31) (b := n) (by omega) 1
    rw [Nat.or_comm]
    simpa using h4.symm
  rw [h3] at h1
  have h2 : ((2147483648 : Nat) : Int) = 2147483648 := rfl
  rw [← h2, h1]
  omega

theorem around_eq (a m : Int) (ha : (Lit.int .i64 a).wf = true) (hm : 0 < m) (hm2 : m ≤ 9223372036854775807) : ∃ r : Nat, (r : Int) < m ∧ truchmanref01_Around.f a m = some (r : Int) := by
  have hw : -9223372036854775808 ≤ a ∧ a ≤ 9223372036854775807 := by
    simp [Lit.wf, IntKind.min, IntKind.max, IntKind.signed, IntKind.bits] at ha
    omega
  unfold truchmanref01_Around.f
  by_cases h : a < 0
  · rw [if_pos h, if_neg (by omega), wrap_id (n := a + 1) (by omega) (by omega), wrap_id (by omega) (by omega)]
    have h1 : Int.tmod (-(a + 1)) m = (-(a + 1)) % m := Int.tmod_eq_emod_of_nonneg (by omega)
    have h2 := Int.emod_nonneg (-(a + 1)) (show m ≠ 0 by omega)
    have h3 := Int.emod_lt_of_pos (-(a + 1)) hm
    exact ⟨((-(a + 1)) % m).toNat, by omega, by rw [h1]; congr 1; omega⟩
  · rw [if_neg h, if_neg (by omega)]
    have h1 : Int.tmod a m = a % m := Int.tmod_eq_emod_of_nonneg (by omega)
    have h2 := Int.emod_nonneg a (show m ≠ 0 by omega)
    have h3 := Int.emod_lt_of_pos a hm
    exact ⟨(a % m).toNat, by omega, by rw [h1]; congr 1; omega⟩

/-- How many bytes each fragment has. -/
def goS (s : Nat) : Nat → Nat → List Nat
  | 0, n => [n]
  | d + 1, n => if s < n then s :: goS s d (n - s) else [n]
def mcount (s n : Nat) : Nat := if n = 0 then 1 else (n - 1) / s + 1
def ints (l : List Nat) : List Int := l.map (fun n : Nat => (n : Int))

theorem mcount_le {s n : Nat} (h1 : 1 ≤ s) (h : n ≤ s) : mcount s n = 1 := by
  unfold mcount
  split
  · rfl
  · rw [Nat.div_eq_of_lt (by omega)]
theorem mcount_gt {s n : Nat} (h1 : 1 ≤ s) (h : s < n) : mcount s n = mcount s (n - s) + 1 := by
  unfold mcount
  rw [if_neg (by omega), if_neg (by omega)]
  have h2 : n - 1 = (n - s - 1) + s := by omega
  rw [h2, Nat.add_div_right _ (by omega)]

theorem mcount_bound (s n : Nat) (_h1 : 1 ≤ s) : mcount s n ≤ n + 1 := by
  unfold mcount
  split
  · omega
  · have := Nat.div_le_self (n - 1) s
    omega

theorem goS_len {s : Nat} (h1 : 1 ≤ s) : ∀ d n, n ≤ d → (goS s d n).length = mcount s n := by
  intro d
  induction d with
  | zero => intro n h; rw [mcount_le h1 (by omega)]; rfl
  | succ d ih =>
    intro n h
    unfold goS
    split
    · rename_i hs
      rw [List.length_cons, ih _ (by omega), mcount_gt h1 hs]
    · rw [mcount_le h1 (by omega)]; rfl
theorem goS_sum {s : Nat} (h1 : 1 ≤ s) : ∀ d n, n ≤ d → (goS s d n).sum = n := by
  intro d
  induction d with
  | zero => intro n h; simp [goS]
  | succ d ih =>
    intro n h
    unfold goS
    split
    · rename_i hs
      rw [List.sum_cons, ih _ (by omega)]
      omega
    · simp

theorem many_eq (n s : Nat) (h1 : 1 ≤ s) (hs : s ≤ 9223372036854775807) (hn : n ≤ 1000000) : mark_many.f (n : Int) (s : Int) = some ((mcount s n : Nat) : Int) := by
  unfold mark_many.f mcount
  by_cases h : n = 0
  · subst h; simp
  · rw [if_neg (by omega), if_neg (by omega), if_neg h, wrap_id (n := (n : Int) - 1) (by omega) (by omega), Int.tdiv_eq_ediv_of_nonneg (by omega)]
    have h2 : ((n : Int) - 1) / (s : Int) = (((n - 1) / s : Nat) : Int) := by
      rw [show (n : Int) - 1 = ((n - 1 : Nat) : Int) from by omega]; simp
    have h3 : (n - 1) / s ≤ n - 1 := Nat.div_le_self _ _
    rw [h2]
    generalize (n - 1) / s = q at h3 ⊢
    rw [wrap_id (n := (q : Int)) (by omega) (by omega), wrap_id (by omega) (by omega)]
    congr 1

theorem sizes_l0 (s : Nat) (h1 : 1 ≤ s) (hs : s ≤ 9223372036854775807) (d : Nat) : ∀ (n i m : Nat) (out : List Int), n ≤ d → n ≤ 1000000 → m = i + mcount s n → m ≤ 2000000 → out.length ≤ i →
    Ev (fun k => mark_Sizes.l0 k (n : Int) (s : Int) out (m : Int) (i : Int)) (out ++ ints (goS s d n)) := by
  have fin : ∀ (n i m : Nat) (out : List Int), n ≤ s → n ≤ 1000000 → m = i + 1 → m ≤ 2000000 → out.length ≤ i → Ev (fun k => mark_Sizes.l0 k (n : Int) (s : Int) out (m : Int) (i : Int)) (out ++ [(n : Int)]) := by
    intro n i m out h hn hm hm2 hl
    refine Ev.step (f := fun k => mark_Sizes.l0 k ((0 : Nat) : Int) (s : Int) (out ++ [(n : Int)]) (m : Int) (m : Int)) (fun k => ?_) (Ev.step (f := fun _ => some (out ++ [(n : Int)])) (fun k => ?_) (Ev.now _))
    · simp only [mark_Sizes.l0]
      rw [if_pos (by omega), if_pos (by omega), mn_nat, Nat.min_eq_left h, wrap_id (by omega) (by omega), wrap_id (by omega) (by omega)]
      congr 1
      · omega
      · omega
    · simp only [mark_Sizes.l0]
      rw [if_neg (by omega)]
  induction d with
  | zero =>
    intro n i m out hd hn hm hm2 hl
    rw [mcount_le h1 (by omega)] at hm
    exact fin n i m out (by omega) hn hm hm2 hl
  | succ d ih =>
    intro n i m out hd hn hm hm2 hl
    by_cases h : s < n
    · rw [mcount_gt h1 h] at hm
      have hg : goS s (d + 1) n = s :: goS s d (n - s) := by simp only [goS]; rw [if_pos h]
      rw [hg, show ints (s :: goS s d (n - s)) = (s : Int) :: ints (goS s d (n - s)) from rfl, ← List.singleton_append, ← List.append_assoc]
      have hb := mcount_bound s (n - s) h1
      refine Ev.step (f := fun k => mark_Sizes.l0 k ((n - s : Nat) : Int) (s : Int) (out ++ [(s : Int)]) (m : Int) ((i + 1 : Nat) : Int)) (fun k => ?_) (ih (n - s) (i + 1) m _ (by omega) (by omega) (by omega) hm2 (by simp; omega))
      simp only [mark_Sizes.l0]
      have hm3 : min n s = s := Nat.min_eq_right (by omega)
      rw [if_pos (by omega), if_pos (by omega), mn_nat, hm3, wrap_id (by omega) (by omega), wrap_id (by omega) (by omega)]
      congr 1
      omega
    · rw [mcount_le h1 (by omega)] at hm
      have hg : goS s (d + 1) n = [n] := by simp only [goS]; rw [if_neg h]
      rw [hg]
      exact fin n i m out (by omega) hn hm hm2 hl

theorem Sizes_ev (n s : Nat) (h1 : 1 ≤ s) (hs : s ≤ 9223372036854775807) (hn : n ≤ 1000000) : Ev (fun k => mark_Sizes.f k (n : Int) (s : Int)) (ints (goS s n n)) := by
  refine Ev.congr (f := fun k => mark_Sizes.l0 k (n : Int) (s : Int) [] ((mcount s n : Nat) : Int) ((0 : Nat) : Int)) (fun k => ?_) ?_
  · unfold mark_Sizes.f
    rw [many_eq n s h1 hs hn]; rfl
  · have := mcount_bound s n h1
    exact sizes_l0 s h1 hs n n 0 (mcount s n) [] (Nat.le_refl _) hn (by omega) (by omega) (by simp)

theorem refSizes_l0 (s : Nat) (h1 : 1 ≤ s) (hs : s ≤ 9223372036854775807) (d : Nat) : ∀ (n : Nat) (out : List Int), n ≤ d → n ≤ 1000000 → out.length + n ≤ 1000000 →
    Ev (fun k => truchmanref03_Sizes.l0 k (n : Int) (s : Int) out) (out ++ ints (goS s d n)) := by
  have fin : ∀ (n : Nat) (out : List Int), n ≤ s → out.length ≤ 1000000 → Ev (fun k => truchmanref03_Sizes.l0 k (n : Int) (s : Int) out) (out ++ [(n : Int)]) := by
    intro n out h hl
    refine Ev.step (f := fun _ => some (out ++ [(n : Int)])) (fun k => ?_) (Ev.now _)
    simp only [truchmanref03_Sizes.l0]
    rw [if_neg (by omega), if_pos (by omega)]
  induction d with
  | zero =>
    intro n out hd hn hl
    exact fin n out (by omega) (by omega)
  | succ d ih =>
    intro n out hd hn hl
    by_cases h : s < n
    · have hg : goS s (d + 1) n = s :: goS s d (n - s) := by simp only [goS]; rw [if_pos h]
      rw [hg, show ints (s :: goS s d (n - s)) = (s : Int) :: ints (goS s d (n - s)) from rfl, ← List.singleton_append, ← List.append_assoc]
      refine Ev.step (f := fun k => truchmanref03_Sizes.l0 k ((n - s : Nat) : Int) (s : Int) (out ++ [(s : Int)])) (fun k => ?_) (ih (n - s) _ (by omega) (by omega) (by simp; omega))
      simp only [truchmanref03_Sizes.l0]
      rw [if_pos (by omega), if_pos (by omega), wrap_id (by omega) (by omega)]
      congr 1
      omega
    · have hg : goS s (d + 1) n = [n] := by simp only [goS]; rw [if_neg h]
      rw [hg]
      exact fin n out (by omega) (by omega)

theorem refSizes_ev (n s : Nat) (h1 : 1 ≤ s) (hs : s ≤ 9223372036854775807) (hn : n ≤ 1000000) : Ev (fun k => truchmanref03_Sizes.f k (n : Int) (s : Int)) (ints (goS s n n)) :=
  refSizes_l0 s h1 hs n n [] (Nat.le_refl _) hn (by simpa using hn)

theorem same_ev (l : List Int) (hl : l.length ≤ 1000000000) : Ev (fun k => truchmanlaw03_same.f k l l) true := by
  have loop : ∀ (d i : Nat), i + d = l.length → Ev (fun k => truchmanlaw03_same.l0 k l l (i : Int)) true := by
    intro d
    induction d with
    | zero =>
      intro i hd
      refine Ev.step (f := fun _ => some true) (fun k => ?_) (Ev.now _)
      simp only [truchmanlaw03_same.l0]
      rw [if_neg (by omega)]
    | succ d ih =>
      intro i hd
      refine Ev.step (f := fun k => truchmanlaw03_same.l0 k l l ((i + 1 : Nat) : Int)) (fun k => ?_) (ih (i + 1) (by omega))
      simp only [truchmanlaw03_same.l0]
      rw [if_pos (by omega), if_pos (by omega), if_pos (by omega), if_pos trivial, wrap_id (by omega) (by omega)]
      rfl
  refine Ev.congr (f := fun k => truchmanlaw03_same.l0 k l l ((0 : Nat) : Int)) (fun k => ?_) (loop l.length 0 (by omega))
  unfold truchmanlaw03_same.f
  rw [if_pos rfl]
  rfl

/-- A record's fragments: their numbers, the last one marked, and their bytes. -/
def frames : List Int → List Nat → List Int
  | _, [] => []
  | rest, x :: xs => beN ((x : Int) + (if xs.isEmpty then 2147483648 else 0)) 4 ++ rest.take x ++ frames (rest.drop x) xs

theorem frames_length : ∀ (L : List Nat) (rest : List Int), rest.length = L.sum → (frames rest L).length = 4 * L.length + rest.length := by
  intro L
  induction L with
  | nil => intro rest h; simp at h; simp [frames, h]
  | cons x xs ih =>
    intro rest h
    simp only [List.sum_cons] at h
    simp only [frames, List.length_append, beN_length, List.length_take, List.length_cons]
    rw [ih (rest.drop x) (by rw [List.length_drop]; omega), List.length_drop]
    omega

def markSpec (l : List Int) (a : Int) : List Int × Int :=
  if a < 1 then ([], 1) else if l.length > 4096 then ([], 4) else if mcount a.toNat l.length > 64 then ([], 5) else (frames l (goS a.toNat l.length l.length), 0)

theorem ints_length (L : List Nat) : (ints L).length = L.length := by simp [ints]
theorem rd_ints (L : List Nat) (i : Nat) (h : i < L.length) : rd (ints L) (i : Int) = ((L[i] : Nat) : Int) := by
  unfold rd ints
  rw [Int.toNat_natCast, List.getD_eq_getElem?_getD]
  simp [h]
theorem drop_cons {α : Type} (L : List α) (i : Nat) (h : i < L.length) : L.drop i = L[i] :: L.drop (i + 1) := List.drop_eq_getElem_cons h

theorem mark_l0 (L : List Nat) (hL : L.length ≤ 5000) (d : Nat) : ∀ (i : Nat) (rest out : List Int), i + d = L.length → rest.length = (L.drop i).sum → rest.length ≤ 5000 → out.length ≤ 10000 * i →
    Ev (fun k => mark_Mark.l0 k rest out (ints L) (L.length : Int) (i : Int)) (out ++ frames rest (L.drop i), 0) := by
  induction d with
  | zero =>
    intro i rest out hd hs hr ho
    refine Ev.step (f := fun _ => some (out ++ frames rest (L.drop i), 0)) (fun k => ?_) (Ev.now _)
    simp only [mark_Mark.l0]
    rw [if_neg (by omega), List.drop_of_length_le (by omega)]
    simp [frames]
  | succ d ih =>
    intro i rest out hd hs hr ho
    have hi : i < L.length := by omega
    rw [drop_cons L i hi] at hs ⊢
    simp only [List.sum_cons] at hs
    have hx : L[i] ≤ rest.length := by omega
    have hrd := rd_ints L i hi
    generalize hxx : L[i] = x at hs hx hrd
    have hb := fun n : Int => beN_length n 4
    refine Ev.step (f := fun k => mark_Mark.l0 k (rest.drop x) (out ++ beN ((x : Int) + (if (L.drop (i + 1)).isEmpty then 2147483648 else 0)) 4 ++ rest.take x) (ints L) (L.length : Int) ((i + 1 : Nat) : Int)) (fun k => ?_) ?_
    · simp only [mark_Mark.l0]
      rw [if_pos (by omega), if_pos (by omega), if_pos (by rw [ints_length]; omega), hrd, ints_length, wrap_id (n := (L.length : Int) - 1) (by omega) (by omega)]
      have hm : (x : Int) % 4294967296 = (x : Int) := by omega
      rw [hm]
      by_cases hl : (i : Int) = (L.length : Int) - 1
      · have he : (L.drop (i + 1)).isEmpty = true := by rw [List.drop_of_length_le (by omega)]; rfl
        rw [if_pos hl, he, or_high x (by omega), U32_eq out _ (by omega) (by omega) (by omega), Option.bind_some, if_pos (by omega), if_pos (by omega), Option.bind_some, Int.toNat_natCast,
          if_pos (by simp only [List.length_append, hb, List.length_take]; omega), wrap_id (by omega) (by omega)]
        rfl
      · have he : (L.drop (i + 1)).isEmpty = false := by
          rw [List.drop_eq_getElem_cons (show i + 1 < L.length by omega)]; rfl
        rw [if_neg hl, he, U32_eq out _ (by omega) (by omega) (by omega), Option.bind_some, if_pos (by omega), if_pos (by omega), Option.bind_some, Int.toNat_natCast,
          if_pos (by simp only [List.length_append, hb, List.length_take]; omega), wrap_id (by omega) (by omega)]
        simp
    · have h := ih (i + 1) (rest.drop x) (out ++ beN ((x : Int) + (if (L.drop (i + 1)).isEmpty then 2147483648 else 0)) 4 ++ rest.take x) (by omega) (by rw [List.length_drop]; omega) (by rw [List.length_drop]; omega) (by simp only [List.length_append, hb, List.length_take]; omega)
      simp only [frames]
      rw [← List.append_assoc, ← List.append_assoc]
      exact h

theorem Mark_ev (l : List Int) (a : Int) (ha : a ≤ 9223372036854775807) (hl : l.length ≤ 1000000) : Ev (fun k => mark_Mark.f k l a) (markSpec l a) := by
  unfold markSpec
  by_cases h1 : a < 1
  · rw [if_pos h1]
    exact Ev.congr (f := fun _ => some ([], 1)) (fun k => by unfold mark_Mark.f; rw [if_pos h1]) (Ev.now _)
  · rw [if_neg h1]
    obtain ⟨s, rfl⟩ : ∃ s : Nat, a = (s : Int) := ⟨a.toNat, by omega⟩
    rw [Int.toNat_natCast]
    by_cases h2 : l.length > 4096
    · rw [if_pos h2]
      exact Ev.congr (f := fun _ => some ([], 4)) (fun k => by unfold mark_Mark.f; rw [if_neg h1, if_pos (by omega)]) (Ev.now _)
    · rw [if_neg h2]
      have hm := many_eq l.length s (by omega) (by omega) hl
      by_cases h3 : mcount s l.length > 64
      · rw [if_pos h3]
        exact Ev.congr (f := fun _ => some ([], 5)) (fun k => by unfold mark_Mark.f; rw [if_neg h1, if_neg (by omega), hm, Option.bind_some, if_pos (by omega)]) (Ev.now _)
      · rw [if_neg h3]
        have hsl := goS_len (s := s) (by omega) l.length l.length (Nat.le_refl _)
        have hss := goS_sum (s := s) (by omega) l.length l.length (Nat.le_refl _)
        refine Ev.congr (f := fun k => (mark_Sizes.f k (l.length : Int) (s : Int)).bind fun t => mark_Mark.l0 k l ([] : List Int) t (t.length : Int) 0) (fun k => by unfold mark_Mark.f; rw [if_neg h1, if_neg (by omega), hm, Option.bind_some, if_neg (by omega)]) ?_
        refine Ev.bind (Sizes_ev l.length s (by omega) (by omega) hl) ?_
        rw [ints_length]
        have h := mark_l0 (goS s l.length l.length) (by omega) _ 0 l [] (Nat.zero_add _) (by simpa using hss.symm) (by omega) (by simp)
        simpa using h

theorem refMark_l0 (rec : List Int) (L : List Nat) (hL : L.length ≤ 5000) (hrec : rec.length ≤ 5000) (d : Nat) : ∀ (i at_ : Nat) (out : List Int), i + d = L.length → at_ + (L.drop i).sum = rec.length → out.length ≤ 10000 * i →
    Ev (fun k => truchmanref03_Mark.l0 k rec (ints L) out (at_ : Int) (i : Int)) (out ++ frames (rec.drop at_) (L.drop i), 0) := by
  induction d with
  | zero =>
    intro i at_ out hd hs ho
    refine Ev.step (f := fun _ => some (out ++ frames (rec.drop at_) (L.drop i), 0)) (fun k => ?_) (Ev.now _)
    simp only [truchmanref03_Mark.l0]
    rw [ints_length, if_neg (by omega), List.drop_of_length_le (i := i) (by omega)]
    simp [frames]
  | succ d ih =>
    intro i at_ out hd hs ho
    have hi : i < L.length := by omega
    rw [drop_cons L i hi] at hs ⊢
    simp only [List.sum_cons] at hs
    have hrd := rd_ints L i hi
    generalize hxx : L[i] = x at hs hrd
    have hb := fun n : Int => beN_length n 4
    have htk : (rec.take (at_ + x)).drop at_ = (rec.drop at_).take x := by rw [List.drop_take]; congr 1; omega
    have hlt : ((rec.drop at_).take x).length ≤ 5000 := by simp only [List.length_take, List.length_drop]; omega
    refine Ev.step (f := fun k => truchmanref03_Mark.l0 k rec (ints L) (out ++ beN ((x : Int) + (if (L.drop (i + 1)).isEmpty then 2147483648 else 0)) 4 ++ (rec.drop at_).take x) ((at_ + x : Nat) : Int) ((i + 1 : Nat) : Int)) (fun k => ?_) ?_
    · simp only [truchmanref03_Mark.l0]
      rw [if_pos (by rw [ints_length]; omega), if_pos (by omega), hrd, ints_length, wrap_id (n := (L.length : Int) - 1) (by omega) (by omega), wrap_id (n := (at_ : Int) + (x : Int)) (by omega) (by omega)]
      have hm : (x : Int) % 4294967296 = (x : Int) := by omega
      rw [hm]
      have ht : ((at_ : Int) + (x : Int)).toNat = at_ + x := by omega
      by_cases hl : (i : Int) = (L.length : Int) - 1
      · have he : (L.drop (i + 1)).isEmpty = true := by rw [List.drop_of_length_le (by omega)]; rfl
        have hm2 : ((x : Int) + 2147483648) % 4294967296 = ((x + 2147483648 : Nat) : Int) := by omega
        rw [if_pos hl, he, hm2, refU32_eq _ (by omega), Option.bind_some, if_pos (by rw [hb]; omega), Option.bind_some, if_pos (by omega), if_pos (by omega), if_pos (by omega), ht, Int.toNat_natCast, htk,
          if_pos (by rw [List.length_append, hb]; omega), wrap_id (by omega) (by omega)]
        congr 1
      · have he : (L.drop (i + 1)).isEmpty = false := by
          rw [List.drop_eq_getElem_cons (show i + 1 < L.length by omega)]; rfl
        rw [if_neg hl, he, refU32_eq _ (by omega), Option.bind_some, if_pos (by rw [hb]; omega), Option.bind_some, if_pos (by omega), if_pos (by omega), if_pos (by omega), ht, Int.toNat_natCast, htk,
          if_pos (by rw [List.length_append, hb]; omega), wrap_id (by omega) (by omega)]
        simp
    · have h := ih (i + 1) (at_ + x) (out ++ beN ((x : Int) + (if (L.drop (i + 1)).isEmpty then 2147483648 else 0)) 4 ++ (rec.drop at_).take x) (by omega) (by omega) (by rw [List.length_append, List.length_append, hb]; omega)
      simp only [frames]
      rw [← List.append_assoc, ← List.append_assoc, List.drop_drop]
      exact h

theorem refMark_ev (l : List Int) (a : Int) (ha : a ≤ 9223372036854775807) (hl : l.length ≤ 1000000) : Ev (fun k => truchmanref03_Mark.f k l a) (markSpec l a) := by
  unfold markSpec
  by_cases h1 : a < 1
  · rw [if_pos h1]
    exact Ev.congr (f := fun _ => some ([], 1)) (fun k => by unfold truchmanref03_Mark.f; rw [if_pos h1]) (Ev.now _)
  · rw [if_neg h1]
    obtain ⟨s, rfl⟩ : ∃ s : Nat, a = (s : Int) := ⟨a.toNat, by omega⟩
    rw [Int.toNat_natCast]
    by_cases h2 : l.length > 4096
    · rw [if_pos h2]
      exact Ev.congr (f := fun _ => some ([], 4)) (fun k => by unfold truchmanref03_Mark.f; rw [if_neg h1, if_pos (by omega)]) (Ev.now _)
    · rw [if_neg h2]
      have hsl := goS_len (s := s) (by omega) l.length l.length (Nat.le_refl _)
      have hss := goS_sum (s := s) (by omega) l.length l.length (Nat.le_refl _)
      refine Ev.congr (f := fun k => (truchmanref03_Sizes.f k (l.length : Int) (s : Int)).bind fun t => if (t.length : Int) > 64 then some ([], 5) else truchmanref03_Mark.l0 k l t ([] : List Int) 0 0) (fun k => by unfold truchmanref03_Mark.f; rw [if_neg h1, if_neg (by omega)]) ?_
      refine Ev.bind (refSizes_ev l.length s (by omega) (by omega) hl) ?_
      rw [ints_length, hsl]
      by_cases h3 : mcount s l.length > 64
      · rw [if_pos h3]
        exact Ev.congr (f := fun _ => some ([], 5)) (fun k => by rw [if_pos (by omega)]) (Ev.now _)
      · rw [if_neg h3]
        refine Ev.congr (f := fun k => truchmanref03_Mark.l0 k l (ints (goS s l.length l.length)) ([] : List Int) ((0 : Nat) : Int) ((0 : Nat) : Int)) (fun k => by rw [if_neg (by omega)]; rfl) ?_
        have h := refMark_l0 l (goS s l.length l.length) (by omega) (by omega) _ 0 0 [] (Nat.zero_add _) (by simpa using hss) (by simp)
        simpa using h

theorem lives03 : Ev (fun k => truchmanlaw03_lives.f k) true := by
  unfold truchmanlaw03_lives.f
  refine Ev.bind (Mark_ev [97, 98, 99] 2 (by decide) (by simp)) ?_
  refine Ev.congr (f := fun _ => some true) (fun k => ?_) (Ev.now _)
  have h : markSpec [97, 98, 99] 2 = ([0, 0, 0, 2, 97, 98, 128, 0, 0, 1, 99], 0) := by decide
  rw [h, if_pos rfl, str_toList]
  decide

end Go.Proofs.Ytdfnhmgopihfcaa.Pure
