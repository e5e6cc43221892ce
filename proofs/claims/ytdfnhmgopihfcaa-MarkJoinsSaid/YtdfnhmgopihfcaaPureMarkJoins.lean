/- Records' fragments together are those of each, by the size that is its own: for any records (the law takes the first 4, of 40 bytes each) and any sizes (each made 1 to 20). -/
import Derived.Test.YtdfnhmgopihfcaaL3
import Derived.Test.YtdfnhmgopihfcaaPx9
namespace Go.Proofs.Ytdfnhmgopihfcaa.Pure
open Go.RowKit Go.Proofs.Ytdfnhmgopihfcaa.P Go.Proofs.Ytdfnhmgopihfcaa.G Go.Proofs.YtdfnhmgopihfcaaW.PrintWords Go.Proofs.YtdfnhmgopihfcaaW.PrintLast Go.Proofs.YtdfnhmgopihfcaaW.PrintMore

/-- What Good makes: at most 5 records of at most 40 bytes, sizes from 1 to 20. -/
def IsGood (L : List (List Int)) (S : List Int) : Prop := L.length ≤ 5 ∧ (∀ x ∈ L, x.length ≤ 40) ∧ S.length ≤ 5 ∧ ∀ s ∈ S, 1 ≤ s ∧ s ≤ 20

theorem rd_mem (S : List Int) (i : Nat) (h : i < S.length) : rd S (i : Int) ∈ S := by
  unfold rd
  rw [Int.toNat_natCast, List.getD_eq_getElem?_getD, List.getElem?_eq_getElem h]
  exact List.getElem_mem h

theorem good_l1 (x1 : List Int) (L : List (List Int)) (hL : L.length ≤ 5 ∧ ∀ x ∈ L, x.length ≤ 40) (hx : ∀ x ∈ x1, (Lit.int .i64 x).wf = true) (d : Nat) : ∀ (i : Nat) (S : List Int), i + d = min x1.length 5 → S.length = i → (∀ s ∈ S, 1 ≤ s ∧ s ≤ 20) →
    ∃ S', Ev (fun k => truchmanref03_Good.l1 k x1 L S (i : Int)) (L, S') ∧ IsGood L S' := by
  induction d with
  | zero =>
    intro i S hd hl hS
    refine ⟨S, Ev.step (f := fun _ => some (L, S)) (fun k => ?_) (Ev.now _), hL.1, hL.2, by omega, hS⟩
    simp only [truchmanref03_Good.l1]
    by_cases h : (i : Int) < (x1.length : Int)
    · rw [if_pos h, if_neg (by omega)]
    · rw [if_neg h]
  | succ d ih =>
    intro i S hd hl hS
    obtain ⟨r, hr, er⟩ := around_eq (rd x1 (i : Int)) 20 (hx _ (rd_mem x1 i (by omega))) (by decide) (by decide)
    have hw : wrap64 (1 + (r : Int)) = 1 + (r : Int) := wrap_id (by omega) (by omega)
    obtain ⟨S', h1, h2⟩ := ih (i + 1) (S ++ [1 + (r : Int)]) (by omega) (by simp [hl]) (by
      intro s hs
      rcases List.mem_append.1 hs with h | h
      · exact hS s h
      · rw [List.mem_singleton.1 h]; omega)
    refine ⟨S', Ev.step (fun k => ?_) h1, h2⟩
    simp only [truchmanref03_Good.l1]
    rw [if_pos (by omega), if_pos (by omega), if_pos (by omega), er, Option.bind_some, if_pos (by omega), hw, wrap_id (by omega) (by omega)]
    rfl

theorem good_l0 (x0 : List (List Int)) (x1 : List Int) (hx : ∀ x ∈ x1, (Lit.int .i64 x).wf = true) (d : Nat) : ∀ (i : Nat) (L : List (List Int)), i + d = min x0.length 5 → L.length = i → (∀ x ∈ L, x.length ≤ 40) →
    ∃ L' S', Ev (fun k => truchmanref03_Good.l0 k x0 x1 L (i : Int)) (L', S') ∧ IsGood L' S' := by
  induction d with
  | zero =>
    intro i L hd hl hL
    obtain ⟨S', h1, h2⟩ := good_l1 x1 L ⟨by omega, hL⟩ hx _ 0 [] (Nat.zero_add _) rfl (by simp)
    refine ⟨L, S', Ev.step (f := fun k => truchmanref03_Good.j1 k x1 L) (fun k => ?_) (Ev.step (fun k => ?_) h1), h2⟩
    · simp only [truchmanref03_Good.l0]
      by_cases h : (i : Int) < (x0.length : Int)
      · rw [if_pos h, if_neg (by omega)]
      · rw [if_neg h]
    · simp only [truchmanref03_Good.j1]
      rfl
  | succ d ih =>
    intro i L hd hl hL
    have hF := Few_eq (rd_L1 x0 (i : Int)) 40 (by decide)
    obtain ⟨L', S', h1, h2⟩ := ih (i + 1) (L ++ [(rd_L1 x0 (i : Int)).take 40]) (by omega) (by simp [hl]) (by
      intro x hx
      rcases List.mem_append.1 hx with h | h
      · exact hL x h
      · rw [List.mem_singleton.1 h, List.length_take]; omega)
    refine ⟨L', S', Ev.step (fun k => ?_) h1, h2⟩
    simp only [truchmanref03_Good.l0]
    rw [if_pos (by omega), if_pos (by omega), if_pos (by omega), show (40 : Int) = ((40 : Nat) : Int) from rfl, hF, Option.bind_some, if_pos (by omega), wrap_id (by omega) (by omega)]
    rfl

/-- The size that is a record's own. -/
def sizeAt (S : List Int) (i : Nat) : Int := if S.length = 0 then 4096 else rd S (((i % S.length : Nat)) : Int)

theorem sizeAt_good {L : List (List Int)} {S : List Int} (h : IsGood L S) (i : Nat) : 1 ≤ sizeAt S i ∧ sizeAt S i ≤ 4096 := by
  unfold sizeAt
  by_cases h0 : S.length = 0
  · rw [if_pos h0]; omega
  · rw [if_neg h0]
    have := h.2.2.2 _ (rd_mem S (i % S.length) (Nat.mod_lt _ (by omega)))
    omega

theorem tmod_nat (a b : Nat) : Int.tmod (a : Int) (b : Int) = ((a % b : Nat) : Int) := by
  rw [Int.tmod_eq_emod_of_nonneg (by omega)]; simp

theorem Size_eq (S : List Int) (i : Nat) : truchmanref03_Size.f S (i : Int) = some (sizeAt S i) := by
  unfold truchmanref03_Size.f sizeAt
  by_cases h0 : S.length = 0
  · rw [if_pos (by omega), if_pos h0]
  · have hlt := Nat.mod_lt i (show S.length > 0 by omega)
    rw [if_neg (by omega), if_neg h0, tmod_nat, if_pos (by omega), if_pos (by omega)]

theorem mark_good {L : List (List Int)} {S : List Int} (h : IsGood L S) (i : Nat) (hi : i < L.length) : ∃ b : List Int, markSpec (rd_L1 L (i : Int)) (sizeAt S i) = (b, 0) ∧ b.length ≤ 1000 ∧ (rd_L1 L (i : Int)).length ≤ 40 := by
  have hs := sizeAt_good h i
  have hx : (rd_L1 L (i : Int)).length ≤ 40 := by
    unfold rd_L1
    rw [Int.toNat_natCast, List.getD_eq_getElem?_getD, List.getElem?_eq_getElem hi]
    exact h.2.1 _ (List.getElem_mem hi)
  generalize rd_L1 L (i : Int) = x at hx
  generalize sizeAt S i = s at hs
  obtain ⟨n, rfl⟩ : ∃ n : Nat, s = (n : Int) := ⟨s.toNat, by omega⟩
  have hb := mcount_bound n x.length (by omega)
  unfold markSpec
  rw [if_neg (by omega), if_neg (by omega), Int.toNat_natCast, if_neg (by omega)]
  refine ⟨_, rfl, ?_, hx⟩
  rw [frames_length _ _ (goS_sum (by omega) _ _ (Nat.le_refl _)).symm, goS_len (by omega) _ _ (Nat.le_refl _)]
  omega

/-- All the fragments, from record i on. -/
def allOf (L : List (List Int)) (S : List Int) : Nat → Nat → List Int
  | 0, _ => []
  | d + 1, i => (markSpec (rd_L1 L (i : Int)) (sizeAt S i)).1 ++ allOf L S d (i + 1)

theorem all_l0 {L : List (List Int)} {S : List Int} (h : IsGood L S) (d : Nat) : ∀ (i : Nat) (out : List Int), i + d = L.length → out.length ≤ 1000 * i →
    Ev (fun k => mark_All.l0 k S out L (L.length : Int) (i : Int)) (out ++ allOf L S d i, 0) := by
  induction d with
  | zero =>
    intro i out hd ho
    refine Ev.step (f := fun _ => some (out ++ allOf L S 0 i, 0)) (fun k => ?_) (Ev.now _)
    simp only [mark_All.l0]
    rw [if_neg (by omega)]
    simp [allOf]
  | succ d ih =>
    intro i out hd ho
    have hL := h.1
    obtain ⟨b, hb, hbl, hxl⟩ := mark_good h i (by omega)
    have hs := sizeAt_good h i
    have hM := Mark_ev (rd_L1 L (i : Int)) (sizeAt S i) (by omega) (by omega)
    rw [hb] at hM
    have hg : allOf L S (d + 1) i = b ++ allOf L S d (i + 1) := by simp only [allOf]; rw [hb]
    rw [hg, ← List.append_assoc]
    refine Ev.step (f := fun k => (mark_Mark.f k (rd_L1 L (i : Int)) (sizeAt S i)).bind fun bt => if bt.2 = 0 then (if out.length + bt.1.length < 140737488355328 then mark_All.l0 k S (out ++ bt.1) L (L.length : Int) ((i + 1 : Nat) : Int) else none) else some ([], bt.2)) (fun k => ?_) ?_
    · simp only [mark_All.l0]
      rw [if_pos (by omega), if_pos (by omega), if_pos (by omega), wrap_id (by omega) (by omega)]
      unfold sizeAt
      by_cases h0 : S.length = 0
      · rw [if_neg (by omega), if_pos h0]
        rfl
      · have hlt := Nat.mod_lt i (show S.length > 0 by omega)
        rw [if_pos (by omega), if_neg (by omega), tmod_nat, if_pos (by omega), if_pos (by omega), if_neg h0]
        rfl
    · refine Ev.bind hM ?_
      refine Ev.congr (fun k => ?_) (ih (i + 1) (out ++ b) (by omega) (by rw [List.length_append]; omega))
      have h9 : out.length + b.length < 140737488355328 := by omega
      rw [if_pos rfl, if_pos h9]

theorem joins_l0 {L : List (List Int)} {S : List Int} (h : IsGood L S) (d : Nat) : ∀ (i : Nat) (acc : ByteArray) (out : List Int), i + d = L.length → acc = strOfNums out → out.length ≤ 1000 * i →
    Ev (fun k => truchmanlaw03_MarkJoins.l0 k L S (out ++ allOf L S d i) 0 acc (i : Int)) true := by
  induction d with
  | zero =>
    intro i acc out hd hacc ho
    refine Ev.step (f := fun k => (truchmanlaw03_lives.f k).bind fun t => some t) (fun k => ?_) (Ev.bind lives03 (Ev.now _))
    have h9 : (strOfNums (out ++ allOf L S 0 i)).toList = acc.toList := by rw [hacc, show allOf L S 0 i = [] from rfl, List.append_nil]
    simp only [truchmanlaw03_MarkJoins.l0]
    rw [if_neg (by omega), if_pos trivial, if_pos h9]
  | succ d ih =>
    intro i acc out hd hacc ho
    have hL := h.1
    obtain ⟨b, hb, hbl, hxl⟩ := mark_good h i (by omega)
    have hs := sizeAt_good h i
    have hM := Mark_ev (rd_L1 L (i : Int)) (sizeAt S i) (by omega) (by omega)
    rw [hb] at hM
    have hg : allOf L S (d + 1) i = b ++ allOf L S d (i + 1) := by simp only [allOf]; rw [hb]
    rw [hg, ← List.append_assoc]
    generalize hX : out ++ b ++ allOf L S d (i + 1) = X
    refine Ev.step (f := fun k => (mark_Mark.f k (rd_L1 L (i : Int)) (sizeAt S i)).bind fun bt => if bt.2 = 0 then (if acc.size + (strOfNums bt.1).size ≤ 9223372036854775807 then truchmanlaw03_MarkJoins.l0 k L S X 0 (acc ++ strOfNums bt.1) ((i + 1 : Nat) : Int) else none) else some false) (fun k => ?_) ?_
    · simp only [truchmanlaw03_MarkJoins.l0]
      rw [if_pos (by omega), if_pos (by omega), Size_eq, Option.bind_some, wrap_id (by omega) (by omega)]
      rfl
    · refine Ev.bind hM ?_
      have h2 := ih (i + 1) (acc ++ strOfNums b) (out ++ b) (by omega) (by rw [hacc, str_append]) (by rw [List.length_append]; omega)
      rw [hX] at h2
      refine Ev.congr (fun k => ?_) h2
      have h9 : acc.size + (strOfNums b).size ≤ 9223372036854775807 := by rw [hacc, strOfNums_size, strOfNums_size]; omega
      rw [if_pos rfl, if_pos h9]

theorem MarkJoins : truchmanlaw03_MarkJoins.Pure := by
  intro l0 l1 hl0 _ _ _ hx
  have hm4 : mn (l0.length : Int) 4 = ((min l0.length 4 : Nat) : Int) := mn_nat l0.length 4
  obtain ⟨L, S, hG, hgood⟩ := good_l0 (l0.take (min l0.length 4)) l1 hx _ 0 [] (Nat.zero_add _) rfl (by simp)
  refine Ev.rounds (Ev.congr (f := fun k => (truchmanref03_Good.f k (l0.take (min l0.length 4)) l1).bind fun bt403 => (mark_All.f k bt403.2 bt403.1).bind fun bt409 => truchmanlaw03_MarkJoins.l0 k bt403.1 bt403.2 bt409.1 bt409.2 (⟨#[]⟩ : ByteArray) 0) (fun k => ?_) ?_)
  · unfold truchmanlaw03_MarkJoins.f
    rw [hm4, if_pos (by omega), if_pos (by omega), Int.toNat_natCast]
  · refine Ev.bind hG (Ev.bind (all_l0 hgood _ 0 [] (Nat.zero_add _) (by simp)) ?_)
    exact joins_l0 hgood _ 0 _ [] (Nat.zero_add _) rfl (by simp)

end Go.Proofs.Ytdfnhmgopihfcaa.Pure
