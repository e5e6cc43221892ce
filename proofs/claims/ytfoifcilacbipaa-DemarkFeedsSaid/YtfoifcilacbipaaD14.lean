/- Plain laws of the document's records, and of their fragments together; what a deframer makes of them. -/
import Derived.Test.YtfoifcilacbipaaD13
namespace Go.Proofs.Ytfoifcilacbipaa.G
open Go.RowKit Go.Proofs.Ytfoifcilacbipaa.P Go.Proofs.Ytfoifcilacbipaa.Pure Go.Proofs.YtfoifcilacbipaaW.PrintWords Go.Proofs.YtfoifcilacbipaaW.PrintLast Go.Proofs.YtfoifcilacbipaaW.PrintMore
set_option linter.unusedVariables false
set_option linter.unusedSimpArgs false

def gRecs (recs : List (List Int)) : List (List Int) := (recs.take 5).map (fun r => r.take 40)
theorem gRecs_len (recs : List (List Int)) : (gRecs recs).length ≤ 5 := by unfold gRecs; rw [List.length_map, List.length_take]; omega
theorem gRecs_len2 (recs : List (List Int)) : (gRecs recs).length ≤ recs.length := by unfold gRecs; rw [List.length_map, List.length_take]; omega
theorem gRecs_each (recs : List (List Int)) : ∀ r ∈ gRecs recs, r.length ≤ 40 := by
  intro r hr
  unfold gRecs at hr
  obtain ⟨x, _, rfl⟩ := List.mem_map.1 hr
  rw [List.length_take]; omega

def SOk (s : List Nat) : Prop := s.length ≤ 5 ∧ ∀ x ∈ s, 1 ≤ x ∧ x ≤ 20

theorem good_l1 (cuts : List Int) (hw : ∀ x ∈ cuts, (Lit.int .i64 x).wf = true) (rs : List (List Int)) (d : Nat) : ∀ (i : Nat) (out : List Nat), i + d = 5 → out.length = i → i ≤ cuts.length → (∀ x ∈ out, 1 ≤ x ∧ x ≤ 20) →
    ∃ s : List Nat, SOk s ∧ s.length ≤ cuts.length ∧ Ev (fun k => truchmanref03_Good.l1 k cuts rs (ints out) (i : Int)) (rs, ints s) := by
  induction d with
  | zero =>
    intro i out hd hl hc ho
    refine ⟨out, ⟨by omega, ho⟩, by omega, Ev.step (f := fun _ => some (rs, ints out)) (fun k => ?_) (Ev.now _)⟩
    simp only [truchmanref03_Good.l1]
    split
    · rw [if_neg (by omega)]
    · rfl
  | succ d ih =>
    intro i out hd hl hc ho
    by_cases hi : i < cuts.length
    · obtain ⟨r, hr, he⟩ := around_eq (rd cuts (i : Int)) 20 (wf_rd hw _) (by omega) (by omega)
      obtain ⟨s, h1, h2, h3⟩ := ih (i + 1) (out ++ [r + 1]) (by omega) (by simp [hl]) (by omega) (by
        intro x hx
        rcases List.mem_append.1 hx with h | h
        · exact ho x h
        · simp at h; omega)
      refine ⟨s, h1, h2, Ev.step (f := fun k => truchmanref03_Good.l1 k cuts rs (ints (out ++ [r + 1])) ((i + 1 : Nat) : Int)) (fun k => ?_) h3⟩
      simp only [truchmanref03_Good.l1]
      rw [if_pos (by omega), if_pos (by omega), if_pos (by omega), he, Option.bind_some, ints_length, if_pos (by omega), wrap_id (by omega) (by omega), wrap_id (by omega) (by omega)]
      have e : ints (out ++ [r + 1]) = ints out ++ [1 + (r : Int)] := by simp [ints]; omega
      rw [e]
      rfl
    · refine ⟨out, ⟨by omega, ho⟩, by omega, Ev.step (f := fun _ => some (rs, ints out)) (fun k => ?_) (Ev.now _)⟩
      simp only [truchmanref03_Good.l1]
      rw [if_neg (by omega)]

theorem take_snoc' {α : Type} (l : List α) (i : Nat) (h : i < l.length) : l.take (i + 1) = l.take i ++ [l[i]] := by
  rw [List.take_succ_eq_append_getElem h]

theorem good_l0 (recs : List (List Int)) (cuts : List Int) (s : List Nat) (hs : Ev (fun k => truchmanref03_Good.l1 k cuts (gRecs recs) (ints []) ((0 : Nat) : Int)) (gRecs recs, ints s)) (d : Nat) : ∀ i : Nat, i + d = 5 → i ≤ recs.length →
    Ev (fun k => truchmanref03_Good.l0 k recs cuts ((recs.take i).map (fun r => r.take 40)) (i : Int)) (gRecs recs, ints s) := by
  have fin : Ev (fun k => truchmanref03_Good.j1 k cuts (gRecs recs)) (gRecs recs, ints s) := Ev.step (f := fun k => truchmanref03_Good.l1 k cuts (gRecs recs) (ints []) ((0 : Nat) : Int)) (fun k => by simp only [truchmanref03_Good.j1]; rfl) hs
  induction d with
  | zero =>
    intro i hd hc
    have hi : i = 5 := by omega
    subst hi
    refine Ev.step (f := fun k => truchmanref03_Good.j1 k cuts (gRecs recs)) (fun k => ?_) fin
    simp only [truchmanref03_Good.l0]
    split
    · rw [if_neg (by omega)]; rfl
    · rfl
  | succ d ih =>
    intro i hd hc
    by_cases hi : i < recs.length
    · refine Ev.step (f := fun k => truchmanref03_Good.l0 k recs cuts ((recs.take (i + 1)).map (fun r => r.take 40)) ((i + 1 : Nat) : Int)) (fun k => ?_) (ih (i + 1) (by omega) (by omega))
      simp only [truchmanref03_Good.l0]
      have hf := Few_eq (rd_L2 recs (i : Int)) 40 (by omega)
      rw [if_pos (by omega), if_pos (by omega), if_pos (by omega), show (40 : Int) = ((40 : Nat) : Int) from rfl, hf, Option.bind_some, if_pos (by rw [List.length_map, List.length_take]; omega), wrap_id (by omega) (by omega)]
      have e : rd_L2 recs (i : Int) = recs[i] := by unfold rd_L2; rw [Int.toNat_natCast, List.getD_eq_getElem?_getD]; simp [hi]
      rw [take_snoc' recs i hi, List.map_append, e]
      rfl
    · have hg : gRecs recs = (recs.take i).map (fun r => r.take 40) := by unfold gRecs; rw [List.take_of_length_le (show recs.length ≤ 5 by omega), List.take_of_length_le (show recs.length ≤ i by omega)]
      refine Ev.step (f := fun k => truchmanref03_Good.j1 k cuts (gRecs recs)) (fun k => ?_) fin
      simp only [truchmanref03_Good.l0]
      rw [if_neg (by omega), hg]

theorem good_ev (recs : List (List Int)) (cuts : List Int) (hw : ∀ x ∈ cuts, (Lit.int .i64 x).wf = true) : ∃ s : List Nat, SOk s ∧ s.length ≤ cuts.length ∧ Ev (fun k => truchmanref03_Good.f k recs cuts) (gRecs recs, ints s) := by
  obtain ⟨s, h1, h2, h3⟩ := good_l1 cuts hw (gRecs recs) 5 0 [] rfl rfl (Nat.zero_le _) (by simp)
  exact ⟨s, h1, h2, good_l0 recs cuts s h3 5 0 rfl (Nat.zero_le _)⟩

theorem Good_law (A0 : Option Addr) (c0 : Nat) (l0 : List (List Int)) (A1 : Option Addr) (c1 : Nat) (l1 : List Int) (w : World) (hr0 : Kd.C (Kd.slice 5 (Kd.int .u8)) w A0 l0.length l0) (hc0 : l0.length ≤ c0) (hr1 : Kd.C (Kd.int .i64) w A1 l1.length l1) (hc1 : l1.length ≤ c1) (hw : ∀ x ∈ l1, (Lit.int .i64 x).wf = true) :
    Calls Try.prog 18 #[.slice A0 l0.length c0, .slice A1 l1.length c1] w fun e w' => ∃ (A : Option Addr) (c : Nat) (B : Option Addr) (b : Nat) (s : List Nat), SOk s ∧ s.length ≤ l1.length ∧ e = .returned (.tuple #[.slice A (gRecs l0).length c, .slice B (ints s).length b]) ∧ Kd.R (Kd.slice 5 (Kd.int .u8)) 28 w' w.heap.size (fun _ => True) (.slice A (gRecs l0).length c) (gRecs l0) ∧ Kd.R (Kd.int .i64) 3 w' w.heap.size (fun _ => True) (.slice B (ints s).length b) (ints s) ∧ Below w.heap.size w w' := by
  obtain ⟨s, h1, h2, h3⟩ := good_ev l0 l1 hw
  obtain ⟨k, hk⟩ := h3.rounds
  refine (truchmanref03_Good.calls k A0 c0 l0 A1 c1 l1 _ _ w hr0 hc0 hr1 hc1 hk).mono ?_
  rintro e w' ⟨v0, v1, rfl, hs, hr, hb⟩
  obtain ⟨A, c, rfl⟩ := Kd.S_slice hs
  obtain ⟨B, b, rfl⟩ := Kd.R_slice hr
  exact ⟨A, c, B, b, s, h1, h2, rfl, Kd.S_R hs, hr, hb⟩

/-- The size by which the record of this number is cut. -/
def szOf (s : List Nat) (i : Nat) : Nat := if s.length = 0 then 4096 else s.getD (i % s.length) 1
theorem szOf_ok {s : List Nat} (h : SOk s) (i : Nat) : 1 ≤ szOf s i ∧ szOf s i ≤ 4096 := by
  unfold szOf
  split
  · omega
  · have hlt : i % s.length < s.length := Nat.mod_lt _ (by omega)
    rw [List.getD_eq_getElem?_getD, List.getElem?_eq_getElem hlt]
    have := h.2 _ (List.getElem_mem hlt)
    simp only [Option.getD_some]
    omega
theorem size_eq (s : List Nat) (i : Nat) : truchmanref03_Size.f (ints s) (i : Int) = some ((szOf s i : Nat) : Int) := by
  unfold truchmanref03_Size.f szOf
  rw [ints_length]
  by_cases h : s.length = 0
  · rw [if_pos (by omega), if_pos h]; rfl
  · have hm : Int.tmod (i : Int) (s.length : Int) = ((i % s.length : Nat) : Int) := by rw [Int.tmod_eq_emod_of_nonneg (by omega)]; simp
    have hlt : i % s.length < s.length := Nat.mod_lt _ (by omega)
    rw [if_neg (by omega), if_neg h, hm, if_pos (by omega), if_pos (by omega), rd_ints s _ hlt, List.getD_eq_getElem?_getD, List.getElem?_eq_getElem hlt]
    rfl

def recF (s : List Nat) (i : Nat) (r : List Int) : List Int := frames r (goS (szOf s i) r.length r.length)
/-- All records' fragments. -/
def allF (s : List Nat) : Nat → List (List Int) → List Int
  | _, [] => []
  | i, r :: rs => recF s i r ++ allF s (i + 1) rs

theorem recF_len {s : List Nat} (h : SOk s) (i : Nat) (r : List Int) (hr : r.length ≤ 40) : (recF s i r).length ≤ 5 * 40 := by
  have h1 := szOf_ok h i
  unfold recF
  rw [frames_length _ _ (goS_sum h1.1 _ _ (Nat.le_refl _)).symm, goS_len h1.1 _ _ (Nat.le_refl _)]
  rcases Nat.eq_zero_or_pos r.length with h0 | h0
  · rw [h0, mcount_le h1.1 (by omega)]; omega
  · have h2 : mcount (szOf s i) r.length ≤ r.length := by
      unfold mcount
      rw [if_neg (by omega)]
      have := Nat.div_le_self (r.length - 1) (szOf s i)
      omega
    omega
theorem recF_count {s : List Nat} (h : SOk s) (i : Nat) (r : List Int) (hr : r.length ≤ 40) : mcount (szOf s i) r.length ≤ 40 := by
  have h1 := szOf_ok h i
  rcases Nat.eq_zero_or_pos r.length with h0 | h0
  · rw [h0, mcount_le h1.1 (by omega)]; omega
  · unfold mcount
    rw [if_neg (by omega)]
    have := Nat.div_le_self (r.length - 1) (szOf s i)
    omega

theorem allF_len {s : List Nat} (h : SOk s) : ∀ (rs : List (List Int)) (i : Nat), (∀ r ∈ rs, r.length ≤ 40) → (allF s i rs).length ≤ 200 * rs.length := by
  intro rs
  induction rs with
  | nil => intro i _; simp [allF]
  | cons r rs ih =>
    intro i hr
    have h1 := recF_len h i r (hr r (by simp))
    have h2 := ih (i + 1) (fun x hx => hr x (by simp [hx]))
    simp only [allF, List.length_append, List.length_cons]
    omega

theorem markSpec_good {s : List Nat} (h : SOk s) (i : Nat) (r : List Int) (hr : r.length ≤ 40) : markSpec r ((szOf s i : Nat) : Int) = (recF s i r, 0) := by
  have h1 := szOf_ok h i
  have h2 := recF_count h i r hr
  unfold markSpec recF
  rw [Int.toNat_natCast, if_neg (by omega), if_neg (by omega), if_neg (by omega)]

theorem all_l0 (s : List Nat) (h : SOk s) (rs : List (List Int)) (hl : rs.length ≤ 5) (hr : ∀ r ∈ rs, r.length ≤ 40) (d : Nat) : ∀ (i : Nat) (out : List Int), i + d = rs.length → out.length ≤ 200 * i →
    Ev (fun k => truchmanref03_All.l0 k (ints s) rs out (i : Int)) (out ++ allF s i (rs.drop i), 0) := by
  induction d with
  | zero =>
    intro i out hd ho
    refine Ev.step (f := fun _ => some (out ++ allF s i (rs.drop i), 0)) (fun k => ?_) (Ev.now _)
    simp only [truchmanref03_All.l0]
    rw [if_neg (by omega), List.drop_of_length_le (by omega)]
    simp [allF]
  | succ d ih =>
    intro i out hd ho
    have hi : i < rs.length := by omega
    have h1 := recF_len h i rs[i] (hr _ (List.getElem_mem hi))
    have h2 := szOf_ok h i
    have e : rd_L2 rs (i : Int) = rs[i] := by unfold rd_L2; rw [Int.toNat_natCast, List.getD_eq_getElem?_getD]; simp [hi]
    refine Ev.step (f := fun k => (truchmanref03_Mark.f k rs[i] ((szOf s i : Nat) : Int)).bind fun bt => if bt.2 = 0 then (if out.length + bt.1.length < 140737488355328 then truchmanref03_All.l0 k (ints s) rs (out ++ bt.1) ((i + 1 : Nat) : Int) else none) else some (([] : List Int), bt.2)) (fun k => ?_) ?_
    · simp only [truchmanref03_All.l0]
      rw [if_pos (by omega), if_pos (by omega), size_eq, Option.bind_some, e, wrap_id (by omega) (by omega)]
      rfl
    · refine Ev.bind (refMark_ev rs[i] ((szOf s i : Nat) : Int) (by omega) (by have := hr _ (List.getElem_mem hi); omega)) ?_
      rw [markSpec_good h i _ (hr _ (List.getElem_mem hi))]
      refine Ev.congr (f := fun k => truchmanref03_All.l0 k (ints s) rs (out ++ recF s i rs[i]) ((i + 1 : Nat) : Int)) (fun k => ?_) ?_
      · rw [if_pos rfl, if_pos (by simp only; omega)]
      · have h3 := ih (i + 1) (out ++ recF s i rs[i]) (by omega) (by rw [List.length_append]; omega)
        rw [drop_cons rs i hi]
        simp only [allF]
        rw [← List.append_assoc]
        exact h3

theorem all_ev (s : List Nat) (h : SOk s) (rs : List (List Int)) (hl : rs.length ≤ 5) (hr : ∀ r ∈ rs, r.length ≤ 40) : Ev (fun k => truchmanref03_All.f k (ints s) rs) (allF s 0 rs, 0) := by
  have h1 := all_l0 s h rs hl hr rs.length 0 [] (Nat.zero_add _) (by simp)
  rw [List.drop_zero, List.nil_append] at h1
  exact h1

theorem AllM_law (A0 : Option Addr) (c0 : Nat) (s : List Nat) (A1 : Option Addr) (c1 : Nat) (l1 : List (List Int)) (w : World) (hs : SOk s) (hl : l1.length ≤ 5) (he : ∀ r ∈ l1, r.length ≤ 40) (hr0 : Kd.C (Kd.int .i64) w A0 (ints s).length (ints s)) (hc0 : (ints s).length ≤ c0) (hr1 : Kd.C (Kd.slice 5 (Kd.int .u8)) w A1 l1.length l1) (hc1 : l1.length ≤ c1) :
    Calls Try.prog 19 #[.slice A0 (ints s).length c0, .slice A1 l1.length c1] w fun e w' => ∃ (A : Option Addr) (c : Nat), e = .returned (.tuple #[.slice A (allF s 0 l1).length c, .int .i64 0]) ∧ Kd.R (Kd.int .u8) 5 w' w.heap.size (fun _ => True) (.slice A (allF s 0 l1).length c) (allF s 0 l1) ∧ Below w.heap.size w w' := by
  obtain ⟨k, hk⟩ := (all_ev s hs l1 hl he).rounds
  refine (truchmanref03_All.calls k A0 c0 (ints s) A1 c1 l1 _ _ w hr0 hc0 hr1 hc1 hk).mono ?_
  rintro e w' ⟨v0, rfl, hr, hb⟩
  obtain ⟨A, c, rfl⟩ := Kd.R_slice hr
  exact ⟨A, c, rfl, hr, hb⟩

theorem goS_ne {s : Nat} (d n : Nat) : goS s d n ≠ [] := by
  cases d with
  | zero => simp [goS]
  | succ d => simp only [goS]; split <;> simp

/-- What a deframer makes of all fragments. -/
theorem dRun_allF {s : List Nat} (h : SOk s) (most frags : Int) (hm0 : 40 ≤ most) (hm : most ≤ 4096) : ∀ (rs : List (List Int)) (i : Nat) (left : Int) (ends : Bool) (out : List (List Int)), (∀ r ∈ rs, r.length ≤ 40) → (∀ j, (j : Nat) < rs.length → ((mcount (szOf s (i + j)) (rs.getD j []).length : Nat) : Int) ≤ frags) →
    ∃ left2 ends2, dRun ⟨most, frags, 0, [], [], left, 0, ends, out, 0⟩ (allF s i rs) = ⟨most, frags, 0, [], [], left2, 0, ends2, out ++ rs, 0⟩ := by
  intro rs
  induction rs with
  | nil => intro i left ends out _ _; exact ⟨left, ends, by rw [List.append_nil]; rfl⟩
  | cons r rs ih =>
    intro i left ends out hr hc
    have h1 := szOf_ok h i
    have h2 := hc 0 (by simp)
    have h3 := goS_sum (s := szOf s i) h1.1 r.length r.length (Nat.le_refl _)
    have h4 := goS_len (s := szOf s i) h1.1 r.length r.length (Nat.le_refl _)
    simp only [Nat.add_zero, List.getD_cons_zero] at h2
    obtain ⟨l2, e2, hrun⟩ := dRun_frames (goS (szOf s i) r.length r.length) r most frags [] left 0 ends out (goS_ne _ _) h3.symm (by rw [h4]; omega) (by have := hr r (by simp); simp; omega) hm
    obtain ⟨l3, e3, hrun2⟩ := ih (i + 1) l2 e2 (out ++ [[] ++ r]) (fun x hx => hr x (by simp [hx])) (fun j hj => by
      have h5 := hc (j + 1) (by simp; omega)
      simp only [List.getD_cons_succ] at h5
      rw [show i + 1 + j = i + (j + 1) by omega]
      exact h5)
    refine ⟨l3, e3, ?_⟩
    simp only [allF]
    rw [dRun_append, recF, hrun, hrun2]
    simp
end Go.Proofs.Ytfoifcilacbipaa.G
