/- What is laid piece by piece is what is laid of each alone, one behind the other: for any numbers and any texts (the law itself takes the first 5 of each, 20 bytes a text). -/
import Derived.Test.YtdfnhmgopihfcaaL1
namespace Go.Proofs.Ytdfnhmgopihfcaa.Pure
open Go.RowKit Go.Proofs.Ytdfnhmgopihfcaa.P Go.Proofs.Ytdfnhmgopihfcaa.G Go.Proofs.YtdfnhmgopihfcaaW.PrintWords Go.Proofs.YtdfnhmgopihfcaaW.PrintLast Go.Proofs.YtdfnhmgopihfcaaW.PrintMore

theorem lives01 : truchmanlaw01_lives.f = some true := by
  unfold truchmanlaw01_lives.f
  rw [Text_eq [] [97, 98] (by simp) (by simp)]
  rw [Option.bind_some, str_toList]
  decide

/-- The second loop: texts. -/
theorem parts_l1 (x1 : List (List Int)) (d : Nat) : ∀ (i : Nat) (x5 : List Int) (x6 : ByteArray), i + d = min x1.length 5 → strOfNums x5 = x6 → x5.length % 4 = 0 → x5.length ≤ 100 + 100 * i →
    Ev (fun k => truchmanlaw01_XdrParts.l1 k x1 x5 x6 (i : Int)) true := by
  induction d with
  | zero =>
    intro i x5 x6 hd he hm hl
    have hj : ∀ k, truchmanlaw01_XdrParts.l1 (k + 1) x1 x5 x6 (i : Int) = truchmanlaw01_XdrParts.j3 k x1 x5 x6 (i : Int) false := fun k => by
      simp only [truchmanlaw01_XdrParts.l1]
      by_cases h : (i : Int) < (x1.length : Int)
      · rw [if_pos h, decide_eq_false (by omega)]
      · rw [if_neg h]
    refine Ev.step hj (Ev.step (f := fun _ => some true) (fun k => ?_) (Ev.now true))
    simp only [truchmanlaw01_XdrParts.j3]
    rw [if_neg (by decide), if_pos (by rw [he]), if_pos (by omega), lives01]
    rfl
  | succ d ih =>
    intro i x5 x6 hd he hm hl
    have hi : i < x1.length := by omega
    have hj : ∀ k, truchmanlaw01_XdrParts.l1 (k + 1) x1 x5 x6 (i : Int) = truchmanlaw01_XdrParts.j3 k x1 x5 x6 (i : Int) true := fun k => by
      simp only [truchmanlaw01_XdrParts.l1]
      rw [if_pos (by omega), decide_eq_true (by omega)]
    refine Ev.step hj ?_
    have hF := Few_eq (rd_L1 x1 (i : Int)) 20 (by omega)
    have hs20 : ((rd_L1 x1 (i : Int)).take 20).length ≤ 20 := by simp [List.length_take]; omega
    generalize (rd_L1 x1 (i : Int)).take 20 = s at hF hs20
    have hp := padN_le s.length
    have htl := textB_length s
    refine Ev.step (f := fun k => truchmanlaw01_XdrParts.l1 k x1 (x5 ++ textB s) (x6 ++ strOfNums (textB s)) ((i + 1 : Nat) : Int)) (fun k => ?_) (ih (i + 1) _ _ (by omega) (by rw [str_append, he]) ?_ ?_)
    · simp only [truchmanlaw01_XdrParts.j3]
      rw [if_pos trivial, if_pos (by omega), if_pos (by omega), show (20 : Int) = ((20 : Nat) : Int) from rfl, hF, Option.bind_some, Text_eq x5 s (by omega) (by omega), Option.bind_some, Text_eq [] s (by simp) (by omega), Option.bind_some, List.nil_append,
        if_pos (by rw [← he, strOfNums_size, strOfNums_size]; omega), wrap_id (by omega) (by omega)]
      rfl
    · rw [List.length_append, htl]
      have := padN_mod s.length
      omega
    · rw [List.length_append, htl]; omega

/-- The first loop: numbers. -/
theorem parts_l0 (x0 : List Int) (x1 : List (List Int)) (hx : ∀ x ∈ x0, (Lit.int .u32 x).wf = true) (d : Nat) : ∀ (i : Nat) (x5 : List Int) (x6 : ByteArray), i + d = min x0.length 5 → strOfNums x5 = x6 → x5.length = 4 * i →
    Ev (fun k => truchmanlaw01_XdrParts.l0 k x0 x1 x5 x6 (i : Int)) true := by
  induction d with
  | zero =>
    intro i x5 x6 hd he hl
    have hj : ∀ k, truchmanlaw01_XdrParts.l0 (k + 1) x0 x1 x5 x6 (i : Int) = truchmanlaw01_XdrParts.j1 k x0 x1 x5 x6 (i : Int) false := fun k => by
      simp only [truchmanlaw01_XdrParts.l0]
      by_cases h : (i : Int) < (x0.length : Int)
      · rw [if_pos h, decide_eq_false (by omega)]
      · rw [if_neg h]
    refine Ev.step hj (Ev.step (f := fun k => truchmanlaw01_XdrParts.l1 k x1 x5 x6 ((0 : Nat) : Int)) (fun k => ?_) (parts_l1 x1 _ 0 x5 x6 (Nat.zero_add _) he (by omega) (by omega)))
    simp only [truchmanlaw01_XdrParts.j1]
    rw [if_neg (by decide)]
    rfl
  | succ d ih =>
    intro i x5 x6 hd he hl
    have hi : i < x0.length := by omega
    have hj : ∀ k, truchmanlaw01_XdrParts.l0 (k + 1) x0 x1 x5 x6 (i : Int) = truchmanlaw01_XdrParts.j1 k x0 x1 x5 x6 (i : Int) true := fun k => by
      simp only [truchmanlaw01_XdrParts.l0]
      rw [if_pos (by omega), decide_eq_true (by omega)]
    refine Ev.step hj ?_
    have hr : (Lit.int .u32 (rd x0 (i : Int))).wf = true := by
      refine hx _ ?_
      unfold rd
      rw [Int.toNat_natCast, List.getD_eq_getElem?_getD, List.getElem?_eq_getElem hi]
      exact List.getElem_mem hi
    generalize hrd : rd x0 (i : Int) = n at hr
    have hn : 0 ≤ n ∧ n < 4294967296 := by
      simp [Lit.wf, IntKind.min, IntKind.max, IntKind.signed, IntKind.bits] at hr
      omega
    have hlen : (beN n 4).length = 4 := beN_length n 4
    refine Ev.step (f := fun k => truchmanlaw01_XdrParts.l0 k x0 x1 (x5 ++ beN n 4) (x6 ++ strOfNums (beN n 4)) ((i + 1 : Nat) : Int)) (fun k => ?_) (ih (i + 1) _ _ (by omega) (by rw [str_append, he]) (by rw [List.length_append, hlen]; omega))
    simp only [truchmanlaw01_XdrParts.j1]
    rw [if_pos trivial, if_pos (by omega), if_pos (by omega), hrd, U32_eq x5 n hn.1 hn.2 (by omega), Option.bind_some, U32_eq [] n hn.1 hn.2 (by simp), Option.bind_some, List.nil_append,
      if_pos (by rw [← he, strOfNums_size, strOfNums_size]; omega), wrap_id (by omega) (by omega)]
    rfl

theorem XdrParts : truchmanlaw01_XdrParts.Pure := by
  intro l0 l1 _ _ hx _ _
  unfold truchmanlaw01_XdrParts.f
  exact (parts_l0 l0 l1 hx _ 0 [] _ (Nat.zero_add _) rfl rfl).rounds

end Go.Proofs.Ytdfnhmgopihfcaa.Pure
