/- The hand-made contracts of xdr.Reader, second part: a text is read; a reader is made. -/
import Derived.Test.YtdfnhmgopihfcaaG3
namespace Go.Proofs.Ytdfnhmgopihfcaa.G
open Go.RowKit Go.Proofs.YtdfnhmgopihfcaaW.PrintWords Go.Proofs.YtdfnhmgopihfcaaW.PrintLast Go.Proofs.YtdfnhmgopihfcaaW.PrintMore
set_option linter.unusedVariables false
set_option linter.unusedSimpArgs false

/-- How many bytes 0 stand behind a text of so many bytes. -/
def padN (n : Nat) : Nat := (4 - n % 4) % 4
/-- A text's number of bytes, as it is read. -/
def txN (e : Int) (xs : List Int) : Nat := (readU32 e xs).toNat
def tx1 (e : Int) (xs : List Int) (most : Int) : Int := if takeE e xs 4 = 0 ∧ readU32 e xs > most then 4 else takeE e xs 4
def tx1L (e : Int) (xs : List Int) (most : Int) : List Int := if takeE e xs 4 = 0 ∧ readU32 e xs > most then [] else takeL e xs 4
def tx2 (e : Int) (xs : List Int) (most : Int) : Int := takeE (tx1 e xs most) (tx1L e xs most) (txN e xs)
def tx2L (e : Int) (xs : List Int) (most : Int) : List Int := takeL (tx1 e xs most) (tx1L e xs most) (txN e xs)
def tx2O (e : Int) (xs : List Int) (most : Int) : List Int := takeO (tx1 e xs most) (tx1L e xs most) (txN e xs)
def tx3 (e : Int) (xs : List Int) (most : Int) : Int := takeE (tx2 e xs most) (tx2L e xs most) (padN (txN e xs))
def tx3L (e : Int) (xs : List Int) (most : Int) : List Int := takeL (tx2 e xs most) (tx2L e xs most) (padN (txN e xs))
def tx3O (e : Int) (xs : List Int) (most : Int) : List Int := takeO (tx2 e xs most) (tx2L e xs most) (padN (txN e xs))
/-- Bytes behind a text, one of them no 0: an error. -/
def oddE (e : Int) (ps : List Int) : Int := if ps.all (· == 0) then e else failE e 2
def oddL (xs ps : List Int) : List Int := if ps.all (· == 0) then xs else []
def textE (e : Int) (xs : List Int) (most : Int) : Int := oddE (tx3 e xs most) (tx3O e xs most)
def textL (e : Int) (xs : List Int) (most : Int) : List Int := oddL (tx3L e xs most) (tx3O e xs most)
def textO (e : Int) (xs : List Int) (most : Int) : List Int := if textE e xs most = 0 then tx2O e xs most else []

theorem failE_ne (e e1 : Int) (h : e1 ≠ 0) : failE e e1 ≠ 0 := by unfold failE; split <;> assumption
theorem failE_idem (e e1 : Int) (h : e1 ≠ 0) : failE (failE e e1) e1 = failE e e1 := by
  rw [failE, if_neg (failE_ne e e1 h)]

theorem oddE_snoc (e : Int) (ps : List Int) (p : Int) : oddE e (ps ++ [p]) = if p = 0 then oddE e ps else failE (oddE e ps) 2 := by
  unfold oddE
  by_cases hp : p = 0
  · subst hp; simp
  · rw [if_neg hp]
    have h1 : ((ps ++ [p]).all (· == 0)) = false := by simp [hp]
    rw [h1]
    simp only [Bool.false_eq_true, if_false]
    split
    · rfl
    · rw [failE_idem _ _ (by decide)]
theorem oddL_snoc (xs ps : List Int) (p : Int) : oddL xs (ps ++ [p]) = if p = 0 then oddL xs ps else [] := by
  unfold oddL
  by_cases hp : p = 0
  · subst hp; simp
  · rw [if_neg hp]
    simp [hp]

theorem Part_mov {ok : Nat → Prop} {g g' : Nat} {w w' : World} {v : Value} {xs : List Int} (h : Part ok g w v xs) (m : Mov g' w w') (hg : ∀ k, ok k → k ≠ g → k ≠ g') : Part ok g w' v xs := by
  obtain ⟨A, c, rfl, hl, hf⟩ := h
  exact ⟨A, c, rfl, hl, Kd.F_step hf (fun k hk hlt => m.block k hlt (hg k hk.1 hk.2))⟩

set_option maxHeartbeats 8000000 in
set_option maxRecDepth 100000 in
theorem pad_calls (n : Nat) (w : World) (hn : n ≤ 4294967296) : Calls Try.prog 48 #[.int .i64 (n : Int)] w fun r w' => r = .returned (.int .i64 ((padN n : Nat) : Int)) ∧ w' = w := by
  have h0 : (0 : Int) ≤ (n : Int) := by omega
  go_enter Try.func48, Try.ntmps48
  go_wp2
  go_ret
  refine ⟨?_, rfl⟩
  have h2 : ((4 : Int) - (n : Int) % 4) % 4 = ((padN n : Nat) : Int) := by unfold padN; omega
  rw [← h2]
  rfl

theorem readU32_range (e : Int) (xs : List Int) : 0 ≤ readU32 e xs ∧ readU32 e xs < 4294967296 := by
  unfold readU32
  have h1 := Int.emod_nonneg (valN 0 (takeO e xs 4)) (show (4294967296 : Int) ≠ 0 by decide)
  have h2 := Int.emod_lt_of_pos (valN 0 (takeO e xs 4)) (show (0 : Int) < 4294967296 by decide)
  exact ⟨h1, h2⟩

set_option maxHeartbeats 8000000 in
set_option maxRecDepth 100000 in
/-- The end of Text: the bytes of the padding are looked at, one by one. -/
theorem TextR_calls (ok : Nat → Prop) (g : Nat) (e : Int) (xs : List Int) (most : Int) (w : World) (h : RD ok w g e xs) :
    Calls Try.prog 31 #[.pointer (some ⟨g, 0, none⟩), .int .i64 most] w fun r w' => ∃ v, r = .returned v ∧ Part ok g w' v (textO e xs most) ∧ RD ok w' g (textE e xs most) (textL e xs most) ∧ Mov g w w' := by
  have hu := Try.underlying55
  have hu2 := Try.underlying53
  obtain ⟨n, hn⟩ : ∃ n : Nat, readU32 e xs = (n : Int) := ⟨(readU32 e xs).toNat, by have := readU32_range e xs; omega⟩
  have hnb : n ≤ 4294967296 := by have := readU32_range e xs; omega
  have htn : txN e xs = n := by unfold txN; rw [hn]; rfl
  have HN := Aside0.mk hn
  have HT := Aside0.mk htn
  clear hn htn
  obtain ⟨e1, he1⟩ : ∃ e1, e1 = takeE e xs 4 := ⟨_, rfl⟩
  obtain ⟨l1, hl1⟩ : ∃ l1, l1 = takeL e xs 4 := ⟨_, rfl⟩
  have HE1 := Aside0.mk he1
  have HL1 := Aside0.mk hl1
  clear he1 hl1
  have hP : (if e1 = 0 ∧ (n : Int) > most then (4 : Int) else e1) = tx1 e xs most := by unfold tx1; rw [HN.out, HE1.out]
  have hQ : (if e1 = 0 ∧ (n : Int) > most then ([] : List Int) else l1) = tx1L e xs most := by unfold tx1L; rw [HN.out, HE1.out, HL1.out]
  have HP := Aside0.mk hP
  have HQ := Aside0.mk hQ
  clear hP hQ
  go_enter Try.func31, Try.ntmps31
  go_wp2_with fail
  refine (U32R_calls ok g e xs w h).mono ?_
  rintro r w1 ⟨rfl, hr, hm⟩
  rw [show valN 0 (takeO e xs 4) % 4294967296 = readU32 e xs from rfl, HN.out]
  rw [← HE1.out, ← HL1.out] at hr
  have hc1 := RD_e hr
  have HR := Aside0.mk hr
  have HM := Aside0.mk hm
  clear hr hm
  refine Or.elim (Classical.em (e1 = 0)) (fun he => Or.elim (Classical.em ((n : Int) > most)) (fun hq => ?wa) (fun hq => ?wb)) (fun he => ?wc)
  case' wa =>
      have c1 : (e1 == 0) = true := beq_iff_eq.mpr he
      have c2 : decide ((n : Int) > most) = true := decide_eq_true hq
      have c3 : decide (most < (n : Int)) = true := decide_eq_true hq
      have HP2 : Aside0 (tx1 e xs most = 4 ∧ tx1L e xs most = []) := ⟨by rw [← HP.out, if_pos ⟨he, hq⟩], by rw [← HQ.out, if_pos ⟨he, hq⟩]⟩
      have HE0 := Aside0.mk he
      clear he hq
      go_wp2_with fail
      refine (fail_calls ok g e1 4 l1 _ HR.out).mono ?_
      rintro r w2 ⟨rfl, hr2, hm2⟩
      rw [if_pos HE0.out, ← HP2.out.1, ← HP2.out.2] at hr2
      have hc0 := RD_e hr2
      have HR1 := Aside0.mk hr2
      have HM1 := Aside0.mk (HM.out.trans hm2)
      clear hr2 hm2 HM HR HP2 HE0 hc1
      go_wp2_with fail
  case' wb =>
      have c1 : (e1 == 0) = true := beq_iff_eq.mpr he
      have hq2 : (n : Int) ≤ most := by omega
      have c2 : decide ((n : Int) > most) = false := decide_eq_false hq
      have c3 : decide (most < (n : Int)) = false := decide_eq_false hq
      have HR1 : Aside0 (RD ok w1 g (tx1 e xs most) (tx1L e xs most)) := ⟨by rw [← HP.out, ← HQ.out, if_neg (fun h => hq h.2), if_neg (fun h => hq h.2)]; exact HR.out⟩
      have HM1 := HM
      clear he hq HR HM
      go_wp2_with fail
  case' wc =>
    have c1 : (e1 == 0) = false := beq_eq_false_iff_ne.mpr he
    have HR1 : Aside0 (RD ok w1 g (tx1 e xs most) (tx1L e xs most)) := ⟨by rw [← HP.out, ← HQ.out, if_neg (fun h => he h.1), if_neg (fun h => he h.1)]; exact HR.out⟩
    have HM1 := HM
    clear he HR HM
    go_wp2_with fail
  all_goals
    refine (take_calls ok g _ _ n _ HR1.out hnb).mono ?_
    rintro r w3 ⟨v3, rfl, hp3, hr3, hm3⟩
    have HP3 : Aside0 (Part ok g w3 v3 (tx2O e xs most)) := ⟨by unfold tx2O; rw [HT.out]; exact hp3⟩
    have HR3 : Aside0 (RD ok w3 g (tx2 e xs most) (tx2L e xs most)) := ⟨by unfold tx2 tx2L; rw [HT.out]; exact hr3⟩
    have HM3 := Aside0.mk (HM1.out.trans hm3)
    clear hp3 hr3 hm3 HM1 HR1
    try clear hc0
    try clear hc1
    go_wp2_with fail
    refine (pad_calls n _ hnb).mono ?_
    rintro r w4 ⟨rfl, rfl⟩
    go_wp2_with fail
    refine (take_calls ok g _ _ (padN n) _ HR3.out (by unfold padN; omega)).mono ?_
    rintro r w5 ⟨v5, rfl, ⟨A5, c5, rfl, hl5, hf5⟩, hr5, hm5⟩
    have HP5 : Aside0 (Part ok g w5 v3 (tx2O e xs most)) := ⟨Part_mov HP3.out hm5 (fun k _ hk => hk)⟩
    have hz : takeO (tx2 e xs most) (tx2L e xs most) (padN n) = tx3O e xs most := by unfold tx3O; rw [HT.out]
    have HR5 : Aside0 (RD ok w5 g (tx3 e xs most) (tx3L e xs most)) := ⟨by unfold tx3 tx3L; rw [HT.out]; exact hr5⟩
    have HM5 := Aside0.mk (HM3.out.trans hm5)
    rw [hz] at hf5 hl5 ⊢
    obtain ⟨ps, hps⟩ : ∃ ps, ps = tx3O e xs most := ⟨_, rfl⟩
    rw [← hps] at hf5 hl5 ⊢
    have hpl : ps.length ≤ 4 := by rw [hps]; unfold tx3O takeO padN; split <;> simp [List.length_take]; omega
    have HF := Aside0.mk hf5
    have HY := Aside0.mk hps
    clear hf5 hps hz hr5 hm5 HM3 HR3 HP3
    go_wp2
    go_loopw [33] (fun v w' => ∃ i : Nat, v = .int .i64 (i : Int) ∧ Aside0 (i ≤ ps.length) ∧ Aside0 (RD ok w' g (oddE (tx3 e xs most) (ps.take i)) (oddL (tx3L e xs most) (ps.take i))) ∧ Aside0 (Mov g w5 w'))
      (fun v _ => (ps.length - intOf v).toNat)
    case atStart => exact ⟨0, rfl, ⟨Nat.zero_le _⟩, ⟨HR5.out⟩, ⟨Mov.refl _ _⟩⟩
    case round =>
      obtain ⟨i, rfl, HI, HW, HV⟩ := hrel
      refine Or.elim (Classical.em (i < ps.length)) (fun hi => ?inl_) (fun hi => ?out_)
      case inl_ =>
        have c5 : decide ((i : Int) < (ps.length : Int)) = true := decide_eq_true (by omega)
        have hi0 : (0 : Int) ≤ (i : Int) := by omega
        obtain ⟨ad, had, hx⟩ := Kd.at_int (Kd.F_now (Kd.F_step HF.out (fun k hk hlt => HV.out.block k hlt hk.2))) (i : Int) hi0 (by omega)
        subst had
        have hx' : wr.cell? (ad.add i) = some (.int .u8 (rd ps (i : Int))) := by rw [Int.toNat_natCast] at hx; exact hx
        have hr0 : rd ps (i : Int) = ps[i] := by
          unfold rd
          rw [Int.toNat_natCast, List.getD_eq_getElem?_getD, List.getElem?_eq_getElem hi]
          rfl
        generalize hb : rd ps (i : Int) = p at hx hx' hr0
        have hd : ps.take (i + 1) = ps.take i ++ [p] := by rw [List.take_succ_eq_append_getElem hi, ← hr0]
        have HD := Aside0.mk hd
        have HI2 := Aside0.mk hi
        clear hd hr0 hb
        refine Or.elim (Classical.em (p = 0)) (fun hp => ?z_) (fun hp => ?nz_)
        case z_ =>
          have c6 : (p != 0) = false := bne_eq_false_iff_eq.mpr hp
          have c7 : (p == 0) = true := beq_iff_eq.mpr hp
          have HZ := Aside0.mk hp
          clear hp
          go_wp2_with fail
          go_roundw
          case rel => exact ⟨i + 1, by simp, ⟨by have := HI2.out; omega⟩, ⟨by rw [HD.out, oddE_snoc, oddL_snoc, if_pos HZ.out, if_pos HZ.out]; exact HW.out⟩, HV⟩
          case measure => have := HI2.out; simp [intOf]; omega
        case nz_ =>
          have c6 : (p != 0) = true := bne_iff_ne.mpr hp
          have c7 : (p == 0) = false := beq_eq_false_iff_ne.mpr hp
          have HZ := Aside0.mk hp
          clear hp
          go_wp2_with fail
          refine (fail_calls ok g _ 2 _ _ HW.out).mono ?_
          rintro r w6 ⟨rfl, hr6, hm6⟩
          have HR6 := Aside0.mk hr6
          have HM6 := Aside0.mk hm6
          clear hr6 hm6
          go_wp2_with fail
          go_roundw
          case rel => exact ⟨i + 1, by simp, ⟨by have := HI2.out; omega⟩, ⟨by rw [HD.out, oddE_snoc, oddL_snoc, if_neg HZ.out, if_neg HZ.out]; exact HR6.out⟩, ⟨HV.out.trans HM6.out⟩⟩
          case measure => have := HI2.out; simp [intOf]; omega
      case out_ =>
        have c5 : decide ((i : Int) < (ps.length : Int)) = false := decide_eq_false (by omega)
        have hps2 : ps.take i = ps := List.take_of_length_le (by omega)
        have hE : oddE (tx3 e xs most) (ps.take i) = textE e xs most := by rw [hps2, HY.out]; rfl
        have hL : oddL (tx3L e xs most) (ps.take i) = textL e xs most := by rw [hps2, HY.out]; rfl
        have HW2 : Aside0 (RD ok wr g (textE e xs most) (textL e xs most)) := ⟨by rw [← hE, ← hL]; exact HW.out⟩
        have HP6 : Aside0 (Part ok g wr v3 (tx2O e xs most)) := ⟨Part_mov HP5.out HV.out (fun k _ hk => hk)⟩
        have HM6 := Aside0.mk (HM5.out.trans HV.out)
        have hc9 := RD_e HW2.out
        have hi2 : ps.length ≤ i := by omega
        clear hE hL hps2 HW hi
        obtain ⟨e9, he9⟩ : ∃ e9, e9 = textE e xs most := ⟨_, rfl⟩
        rw [← he9] at hc9
        have HE9 := Aside0.mk he9
        clear he9
        refine Or.elim (Classical.em (e9 = 0)) (fun hp => ?z2_) (fun hp => ?nz2_)
        case z2_ =>
          have c6 : (e9 != 0) = false := bne_eq_false_iff_eq.mpr hp
          have c7 : (e9 == 0) = true := beq_iff_eq.mpr hp
          have HO : Aside0 (textO e xs most = tx2O e xs most) := ⟨by unfold textO; rw [if_pos (HE9.out.symm.trans hp)]⟩
          clear hp
          go_wp2_with fail
          go_ret
          exact ⟨_, rfl, by rw [HO.out]; exact HP6.out, HW2.out, HM6.out⟩
        case nz2_ =>
          have c6 : (e9 != 0) = true := bne_iff_ne.mpr hp
          have c7 : (e9 == 0) = false := beq_eq_false_iff_ne.mpr hp
          have HO : Aside0 (textO e xs most = []) := ⟨by unfold textO; rw [if_neg (fun h => hp (HE9.out.trans h))]⟩
          clear hp
          go_wp2_with fail
          go_ret
          exact ⟨_, rfl, by rw [HO.out]; exact ⟨none, 0, rfl, Nat.le_refl _, Kd.F_nil _ _ _⟩, HW2.out, HM6.out⟩

end Go.Proofs.Ytdfnhmgopihfcaa.G
