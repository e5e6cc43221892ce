/- The hand-made contracts of the document's reader, second part: U64, Bool, Left, End, Text; and the program's reader is made. -/
import Derived.Test.YtdfnhmgopihfcaaG5
namespace Go.Proofs.Ytdfnhmgopihfcaa.G
open Go.RowKit Go.Proofs.YtdfnhmgopihfcaaW.PrintWords Go.Proofs.YtdfnhmgopihfcaaW.PrintLast Go.Proofs.YtdfnhmgopihfcaaW.PrintMore
set_option linter.unusedVariables false
set_option linter.unusedSimpArgs false

theorem RF_drewN {ok : Nat → Prop} {w : World} {h : Nat} {e : Int} {xs : List Int} (H : RF ok w h e xs) (n : Nat) : RF ok (w.drewN n) h e xs := by
  obtain ⟨B, I, hr, k⟩ := H
  exact ⟨B, I, RB_drewN hr n, k⟩
theorem RB_mov {ok : Nat → Prop} {g g' : Nat} {w w' : World} {B : List Int} {I : Nat} {e : Int} (h : RB ok w g B I e) (m : Mov g' w w') (hok : ¬ ok g') : RB ok w' g B I e := by
  obtain ⟨hb, A, c, hc, hl, hf⟩ := h
  exact ⟨hb, A, c, (m.block g (blk_lt hc) (fun h => hok (h ▸ hb))).trans hc, hl, Kd.F_step hf (fun k hk hlt => m.block k hlt (fun h => hok (h ▸ hk.1)))⟩
theorem RB_below {ok : Nat → Prop} {g : Nat} {w w' : World} {B : List Int} {I : Nat} {e : Int} (h : RB ok w g B I e) (m : Below w.heap.size w w') : RB ok w' g B I e := by
  obtain ⟨hb, A, c, hc, hl, hf⟩ := h
  exact ⟨hb, A, c, (m.block g (blk_lt hc)).trans hc, hl, Kd.F_below hf m⟩
theorem RF_mov {ok : Nat → Prop} {g g' : Nat} {w w' : World} {e : Int} {xs : List Int} (h : RF ok w g e xs) (m : Mov g' w w') (hok : ¬ ok g') : RF ok w' g e xs := by
  obtain ⟨B, I, hr, k⟩ := h
  exact ⟨B, I, RB_mov hr m hok, k⟩
theorem RF_below {ok : Nat → Prop} {g : Nat} {w w' : World} {e : Int} {xs : List Int} (h : RF ok w g e xs) (m : Below w.heap.size w w') : RF ok w' g e xs := by
  obtain ⟨B, I, hr, k⟩ := h
  exact ⟨B, I, RB_below hr m, k⟩

def readU64 (e : Int) (xs : List Int) : Int := valN 0 (takeO e xs 8)
theorem readU64_words {B : List Int} (hB : Bytes B) (I : Nat) (h : I + 8 ≤ B.length) : readU64 0 (B.drop I) = word4 B I * 4294967296 + word4 B (I + 4) := by
  have hl : 8 ≤ (B.drop I).length := by rw [List.length_drop]; omega
  unfold readU64
  rw [(take_ok ⟨rfl, hl⟩).2.1, drop4 I (by omega), drop4 (I + 4) (by omega)]
  simp only [List.take_succ_cons, List.take_zero]
  have w1 := word4_range hB I
  rw [valN4 (rd_bytes hB _) (rd_bytes hB _) (rd_bytes hB _) (rd_bytes hB _) 0 (by decide) _]
  rw [valN4 (rd_bytes hB _) (rd_bytes hB _) (rd_bytes hB _) (rd_bytes hB _) _ (by unfold word4 at w1; omega) []]
  simp only [valN, word4]
  omega
theorem readU64_no {e : Int} {xs : List Int} (h : ¬ (e = 0 ∧ 8 ≤ xs.length)) : readU64 e xs = 0 := by
  unfold readU64
  rw [(take_no h).2.1]
  rfl

set_option maxHeartbeats 8000000 in
set_option maxRecDepth 100000 in
theorem U64W_calls (ok : Nat → Prop) (h : Nat) (e : Int) (xs : List Int) (w : World) (H : RF ok w h e xs) :
    Calls Try.prog 40 #[.pointer (some ⟨h, 0, none⟩)] w fun r w' => r = .returned (.int .u64 (readU64 e xs)) ∧ RF ok w' h (takeE e xs 8) (takeL e xs 8) ∧ Mov h w w' := by
  have hu := Try.underlying67
  obtain ⟨B, I, hr, hI, hmx, hB, hs⟩ := H
  have HH := Aside0.mk (And.intro hB hs)
  have hz := shortE_take hs 8
  go_enter Try.func40, Try.ntmps40
  go_wp2_with fail
  refine (short_calls ok h B I e 8 w hr hI (by decide)).mono ?_
  rintro r w1 ⟨rfl, hr1, hm1⟩
  rw [hz] at hr1 ⊢
  clear hz
  refine Or.elim (Classical.em (e = 0 ∧ 8 ≤ xs.length)) (fun hc => ?wa) (fun hc => ?wb)
  case wa =>
    have ht := take_ok hc
    have hx : xs = B.drop I := by rcases hs with h1 | h1; exact h1.2; exact absurd hc.1 h1.1
    have hlen : I + 8 ≤ B.length := by have := hc.2; rw [hx, List.length_drop] at this; omega
    have hw4 : readU64 e xs = word4 B I * 4294967296 + word4 B (I + 4) := by rw [hc.1, hx]; exact readU64_words hB I hlen
    have HF : Aside0 (takeE e xs 8 = 0 ∧ takeL e xs 8 = B.drop (I + 8)) := ⟨ht.1, by rw [ht.2.2, hx, List.drop_drop]⟩
    rw [ht.1] at hr1 ⊢
    obtain ⟨hb, A, c, hc', hl, hf⟩ := id hr1
    have hc1 : w1.cell? ⟨h, 1, none⟩ = some (.int .i64 (I : Int)) := (blk_cell hc' 1).trans rfl
    have hz1 := blk_frozen hc' 1
    have HR := Aside0.mk hr1
    have HM := Aside0.mk hm1
    have HW := Aside0.mk hw4
    obtain ⟨J, hJ⟩ : ∃ J : Nat, J = I + 4 := ⟨_, rfl⟩
    have s1 : IntKind.i64.wrap ((I : Int) + 4) = (J : Int) := by rw [IntKind.wrap_i64]; omega
    have hr4 : word4 B (I + 4) = word4 B J := by rw [hJ]
    rw [hr4] at HW
    have HI2 : Aside0 (I + 8 ≤ B.length ∧ J = I + 4) := ⟨hlen, hJ⟩
    have HV := Aside0.mk (And.intro (word4_range hB I) (word4_range hB J))
    clear hr1 hm1 hw4 ht hx hlen hc' hf hr hc hB hs hb hl hr4 hJ
    go_wp2_with fail
    have HA : Aside0 (I + 4 ≤ B.length) := ⟨by have := HI2.out; omega⟩
    have HJ : Aside0 (J + 4 ≤ B.length) := ⟨by have := HI2.out; omega⟩
    go_quiet ((go_at_call 54; exact Calls.quiet_of (word_calls ok h B I 0 _ _ (RB_drewN HR.out _) (by first | exact HA.out | exact HJ.out) HH.out.1 hmx)))
    clear s1
    have s8 : (I : Int) + 8 ≤ (B.length : Int) := by have := HI2.out; omega
    go_wp2_with fail
    go_ret
    refine ⟨?_, ⟨B, I + 8, ?_, HI2.out.1, hmx, HH.out.1, .inl ⟨HF.out.1, HF.out.2⟩⟩, ?_⟩
    · have hv := HV.out
      rw [HW.out]
      exact ret_int (by simp only [IntKind.wrap, IntKind.bits, IntKind.signed] <;> simp <;> omega)
    · rw [HF.out.1]; exact RB_setI (RB_drewN HR.out _) (I + 8)
    · exact (HM.out.drewN _).set _ _
  case wb =>
    have ht := take_no hc
    have hw4 : readU64 e xs = 0 := readU64_no hc
    have hE : (takeE e xs 8 != 0) = true := bne_iff_ne.mpr ht.1
    have HF : Aside0 (takeL e xs 8 = [] ∧ takeE e xs 8 ≠ 0) := ⟨ht.2.2, ht.1⟩
    have HR := Aside0.mk hr1
    have HM := Aside0.mk hm1
    have HW := Aside0.mk hw4
    clear hr1 hm1 hw4 ht hr hc hB hs
    go_wp2_with fail
    go_ret
    exact ⟨by rw [HW.out]; rfl, ⟨B, I, HR.out, hI, hmx, HH.out.1, .inr ⟨HF.out.2, HF.out.1⟩⟩, HM.out⟩

theorem RF_e {ok : Nat → Prop} {h : Nat} {w : World} {e : Int} {xs : List Int} (H : RF ok w h e xs) : w.cell? ⟨h, 2, none⟩ = some (.int .i64 e) := by
  obtain ⟨B, I, ⟨hb, A, c, hc, hl, hf⟩, _⟩ := H
  exact (blk_cell hc 2).trans rfl

set_option maxHeartbeats 8000000 in
set_option maxRecDepth 100000 in
theorem LeftW_calls (ok : Nat → Prop) (h : Nat) (e : Int) (xs : List Int) (w : World) (H : RF ok w h e xs) :
    Calls Try.prog 44 #[.pointer (some ⟨h, 0, none⟩)] w fun r w' => r = .returned (.int .i64 (xs.length : Int)) ∧ ∃ n, w' = w.drewN n := by
  have hu := Try.underlying67
  have hc2 := RF_e H
  obtain ⟨B, I, ⟨hb, A, c, hc, hl, hf⟩, hI, hmx, hB, hs⟩ := H
  have hc0 : w.cell? ⟨h, 0, none⟩ = some (.slice A B.length c) := (blk_cell hc 0).trans rfl
  have hc1 : w.cell? ⟨h, 1, none⟩ = some (.int .i64 (I : Int)) := (blk_cell hc 1).trans rfl
  clear hc hf hb hl
  refine Or.elim (Classical.em (e = 0)) (fun he => ?wa) (fun he => ?wb)
  case wa =>
    have c1 : (e != 0) = false := bne_eq_false_iff_eq.mpr he
    have hx : Aside0 (xs.length = B.length - I) := ⟨by rcases hs with h1 | h1; rw [h1.2, List.length_drop]; exact absurd he h1.1⟩
    have s1 : IntKind.i64.wrap ((B.length : Int) - (I : Int)) = (B.length : Int) - (I : Int) := by rw [IntKind.wrap_i64]; omega
    clear he hs hB
    go_enter Try.func44, Try.ntmps44
    go_wp2_with fail
    go_quiet (fail)
    go_wp2
    go_ret
    refine ⟨ret_int ?_, _, rfl⟩
    rw [hx.out]; omega
  case wb =>
    have c1 : (e != 0) = true := bne_iff_ne.mpr he
    have hx : Aside0 (xs = []) := ⟨by rcases hs with h1 | h1; exact absurd h1.1 he; exact h1.2⟩
    clear he hs hB
    go_enter Try.func44, Try.ntmps44
    go_wp2_with fail
    go_ret
    exact ⟨by rw [hx.out]; rfl, 0, rfl⟩

set_option maxHeartbeats 8000000 in
set_option maxRecDepth 100000 in
theorem EndW_calls (ok : Nat → Prop) (h : Nat) (e : Int) (xs : List Int) (w : World) (H : RF ok w h e xs) :
    Calls Try.prog 46 #[.pointer (some ⟨h, 0, none⟩)] w fun r w' => r = .returned (.int .i64 (endE e xs)) ∧ ∃ n, w' = w.drewN n := by
  have hu := Try.underlying67
  have hc2 := RF_e H
  obtain ⟨B, I, ⟨hb, A, c, hc, hl, hf⟩, hI, hmx, hB, hs⟩ := H
  have hc0 : w.cell? ⟨h, 0, none⟩ = some (.slice A B.length c) := (blk_cell hc 0).trans rfl
  have hc1 : w.cell? ⟨h, 1, none⟩ = some (.int .i64 (I : Int)) := (blk_cell hc 1).trans rfl
  clear hc hf hb hl
  refine Or.elim (Classical.em (e = 0)) (fun he => ?wa) (fun he => ?wb)
  case wa =>
    have hx : xs = B.drop I := by rcases hs with h1 | h1; exact h1.2; exact absurd he h1.1
    subst he
    refine Or.elim (Classical.em (I < B.length)) (fun hi => ?wc) (fun hi => ?wd)
    case wc =>
      have hne : xs ≠ [] := by rw [hx]; intro h0; have := congrArg List.length h0; simp at this; omega
      have HX : Aside0 (endE 0 xs = 2) := ⟨if_neg hne⟩
      have c3 : decide ((I : Int) < (B.length : Int)) = true := decide_eq_true (by omega)
      clear hne hx hs hB
      go_enter Try.func46, Try.ntmps46
      go_wp2_with fail
      go_quiet (fail)
      go_wp2
      go_ret
      exact ⟨by rw [HX.out]; rfl, _, rfl⟩
    case wd =>
      have hne : xs = [] := by rw [hx]; apply List.drop_eq_nil_of_le; omega
      have HX : Aside0 (endE 0 xs = 0) := ⟨if_pos hne⟩
      have c3 : decide ((I : Int) < (B.length : Int)) = false := decide_eq_false (by omega)
      clear hne hx hs hB
      go_enter Try.func46, Try.ntmps46
      go_wp2_with fail
      go_quiet (fail)
      go_wp2
      go_ret
      exact ⟨by rw [HX.out]; rfl, _, rfl⟩
  case wb =>
    have c1 : (e == 0) = false := beq_eq_false_iff_ne.mpr he
    have hx : Aside0 (xs = []) := ⟨by rcases hs with h1 | h1; exact absurd h1.1 he; exact h1.2⟩
    clear he hs hB
    go_enter Try.func46, Try.ntmps46
    go_wp2_with fail
    go_quiet (fail)
    go_wp2
    go_ret
    exact ⟨by unfold endE; rw [if_pos hx.out]; rfl, _, rfl⟩

theorem RF_setE {ok : Nat → Prop} {w : World} {h : Nat} {e : Int} {xs : List Int} (H : RF ok w h e xs) (e' : Int) (he : e' ≠ 0) : RF ok (w.setCell ⟨h, 2, none⟩ (.int .i64 e')) h e' [] := by
  obtain ⟨B, I, hr, hI, hmx, hB, hs⟩ := H
  exact ⟨B, I, RB_setE hr e', hI, hmx, hB, .inr ⟨he, rfl⟩⟩
theorem RF_frozen {ok : Nat → Prop} {h : Nat} {w : World} {e : Int} {xs : List Int} (H : RF ok w h e xs) (i : Nat) : w.frozen? ⟨h, i, none⟩ = false := by
  obtain ⟨B, I, ⟨hb, A, c, hc, hl, hf⟩, _⟩ := H
  exact blk_frozen hc i

set_option maxHeartbeats 8000000 in
set_option maxRecDepth 100000 in
theorem BoolW_calls (ok : Nat → Prop) (h : Nat) (e : Int) (xs : List Int) (w : World) (H : RF ok w h e xs) :
    Calls Try.prog 42 #[.pointer (some ⟨h, 0, none⟩)] w fun r w' => r = .returned (.bool (readU32 e xs == 1)) ∧ RF ok w' h (boolE e xs) (boolL e xs) ∧ Mov h w w' := by
  have hu := Try.underlying67
  go_enter Try.func42, Try.ntmps42
  go_wp2_with fail
  refine (U32W_calls ok h e xs w H).mono ?_
  rintro r w1 ⟨rfl, hr, hm⟩
  have hc2 := RF_e hr
  have hz2 := RF_frozen hr 2
  have HR := Aside0.mk hr
  have HM := Aside0.mk hm
  clear hr hm
  refine Or.elim (Classical.em (readU32 e xs > 1)) (fun h1 => ?wa) (fun h1 => ?wb)
  case wa =>
    have c1 : decide (readU32 e xs > 1) = true := decide_eq_true h1
    have c2 : decide (1 < readU32 e xs) = true := decide_eq_true h1
    have h0 : takeE e xs 4 = 0 := by
      refine Classical.byContradiction fun h0 => ?_
      have h2 : ¬ (e = 0 ∧ 4 ≤ xs.length) := fun h2 => h0 (take_ok h2).1
      rw [readU32_no h2] at h1
      omega
    have e1 : boolE e xs = 2 := by unfold boolE failE; rw [if_pos h1, if_pos h0]
    have e2 : boolL e xs = [] := if_pos h1
    have hn : (readU32 e xs == 1) = false := beq_eq_false_iff_ne.mpr (by omega)
    have HE := Aside0.mk (And.intro e1 (And.intro e2 hn))
    rw [h0] at hc2
    clear e1 e2 hn h1 h0
    go_wp2_with fail
    go_ret
    rw [HE.out.1, HE.out.2.1, HE.out.2.2]
    exact ⟨rfl, RF_setE HR.out 2 (by decide), HM.out.set _ _⟩
  case wb =>
    have h2 : readU32 e xs ≤ 1 := by omega
    have HE : Aside0 (boolE e xs = takeE e xs 4 ∧ boolL e xs = takeL e xs 4) := ⟨if_neg h1, if_neg h1⟩
    clear h1
    refine Or.elim (Classical.em (takeE e xs 4 = 0)) (fun h1 => ?wc) (fun h1 => ?wd)
    case wc =>
      have c1 : (takeE e xs 4 == 0) = true := beq_iff_eq.mpr h1
      clear h1
      go_wp2_with fail
      go_ret
      rw [HE.out.1, HE.out.2]
      exact ⟨rfl, HR.out, HM.out⟩
    case wd =>
      have c1 : (takeE e xs 4 == 0) = false := beq_eq_false_iff_ne.mpr h1
      clear h1
      go_wp2_with fail
      go_ret
      rw [HE.out.1, HE.out.2]
      exact ⟨rfl, HR.out, HM.out⟩

/-! What a text's reading comes to. -/
theorem takeL_ne {e : Int} {xs : List Int} {n : Nat} (h : takeE e xs n ≠ 0) : takeL e xs n = [] := by
  by_cases hc : e = 0 ∧ n ≤ xs.length
  · exact absurd (take_ok hc).1 h
  · exact (take_no hc).2.2
theorem take_bad {e : Int} (he : e ≠ 0) (n : Nat) : takeE e [] n = e ∧ takeL e [] n = [] ∧ takeO e [] n = [] := by
  unfold takeE takeL takeO
  rw [if_neg he, if_neg (fun h => he h.1), if_neg (fun h => he h.1)]
  exact ⟨rfl, rfl, rfl⟩
theorem text_bad {e : Int} {xs : List Int} {most : Int} {e1 : Int} (h1 : tx1 e xs most = e1) (h2 : tx1L e xs most = []) (he : e1 ≠ 0) : textE e xs most = e1 ∧ textL e xs most = [] ∧ textO e xs most = [] := by
  have k1 := take_bad he (txN e xs)
  have k2 := take_bad he (padN (txN e xs))
  have h3 : tx2 e xs most = e1 := by unfold tx2; rw [h1, h2]; exact k1.1
  have h4 : tx2L e xs most = [] := by unfold tx2L; rw [h1, h2]; exact k1.2.1
  have h5 : tx3 e xs most = e1 := by unfold tx3; rw [h3, h4]; exact k2.1
  have h6 : tx3L e xs most = [] := by unfold tx3L; rw [h3, h4]; exact k2.2.1
  have h7 : tx3O e xs most = [] := by unfold tx3O; rw [h3, h4]; exact k2.2.2
  have h8 : textE e xs most = e1 := by unfold textE; rw [h5, h7]; rfl
  refine ⟨h8, ?_, ?_⟩
  · unfold textL; rw [h6, h7]; rfl
  · unfold textO; rw [h8, if_neg he]
theorem text1 {e : Int} {xs : List Int} (most : Int) (h : takeE e xs 4 ≠ 0) : textE e xs most = takeE e xs 4 ∧ textL e xs most = [] ∧ textO e xs most = [] :=
  text_bad (by unfold tx1; rw [if_neg (fun k => h k.1)]) (by unfold tx1L; rw [if_neg (fun k => h k.1)]; exact takeL_ne h) h
theorem text2 {e : Int} {xs : List Int} {most : Int} (h : takeE e xs 4 = 0) (hn : readU32 e xs > most) : textE e xs most = 4 ∧ textL e xs most = [] ∧ textO e xs most = [] :=
  text_bad (by unfold tx1; rw [if_pos ⟨h, hn⟩]) (by unfold tx1L; rw [if_pos ⟨h, hn⟩]) (by decide)
theorem text12 {e : Int} {xs : List Int} {most : Int} (h : takeE e xs 4 = 0) (hn : ¬ readU32 e xs > most) : tx1 e xs most = 0 ∧ tx1L e xs most = takeL e xs 4 :=
  ⟨by unfold tx1; rw [if_neg (fun k => hn k.2)]; exact h, by unfold tx1L; rw [if_neg (fun k => hn k.2)]⟩
theorem text3 {e : Int} {xs : List Int} {most : Int} (h : takeE e xs 4 = 0) (hn : ¬ readU32 e xs > most) (hs : (takeL e xs 4).length < txN e xs + padN (txN e xs)) : textE e xs most = 3 ∧ textL e xs most = [] ∧ textO e xs most = [] := by
  obtain ⟨h1, h2⟩ := text12 h hn
  generalize hl : takeL e xs 4 = l at h2 hs
  by_cases hk : txN e xs ≤ l.length
  · have k1 := take_ok (e := 0) (xs := l) (n := txN e xs) ⟨rfl, hk⟩
    have h3 : tx2 e xs most = 0 := by unfold tx2; rw [h1, h2]; exact k1.1
    have h4 : tx2L e xs most = l.drop (txN e xs) := by unfold tx2L; rw [h1, h2]; exact k1.2.2
    have hk2 : ¬ ((0 : Int) = 0 ∧ padN (txN e xs) ≤ (l.drop (txN e xs)).length) := by rw [List.length_drop]; omega
    have k2 := take_no hk2
    have h5 : tx3 e xs most = 3 := by unfold tx3; rw [h3, h4]; unfold takeE; rw [if_pos rfl, if_pos (by omega)]
    have h6 : tx3L e xs most = [] := by unfold tx3L; rw [h3, h4]; exact k2.2.2
    have h7 : tx3O e xs most = [] := by unfold tx3O; rw [h3, h4]; exact k2.2.1
    have h8 : textE e xs most = 3 := by unfold textE; rw [h5, h7]; rfl
    exact ⟨h8, by unfold textL; rw [h6, h7]; rfl, by unfold textO; rw [h8]; rfl⟩
  · have hk2 : ¬ ((0 : Int) = 0 ∧ txN e xs ≤ l.length) := fun k => hk k.2
    have k1 := take_no hk2
    have h3 : tx2 e xs most = 3 := by unfold tx2; rw [h1, h2]; unfold takeE; rw [if_pos rfl, if_pos (by omega)]
    have h4 : tx2L e xs most = [] := by unfold tx2L; rw [h1, h2]; exact k1.2.2
    have k2 := take_bad (show (3 : Int) ≠ 0 by decide) (padN (txN e xs))
    have h5 : tx3 e xs most = 3 := by unfold tx3; rw [h3, h4]; exact k2.1
    have h6 : tx3L e xs most = [] := by unfold tx3L; rw [h3, h4]; exact k2.2.1
    have h7 : tx3O e xs most = [] := by unfold tx3O; rw [h3, h4]; exact k2.2.2
    have h8 : textE e xs most = 3 := by unfold textE; rw [h5, h7]; rfl
    exact ⟨h8, by unfold textL; rw [h6, h7]; rfl, by unfold textO; rw [h8]; rfl⟩
theorem text4 {e : Int} {xs : List Int} {most : Int} (h : takeE e xs 4 = 0) (hn : ¬ readU32 e xs > most) (hs : txN e xs + padN (txN e xs) ≤ (takeL e xs 4).length) :
    textE e xs most = (if (((takeL e xs 4).drop (txN e xs)).take (padN (txN e xs))).all (· == 0) then 0 else 2) ∧
      textL e xs most = (if (((takeL e xs 4).drop (txN e xs)).take (padN (txN e xs))).all (· == 0) then (takeL e xs 4).drop (txN e xs + padN (txN e xs)) else []) ∧
      textO e xs most = (if (((takeL e xs 4).drop (txN e xs)).take (padN (txN e xs))).all (· == 0) then (takeL e xs 4).take (txN e xs) else []) := by
  obtain ⟨h1, h2⟩ := text12 h hn
  generalize hl : takeL e xs 4 = l at h2 hs
  have k1 := take_ok (e := 0) (xs := l) (n := txN e xs) ⟨rfl, by omega⟩
  have h3 : tx2 e xs most = 0 := by unfold tx2; rw [h1, h2]; exact k1.1
  have h4 : tx2L e xs most = l.drop (txN e xs) := by unfold tx2L; rw [h1, h2]; exact k1.2.2
  have h4' : tx2O e xs most = l.take (txN e xs) := by unfold tx2O; rw [h1, h2]; exact k1.2.1
  have k2 := take_ok (e := 0) (xs := l.drop (txN e xs)) (n := padN (txN e xs)) ⟨rfl, by rw [List.length_drop]; omega⟩
  have h5 : tx3 e xs most = 0 := by unfold tx3; rw [h3, h4]; exact k2.1
  have h6 : tx3L e xs most = l.drop (txN e xs + padN (txN e xs)) := by unfold tx3L; rw [h3, h4, k2.2.2, List.drop_drop]
  have h7 : tx3O e xs most = (l.drop (txN e xs)).take (padN (txN e xs)) := by unfold tx3O; rw [h3, h4]; exact k2.2.1
  have h8 : textE e xs most = (if ((l.drop (txN e xs)).take (padN (txN e xs))).all (· == 0) then 0 else 2) := by
    unfold textE oddE; rw [h5, h7]; rfl
  refine ⟨h8, ?_, ?_⟩
  · unfold textL oddL; rw [h6, h7]
  · unfold textO; rw [h8, h4']
    split <;> simp
end Go.Proofs.Ytdfnhmgopihfcaa.G
