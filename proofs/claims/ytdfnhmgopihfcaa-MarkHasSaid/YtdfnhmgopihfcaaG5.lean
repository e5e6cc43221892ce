/- The hand-made contracts of the document's reader (truchmanref01.R): it reads as the program's does: first error, and what is left. -/
import Derived.Test.YtdfnhmgopihfcaaG4
import Derived.Laws.BitsLemmas
namespace Go.Proofs.Ytdfnhmgopihfcaa.G
open Go.RowKit Go.Proofs.YtdfnhmgopihfcaaW.PrintWords Go.Proofs.YtdfnhmgopihfcaaW.PrintLast Go.Proofs.YtdfnhmgopihfcaaW.PrintMore
set_option linter.unusedVariables false
set_option linter.unusedSimpArgs false

theorem ret_int {k : IntKind} {a b : Int} (h : a = b) : Ending.returned (.int k a) = .returned (.int k b) := by rw [h]
def Bytes (xs : List Int) : Prop := ∀ x ∈ xs, 0 ≤ x ∧ x ≤ 255
theorem Mov.drewN {g : Nat} {w w1 : World} (h : Mov g w w1) (n : Nat) : Mov g w (w1.drewN n) := h.trans (Mov.of_below (pw_below_drewN (Below.refl _ _) n))
theorem Mov.drew {g : Nat} {w w1 : World} (h : Mov g w w1) : Mov g w w1.drew := h.trans (Mov.of_below (below_drew (Below.refl _ _)))

/-- The document's reader: its bytes, its place, its error. -/
def RB (ok : Nat → Prop) (w : World) (h : Nat) (B : List Int) (I : Nat) (e : Int) : Prop :=
  ok h ∧ ∃ A c, w.heap[h]? = some (.cells #[.slice A B.length c, .int .i64 (I : Int), .int .i64 e] 67 (0, 0)) ∧ B.length ≤ c ∧ Kd.F (Kd.int .u8) w (fun k => ok k ∧ k ≠ h) A B.length B

theorem RB_drewN {ok : Nat → Prop} {w : World} {h : Nat} {B : List Int} {I : Nat} {e : Int} (H : RB ok w h B I e) (n : Nat) : RB ok (w.drewN n) h B I e := by
  obtain ⟨hb, A, c, hc, hl, hf⟩ := H
  exact ⟨hb, A, c, hc, hl, Kd.F_drewN hf n⟩
theorem RB_setI {ok : Nat → Prop} {w : World} {h : Nat} {B : List Int} {I : Nat} {e : Int} (H : RB ok w h B I e) (J : Nat) : RB ok (w.setCell ⟨h, 1, none⟩ (.int .i64 (J : Int))) h B J e := by
  obtain ⟨hb, A, c, hc, hl, hf⟩ := H
  exact ⟨hb, A, c, blk_put hc 1 _ rfl, hl, Kd.F_far (p := ⟨h, 1, none⟩) hf (fun _ hk => hk.2) _⟩
theorem RB_setE {ok : Nat → Prop} {w : World} {h : Nat} {B : List Int} {I : Nat} {e : Int} (H : RB ok w h B I e) (e' : Int) : RB ok (w.setCell ⟨h, 2, none⟩ (.int .i64 e')) h B I e' := by
  obtain ⟨hb, A, c, hc, hl, hf⟩ := H
  exact ⟨hb, A, c, blk_put hc 2 _ rfl, hl, Kd.F_far (p := ⟨h, 2, none⟩) hf (fun _ hk => hk.2) _⟩

def shortE (B : List Int) (I : Nat) (e : Int) (n : Nat) : Int := if e ≠ 0 then e else if B.length - I < n then 3 else 0

set_option maxHeartbeats 8000000 in
set_option maxRecDepth 100000 in
theorem short_calls (ok : Nat → Prop) (h : Nat) (B : List Int) (I : Nat) (e : Int) (n : Nat) (w : World) (H : RB ok w h B I e) (hI : I ≤ B.length) (hn : n ≤ 8589934592) :
    Calls Try.prog 53 #[.pointer (some ⟨h, 0, none⟩), .int .i64 (n : Int)] w fun r w' => r = .returned (.bool (shortE B I e n != 0)) ∧ RB ok w' h B I (shortE B I e n) ∧ Mov h w w' := by
  have hu := Try.underlying67
  have HH := Aside0.mk H
  obtain ⟨hb, A, c, hc, hl, hf⟩ := H
  have hc0 : w.cell? ⟨h, 0, none⟩ = some (.slice A B.length c) := (blk_cell hc 0).trans rfl
  have hc1 : w.cell? ⟨h, 1, none⟩ = some (.int .i64 (I : Int)) := (blk_cell hc 1).trans rfl
  have hc2 : w.cell? ⟨h, 2, none⟩ = some (.int .i64 e) := (blk_cell hc 2).trans rfl
  have hz2 := blk_frozen hc 2
  have hmx : B.length ≤ 9223372036854775807 := Kd.F_max hf
  clear hc hf
  by_cases he : e = 0
  · have he0 : (e != 0) = false := bne_eq_false_iff_eq.mpr he
    subst he
    by_cases hs : B.length - I < n
    · have hs0 : decide ((B.length : Int) - (I : Int) < (n : Int)) = true := decide_eq_true (by omega)
      have hE : shortE B I 0 n = 3 := by unfold shortE; rw [if_neg (by decide), if_pos hs]
      rw [hE]
      clear he0 hE hs
      go_enter Try.func53, Try.ntmps53
      go_wp2
      go_quiet (fail)
      go_wp2
      go_ret
      exact ⟨rfl, RB_setE (RB_drewN HH.out _) 3, ((Mov.refl _ _).drewN _).set _ _⟩
    · have hs0 : decide ((B.length : Int) - (I : Int) < (n : Int)) = false := decide_eq_false (by omega)
      have hE : shortE B I 0 n = 0 := by unfold shortE; rw [if_neg (by decide), if_neg hs]
      rw [hE]
      clear he0 hE hs
      go_enter Try.func53, Try.ntmps53
      go_wp2
      go_quiet (fail)
      go_wp2
      go_ret
      exact ⟨rfl, RB_drewN HH.out _, (Mov.refl _ _).drewN _⟩
  · have he0 : (e != 0) = true := bne_iff_ne.mpr he
    have hE : shortE B I e n = e := by unfold shortE; rw [if_pos he]
    rw [hE, he0]
    go_enter Try.func53, Try.ntmps53
    go_wp2
    go_ret
    exact ⟨rfl, HH.out, Mov.refl _ _⟩

def word4 (B : List Int) (i : Nat) : Int := rd B (i : Int) * 16777216 + rd B ((i + 1 : Nat) : Int) * 65536 + rd B ((i + 2 : Nat) : Int) * 256 + rd B ((i + 3 : Nat) : Int)
theorem rd_bytes {B : List Int} (h : Bytes B) (i : Int) : 0 ≤ rd B i ∧ rd B i ≤ 255 := by
  unfold rd
  rw [List.getD_eq_getElem?_getD]
  rcases Nat.lt_or_ge i.toNat B.length with h1 | h1
  · rw [List.getElem?_eq_getElem h1]
    exact h _ (List.getElem_mem h1)
  · rw [List.getElem?_eq_none h1]
    simp

theorem F_cell {w : World} {ok : Nat → Prop} {A : Option Addr} {B : List Int} (hf : Kd.F (Kd.int .u8) w ok A B.length B) (i : Nat) (hi : i < B.length) : ∃ ad, A = some ad ∧ w.cell? (ad.add i) = some (.int .u8 (rd B (i : Int))) := by
  obtain ⟨ad, had, hx⟩ := Kd.at_int (Kd.F_now hf) (i : Int) (by omega) (by omega)
  exact ⟨ad, had, by rw [Int.toNat_natCast] at hx; exact hx⟩

set_option maxHeartbeats 8000000 in
set_option maxRecDepth 100000 in
theorem word_calls (ok : Nat → Prop) (h : Nat) (B : List Int) (I : Nat) (e : Int) (i : Nat) (w : World) (H : RB ok w h B I e) (hi : i + 4 ≤ B.length) (hB : Bytes B) (hmx : B.length ≤ 1000000000000) :
    Calls Try.prog 54 #[.pointer (some ⟨h, 0, none⟩), .int .i64 (i : Int)] w fun r w' => r = .returned (.int .u32 (word4 B i)) ∧ ∃ n, w' = w.drewN n := by
  have hu := Try.underlying67
  obtain ⟨hb, A, c, hc, hl, hf⟩ := H
  have hc0 : w.cell? ⟨h, 0, none⟩ = some (.slice A B.length c) := (blk_cell hc 0).trans rfl
  obtain ⟨j1, h1⟩ : ∃ j : Nat, j = i + 1 := ⟨_, rfl⟩
  obtain ⟨j2, h2⟩ : ∃ j : Nat, j = i + 2 := ⟨_, rfl⟩
  obtain ⟨j3, h3⟩ : ∃ j : Nat, j = i + 3 := ⟨_, rfl⟩
  have hW : word4 B i = rd B (i : Int) * 16777216 + rd B (j1 : Int) * 65536 + rd B (j2 : Int) * 256 + rd B (j3 : Int) := by rw [h1, h2, h3]; rfl
  obtain ⟨ad, rfl, x0⟩ := F_cell hf i (by omega)
  obtain ⟨_, hh, x1⟩ := F_cell hf j1 (by omega)
  cases hh
  obtain ⟨_, hh, x2⟩ := F_cell hf j2 (by omega)
  cases hh
  obtain ⟨_, hh, x3⟩ := F_cell hf j3 (by omega)
  cases hh
  have b0 := rd_bytes hB (i : Int)
  have b1 := rd_bytes hB (j1 : Int)
  have b2 := rd_bytes hB (j2 : Int)
  have b3 := rd_bytes hB (j3 : Int)
  rw [hW]
  clear hW
  generalize rd B (i : Int) = p0 at x0 b0 ⊢
  generalize rd B (j1 : Int) = p1 at x1 b1 ⊢
  generalize rd B (j2 : Int) = p2 at x2 b2 ⊢
  generalize rd B (j3 : Int) = p3 at x3 b3 ⊢
  have i0 : (0 : Int) ≤ (i : Int) := by omega
  have i1 : (i : Int) < (B.length : Int) := by omega
  have i2 : (j1 : Int) < (B.length : Int) := by omega
  have i3 : (j2 : Int) < (B.length : Int) := by omega
  have i4 : (j3 : Int) < (B.length : Int) := by omega
  have k2 : (0 : Int) ≤ (j1 : Int) := by omega
  have k3 : (0 : Int) ≤ (j2 : Int) := by omega
  have k4 : (0 : Int) ≤ (j3 : Int) := by omega
  have s1 : IntKind.i64.wrap ((i : Int) + 1) = (j1 : Int) := by rw [IntKind.wrap_i64]; omega
  have s2 : IntKind.i64.wrap ((i : Int) + 2) = (j2 : Int) := by rw [IntKind.wrap_i64]; omega
  have s3 : IntKind.i64.wrap ((i : Int) + 3) = (j3 : Int) := by rw [IntKind.wrap_i64]; omega
  have HX := Aside0.mk (And.intro b0 (And.intro b1 (And.intro b2 b3)))
  clear h1 h2 h3 b0 b1 b2 b3
  clear hc hf
  go_enter Try.func54, Try.ntmps54
  go_wp2
  go_quiet (fail)
  go_wp2
  go_ret
  refine ⟨?_, _, rfl⟩
  have hx := HX.out
  exact ret_int (by omega)

theorem take_ok {e : Int} {xs : List Int} {n : Nat} (h : e = 0 ∧ n ≤ xs.length) : takeE e xs n = 0 ∧ takeO e xs n = xs.take n ∧ takeL e xs n = xs.drop n := by
  unfold takeE takeO takeL
  rw [if_pos h.1, if_neg (by omega), if_pos h, if_pos h]
  exact ⟨rfl, rfl, rfl⟩
theorem take_no {e : Int} {xs : List Int} {n : Nat} (h : ¬ (e = 0 ∧ n ≤ xs.length)) : takeE e xs n ≠ 0 ∧ takeO e xs n = [] ∧ takeL e xs n = [] := by
  unfold takeE takeO takeL
  rw [if_neg h, if_neg h]
  refine ⟨?_, rfl, rfl⟩
  by_cases he : e = 0
  · rw [if_pos he, if_pos (by omega)]; decide
  · rw [if_neg he]; exact he

/-- The document's reader, told as the program's: the first error, and what is left. -/
def Left (B : List Int) (I : Nat) (e : Int) (xs : List Int) : Prop := (e = 0 ∧ xs = B.drop I) ∨ (e ≠ 0 ∧ xs = [])
def RF (ok : Nat → Prop) (w : World) (h : Nat) (e : Int) (xs : List Int) : Prop :=
  ∃ B I, RB ok w h B I e ∧ I ≤ B.length ∧ B.length ≤ 1000000000000 ∧ Bytes B ∧ Left B I e xs

theorem shortE_take {B : List Int} {I : Nat} {e : Int} {xs : List Int} (h : Left B I e xs) (n : Nat) : shortE B I e n = takeE e xs n := by
  unfold shortE takeE
  rcases h with ⟨rfl, rfl⟩ | ⟨he, rfl⟩
  · simp
  · rw [if_pos he, if_neg he]

theorem mul_or (a x : Int) (ha : 0 ≤ a ∧ a < 72057594037927936) (hx : 0 ≤ x ∧ x ≤ 255) : Go.bits .or .u64 (IntKind.u64.wrap (a * 256)) (IntKind.u64.wrap x) = a * 256 + x := by
  have hw : ∀ n : Int, 0 ≤ n → n < 2 ^ 64 → IntKind.u64.wrap n = n := fun n h0 h1 => by
    have h1' : n < 18446744073709551616 := h1
    simp [IntKind.wrap, IntKind.bits, IntKind.signed]; omega
  rw [hw _ (by omega) (by omega), hw _ (by omega) (by omega)]
  exact bits_join .u64 64 (by decide) hw 8 (a * 256) x (by omega) (by omega) (by omega) (by omega) (by omega) (by omega)

theorem valN4 {p0 p1 p2 p3 : Int} (h0 : 0 ≤ p0 ∧ p0 ≤ 255) (h1 : 0 ≤ p1 ∧ p1 ≤ 255) (h2 : 0 ≤ p2 ∧ p2 ≤ 255) (h3 : 0 ≤ p3 ∧ p3 ≤ 255) (acc : Int) (ha : 0 ≤ acc ∧ acc < 4294967296) (ys : List Int) :
    valN acc (p0 :: p1 :: p2 :: p3 :: ys) = valN (acc * 4294967296 + (p0 * 16777216 + p1 * 65536 + p2 * 256 + p3)) ys := by
  simp only [valN]
  rw [mul_or acc p0 (by omega) h0, mul_or _ p1 (by omega) h1, mul_or _ p2 (by omega) h2, mul_or _ p3 (by omega) h3]
  congr 1
  omega

theorem drop4 {B : List Int} (I : Nat) (h : I + 4 ≤ B.length) : B.drop I = rd B (I : Int) :: rd B ((I + 1 : Nat) : Int) :: rd B ((I + 2 : Nat) : Int) :: rd B ((I + 3 : Nat) : Int) :: B.drop (I + 4) := by
  have hr : ∀ k (hk : k < B.length), rd B (k : Int) = B[k] := fun k hk => by
    unfold rd
    rw [Int.toNat_natCast, List.getD_eq_getElem?_getD, List.getElem?_eq_getElem hk]
    rfl
  rw [hr I (by omega), hr (I + 1) (by omega), hr (I + 2) (by omega), hr (I + 3) (by omega)]
  rw [List.drop_eq_getElem_cons (by omega), List.drop_eq_getElem_cons (by omega), List.drop_eq_getElem_cons (by omega), List.drop_eq_getElem_cons (by omega)]

theorem readU32_word {B : List Int} (hB : Bytes B) (I : Nat) (h : I + 4 ≤ B.length) : readU32 0 (B.drop I) = word4 B I := by
  have hl : 4 ≤ (B.drop I).length := by rw [List.length_drop]; omega
  unfold readU32
  rw [(take_ok ⟨rfl, hl⟩).2.1, drop4 I h]
  have b0 := rd_bytes hB (I : Int)
  have b1 := rd_bytes hB ((I + 1 : Nat) : Int)
  have b2 := rd_bytes hB ((I + 2 : Nat) : Int)
  have b3 := rd_bytes hB ((I + 3 : Nat) : Int)
  simp only [List.take_succ_cons, List.take_zero]
  rw [valN4 b0 b1 b2 b3 0 (by decide) []]
  simp only [valN, word4]
  omega
theorem readU32_no {e : Int} {xs : List Int} (h : ¬ (e = 0 ∧ 4 ≤ xs.length)) : readU32 e xs = 0 := by
  unfold readU32
  rw [(take_no h).2.1]
  rfl
theorem word4_range {B : List Int} (hB : Bytes B) (I : Nat) : 0 ≤ word4 B I ∧ word4 B I < 4294967296 := by
  have b0 := rd_bytes hB (I : Int)
  have b1 := rd_bytes hB ((I + 1 : Nat) : Int)
  have b2 := rd_bytes hB ((I + 2 : Nat) : Int)
  have b3 := rd_bytes hB ((I + 3 : Nat) : Int)
  unfold word4
  omega

set_option maxHeartbeats 8000000 in
set_option maxRecDepth 100000 in
theorem U32W_calls (ok : Nat → Prop) (h : Nat) (e : Int) (xs : List Int) (w : World) (H : RF ok w h e xs) :
    Calls Try.prog 38 #[.pointer (some ⟨h, 0, none⟩)] w fun r w' => r = .returned (.int .u32 (readU32 e xs)) ∧ RF ok w' h (takeE e xs 4) (takeL e xs 4) ∧ Mov h w w' := by
  have hu := Try.underlying67
  obtain ⟨B, I, hr, hI, hmx, hB, hs⟩ := H
  have HH := Aside0.mk (And.intro hB hs)
  have hz := shortE_take hs 4
  go_enter Try.func38, Try.ntmps38
  go_wp2_with fail
  refine (short_calls ok h B I e 4 w hr hI (by decide)).mono ?_
  rintro r w1 ⟨rfl, hr1, hm1⟩
  rw [hz] at hr1 ⊢
  clear hz
  refine Or.elim (Classical.em (e = 0 ∧ 4 ≤ xs.length)) (fun hc => ?wa) (fun hc => ?wb)
  case wa =>
    have ht := take_ok hc
    have hx : xs = B.drop I := by rcases hs with h1 | h1; exact h1.2; exact absurd hc.1 h1.1
    have hlen : I + 4 ≤ B.length := by have := hc.2; rw [hx, List.length_drop] at this; omega
    have hw4 : readU32 e xs = word4 B I := by rw [hc.1, hx]; exact readU32_word hB I hlen
    have HF : Aside0 (takeE e xs 4 = 0 ∧ takeL e xs 4 = B.drop (I + 4)) := ⟨ht.1, by rw [ht.2.2, hx, List.drop_drop]⟩
    rw [ht.1] at hr1 ⊢
    obtain ⟨hb, A, c, hc', hl, hf⟩ := id hr1
    have hc1 : w1.cell? ⟨h, 1, none⟩ = some (.int .i64 (I : Int)) := (blk_cell hc' 1).trans rfl
    have hz1 := blk_frozen hc' 1
    have HR := Aside0.mk hr1
    have HM := Aside0.mk hm1
    have HW := Aside0.mk hw4
    have hI2 : I + 4 ≤ B.length := hlen
    clear hr1 hm1 hw4 ht hx hlen hc' hf hr hc hB hs hb hl
    go_wp2_with fail
    refine (word_calls ok h B I 0 I _ HR.out hI2 HH.out.1 hmx).mono ?_
    rintro r w2 ⟨rfl, n, rfl⟩
    go_wp2_with fail
    go_ret
    refine ⟨by rw [HW.out]; first | rfl | exact ret_int rfl, ⟨B, I + 4, ?_, hI2, hmx, HH.out.1, .inl ⟨HF.out.1, HF.out.2⟩⟩, ?_⟩
    · rw [HF.out.1]; exact RB_setI (RB_drewN HR.out n) (I + 4)
    · exact (HM.out.drewN n).set _ _
  case wb =>
    have ht := take_no hc
    have hw4 : readU32 e xs = 0 := readU32_no hc
    have hE : (takeE e xs 4 != 0) = true := bne_iff_ne.mpr ht.1
    have HF : Aside0 (takeL e xs 4 = [] ∧ takeE e xs 4 ≠ 0) := ⟨ht.2.2, ht.1⟩
    have HR := Aside0.mk hr1
    have HM := Aside0.mk hm1
    have HW := Aside0.mk hw4
    clear hr1 hm1 hw4 ht hr hc hB hs
    go_wp2_with fail
    go_ret
    exact ⟨by rw [HW.out]; rfl, ⟨B, I, HR.out, hI, hmx, HH.out.1, .inr ⟨HF.out.2, HF.out.1⟩⟩, HM.out⟩
end Go.Proofs.Ytdfnhmgopihfcaa.G
