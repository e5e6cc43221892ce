/- Plain laws: the document's All is what the deframer's steps make of the bytes. -/
import Derived.Test.YtfoifcilacbipaaD7
import Derived.Test.YtfoifcilacbipaaPx3
import Derived.Laws.BitsLemmas
namespace Go.Proofs.Ytfoifcilacbipaa.Pure
open Go.RowKit Go.Proofs.Ytfoifcilacbipaa.P Go.Proofs.Ytfoifcilacbipaa.G Go.Proofs.YtfoifcilacbipaaW.PrintWords Go.Proofs.YtfoifcilacbipaaW.PrintLast Go.Proofs.YtfoifcilacbipaaW.PrintMore
set_option linter.unusedVariables false
set_option linter.unusedSimpArgs false

theorem wrap_id {a : Int} (h0 : -9223372036854775808 ≤ a) (h1 : a ≤ 9223372036854775807) : wrap64 a = a := by
  unfold wrap64; omega

def By (xs : List Int) : Prop := ∀ x ∈ xs, 0 ≤ x ∧ x ≤ 255

theorem mul_or8 (a x : Int) (ha : 0 ≤ a ∧ a < 72057594037927936) (hx : 0 ≤ x ∧ x ≤ 255) : Go.bits .or .u64 (IntKind.u64.wrap (a * 256)) (IntKind.u64.wrap x) = a * 256 + x := by
  have hw : ∀ n : Int, 0 ≤ n → n < 2 ^ 64 → IntKind.u64.wrap n = n := fun n h0 h1 => by
    have h1' : n < 18446744073709551616 := h1
    simp [IntKind.wrap, IntKind.bits, IntKind.signed]; omega
  rw [hw _ (by omega) (by omega), hw _ (by omega) (by omega)]
  exact bits_join .u64 64 (by decide) hw 8 (a * 256) x (by omega) (by omega) (by omega) (by omega) (by omega) (by omega)

theorem num4_eq {a b c d : Int} (ha : 0 ≤ a ∧ a ≤ 255) (hb : 0 ≤ b ∧ b ≤ 255) (hc : 0 ≤ c ∧ c ≤ 255) (hd : 0 ≤ d ∧ d ≤ 255) : num4 [a, b, c, d] = a * 16777216 + b * 65536 + c * 256 + d := by
  have h : takeO 0 [a, b, c, d] 4 = [a, b, c, d] := by unfold takeO; rw [if_pos ⟨rfl, by simp⟩]; rfl
  unfold num4
  rw [h]
  simp only [valN]
  rw [mul_or8 0 a (by omega) ha, mul_or8 _ b (by omega) hb, mul_or8 _ c (by omega) hc, mul_or8 _ d (by omega) hd]
  omega

theorem sz_eq {a b c d : Int} (ha : 0 ≤ a ∧ a ≤ 255) (hb : 0 ≤ b ∧ b ≤ 255) (hc : 0 ≤ c ∧ c ≤ 255) (hd : 0 ≤ d ∧ d ≤ 255) :
    wrap64 ((wrap64 ((wrap64 ((wrap64 ((wrap64 (Int.tmod a 128)) * 16777216)) + (wrap64 ((wrap64 b) * 65536)))) + (wrap64 ((wrap64 c) * 256)))) + (wrap64 d)) = num4 [a, b, c, d] % 2147483648 := by
  rw [num4_eq ha hb hc hd, Int.tmod_eq_emod_of_nonneg ha.1]
  have h : wrap64 (a % 128) = a % 128 := wrap_id (by omega) (by omega)
  have h1 : wrap64 (a % 128 * 16777216) = a % 128 * 16777216 := wrap_id (by omega) (by omega)
  have h2 : wrap64 b = b := wrap_id (by omega) (by omega)
  have h3 : wrap64 (b * 65536) = b * 65536 := wrap_id (by omega) (by omega)
  have h4 : wrap64 c = c := wrap_id (by omega) (by omega)
  have h5 : wrap64 (c * 256) = c * 256 := wrap_id (by omega) (by omega)
  have h6 : wrap64 d = d := wrap_id (by omega) (by omega)
  have h7 : wrap64 (a % 128 * 16777216 + b * 65536) = a % 128 * 16777216 + b * 65536 := wrap_id (by omega) (by omega)
  have h8 : wrap64 (a % 128 * 16777216 + b * 65536 + c * 256) = a % 128 * 16777216 + b * 65536 + c * 256 := wrap_id (by omega) (by omega)
  rw [h, h1, h2, h3, h4, h5, h6, h7, h8, wrap_id (by omega) (by omega)]
  omega

theorem dRun_head : ∀ (b : List Int) (s : DSt), s.mode = 0 → s.head.length + b.length ≤ 3 → dRun s b = { s with head := s.head ++ b } := by
  intro b
  induction b with
  | nil => intro s hm hl; rw [dRun_nil, List.append_nil]
  | cons x b ih =>
    intro s hm hl
    obtain ⟨most, frags, mode, head, frag, left, n, ends, out, e⟩ := s
    simp only at hm hl
    subst hm
    simp only [List.length_cons] at hl
    have h1 : dStep ⟨most, frags, 0, head, frag, left, n, ends, out, e⟩ x = ⟨most, frags, 0, head ++ [x], frag, left, n, ends, out, e⟩ := by
      show dNumber _ x = _
      unfold dNumber
      rw [if_pos (by simp only; omega)]
    rw [dRun_cons, h1, ih _ rfl (by simp; omega)]
    simp

theorem dRun_body : ∀ (b : List Int) (s : DSt), s.mode = 1 → (b.length : Int) < s.left → dRun s b = { s with frag := s.frag ++ b, left := s.left - b.length } := by
  intro b
  induction b with
  | nil => intro s hm hl; rw [dRun_nil]; simp
  | cons x b ih =>
    intro s hm hl
    obtain ⟨most, frags, mode, head, frag, left, n, ends, out, e⟩ := s
    simp only at hm hl
    subst hm
    simp only [List.length_cons] at hl
    have h1 : dStep ⟨most, frags, 1, head, frag, left, n, ends, out, e⟩ x = ⟨most, frags, 1, head, frag ++ [x], left - 1, n, ends, out, e⟩ := by
      show dBody _ x = _
      unfold dBody
      simp only
      rw [if_neg (by omega)]
    rw [dRun_cons, h1, ih _ rfl (by simp only; omega)]
    simp
    omega

theorem dRun_full (b : List Int) (s : DSt) (hm : s.mode = 1) (hb : b ≠ []) (hl : (b.length : Int) = s.left) : dRun s b = dOver { s with frag := s.frag ++ b, left := 0 } := by
  obtain ⟨c, x, rfl⟩ : ∃ c x, b = c ++ [x] := ⟨b.dropLast, b.getLast hb, (List.dropLast_concat_getLast hb).symm⟩
  simp only [List.length_append, List.length_cons, List.length_nil] at hl
  rw [dRun_append, dRun_body c s hm (by omega)]
  show dStep _ x = _
  unfold dStep
  simp only [hm]
  unfold dBody
  simp only
  rw [if_pos (by omega), List.append_assoc]
  congr 2
  omega

def dAns (t : DSt) : List (List Int) × Int × Int × Bool := (t.out, t.e, (t.head.length : Int) + (t.frag.length : Int), dClean t)

theorem all_l0 (d : Nat) : ∀ (b : List Int) (s : DSt) (N : Nat), b.length ≤ d → By b → DInv s N → N + b.length ≤ 1000000 → s.mode = 0 → s.head = [] →
    Ev (fun k => truchmanref04_All.l0 k b s.most s.frags s.frag s.n s.out 0 0 false) (dAns (dRun s b)) := by
  have small : ∀ (b : List Int) (s : DSt) (N : Nat), b.length ≤ 3 → DInv s N → s.mode = 0 → s.head = [] → Ev (fun k => truchmanref04_All.l0 k b s.most s.frags s.frag s.n s.out 0 0 false) (dAns (dRun s b)) := by
    intro b s N hl hi hm hh
    have he := hi.e0 (by omega)
    have hf := hi.frag
    have hm1 := hi.most1
    rw [dRun_head b s hm (by rw [hh]; simpa using hl)]
    refine Ev.step (f := fun _ => some (dAns { s with head := s.head ++ b })) (fun k => ?_) (Ev.now _)
    simp only [truchmanref04_All.l0]
    rw [if_neg (by omega), wrap_id (by omega) (by omega)]
    unfold dAns dClean
    simp only [hh, he, List.nil_append]
    split
    · rename_i hn
      rw [hn, hi.nf hn]
      simp only [List.length_nil, Int.add_zero, decide_true, Bool.true_and]
      have h1 : (((0 : Nat) : Int) + (b.length : Int)) = (b.length : Int) + ((0 : Nat) : Int) := by omega
      have h2 : ((b.length : Int) == 0) = decide ((b.length : Int) + ((0 : Nat) : Int) = 0) := by rw [Bool.eq_iff_iff]; simp
      rw [h1, h2]
    · rename_i hn
      rw [decide_eq_false hn]
      simp only [Bool.and_false, Bool.false_and]
      rw [Int.add_comm]
  induction d with
  | zero => intro b s N hd hb hi hN hm hh; exact small b s N (by omega) hi hm hh
  | succ d ih =>
    intro b s N hd hb hi hN hm hh
    by_cases hl : b.length ≤ 3
    · exact small b s N hl hi hm hh
    obtain ⟨h0, h1, h2, h3, rest, rfl⟩ : ∃ h0 h1 h2 h3 rest, b = h0 :: h1 :: h2 :: h3 :: rest := by
      rcases b with _ | ⟨h0, _ | ⟨h1, _ | ⟨h2, _ | ⟨h3, rest⟩⟩⟩⟩
      · simp at hl
      · simp at hl
      · simp at hl
      · simp at hl
      · exact ⟨h0, h1, h2, h3, rest, rfl⟩
    have b0 := hb h0 (by simp)
    have b1 := hb h1 (by simp)
    have b2 := hb h2 (by simp)
    have b3 := hb h3 (by simp)
    have hbr : By rest := fun x hx => hb x (by simp [hx])
    obtain ⟨most, frags, mode, head, frag, left, n, ends, out, e⟩ := s
    simp only at hm hh
    subst hm
    subst hh
    have he : e = 0 := hi.e0 (by show 0 < 2; omega)
    subst he
    have i1 := hi.frag
    have i2 := hi.most1
    have i3 := hi.n0
    have i4 := hi.n1
    have i5 := hi.frags1
    have i6 := hi.out
    simp only at i1 i2 i3 i4 i5 i6
    simp only [List.length_cons] at hN hd
    have hr : dRun ⟨most, frags, 0, [], frag, left, n, ends, out, 0⟩ (h0 :: h1 :: h2 :: h3 :: rest) = dRun (dNumber ⟨most, frags, 0, [h0, h1, h2], frag, left, n, ends, out, 0⟩ h3) rest := by
      rw [show h0 :: h1 :: h2 :: h3 :: rest = [h0, h1, h2] ++ (h3 :: rest) from rfl, dRun_append, dRun_head [h0, h1, h2] _ rfl (by simp), dRun_cons]
      rfl
    have hnum : dNumber ⟨most, frags, 0, [h0, h1, h2], frag, left, n, ends, out, 0⟩ h3 = (let v := num4 [h0, h1, h2, h3]
      let t : DSt := ⟨most, frags, 0, [], frag, v % 2147483648, n + 1, decide (2147483648 ≤ v), out, 0⟩
      if t.n > t.frags then dFail t 5 else if t.left > t.most - t.frag.length then dFail t 4 else if t.left = 0 then dOver t else { t with mode := 1 }) := by
      unfold dNumber
      rw [if_neg (by simp)]
      rfl
    have hinv : DInv (dRun ⟨most, frags, 0, [], frag, left, n, ends, out, 0⟩ [h0, h1, h2, h3]) (N + 4) := dInv_run [h0, h1, h2, h3] hi
    rw [show dRun ⟨most, frags, 0, [], frag, left, n, ends, out, 0⟩ [h0, h1, h2, h3] = dNumber ⟨most, frags, 0, [h0, h1, h2], frag, left, n, ends, out, 0⟩ h3 by
      rw [show [h0, h1, h2, h3] = [h0, h1, h2] ++ [h3] from rfl, dRun_append, dRun_head [h0, h1, h2] _ rfl (by simp)]; rfl] at hinv
    have hv4 := num4_le [h0, h1, h2, h3]
    have hve := num4_eq b0 b1 b2 b3
    rw [hr]
    rw [hnum] at hinv ⊢
    obtain ⟨v, hv⟩ : ∃ v, v = num4 [h0, h1, h2, h3] := ⟨_, rfl⟩
    have hsz := sz_eq b0 b1 b2 b3
    rw [← hv] at hinv hsz hv4 hve ⊢
    obtain ⟨z, hz⟩ : ∃ z : Nat, (z : Int) = v % 2147483648 := ⟨(v % 2147483648).toNat, by omega⟩
    simp only at hinv ⊢
    rw [← hz] at hsz hinv ⊢
    have HSZ := Aside0.mk hsz
    have HV := Aside0.mk hve
    clear hsz hv hve hnum hr
    have r0 : Aside0 (rd (h0 :: h1 :: h2 :: h3 :: rest) 0 = h0) := ⟨rfl⟩
    have r1 : Aside0 (rd (h0 :: h1 :: h2 :: h3 :: rest) 1 = h1) := ⟨rfl⟩
    have r2 : Aside0 (rd (h0 :: h1 :: h2 :: h3 :: rest) 2 = h2) := ⟨rfl⟩
    have r3 : Aside0 (rd (h0 :: h1 :: h2 :: h3 :: rest) 3 = h3) := ⟨rfl⟩
    have hlen : ((h0 :: h1 :: h2 :: h3 :: rest).length : Int) = rest.length + 4 := by simp; omega
    have w1 : Aside0 (wrap64 (n + 1) = n + 1) := ⟨wrap_id (by omega) (by omega)⟩
    have w2 : Aside0 (wrap64 ((frag.length : Int) + (z : Int)) = (frag.length : Int) + (z : Int)) := ⟨wrap_id (by omega) (by omega)⟩
    have w3 : Aside0 (wrap64 (4 + (z : Int)) = 4 + (z : Int)) := ⟨wrap_id (by omega) (by omega)⟩
    by_cases c1 : n + 1 > frags
    · rw [if_pos c1, dRun_two (by show 2 ≤ 2; omega)]
      refine Ev.step (f := fun _ => some (out, 5, 0, false)) (fun k => ?_) (Ev.now _)
      simp only [truchmanref04_All.l0, hlen, w1.out]
      rw [if_pos (by omega), if_pos (by omega), if_pos (by omega), if_pos (by omega), if_pos (by omega), if_pos c1]
    rw [if_neg c1] at hinv ⊢
    by_cases c2 : (z : Int) > most - frag.length
    · rw [if_pos c2, dRun_two (by show 2 ≤ 2; omega)]
      refine Ev.step (f := fun _ => some (out, 4, 0, false)) (fun k => ?_) (Ev.now _)
      simp only [truchmanref04_All.l0, hlen, w1.out, r0.out, r1.out, r2.out, r3.out, HSZ.out, w2.out]
      rw [if_pos (by omega), if_pos (by omega), if_pos (by omega), if_pos (by omega), if_pos (by omega), if_neg c1, if_pos (by omega)]
    rw [if_neg c2] at hinv ⊢
    have hst : ∀ rs : List Int, rs.length = z → dRun (if (z : Int) = 0 then dOver ⟨most, frags, 0, [], frag, z, n + 1, decide (2147483648 ≤ v), out, 0⟩ else ⟨most, frags, 1, [], frag, z, n + 1, decide (2147483648 ≤ v), out, 0⟩) rs = dOver ⟨most, frags, 0, [], frag ++ rs, 0, n + 1, decide (2147483648 ≤ v), out, 0⟩ := by
      intro rs hrs
      by_cases c3 : (z : Int) = 0
      · rw [if_pos c3]
        have : rs = [] := by have : rs.length = 0 := by omega
                             exact List.eq_nil_of_length_eq_zero this
        subst this
        rw [dRun_nil, List.append_nil, c3]
      · rw [if_neg c3, dRun_full rs _ rfl (by intro h; subst h; simp at hrs; omega) (by simp only; omega)]
        rfl
    by_cases c4 : (rest.length : Int) < z
    · have hz0 : ¬ ((z : Int) = 0) := by omega
      rw [if_neg hz0, dRun_body rest _ rfl c4]
      refine Ev.step (f := fun _ => some (out, 0, (frag.length : Int) + rest.length, false)) (fun k => ?_) (Ev.congr (fun k => ?_) (Ev.now _))
      · simp only [truchmanref04_All.l0, hlen, w1.out, r0.out, r1.out, r2.out, r3.out, HSZ.out, w2.out, w3.out]
        rw [if_pos (by omega), if_pos (by omega), if_pos (by omega), if_pos (by omega), if_pos (by omega), if_neg c1, if_neg (by omega), if_pos (by omega)]
        rw [wrap_id (a := (frag.length : Int) + ((rest.length : Int) + 4)) (by omega) (by omega), wrap_id (by omega) (by omega)]
        congr 4
        omega
      · unfold dAns dClean
        have hn0 : ¬ (n + 1 = 0) := by omega
        simp only [List.length_nil, List.length_append]
        rw [decide_eq_false hn0, Bool.and_false, Bool.false_and]
        congr 4
        omega
    · have hsplit : rest = rest.take z ++ rest.drop z := (List.take_append_drop z rest).symm
      have hlz : (rest.take z).length = z := by rw [List.length_take]; omega
      have hrun : dRun (if (z : Int) = 0 then dOver ⟨most, frags, 0, [], frag, z, n + 1, decide (2147483648 ≤ v), out, 0⟩ else ⟨most, frags, 1, [], frag, z, n + 1, decide (2147483648 ≤ v), out, 0⟩) rest = dRun (dOver ⟨most, frags, 0, [], frag ++ rest.take z, 0, n + 1, decide (2147483648 ≤ v), out, 0⟩) (rest.drop z) := by
        conv => lhs; rw [hsplit, dRun_append, hst _ hlz]
      have hinv2 := dInv_run (rest.take z) hinv
      rw [hst _ hlz, hlz] at hinv2
      rw [hrun]
      have hld : (rest.drop z).length = rest.length - z := List.length_drop ..
      have key := ih (rest.drop z) _ _ (by rw [hld]; omega) (fun x hx => hbr x (List.mem_of_mem_drop hx)) hinv2 (by rw [hld]; omega) (by unfold dOver; split <;> rfl) (by unfold dOver; split <;> rfl)
      refine Ev.step (fun k => ?_) key
      simp only [truchmanref04_All.l0, hlen, w1.out, r0.out, r1.out, r2.out, r3.out, HSZ.out, w2.out, w3.out]
      rw [if_pos (by omega), if_pos (by omega), if_pos (by omega), if_pos (by omega), if_pos (by omega), if_neg c1, if_neg (by omega), if_neg (by omega), if_pos (by omega), if_pos (by omega)]
      have ht : ((h0 :: h1 :: h2 :: h3 :: rest).take (4 + (z : Int)).toNat).drop 4 = rest.take z := by
        rw [show (4 + (z : Int)).toNat = z + 4 by omega]; rfl
      have hd2 : (h0 :: h1 :: h2 :: h3 :: rest).drop (4 + (z : Int)).toNat = rest.drop z := by
        rw [show (4 + (z : Int)).toNat = z + 4 by omega]; rfl
      simp only [Option.bind_some]
      rw [ht, hd2, if_pos (by rw [hlz]; omega)]
      unfold dOver
      by_cases c5 : h0 > 127
      · have : decide (2147483648 ≤ v) = true := decide_eq_true (by have := HV.out; omega)
        rw [if_pos c5, if_pos (by omega), if_pos (by omega)]
        simp only [this, if_true]
      · have : decide (2147483648 ≤ v) = false := decide_eq_false (by have := HV.out; omega)
        rw [if_neg c5, if_pos (by omega)]
        simp only [this]
        rfl

theorem refAll_ev (b : List Int) (m f : Int) (h : dIn m f = true) (hb : By b) (hl : b.length ≤ 1000000) : Ev (fun k => truchmanref04_All.f k b m f) (dAns (dRun (dNew m f) b)) :=
  all_l0 b.length b (dNew m f) 0 (Nat.le_refl _) hb (dInv_new h) (by omega) rfl rfl
end Go.Proofs.Ytfoifcilacbipaa.Pure
