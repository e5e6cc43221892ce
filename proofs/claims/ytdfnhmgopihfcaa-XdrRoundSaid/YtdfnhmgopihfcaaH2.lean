/- XdrRound, walked by hand. -/
import Derived.Test.YtdfnhmgopihfcaaL4
import Derived.Deep.RegionHeld3
namespace Go.Proofs.Ytdfnhmgopihfcaa.H
open Go.RowKit Go.Proofs.Ytdfnhmgopihfcaa.P Go.Proofs.Ytdfnhmgopihfcaa.G Go.Proofs.Ytdfnhmgopihfcaa.Pure Go.Proofs.YtdfnhmgopihfcaaW.PrintWords Go.Proofs.YtdfnhmgopihfcaaW.PrintLast Go.Proofs.YtdfnhmgopihfcaaW.PrintMore
attribute [local go_sem] max2_int min2_int max_two min_two max_three min_three max_four min_four
set_option linter.unusedVariables false
set_option linter.unusedSimpArgs false

theorem u32_lay (A0 : Option Addr) (c0 : Nat) (l0 : List Int) (n : Int) (w : World) (hr0 : Kd.C (Kd.int .u8) w A0 l0.length l0) (hc0 : l0.length ≤ c0) (hl : l0.length ≤ 1000000) (h0 : 0 ≤ n) (h1 : n < 4294967296) :
    Calls Try.prog 13 #[.slice A0 l0.length c0, .int .u32 n] w fun e w' => ∃ A c ys, Aside0 (ys = l0 ++ beN n 4) ∧ e = .returned (.slice A ys.length c) ∧ Row w w' A c ys ∧ Below w.heap.size w w' :=
  (xdr_U32.calls A0 c0 l0 n _ w hr0 hc0 (U32_eq l0 n h0 h1 (by omega))).mono fun e w' h => by
    obtain ⟨v, rfl, hR, hB⟩ := h
    obtain ⟨A, c, rfl, hl, _⟩ := Kd.R_reads hR
    exact ⟨A, c, _, ⟨rfl⟩, rfl, ⟨hl, hR⟩, hB⟩
theorem u64_lay (A0 : Option Addr) (c0 : Nat) (l0 : List Int) (n : Int) (w : World) (hr0 : Kd.C (Kd.int .u8) w A0 l0.length l0) (hc0 : l0.length ≤ c0) (hl : l0.length ≤ 1000000) :
    Calls Try.prog 17 #[.slice A0 l0.length c0, .int .u64 n] w fun e w' => ∃ A c ys, Aside0 (ys = l0 ++ beN n 8) ∧ e = .returned (.slice A ys.length c) ∧ Row w w' A c ys ∧ Below w.heap.size w w' :=
  (xdr_U64.calls A0 c0 l0 n _ w hr0 hc0 (U64_eq l0 n (by omega))).mono fun e w' h => by
    obtain ⟨v, rfl, hR, hB⟩ := h
    obtain ⟨A, c, rfl, hl, _⟩ := Kd.R_reads hR
    exact ⟨A, c, _, ⟨rfl⟩, rfl, ⟨hl, hR⟩, hB⟩
theorem few_var (A0 : Option Addr) (c0 : Nat) (l0 : List Int) (m : Nat) (w : World) (hr0 : Kd.C (Kd.int .u8) w A0 l0.length l0) (hc0 : l0.length ≤ c0) (hm : m ≤ 1000000) :
    Calls Try.prog 14 #[.slice A0 l0.length c0, .int .i64 (m : Int)] w fun e w' => ∃ A c ys, Aside0 (ys = l0.take m) ∧ e = .returned (.slice A ys.length c) ∧ Row w w' A c ys ∧ Below w.heap.size w w' :=
  (few_new A0 c0 l0 m w hr0 hc0 hm).mono fun e w' h => by
    obtain ⟨A, c, rfl, hR, hB⟩ := h
    exact ⟨A, c, _, ⟨rfl⟩, rfl, hR, hB⟩
def boolB (is : Bool) : List Int := beN (if is then 1 else 0) 4
theorem bool_lay (A0 : Option Addr) (c0 : Nat) (l0 : List Int) (is : Bool) (w : World) (hr0 : Kd.C (Kd.int .u8) w A0 l0.length l0) (hc0 : l0.length ≤ c0) (hl : l0.length ≤ 1000000) :
    Calls Try.prog 18 #[.slice A0 l0.length c0, .bool is] w fun e w' => ∃ A c ys, Aside0 (ys = l0 ++ boolB is) ∧ e = .returned (.slice A ys.length c) ∧ Row w w' A c ys ∧ Below w.heap.size w w' :=
  (xdr_Bool.calls A0 c0 l0 is _ w hr0 hc0 (Bool_eq l0 is (by omega))).mono fun e w' h => by
    obtain ⟨v, rfl, hR, hB⟩ := h
    obtain ⟨A, c, rfl, hl, _⟩ := Kd.R_reads hR
    exact ⟨A, c, _, ⟨rfl⟩, rfl, ⟨hl, hR⟩, hB⟩
theorem text_lay (A0 : Option Addr) (c0 : Nat) (l0 : List Int) (A1 : Option Addr) (c1 : Nat) (l1 : List Int) (w : World) (hr0 : Kd.C (Kd.int .u8) w A0 l0.length l0) (hc0 : l0.length ≤ c0) (hl : l0.length ≤ 1000000) (hr1 : Kd.C (Kd.int .u8) w A1 l1.length l1) (hc1 : l1.length ≤ c1) (hl1 : l1.length ≤ 100000) :
    Calls Try.prog 15 #[.slice A0 l0.length c0, .slice A1 l1.length c1] w fun e w' => ∃ A c ys, Aside0 (ys = l0 ++ textB l1) ∧ e = .returned (.slice A ys.length c) ∧ Row w w' A c ys ∧ Below w.heap.size w w' :=
  (xdr_Text.calls A0 c0 l0 A1 c1 l1 _ w hr0 hc0 hr1 hc1 (Text_eq l0 l1 (by omega) (by omega))).mono fun e w' h => by
    obtain ⟨v, rfl, hR, hB⟩ := h
    obtain ⟨A, c, rfl, hl, _⟩ := Kd.R_reads hR
    exact ⟨A, c, _, ⟨rfl⟩, rfl, ⟨hl, hR⟩, hB⟩

/-! What was laid is read as it was. -/
theorem textO_be (s : List Int) (most : Nat) (hn : s.length ≤ most) (hm : most ≤ 1000000) (ys : List Int) :
    textE 0 (textB s ++ ys) (most : Int) = 0 ∧ textL 0 (textB s ++ ys) (most : Int) = ys ∧ textO 0 (textB s ++ ys) (most : Int) = s := by
  obtain ⟨l1, hl1⟩ : ∃ l1, l1 = s ++ (List.replicate (G.padN s.length) (0 : Int) ++ ys) := ⟨_, rfl⟩
  have hb : textB s ++ ys = beN (s.length : Int) 4 ++ l1 := by
    unfold textB
    rw [hl1, List.append_assoc, List.append_assoc]
    rfl
  rw [hb]
  obtain ⟨h1, h2, h3⟩ := readU32_be s.length (by omega) l1
  have hx : txN 0 (beN (s.length : Int) 4 ++ l1) = s.length := by unfold txN; rw [h2]; rfl
  have h4 := text4 (most := (most : Int)) h1 (by rw [h2]; omega) (by rw [hx, h3, hl1]; simp)
  rw [hx, h3] at h4
  have hd : (l1.drop s.length).take (G.padN s.length) = List.replicate (G.padN s.length) 0 := by
    rw [hl1, List.drop_append_of_le_length (by omega), List.drop_of_length_le (by omega), List.nil_append, List.take_append_of_le_length (by simp), List.take_of_length_le (by simp)]
  have hall : (((l1.drop s.length).take (G.padN s.length)).all (· == 0)) = true := by rw [hd]; simp
  rw [hall] at h4
  refine ⟨h4.1, ?_, ?_⟩
  · rw [h4.2.1, if_pos rfl, hl1, ← List.append_assoc, List.drop_append_of_le_length (by simp), List.drop_of_length_le (by simp), List.nil_append]
  · rw [h4.2.2, if_pos rfl, hl1, List.take_append_of_le_length (by omega), List.take_of_length_le (by omega)]
theorem valN8_be (n : Nat) (h : (n : Int) < 18446744073709551616) (ys : List Int) : takeE 0 (beN (n : Int) 8 ++ ys) 8 = 0 ∧ valN 0 (takeO 0 (beN (n : Int) 8 ++ ys) 8) = (n : Int) ∧ takeL 0 (beN (n : Int) 8 ++ ys) 8 = ys := by
  have hl : (0 : Int) = 0 ∧ 8 ≤ (beN (n : Int) 8 ++ ys).length := ⟨rfl, by rw [List.length_append, beN_length]; omega⟩
  obtain ⟨h1, h2, h3⟩ := take_ok hl
  refine ⟨h1, ?_, ?_⟩
  · rw [h2, List.take_append_of_le_length (by rw [beN_length]; omega), List.take_of_length_le (by rw [beN_length]; omega)]
    simp only [beN]
    rw [valN4 (by omega) (by omega) (by omega) (by omega) 0 (by decide) _]
    rw [valN4 (by omega) (by omega) (by omega) (by omega) _ (by omega) []]
    simp only [valN]
    omega
  · rw [h3, List.drop_append_of_le_length (by rw [beN_length]; omega), List.drop_of_length_le (by rw [beN_length]; omega), List.nil_append]

section
variable (ok : Nat → Prop) (g : Nat) (w0 w : World) (hg : w0.heap.size ≤ g) (hB : Below w0.heap.size w0 w)
include hg hB
theorem rdU32 (n : Int) (ys : List Int) (h : RD ok w g 0 (beN n 4 ++ ys)) (h0 : 0 ≤ n) (h1 : n < 4294967296) :
    Calls Try.prog 33 #[.pointer (some ⟨g, 0, none⟩)] w fun r w' => r = .returned (.int .u32 n) ∧ RD ok w' g 0 ys ∧ Below w0.heap.size w0 w' ∧ Mov g w w' := by
  obtain ⟨m, rfl⟩ := Int.eq_ofNat_of_zero_le h0
  obtain ⟨k1, k2, k3⟩ := readU32_be m (by omega) ys
  refine (U32R_calls ok g 0 _ w h).mono fun r w' hh => ?_
  obtain ⟨rfl, hr, hm⟩ := hh
  rw [k1, k3] at hr
  exact ⟨congrArg (fun z => Ending.returned (.int .u32 z)) k2, hr, Mov.below hB hm (Nat.le_refl _) hg, hm⟩
theorem rdU64 (n : Int) (ys : List Int) (h : RD ok w g 0 (beN n 8 ++ ys)) (h0 : 0 ≤ n) (h1 : n < 18446744073709551616) :
    Calls Try.prog 39 #[.pointer (some ⟨g, 0, none⟩)] w fun r w' => r = .returned (.int .u64 n) ∧ RD ok w' g 0 ys ∧ Below w0.heap.size w0 w' ∧ Mov g w w' := by
  obtain ⟨m, rfl⟩ := Int.eq_ofNat_of_zero_le h0
  obtain ⟨k1, k2, k3⟩ := valN8_be m (by omega) ys
  refine (U64R_calls ok g 0 _ w h).mono fun r w' hh => ?_
  obtain ⟨rfl, hr, hm⟩ := hh
  rw [k1, k3] at hr
  exact ⟨by rw [k2], hr, Mov.below hB hm (Nat.le_refl _) hg, hm⟩
theorem rdBool (is : Bool) (ys : List Int) (h : RD ok w g 0 (boolB is ++ ys)) :
    Calls Try.prog 41 #[.pointer (some ⟨g, 0, none⟩)] w fun r w' => r = .returned (.bool is) ∧ RD ok w' g 0 ys ∧ Below w0.heap.size w0 w' ∧ Mov g w w' := by
  have hq : boolB is = beN ((if is then 1 else 0 : Nat) : Int) 4 := by unfold boolB; cases is <;> rfl
  rw [hq] at h
  obtain ⟨k1, k2, k3⟩ := readU32_be (if is then 1 else 0) (by split <;> omega) ys
  refine (BoolR_calls ok g 0 _ w h).mono fun r w' hh => ?_
  obtain ⟨rfl, hr, hm⟩ := hh
  have hn : ¬ readU32 0 (beN ((if is then 1 else 0 : Nat) : Int) 4 ++ ys) > 1 := by rw [k2]; cases is <;> decide
  unfold boolE boolL at hr
  rw [if_neg hn, if_neg hn, k1, k3] at hr
  exact ⟨by rw [k2]; cases is <;> rfl, hr, Mov.below hB hm (Nat.le_refl _) hg, hm⟩
theorem rdText (s ys : List Int) (most : Nat) (h : RD ok w g 0 (textB s ++ ys)) (h0 : s.length ≤ most) (h1 : most ≤ 1000000) :
    Calls Try.prog 31 #[.pointer (some ⟨g, 0, none⟩), .int .i64 (most : Int)] w fun r w' => ∃ A c zs, Aside0 (zs = s) ∧ r = .returned (.slice A zs.length c) ∧ zs.length ≤ c ∧ Kd.F (Kd.int .u8) w' (fun k => ok k ∧ k ≠ g) A zs.length zs ∧ RD ok w' g 0 ys ∧ Below w0.heap.size w0 w' ∧ Mov g w w' := by
  obtain ⟨k1, k2, k3⟩ := textO_be s most h0 h1 ys
  refine (TextR_calls ok g 0 _ (most : Int) w h).mono fun r w' hh => ?_
  obtain ⟨v, rfl, ⟨A, c, rfl, hl, hf⟩, hr, hm⟩ := hh
  rw [k3] at hl hf ⊢
  rw [k1, k2] at hr
  exact ⟨A, c, s, ⟨rfl⟩, rfl, hl, hf, hr, Mov.below hB hm (Nat.le_refl _) hg, hm⟩
end

/-- What is laid of one number, one text, a yes or no, a number. -/
def item (l : List Int) (s : List (List Int)) (m : Int) (is : Bool) (i : Nat) : List Int := beN (rd l (i : Int)) 4 ++ textB ((rd_L1 s (i : Int)).take 20) ++ boolB is ++ beN m 8
def lay (l : List Int) (s : List (List Int)) (m : Int) (is : Bool) : Nat → List Int
  | 0 => []
  | n + 1 => lay l s m is n ++ item l s m is n
theorem item_len (l : List Int) (s : List (List Int)) (m : Int) (is : Bool) (i : Nat) : (item l s m is i).length ≤ 44 ∧ (item l s m is i).length % 4 = 0 := by
  unfold item boolB
  have h1 := textB_length ((rd_L1 s (i : Int)).take 20)
  have h2 := List.length_take_le 20 (rd_L1 s (i : Int))
  have h3 := Pure.padN_mod ((rd_L1 s (i : Int)).take 20).length
  have h4 := Pure.padN_le ((rd_L1 s (i : Int)).take 20).length
  simp only [List.length_append, beN_length]
  unfold Pure.padN at *
  omega
theorem lay_len (l : List Int) (s : List (List Int)) (m : Int) (is : Bool) : ∀ n, (lay l s m is n).length ≤ 44 * n ∧ (lay l s m is n).length % 4 = 0
  | 0 => ⟨by simp [lay], by simp [lay]⟩
  | n + 1 => by
    have h1 := lay_len l s m is n
    have h2 := item_len l s m is n
    simp only [lay, List.length_append]
    omega

def tailN (l : List Int) (s : List (List Int)) (m : Int) (is : Bool) : Nat → Nat → List Int
  | _, 0 => []
  | j, n + 1 => item l s m is j ++ tailN l s m is (j + 1) n
theorem tailN_snoc (l : List Int) (s : List (List Int)) (m : Int) (is : Bool) : ∀ n j, tailN l s m is j (n + 1) = tailN l s m is j n ++ item l s m is (j + n)
  | 0, j => by simp [tailN]
  | n + 1, j => by
    rw [tailN, tailN_snoc l s m is n (j + 1), ← List.append_assoc, tailN]
    congr 2
    omega
theorem lay_tail (l : List Int) (s : List (List Int)) (m : Int) (is : Bool) : ∀ n, lay l s m is n = tailN l s m is 0 n
  | 0 => rfl
  | n + 1 => by rw [tailN_snoc, lay, lay_tail l s m is n]; simp

set_option maxHeartbeats 8000000 in
set_option maxRecDepth 100000 in
theorem XdrRound_full (A0 : Option Addr) (c0 : Nat) (l0 : List Int) (A1 : Option Addr) (c1 : Nat) (l1 : List (List Int)) (a2 : Int) (a3 : Bool) (w : World) (hr0 : Kd.C (Kd.int .u32) w A0 l0.length l0) (hc0 : l0.length ≤ c0) (hr1 : Kd.C (Kd.slice 5 (Kd.int .u8)) w A1 l1.length l1) (hc1 : l1.length ≤ c1)
    (hu : ∀ x ∈ l0, (Lit.int .u32 x).wf = true) (hm : (Lit.int .u64 a2).wf = true) :
    Calls Try.prog 12 #[.slice A0 l0.length c0, .slice A1 l1.length c1, .int .u64 a2, .bool a3] w fun e w' => e = .returned (.bool true) ∧ Below w.heap.size w w' := by
  have hx0 : l0.length ≤ 9223372036854775807 := hr0.2.1
  have hx1 : l1.length ≤ 9223372036854775807 := hr1.2.1
  have HR0 := Aside0.mk hr0
  have HR1 := Aside0.mk hr1
  have HU := Aside0.mk hu
  have HB0 := Aside0.mk (Below.refl w.heap.size w)
  clear hr0 hr1 hu
  obtain ⟨j1, hj1⟩ : ∃ j : Nat, (if (5 : Int) < (l1.length : Int) then (5 : Int) else (l1.length : Int)) = (j : Int) := ⟨min l1.length 5, by split <;> omega⟩
  obtain ⟨K, hK⟩ : ∃ j : Nat, (if j1 < l0.length then (j1 : Int) else (l0.length : Int)) = (j : Int) := ⟨min l0.length j1, by split <;> omega⟩
  have hK0 : K ≤ l0.length := by split at hK <;> omega
  have hK1 : K ≤ l1.length := by split at hj1 <;> split at hK <;> omega
  have hK5 : K ≤ 5 := by split at hj1 <;> split at hK <;> omega
  go_enter Try.func12, Try.ntmps12
  go_wp2_with fail
  clear hj1 hK
  go_loopw [9, 11] (fun b v w' => ∃ (i : Nat) (A : Option Addr) (c : Nat) (bs : List Int), v = .int .i64 (i : Int) ∧ b = .slice A bs.length c ∧ Aside0 (bs = lay l0 l1 a2 a3 i) ∧ Aside0 (i ≤ K) ∧ Aside0 (bs.length ≤ c ∧ Kd.C (Kd.int .u8) w' A bs.length bs) ∧ Aside0 (Below w.heap.size w w')) (fun _ v _ => (K - intOf v).toNat)
  case atStart => exact ⟨0, none, 0, [], rfl, rfl, ⟨rfl⟩, ⟨Nat.zero_le _⟩, ⟨Nat.le_refl _, Kd.C_nil _ _⟩, HB0⟩
  case round =>
    obtain ⟨i, A, c, bs, rfl, rfl, HBS, HI, HCB, HB⟩ := hrel
    rcases Nat.lt_or_ge i K with hi | hi
    · have i0 : (0 : Int) ≤ (i : Int) := by omega
      have i1 : (i : Int) < (l0.length : Int) := by omega
      have i2 : (i : Int) < (l1.length : Int) := by omega
      obtain ⟨ad0, had0, hx0'⟩ := Kd.at_int (Kd.C_below HR0.out HB.out) (i : Int) i0 (by omega)
      obtain ⟨ad1, A2, c2, had1, hx1', hl2, hr2⟩ := at_L1 (Kd.C_below HR1.out HB.out) (i : Int) i0 (by omega)
      subst had0 had1
      rw [Int.toNat_natCast] at hx0' hx1'
      have HU2 : Aside0 (0 ≤ rd l0 (i : Int) ∧ rd l0 (i : Int) < 4294967296) := ⟨by
        have h1 : rd l0 (i : Int) ∈ l0 := by
          unfold rd
          rw [Int.toNat_natCast, List.getD_eq_getElem?_getD, List.getElem?_eq_getElem (by omega)]
          exact List.getElem_mem _
        have := HU.out _ h1
        simp [Lit.wf, IntKind.min, IntKind.max, IntKind.signed, IntKind.bits] at this
        omega⟩
      have HLN := Aside0.mk (lay_len l0 l1 a2 a3 i)
      rw [← HBS.out] at HLN
      have HR2 := Aside0.mk hr2
      have HL2 := Aside0.mk hl2
      clear hr2 hl2
      go_wp2_with fail
      refine (u32_lay A c bs (rd l0 (i : Int)) wr HCB.out.2 HCB.out.1 (by have := HLN.out; omega) HU2.out.1 HU2.out.2).mono ?_
      rintro r w1 ⟨A3, c3, b3, E3, rfl, hR3, hB3⟩
      have HB3 := Aside0.mk (HB.out.trans (hB3.mono HB.out.size))
      have HR3 := Aside0.mk hR3.F
      have HK3 := Aside0.mk hR3.1
      have hx1w := pw_cell_below hB3 hx1'
      have HR2' := Aside0.mk (Kd.C_below HR2.out hB3)
      clear hR3 hB3 hx1' hx0' HR2
      go_wp2_with fail
      refine (few_var A2 c2 (rd_L1 l1 (i : Int)) 20 w1 HR2'.out HL2.out (by decide)).mono ?_
      rintro r w2 ⟨A4, c4, b4, E4, rfl, hR4, hB4⟩
      have HB4 := Aside0.mk (HB3.out.trans (hB4.mono HB3.out.size))
      have HR4 := Aside0.mk hR4.F
      have HK4 := Aside0.mk hR4.1
      have HR3' := Aside0.mk (Kd.F_below HR3.out hB4)
      clear hR4 hB4 HR3 HB3 hx1w HR2'
      have HL3 : Aside0 (b3.length ≤ 1000 ∧ b4.length ≤ 20) := ⟨by have := HLN.out; have := HI.out; rw [E3.out, List.length_append, beN_length]; omega, by rw [E4.out]; exact List.length_take_le _ _⟩
      go_wp2_with fail
      refine (text_lay A3 c3 b3 A4 c4 b4 w2 (Kd.F_now HR3'.out) HK3.out (by have := HL3.out; omega) (Kd.F_now HR4.out) HK4.out (by have := HL3.out; omega)).mono ?_
      rintro r w3 ⟨A5, c5, b5, E5, rfl, hR5, hB5⟩
      have HB5 := Aside0.mk (HB4.out.trans (hB5.mono HB4.out.size))
      have HR5 := Aside0.mk hR5.F
      have HK5 := Aside0.mk hR5.1
      have HL5 : Aside0 (b5.length ≤ 2000) := ⟨by have := HL3.out; have := Pure.padN_le b4.length; rw [E5.out, List.length_append, textB_length]; omega⟩
      clear hR5 hB5 HR3' HR4 HB4 HK4 HK3
      go_wp2_with fail
      refine (bool_lay A5 c5 b5 a3 w3 (Kd.F_now HR5.out) HK5.out (by have := HL5.out; omega)).mono ?_
      rintro r w4 ⟨A6, c6, b6, E6, rfl, hR6, hB6⟩
      have HB6 := Aside0.mk (HB5.out.trans (hB6.mono HB5.out.size))
      have HR6 := Aside0.mk hR6.F
      have HK6 := Aside0.mk hR6.1
      have HL6 : Aside0 (b6.length ≤ 3000) := ⟨by have := HL5.out; rw [E6.out, List.length_append]; unfold boolB; rw [beN_length]; omega⟩
      clear hR6 hB6 HR5 HB5 HK5
      go_wp2_with fail
      refine (u64_lay A6 c6 b6 a2 w4 (Kd.F_now HR6.out) HK6.out (by have := HL6.out; omega)).mono ?_
      rintro r w5 ⟨A7, c7, b7, E7, rfl, hR7, hB7⟩
      have HB7 := Aside0.mk (HB6.out.trans (hB7.mono HB6.out.size))
      have HR7 := Aside0.mk hR7.F
      have HK7 := Aside0.mk hR7.1
      clear hR7 hB7 HR6 HB6 HK6
      go_wp2_with fail
      go_roundw
      case rel => exact ⟨i + 1, A7, c7, b7, by simp, rfl, ⟨by rw [E7.out, E6.out, E5.out, E4.out, E3.out, HBS.out]; simp only [lay, item, List.append_assoc]⟩, ⟨hi⟩, ⟨HK7.out, Kd.F_now HR7.out⟩, HB7⟩
      case measure => simp [intOf]; omega
    · have hi2 : i = K := by have := HI.out; omega
      subst hi2
      have HLN := Aside0.mk (lay_len l0 l1 a2 a3 i)
      rw [← HBS.out] at HLN
      have hbl : bs.length ≤ 220 := by have := HLN.out; omega
      go_wp2_with fail
      have hrd := Read_calls A c bs wr HCB.out.2 HCB.out.1 (by omega)
      refine hrd.mono ?_
      rintro r w1 ⟨g, rfl, hg, hg', hrd1, hB1⟩
      have HRD := Aside0.mk hrd1
      have HG := Aside0.mk (Nat.le_trans HB.out.size hg)
      have HB1 := Aside0.mk (HB.out.trans (hB1.mono HB.out.size))
      have HCB1 := Aside0.mk (Kd.C_below HCB.out.2 hB1)
      clear hrd1 hg hg' hB1 hrd
      go_wp2_with fail
      have hm2 : 0 ≤ a2 ∧ a2 < 18446744073709551616 := by
        simp [Lit.wf, IntKind.min, IntKind.max, IntKind.signed, IntKind.bits] at hm
        omega
      have HM2 := Aside0.mk hm2
      have HRD0 : Aside0 (RD (fun k => wr.heap.size ≤ k ∧ k < w1.heap.size) w1 g 0 (tailN l0 l1 a2 a3 0 (i - 0))) := ⟨by rw [Nat.sub_zero, ← lay_tail, ← HBS.out]; exact HRD.out⟩
      have HL4 : Aside0 (bs.length % 4 = 0) := ⟨HLN.out.2⟩
      obtain ⟨okr, hokr⟩ : ∃ okr : Nat → Prop, okr = (fun k => wr.heap.size ≤ k ∧ k < w1.heap.size) := ⟨_, rfl⟩
      rw [← hokr] at HRD0
      have HOKS0 : Aside0 (∀ k, okr k → k < w1.heap.size) := ⟨by rw [hokr]; exact fun k hk => hk.2⟩
      have HB01 := HB1
      clear hm hm2 hokr HRD HLN
      go_loopw [13] (fun v w' => ∃ (j : Nat), v = .int .i64 (j : Int) ∧ Aside0 (j ≤ i) ∧ Aside0 (RD okr w' g 0 (tailN l0 l1 a2 a3 j (i - j))) ∧ Aside0 (Below w.heap.size w w') ∧ Aside0 (∀ k, okr k → k < w'.heap.size)) (fun v _ => (i - intOf v).toNat)
      case atStart => exact ⟨0, rfl, ⟨Nat.zero_le _⟩, HRD0, HB1, HOKS0⟩
      case round =>
        obtain ⟨j, rfl, HJ, HRj, HBj, HOKS⟩ := hrel
        rcases Nat.lt_or_ge j i with hj | hj
        · have i0 : (0 : Int) ≤ (j : Int) := by omega
          have i1 : (j : Int) < (l0.length : Int) := by omega
          have i2 : (j : Int) < (l1.length : Int) := by omega
          obtain ⟨q, hq⟩ : ∃ q, i - j = q + 1 := ⟨i - j - 1, by omega⟩
          have HQ : Aside0 (i - (j + 1) = q) := ⟨by omega⟩
          rw [hq] at HRj
          have hU2 : 0 ≤ rd l0 (j : Int) ∧ rd l0 (j : Int) < 4294967296 := by
            have h1 : rd l0 (j : Int) ∈ l0 := by
              unfold rd
              rw [Int.toNat_natCast, List.getD_eq_getElem?_getD, List.getElem?_eq_getElem (by omega)]
              exact List.getElem_mem _
            have := HU.out _ h1
            simp [Lit.wf, IntKind.min, IntKind.max, IntKind.signed, IntKind.bits] at this
            omega
          have HU2 := Aside0.mk hU2
          obtain ⟨T, hT⟩ : ∃ T, T = tailN l0 l1 a2 a3 (j + 1) q := ⟨_, rfl⟩
          have HT := Aside0.mk hT
          obtain ⟨t0, ht0⟩ : ∃ t0, t0 = (rd_L1 l1 (j : Int)).take 20 := ⟨_, rfl⟩
          have HT0 := Aside0.mk ht0
          have HRJ : Aside0 (RD okr wr g 0 (beN (rd l0 (j : Int)) 4 ++ (textB t0 ++ (boolB a3 ++ (beN a2 8 ++ T))))) := ⟨by
            have h1 := HRj.out
            simp only [tailN, item, List.append_assoc] at h1
            rw [hT, ht0]
            exact h1⟩
          obtain ⟨ad0, had0, hx0⟩ := Kd.at_int HR0.out (j : Int) i0 (by omega)
          obtain ⟨ad1, A2, c2, had1, hx1, hl2, hr2⟩ := at_L1 HR1.out (j : Int) i0 (by omega)
          rw [Int.toNat_natCast] at hx0 hx1
          subst had0 had1
          obtain ⟨v0, hv0⟩ : ∃ v0, v0 = rd l0 (j : Int) := ⟨_, rfl⟩
          rw [← hv0] at HRJ hU2 hx0
          obtain ⟨t1, ht1⟩ : ∃ t1, t1 = rd_L1 l1 (j : Int) := ⟨_, rfl⟩
          rw [← ht1] at hl2 hx1 hr2
          rw [← ht1] at ht0
          have HS : Aside0 (∀ w' : World, Below w.heap.size w w' → w'.cell? (ad0.add j) = some (.int .u32 v0) ∧ w'.cell? (ad1.add j) = some (.slice A2 t1.length c2)) := ⟨fun w' hb => ⟨pw_cell_below hb hx0, pw_cell_below hb hx1⟩⟩
          have HX := Aside0.mk (And.intro hl2 hr2)
          have HU3 := Aside0.mk hU2
          have HT1 := Aside0.mk ht0
          have HT20 : Aside0 (t0.length ≤ 20) := ⟨by rw [ht0]; exact List.length_take_le _ _⟩
          have H20 : Aside0 (20 ≤ 1000000) := ⟨by decide⟩
          clear hr2 hq hT ht0 hU2 hx0 hx1 hv0 ht1 hl2 HT0 HU2
          go_wp2_with fail
          refine wp_region_held_drew (S := fun w' => w'.cell? (ad0.add j) = some (.int .u32 v0) ∧ w'.cell? (ad1.add j) = some (.slice A2 t1.length c2) ∧ K2 g g wr w') (by kernel_rfl) ⟨(HS.out _ (below_drew HBj.out)).1, (HS.out _ (below_drew HBj.out)).2, (K2.refl g g wr).drew⟩ (fun hHeld => ?_)
          (refine wpAnyH_take (i := 0) (oi := _) (v := ?_) rfl (by kernel_rfl) (by kernel_rfl) (by kernel_rfl) (fun _ _ _ h => h) (Or.inl ⟨by rfl, ?_⟩) (by assumption) ?_; rotate_left; (intro w hSw; (try dsimp only at hSw); go_simp); try with_reducible rfl)
          (try simp only [Act.put, List.setIfInBounds_toArray, List.set_cons_zero, List.set_cons_succ])
          (refine wpAnyH_take (i := 2) (oi := _) (v := ?_) rfl (by kernel_rfl) (by kernel_rfl) (by kernel_rfl) (fun _ _ _ h => h) (Or.inl ⟨by rfl, ?_⟩) (by assumption) ?_; rotate_left; (intro w hSw; (try dsimp only at hSw); go_simp); try with_reducible rfl)
          (try simp only [Act.put, List.setIfInBounds_toArray, List.set_cons_zero, List.set_cons_succ])
          (refine wpAnyH_take (i := 3) (oi := _) (v := ?_) rfl (by kernel_rfl) (by kernel_rfl) (by kernel_rfl) (fun _ _ _ h => h) (Or.inl ⟨by rfl, ?_⟩) (by assumption) ?_; rotate_left; (intro w hSw; (try dsimp only at hSw); go_simp); try with_reducible rfl)
          (try simp only [Act.put, List.setIfInBounds_toArray, List.set_cons_zero, List.set_cons_succ])
          (refine wpAnyH_take (i := 4) (oi := _) (v := ?_) rfl (by kernel_rfl) (by kernel_rfl) (by kernel_rfl) (fun _ _ _ h => h) (Or.inl ⟨by rfl, ?_⟩) (by assumption) ?_; rotate_left; (intro w hSw; (try dsimp only at hSw); go_simp); try with_reducible rfl)
          (try simp only [Act.put, List.setIfInBounds_toArray, List.set_cons_zero, List.set_cons_succ])
          (refine wpAnyH_take (i := 5) (oi := _) (v := ?_) rfl (by kernel_rfl) (by kernel_rfl) (by kernel_rfl) (fun _ _ _ h => h) (Or.inl ⟨by rfl, ?_⟩) (by assumption) ?_; rotate_left; (intro w hSw; (try dsimp only at hSw); go_simp); try with_reducible rfl)
          (try simp only [Act.put, List.setIfInBounds_toArray, List.set_cons_zero, List.set_cons_succ])
          refine wpAnyH_ready (rs := [1]) (by kernel_rfl) (by simp) (AllReadyH.cons (o := _) rfl (fun K hK => ?_) AllReadyH.nil)
          go_simp
          (go_at_call 33; refine (rdU32 okr g w _ HG.out (below_drew HBj.out) v0 _ (RD_below HRJ.out (below_drew (Below.refl _ _))) HU3.out.1 HU3.out.2).mono ?_; rintro r wa ⟨rfl, hra, HBa, hma⟩; have HKa := (K2.refl g g wr).drew.mov1 hma)
          refine hK.out _ _ (by first | exact ⟨(HS.out _ HBe).1, (HS.out _ HBe).2, HKe⟩ | exact ⟨(HS.out _ HBd).1, (HS.out _ HBd).2, HKd⟩ | exact ⟨(HS.out _ HBc).1, (HS.out _ HBc).2, HKc⟩ | exact ⟨(HS.out _ HBb).1, (HS.out _ HBb).2, HKb⟩ | exact ⟨(HS.out _ HBa).1, (HS.out _ HBa).2, HKa⟩) (fun hHeld => ?_)
          clear hK K
          (try simp only [Act.put, List.setIfInBounds_toArray, List.set_cons_zero, List.set_cons_succ])
          (refine wpAnyH_take (i := 6) (oi := _) (v := ?_) rfl (by kernel_rfl) (by kernel_rfl) (by kernel_rfl) (fun _ _ _ h => h) (Or.inl ⟨by rfl, ?_⟩) (by assumption) ?_; rotate_left; (intro w hSw; (try dsimp only at hSw); go_simp); try with_reducible rfl)
          (try simp only [Act.put, List.setIfInBounds_toArray, List.set_cons_zero, List.set_cons_succ])
          (refine wpAnyH_take (i := 7) (oi := _) (v := ?_) rfl (by kernel_rfl) (by kernel_rfl) (by kernel_rfl) (fun _ _ _ h => h) (Or.inl ⟨by rfl, ?_⟩) (by assumption) ?_; rotate_left; (intro w hSw; (try dsimp only at hSw); go_simp); try with_reducible rfl)
          (try simp only [Act.put, List.setIfInBounds_toArray, List.set_cons_zero, List.set_cons_succ])
          (refine wpAnyH_take (i := 8) (oi := _) (v := ?_) rfl (by kernel_rfl) (by kernel_rfl) (by kernel_rfl) (fun _ _ _ h => h) (Or.inl ⟨by rfl, ?_⟩) (by assumption) ?_; rotate_left; (intro w hSw; (try dsimp only at hSw); go_simp); try with_reducible rfl)
          (try simp only [Act.put, List.setIfInBounds_toArray, List.set_cons_zero, List.set_cons_succ])
          (refine wpAnyH_take (i := 11) (oi := _) (v := ?_) rfl (by kernel_rfl) (by kernel_rfl) (by kernel_rfl) (fun _ _ _ h => h) (Or.inl ⟨by rfl, ?_⟩) (by assumption) ?_; rotate_left; (intro w hSw; (try dsimp only at hSw); go_simp); try with_reducible rfl)
          (try simp only [Act.put, List.setIfInBounds_toArray, List.set_cons_zero, List.set_cons_succ])
          (refine wpAnyH_take (i := 12) (oi := _) (v := ?_) rfl (by kernel_rfl) (by kernel_rfl) (by kernel_rfl) (fun _ _ _ h => h) (Or.inl ⟨by rfl, ?_⟩) (by assumption) ?_; rotate_left; (intro w hSw; (try dsimp only at hSw); go_simp); try with_reducible rfl)
          (try simp only [Act.put, List.setIfInBounds_toArray, List.set_cons_zero, List.set_cons_succ])
          (refine wpAnyH_take (i := 13) (oi := _) (v := ?_) rfl (by kernel_rfl) (by kernel_rfl) (by kernel_rfl) (fun _ _ _ h => h) (Or.inl ⟨by rfl, ?_⟩) (by assumption) ?_; rotate_left; (intro w hSw; (try dsimp only at hSw); go_simp); try with_reducible rfl)
          (try simp only [Act.put, List.setIfInBounds_toArray, List.set_cons_zero, List.set_cons_succ])
          (refine wpAnyH_take (i := 14) (oi := _) (v := ?_) rfl (by kernel_rfl) (by kernel_rfl) (by kernel_rfl) (fun _ _ _ h => h) (Or.inl ⟨by rfl, ?_⟩) (by assumption) ?_; rotate_left; (intro w hSw; (try dsimp only at hSw); go_simp); try with_reducible rfl)
          (try simp only [Act.put, List.setIfInBounds_toArray, List.set_cons_zero, List.set_cons_succ])
          refine wpAnyH_ready (rs := [9]) (by kernel_rfl) (by simp) (AllReadyH.cons (o := _) rfl (fun K hK => ?_) AllReadyH.nil)
          go_simp
          (go_at_call 31; refine (rdText okr g w _ HG.out HBa t0 _ 20 hra HT20.out H20.out).mono ?_; rintro r wb ⟨A5, c5, zs, Ez, rfl, hl5, hf5, hrb, HBb, hmb⟩; obtain rfl := Ez.out; have HKb := HKa.mov1 hmb; have hcv := K2.conv (g := g) (h := g) (w := wr) (c := c5) Try.underlying24 Try.underlying5 Try.underlying9 (F_same hf5 (fun k hk _ => (HKb.block k (HOKS.out k hk.1) hk.2 hk.2).symm) (fun k hk _ => ⟨HOKS.out k hk.1, hk.2, hk.2⟩)))
          refine hK.out _ _ (by first | exact ⟨(HS.out _ HBe).1, (HS.out _ HBe).2, HKe⟩ | exact ⟨(HS.out _ HBd).1, (HS.out _ HBd).2, HKd⟩ | exact ⟨(HS.out _ HBc).1, (HS.out _ HBc).2, HKc⟩ | exact ⟨(HS.out _ HBb).1, (HS.out _ HBb).2, HKb⟩ | exact ⟨(HS.out _ HBa).1, (HS.out _ HBa).2, HKa⟩) (fun hHeld => ?_)
          clear hK K
          (try simp only [Act.put, List.setIfInBounds_toArray, List.set_cons_zero, List.set_cons_succ])
          (refine wpAnyH_take (i := 10) (oi := _) (v := ?_) rfl (by kernel_rfl) (by kernel_rfl) (by kernel_rfl) (fun _ _ _ h => h) (Or.inl ⟨by rfl, ?_⟩) (by assumption) ?_; rotate_left; (intro w hSw; (try dsimp only at hSw); go_simp); try with_reducible rfl)
          (try simp only [Act.put, List.setIfInBounds_toArray, List.set_cons_zero, List.set_cons_succ])
          refine wpAnyH_ready (rs := [15]) (by kernel_rfl) (by simp) (AllReadyH.cons (o := _) rfl (fun K hK => ?_) AllReadyH.nil)
          go_simp
          (go_at_call 14; refine (few_var A2 c2 t1 20 _ (Kd.C_below HX.out.2 HBb) HX.out.1 H20.out).mono ?_; rintro r wc ⟨A6, c6, ys, Ey, rfl, hR6, HBf⟩; obtain rfl := Ey.out.trans HT1.out.symm; have HBc := HBb.trans (HBf.mono HBb.size); have HKc := HKb.mov1 (Mov.of_below HBf); have hcv3 := Kd.C_string (P := Try.prog) (c := c6) Try.underlying24 Try.underlying5 Try.underlying9 (Kd.F_now hR6.F); have hrc := RD_below hrb HBf)
          refine hK.out _ _ (by first | exact ⟨(HS.out _ HBe).1, (HS.out _ HBe).2, HKe⟩ | exact ⟨(HS.out _ HBd).1, (HS.out _ HBd).2, HKd⟩ | exact ⟨(HS.out _ HBc).1, (HS.out _ HBc).2, HKc⟩ | exact ⟨(HS.out _ HBb).1, (HS.out _ HBb).2, HKb⟩ | exact ⟨(HS.out _ HBa).1, (HS.out _ HBa).2, HKa⟩) (fun hHeld => ?_)
          clear hK K
          (try simp only [Act.put, List.setIfInBounds_toArray, List.set_cons_zero, List.set_cons_succ])
          refine wpAnyH_ready (rs := [16]) (by kernel_rfl) (by simp) (AllReadyH.cons (o := _) rfl (fun K hK => ?_) AllReadyH.nil)
          go_simp
          refine hK.out _ _ (by first | exact ⟨(HS.out _ HBe).1, (HS.out _ HBe).2, HKe⟩ | exact ⟨(HS.out _ HBd).1, (HS.out _ HBd).2, HKd⟩ | exact ⟨(HS.out _ HBc).1, (HS.out _ HBc).2, HKc⟩ | exact ⟨(HS.out _ HBb).1, (HS.out _ HBb).2, HKb⟩ | exact ⟨(HS.out _ HBa).1, (HS.out _ HBa).2, HKa⟩) (fun hHeld => ?_)
          clear hK K
          (try simp only [Act.put, List.setIfInBounds_toArray, List.set_cons_zero, List.set_cons_succ])
          (refine wpAnyH_take (i := 17) (oi := _) (v := ?_) rfl (by kernel_rfl) (by kernel_rfl) (by kernel_rfl) (fun _ _ _ h => h) (Or.inl ⟨by rfl, ?_⟩) (by assumption) ?_; rotate_left; (intro w hSw; (try dsimp only at hSw); go_simp); try with_reducible rfl)
          (try simp only [Act.put, List.setIfInBounds_toArray, List.set_cons_zero, List.set_cons_succ])
          (refine wpAnyH_take (i := 18) (oi := _) (v := ?_) rfl (by kernel_rfl) (by kernel_rfl) (by kernel_rfl) (fun _ _ _ h => h) (Or.inl ⟨by rfl, ?_⟩) (by assumption) ?_; rotate_left; (intro w hSw; (try dsimp only at hSw); go_simp); try with_reducible rfl)
          (try simp only [Act.put, List.setIfInBounds_toArray, List.set_cons_zero, List.set_cons_succ])
          (refine wpAnyH_take (i := 19) (oi := _) (v := ?_) rfl (by kernel_rfl) (by kernel_rfl) (by kernel_rfl) (fun _ _ _ h => h) (Or.inl ⟨by rfl, ?_⟩) (by assumption) ?_; rotate_left; (intro w hSw; (try dsimp only at hSw); go_simp); try with_reducible rfl)
          (try simp only [Act.put, List.setIfInBounds_toArray, List.set_cons_zero, List.set_cons_succ])
          (refine wpAnyH_take (i := 20) (oi := _) (v := ?_) rfl (by kernel_rfl) (by kernel_rfl) (by kernel_rfl) (fun _ _ _ h => h) (Or.inl ⟨by rfl, ?_⟩) (by assumption) ?_; rotate_left; (intro w hSw; (try dsimp only at hSw); go_simp); try with_reducible rfl)
          (try simp only [Act.put, List.setIfInBounds_toArray, List.set_cons_zero, List.set_cons_succ])
          (refine wpAnyH_take (i := 22) (oi := _) (v := ?_) rfl (by kernel_rfl) (by kernel_rfl) (by kernel_rfl) (fun _ _ _ h => h) (Or.inl ⟨by rfl, ?_⟩) (by assumption) ?_; rotate_left; (intro w hSw; (try dsimp only at hSw); go_simp); try with_reducible rfl)
          (try simp only [Act.put, List.setIfInBounds_toArray, List.set_cons_zero, List.set_cons_succ])
          refine wpAnyH_ready (rs := [21]) (by kernel_rfl) (by simp) (AllReadyH.cons (o := _) rfl (fun K hK => ?_) AllReadyH.nil)
          go_simp
          (go_at_call 41; refine (rdBool okr g w _ HG.out HBc a3 _ hrc).mono ?_; rintro r wd ⟨rfl, hrd, HBd, hmd⟩; have HKd := HKc.mov1 hmd)
          refine hK.out _ _ (by first | exact ⟨(HS.out _ HBe).1, (HS.out _ HBe).2, HKe⟩ | exact ⟨(HS.out _ HBd).1, (HS.out _ HBd).2, HKd⟩ | exact ⟨(HS.out _ HBc).1, (HS.out _ HBc).2, HKc⟩ | exact ⟨(HS.out _ HBb).1, (HS.out _ HBb).2, HKb⟩ | exact ⟨(HS.out _ HBa).1, (HS.out _ HBa).2, HKa⟩) (fun hHeld => ?_)
          clear hK K
          (try simp only [Act.put, List.setIfInBounds_toArray, List.set_cons_zero, List.set_cons_succ])
          (refine wpAnyH_take (i := 23) (oi := _) (v := ?_) rfl (by kernel_rfl) (by kernel_rfl) (by kernel_rfl) (fun _ _ _ h => h) (Or.inl ⟨by rfl, ?_⟩) (by assumption) ?_; rotate_left; (intro w hSw; (try dsimp only at hSw); go_simp); try with_reducible rfl)
          (try simp only [Act.put, List.setIfInBounds_toArray, List.set_cons_zero, List.set_cons_succ])
          (refine wpAnyH_take (i := 24) (oi := _) (v := ?_) rfl (by kernel_rfl) (by kernel_rfl) (by kernel_rfl) (fun _ _ _ h => h) (Or.inl ⟨by rfl, ?_⟩) (by assumption) ?_; rotate_left; (intro w hSw; (try dsimp only at hSw); go_simp); try with_reducible rfl)
          (try simp only [Act.put, List.setIfInBounds_toArray, List.set_cons_zero, List.set_cons_succ])
          (refine wpAnyH_take (i := 25) (oi := _) (v := ?_) rfl (by kernel_rfl) (by kernel_rfl) (by kernel_rfl) (fun _ _ _ h => h) (Or.inl ⟨by rfl, ?_⟩) (by assumption) ?_; rotate_left; (intro w hSw; (try dsimp only at hSw); go_simp); try with_reducible rfl)
          (try simp only [Act.put, List.setIfInBounds_toArray, List.set_cons_zero, List.set_cons_succ])
          (refine wpAnyH_take (i := 26) (oi := _) (v := ?_) rfl (by kernel_rfl) (by kernel_rfl) (by kernel_rfl) (fun _ _ _ h => h) (Or.inl ⟨by rfl, ?_⟩) (by assumption) ?_; rotate_left; (intro w hSw; (try dsimp only at hSw); go_simp); try with_reducible rfl)
          (try simp only [Act.put, List.setIfInBounds_toArray, List.set_cons_zero, List.set_cons_succ])
          (refine wpAnyH_take (i := 28) (oi := _) (v := ?_) rfl (by kernel_rfl) (by kernel_rfl) (by kernel_rfl) (fun _ _ _ h => h) (Or.inl ⟨by rfl, ?_⟩) (by assumption) ?_; rotate_left; (intro w hSw; (try dsimp only at hSw); go_simp); try with_reducible rfl)
          (try simp only [Act.put, List.setIfInBounds_toArray, List.set_cons_zero, List.set_cons_succ])
          refine wpAnyH_ready (rs := [27]) (by kernel_rfl) (by simp) (AllReadyH.cons (o := _) rfl (fun K hK => ?_) AllReadyH.nil)
          go_simp
          (go_at_call 39; refine (rdU64 okr g w _ HG.out HBd a2 _ hrd HM2.out.1 HM2.out.2).mono ?_; rintro r we ⟨rfl, hre, HBe, hme⟩; have HKe := HKd.mov1 hme)
          refine hK.out _ _ (by first | exact ⟨(HS.out _ HBe).1, (HS.out _ HBe).2, HKe⟩ | exact ⟨(HS.out _ HBd).1, (HS.out _ HBd).2, HKd⟩ | exact ⟨(HS.out _ HBc).1, (HS.out _ HBc).2, HKc⟩ | exact ⟨(HS.out _ HBb).1, (HS.out _ HBb).2, HKb⟩ | exact ⟨(HS.out _ HBa).1, (HS.out _ HBa).2, HKa⟩) (fun hHeld => ?_)
          clear hK K
          (try simp only [Act.put, List.setIfInBounds_toArray, List.set_cons_zero, List.set_cons_succ])
          (refine wpAnyH_take (i := 29) (oi := _) (v := ?_) rfl (by kernel_rfl) (by kernel_rfl) (by kernel_rfl) (fun _ _ _ h => h) (Or.inl ⟨by rfl, ?_⟩) (by assumption) ?_; rotate_left; (intro w hSw; (try dsimp only at hSw); go_simp); try with_reducible rfl)
          (try simp only [Act.put, List.setIfInBounds_toArray, List.set_cons_zero, List.set_cons_succ])
          (refine wpAnyH_take (i := 30) (oi := _) (v := ?_) rfl (by kernel_rfl) (by kernel_rfl) (by kernel_rfl) (fun _ _ _ h => h) (Or.inl ⟨by rfl, ?_⟩) (by assumption) ?_; rotate_left; (intro w hSw; (try dsimp only at hSw); go_simp); try with_reducible rfl)
          (try simp only [Act.put, List.setIfInBounds_toArray, List.set_cons_zero, List.set_cons_succ])
          refine wpAnyH_done (by kernel_rfl) ?_ _
          all_goals
            have HRE := Aside0.mk hre
            have HBE := Aside0.mk HBe
            have HOE : Aside0 (∀ k, okr k → k < we.heap.size) := ⟨fun k hk => Nat.lt_of_lt_of_le (HOKS.out k hk) HKe.size⟩
            clear hre HBe HBd HBc HBb HBa hra hrb hrc hrd hf5 HBf hR6 hcv hcv3 HKa HKb HKc HKd HKe hma hmb hmd hme hHeld
            go_wp2_with fail
            go_roundw
            case rel => exact ⟨j + 1, by simp, ⟨hj⟩, ⟨by have h1 := HRE.out; rw [HT.out] at h1; rw [HQ.out]; exact h1⟩, HBE, HOE⟩
            case measure => simp [intOf]; omega
        · have hj2 : j = i := by have := HJ.out; omega
          subst hj2
          have HR9 : Aside0 (RD okr wr g 0 []) := ⟨by have h1 := HRj.out; rw [Nat.sub_self] at h1; exact h1⟩
          have c9 : ((bs.length : Int) % 4 == 0) = true := beq_iff_eq.mpr (by have := HL4.out; omega)
          clear HRj
          go_wp2_with fail
          refine (EndR_calls okr g 0 [] _ HR9.out).mono ?_
          rintro r w3 ⟨rfl, rfl⟩
          rw [show endE 0 [] = 0 from rfl]
          go_wp2_with fail
          refine (LeftR_calls okr g 0 [] _ HR9.out).mono ?_
          rintro r w3 ⟨rfl, rfl⟩
          go_wp2_with fail
          refine (lives_new _).mono ?_
          rintro r w4 ⟨rfl, hB4⟩
          have HB4 := Aside0.mk (HBj.out.trans (hB4.mono HBj.out.size))
          clear hB4
          go_wp2_with fail
          go_ret
          exact ⟨rfl, HB4.out⟩

theorem XdrRound_row (A0 : Option Addr) (c0 : Nat) (l0 : List Int) (A1 : Option Addr) (c1 : Nat) (l1 : List (List Int)) (a2 : Int) (a3 : Bool) (w : World) (hr0 : Kd.C (Kd.int .u32) w A0 l0.length l0) (hc0 : l0.length ≤ c0) (hr1 : Kd.C (Kd.slice 5 (Kd.int .u8)) w A1 l1.length l1) (hc1 : l1.length ≤ c1) (g0_ : l0.length ≤ maxLen) (g1_ : l0.length * 4 ≤ 140737488351232) (g2_ : (∀ x ∈ l0, (Lit.int .u32 x).wf = true)) (g3_ : l1.length ≤ maxLen) (g4_ : (∀ y0_ ∈ l1, (∀ y1_ ∈ y0_, (Lit.int .u8 y1_).wf = true))) (g5_ : (Lit.int .u64 a2).wf = true) :
    Calls Try.prog 12 #[.slice A0 l0.length c0, .slice A1 l1.length c1, .int .u64 a2, .bool a3] w fun e w' => e = .returned (.bool true) ∧ Below w.heap.size w w' :=
  XdrRound_full A0 c0 l0 A1 c1 l1 a2 a3 w hr0 hc0 hr1 hc1 g2_ g5_
end Go.Proofs.Ytdfnhmgopihfcaa.H
