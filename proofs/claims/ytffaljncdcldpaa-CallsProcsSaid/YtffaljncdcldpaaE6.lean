/- Hand-made contracts of calls.layer: number, handle, text, off, data. -/
import Derived.Test.YtffaljncdcldpaaE5
import Derived.Test.YtffaljncdcldpaaK1
import Derived.Test.YtffaljncdcldpaaPAx1
namespace Go.Proofs.Ytffaljncdcldpaa.G
open Go.RowKit Go.Proofs.YtffaljncdcldpaaW.PrintWords Go.Proofs.YtffaljncdcldpaaW.PrintLast Go.Proofs.YtffaljncdcldpaaW.PrintMore
set_option linter.unusedVariables false
set_option linter.unusedSimpArgs false

theorem u64w {n : Int} (h0 : 0 ≤ n) (h1 : n < 18446744073709551616) : IntKind.u64.wrap n = n := by
  simp [IntKind.wrap, IntKind.bits, IntKind.signed]; omega

theorem U32_c (A : Option Addr) (c : Nat) (l : List Int) (n : Int) (w : World) (h : Kd.C (Kd.int .u8) w A l.length l) (hc : l.length ≤ c) (h0 : 0 ≤ n) (h1 : n < 4294967296) (hl : l.length ≤ 100000) :
    Calls Try.prog 58 #[.slice A l.length c, .int .u32 n] w fun e w' => ∃ (A2 : Option Addr) (c2 : Nat), e = .returned (.slice A2 (l ++ beN n 4).length c2) ∧ (l ++ beN n 4).length ≤ c2 ∧ Kd.F (Kd.int .u8) w' (fun k => w.heap.size ≤ k ∧ k < w'.heap.size) A2 (l ++ beN n 4).length (l ++ beN n 4) ∧ Below w.heap.size w w' := by
  refine (PA.xdr_U32.calls A c l n (l ++ beN n 4) w h hc ?_).mono ?_
  · unfold PA.xdr_U32.f PA.xdr_number.f
    rw [u64w h0 (by omega), if_pos ⟨by omega, by omega, by omega⟩]
    rfl
  · rintro e w' ⟨v, rfl, hr, hb⟩
    obtain ⟨A2, c2, rfl⟩ := Kd.R_slice hr
    exact ⟨A2, c2, rfl, (Kd.R_reads' hr).2.1, Kd.F_mono (Kd.R_F (Kd.R_bound hr)) (fun k hk => ⟨hk.2.1, hk.2.2.1⟩), hb⟩
theorem U64_c (A : Option Addr) (c : Nat) (l : List Int) (n : Int) (w : World) (h : Kd.C (Kd.int .u8) w A l.length l) (hc : l.length ≤ c) (hl : l.length ≤ 100000) :
    Calls Try.prog 60 #[.slice A l.length c, .int .u64 n] w fun e w' => ∃ (A2 : Option Addr) (c2 : Nat), e = .returned (.slice A2 (l ++ beN n 8).length c2) ∧ (l ++ beN n 8).length ≤ c2 ∧ Kd.F (Kd.int .u8) w' (fun k => w.heap.size ≤ k ∧ k < w'.heap.size) A2 (l ++ beN n 8).length (l ++ beN n 8) ∧ Below w.heap.size w w' := by
  refine (PA.xdr_U64.calls A c l n (l ++ beN n 8) w h hc ?_).mono ?_
  · unfold PA.xdr_U64.f PA.xdr_number.f
    rw [if_pos ⟨by omega, by omega, by omega⟩]
    rfl
  · rintro e w' ⟨v, rfl, hr, hb⟩
    obtain ⟨A2, c2, rfl⟩ := Kd.R_slice hr
    exact ⟨A2, c2, rfl, (Kd.R_reads' hr).2.1, Kd.F_mono (Kd.R_F (Kd.R_bound hr)) (fun k hk => ⟨hk.2.1, hk.2.2.1⟩), hb⟩

/-- A text's bytes. -/
def textB (t : List Int) : List Int := beN (t.length : Int) 4 ++ t ++ List.replicate ((4 - t.length % 4) % 4) 0
theorem textB_length (t : List Int) : (textB t).length ≤ t.length + 7 := by unfold textB; simp only [List.length_append, beN_length, List.length_replicate]; omega

theorem Text_c (A : Option Addr) (c : Nat) (l : List Int) (A1 : Option Addr) (c1 : Nat) (t : List Int) (w : World) (h : Kd.C (Kd.int .u8) w A l.length l) (hc : l.length ≤ c) (h1 : Kd.C (Kd.int .u8) w A1 t.length t) (hc1 : t.length ≤ c1) (hl : l.length ≤ 100000) (ht : t.length ≤ 10000) :
    Calls Try.prog 59 #[.slice A l.length c, .slice A1 t.length c1] w fun e w' => ∃ (A2 : Option Addr) (c2 : Nat), e = .returned (.slice A2 (l ++ textB t).length c2) ∧ (l ++ textB t).length ≤ c2 ∧ Kd.F (Kd.int .u8) w' (fun k => w.heap.size ≤ k ∧ k < w'.heap.size) A2 (l ++ textB t).length (l ++ textB t) ∧ Below w.heap.size w w' := by
  refine (PA.xdr_Text.calls A c l A1 c1 t (l ++ textB t) w h hc h1 hc1 ?_).mono ?_
  · have e1 : (t.length : Int) % 4294967296 = (t.length : Int) := by omega
    have e2 : PA.xdr_U32.f l (t.length : Int) = some (l ++ beN (t.length : Int) 4) := by
      unfold PA.xdr_U32.f PA.xdr_number.f
      rw [u64w (by omega) (by omega), if_pos ⟨by omega, by omega, by omega⟩]
      rfl
    have e3 : PA.xdr_pad.f (t.length : Int) = some ((((4 - t.length % 4) % 4 : Nat) : Int)) := by
      unfold PA.xdr_pad.f
      have m1 : Int.tmod (t.length : Int) 4 = ((t.length % 4 : Nat) : Int) := by rw [Int.tmod_eq_emod_of_nonneg (by omega)]; omega
      have m2 : wrap64 (4 - ((t.length % 4 : Nat) : Int)) = ((4 - t.length % 4 : Nat) : Int) := by unfold wrap64; omega
      rw [m1, m2, Int.tmod_eq_emod_of_nonneg (by omega)]
      congr 1
    unfold PA.xdr_Text.f
    rw [e1, e2, Option.bind_some, if_pos (by rw [List.length_append, beN_length]; omega), Option.bind_some, e3, Option.bind_some, if_pos (by omega), if_pos (by rw [List.length_append, List.length_append, beN_length]; omega)]
    unfold textB
    simp only [Int.toNat_natCast, List.append_assoc]
  · rintro e w' ⟨v, rfl, hr, hb⟩
    obtain ⟨A2, c2, rfl⟩ := Kd.R_slice hr
    exact ⟨A2, c2, rfl, (Kd.R_reads' hr).2.1, Kd.F_mono (Kd.R_F (Kd.R_bound hr)) (fun k hk => ⟨hk.2.1, hk.2.2.1⟩), hb⟩
end Go.Proofs.Ytffaljncdcldpaa.G
