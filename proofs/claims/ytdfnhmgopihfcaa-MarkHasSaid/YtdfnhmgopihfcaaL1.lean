/- Plain laws of what the printed functions of xdr's laying answer. -/
import Derived.Test.YtdfnhmgopihfcaaPx1
import Derived.Lib.Bytes
namespace Go.Proofs.Ytdfnhmgopihfcaa.Pure
open Go.RowKit Go.Proofs.Ytdfnhmgopihfcaa.P Go.Proofs.Ytdfnhmgopihfcaa.G Go.Proofs.YtdfnhmgopihfcaaW.PrintWords Go.Proofs.YtdfnhmgopihfcaaW.PrintLast Go.Proofs.YtdfnhmgopihfcaaW.PrintMore

theorem str_append (a b : List Int) : strOfNums (a ++ b) = strOfNums a ++ strOfNums b := by
  apply ByteArray.ext
  simp [strOfNums, ByteArray.data_append]

theorem str_toList (xs : List Int) : (strOfNums xs).toList = xs.map fun n => UInt8.ofNat n.toNat := by
  rw [Lib.strOfNums_toList]
  rfl

theorem wrap_id {n : Int} (h0 : -9223372036854775808 ≤ n) (h1 : n ≤ 9223372036854775807) : wrap64 n = n := by
  unfold wrap64; omega

theorem u64_id {n : Int} (h0 : 0 ≤ n) (h1 : n < 18446744073709551616) : IntKind.u64.wrap n = n := by
  simp [IntKind.wrap, IntKind.bits, IntKind.signed]
  omega

/-- The bytes behind a text. -/
def padN (n : Nat) : Nat := (4 - n % 4) % 4
/-- A text's bytes. -/
def textB (s : List Int) : List Int := beN (s.length : Int) 4 ++ s ++ List.replicate (padN s.length) 0

theorem textB_length (s : List Int) : (textB s).length = 4 + s.length + padN s.length := by
  simp [textB, beN_length]
  omega
theorem padN_mod (n : Nat) : (n + padN n) % 4 = 0 := by unfold padN; omega
theorem padN_le (n : Nat) : padN n ≤ 3 := by unfold padN; omega

theorem number_eq (b : List Int) (n : Int) (s : Nat) (h1 : 1 ≤ s) (h8 : s ≤ 8) (hb : b.length ≤ 1000000000000) : xdr_number.f b n (s : Int) = some (b ++ beN n s) := by
  unfold xdr_number.f
  rw [if_pos ⟨by omega, by omega, hb⟩]
  simp

theorem U32_eq (b : List Int) (n : Int) (h0 : 0 ≤ n) (h1 : n < 4294967296) (hb : b.length ≤ 1000000000000) : xdr_U32.f b n = some (b ++ beN n 4) := by
  unfold xdr_U32.f
  rw [u64_id h0 (by omega), show (4 : Int) = ((4 : Nat) : Int) from rfl, number_eq b n 4 (by omega) (by omega) hb]
  rfl

theorem pad_eq (n : Nat) (h : n ≤ 1000000000000) : xdr_pad.f (n : Int) = some ((padN n : Nat) : Int) := by
  unfold xdr_pad.f padN
  congr 1
  have h1 : Int.tmod (n : Int) 4 = ((n % 4 : Nat) : Int) := by rw [Int.tmod_eq_emod_of_nonneg (by omega)]; omega
  rw [h1, wrap_id (by omega) (by omega), Int.tmod_eq_emod_of_nonneg (by omega)]
  omega

theorem Text_eq (b s : List Int) (hb : b.length ≤ 1000000000) (hs : s.length ≤ 1000000) : xdr_Text.f b s = some (b ++ textB s) := by
  unfold xdr_Text.f
  have hm : ((s.length : Int)) % 4294967296 = (s.length : Int) := by omega
  rw [hm, U32_eq b _ (by omega) (by omega) (by omega), Option.bind_some]
  have hl : (b ++ beN (s.length : Int) 4).length = b.length + 4 := by simp [beN_length]
  rw [if_pos (by omega), Option.bind_some, pad_eq s.length (by omega), Option.bind_some, if_pos (by omega), Int.toNat_natCast, if_pos (by
    have := padN_le s.length
    rw [List.length_append]; omega)]
  simp [textB, List.append_assoc]

theorem mn_nat (l m : Nat) : mn (l : Int) (m : Int) = ((min l m : Nat) : Int) := by
  unfold mn
  split <;> omega

theorem Few_eq (l : List Int) (m : Nat) (hm : m ≤ 1000000) : truchmanref01_Few.f l (m : Int) = some (l.take m) := by
  unfold truchmanref01_Few.f
  rw [mn_nat, if_pos (by omega), if_pos (by omega), Int.toNat_natCast]
  have h : l.take (min l.length m) = l.take m := by
    rcases Nat.le_total l.length m with h | h
    · rw [Nat.min_eq_left h, List.take_length, List.take_of_length_le h]
    · rw [Nat.min_eq_right h]
  rw [h, if_pos (by simp [List.length_take]; omega)]
  simp

theorem refU32_eq (n : Nat) (h : n < 4294967296) : truchmanref01_U32.f (n : Int) = some (beN (n : Int) 4) := by
  unfold truchmanref01_U32.f
  have d : ∀ m : Nat, Int.tdiv (n : Int) (m : Int) = ((n / m : Nat) : Int) := fun m => by rw [Int.tdiv_eq_ediv_of_nonneg (by omega)]; simp
  have h1 : Int.tdiv (n : Int) 16777216 = ((n / 16777216 : Nat) : Int) := d 16777216
  have h2 : Int.tdiv (n : Int) 65536 = ((n / 65536 : Nat) : Int) := d 65536
  have h3 : Int.tdiv (n : Int) 256 = ((n / 256 : Nat) : Int) := d 256
  rw [h1, h2, h3, Int.tmod_eq_emod_of_nonneg (by omega)]
  simp only [beN]
  congr 1
  simp

theorem lives01 : truchmanlaw01_lives.f = some true := by
  unfold truchmanlaw01_lives.f
  rw [Text_eq [] [97, 98] (by simp) (by simp)]
  rw [Option.bind_some, str_toList]
  decide


end Go.Proofs.Ytdfnhmgopihfcaa.Pure
