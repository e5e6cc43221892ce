/- Plain laws of stat: bits of permissions, little-endian bytes, the document's example. -/
import Derived.Test.YtemadfllannljaaPx5
import Derived.Test.YtemadfllannljaaPx4
import Derived.Lib.Bytes
import Derived.Laws.BitsLemmas
namespace Go.Proofs.Ytemadfllannljaa.Pure
open Go.RowKit Go.Proofs.Ytemadfllannljaa.P Go.Proofs.Ytemadfllannljaa.G Go.Proofs.YtemadfllannljaaW.PrintWords Go.Proofs.YtemadfllannljaaW.PrintLast Go.Proofs.YtemadfllannljaaW.PrintMore

theorem str_toList (xs : List Int) : (strOfNums xs).toList = xs.map fun n => UInt8.ofNat n.toNat := by
  rw [Lib.strOfNums_toList]
  rfl

theorem wrap_id {n : Int} (h0 : -9223372036854775808 ≤ n) (h1 : n ≤ 9223372036854775807) : wrap64 n = n := by
  unfold wrap64; omega

theorem around_eq (a m : Int) (ha : (Lit.int .i64 a).wf = true) (hm : 0 < m) (hm2 : m ≤ 9223372036854775807) : ∃ r : Nat, (r : Int) < m ∧ truchmanref01_Around.f a m = some (r : Int) := by
  have hw : -9223372036854775808 ≤ a ∧ a ≤ 9223372036854775807 := by
    simp [Lit.wf, IntKind.min, IntKind.max, IntKind.signed, IntKind.bits] at ha
    omega
  unfold truchmanref01_Around.f
  by_cases h : a < 0
  · rw [if_pos h, if_neg (by omega), wrap_id (n := a + 1) (by omega) (by omega), wrap_id (by omega) (by omega)]
    have h1 : Int.tmod (-(a + 1)) m = (-(a + 1)) % m := Int.tmod_eq_emod_of_nonneg (by omega)
    have h2 := Int.emod_nonneg (-(a + 1)) (show m ≠ 0 by omega)
    have h3 := Int.emod_lt_of_pos (-(a + 1)) hm
    exact ⟨((-(a + 1)) % m).toNat, by omega, by rw [h1]; congr 1; omega⟩
  · rw [if_neg h, if_neg (by omega)]
    have h1 : Int.tmod a m = a % m := Int.tmod_eq_emod_of_nonneg (by omega)
    have h2 := Int.emod_nonneg a (show m ≠ 0 by omega)
    have h3 := Int.emod_lt_of_pos a hm
    exact ⟨(a % m).toNat, by omega, by rw [h1]; congr 1; omega⟩

theorem and_zero_iff (x : Nat) : (x &&& 18446744071562067456 = 0) ↔ (x / 512) &&& 36028797014769663 = 0 := by
  have h1 : (x &&& 18446744071562067456) >>> 9 = (x / 512) &&& 36028797014769663 := by
    rw [Nat.shiftRight_and_distrib, Nat.shiftRight_eq_div_pow]
    rfl
  have h2 : (x &&& 18446744071562067456) % 512 = 0 := by
    have h := Nat.and_two_pow_sub_one_eq_mod (x &&& 18446744071562067456) 9
    rw [Nat.and_assoc] at h
    have h3 : 18446744071562067456 &&& (2 ^ 9 - 1) = 0 := by decide
    rw [h3, Nat.and_zero] at h
    exact h.symm
  rw [Nat.shiftRight_eq_div_pow] at h1
  constructor
  · intro h; rw [← h1, h]
  · intro h; rw [h] at h1; omega

theorem c_iff (c : Nat) (hc : c < 18014398509481984) : (c &&& 36028797014769663 = 0) ↔ c = 0 ∨ c = 4194304 := by
  constructor
  · intro h
    have h1 : c % 4194304 = 0 := by
      have h2 := Nat.and_two_pow_sub_one_eq_mod c 22
      have h3 : (36028797014769663 &&& (2 ^ 22 - 1)) = 2 ^ 22 - 1 := by decide
      rw [← h3, ← Nat.and_assoc, h, Nat.zero_and] at h2
      exact h2.symm
    have h4 : c / 8388608 = 0 := by
      have h5 : (c &&& 36028797014769663) >>> 23 = (c / 8388608) &&& (2 ^ 32 - 1) := by
        rw [Nat.shiftRight_and_distrib, Nat.shiftRight_eq_div_pow]; rfl
      rw [h, Nat.and_two_pow_sub_one_eq_mod] at h5
      have : (0 : Nat) >>> 23 = 0 := by decide
      rw [this] at h5
      omega
    omega
  · rintro (h | h) <;> subst h <;> decide

theorem andNot_iff (x : Nat) (hx : x < 9223372036854775808) : Go.bits .andNot .i64 (x : Int) 2147484159 = 0 ↔ x < 512 ∨ (2147483648 ≤ x ∧ x < 2147484160) := by
  have h1 : (BitVec.ofInt 64 (x : Int) &&& ~~~(BitVec.ofInt 64 2147484159)).toNat = x &&& 18446744071562067456 := by
    have h2 : (~~~(BitVec.ofInt 64 2147484159)).toNat = 18446744071562067456 := by decide
    have h3 : (BitVec.ofInt 64 (x : Int)).toNat = x := by
      rw [BitVec.toNat_ofInt]
      omega
    rw [BitVec.toNat_and, h2, h3]
  have h4 : x &&& 18446744071562067456 ≤ x := Nat.and_le_left
  have h5 : Go.bits .andNot .i64 (x : Int) 2147484159 = ((x &&& 18446744071562067456 : Nat) : Int) := by
    have h6 : Go.bits .andNot .i64 (x : Int) 2147484159 = IntKind.i64.wrap ((BitVec.ofInt 64 (x : Int) &&& ~~~(BitVec.ofInt 64 2147484159)).toNat : Int) := rfl
    rw [h6, h1, IntKind.wrap_i64]
    omega
  rw [h5]
  have h7 := and_zero_iff x
  have h8 := c_iff (x / 512) (by omega)
  rw [h8] at h7
  omega

theorem and511 (x : Nat) (hx : x < 9223372036854775808) : Go.bits .and .i64 (x : Int) 511 = ((x % 512 : Nat) : Int) := by
  have h := (bits_nat .i64 63 (by decide) (fun m h0 h1 => by rw [IntKind.wrap_i64]; omega) x 511 (by omega) (by decide)).1
  rw [show (511 : Nat) = 2 ^ 9 - 1 from rfl, Nat.and_two_pow_sub_one_eq_mod] at h
  exact h

theorem and_dir (x : Nat) (hx : x < 2147484160) : (Go.bits .and .i64 (x : Int) 2147483648 != 0) = decide (2147483648 ≤ x) := by
  have h := (bits_nat .i64 63 (by decide) (fun m h0 h1 => by rw [IntKind.wrap_i64]; omega) x 2147483648 (by omega) (by decide)).1
  rw [show (2147483648 : Int) = ((2147483648 : Nat) : Int) from rfl, h]
  have h1 : (x &&& 2147483648) >>> 31 = (x / 2147483648) % 2 := by
    rw [Nat.shiftRight_and_distrib, Nat.shiftRight_eq_div_pow, show (2147483648 : Nat) >>> 31 = 2 ^ 1 - 1 from by decide, Nat.and_two_pow_sub_one_eq_mod]
  have h2 : (x &&& 2147483648) % 2147483648 = 0 := by
    have h := Nat.and_two_pow_sub_one_eq_mod (x &&& 2147483648) 31
    rw [Nat.and_assoc, show 2147483648 &&& (2 ^ 31 - 1) = 0 from by decide, Nat.and_zero] at h
    exact h.symm
  rw [Nat.shiftRight_eq_div_pow] at h1
  generalize hy : x &&& 2147483648 = y at h1 h2 ⊢
  by_cases hx : 2147483648 ≤ x
  · have : y ≠ 0 := by omega
    simp [hx, this]
  · have : y = 0 := by omega
    simp [hx, this]

/-- What permissions say. -/
def permSpec (a : Int) : Int × Bool × Int := if 0 ≤ a ∧ a < 512 then (a, false, 0) else if 2147483648 ≤ a ∧ a < 2147484160 then (a - 2147483648, true, 0) else (0, false, 19)

theorem Perm_eq (a : Int) (h : a ≤ 9223372036854775807) : stat_Perm.f a = some (permSpec a) := by
  unfold stat_Perm.f permSpec
  by_cases h0 : a < 0
  · rw [if_pos h0, if_neg (by omega), if_neg (by omega)]
  · rw [if_neg h0]
    obtain ⟨x, rfl⟩ : ∃ x : Nat, a = (x : Int) := ⟨a.toNat, by omega⟩
    have hi := andNot_iff x (by omega)
    by_cases h1 : x < 512
    · rw [if_pos (hi.2 (Or.inl h1)), if_pos (by omega), and511 x (by omega), and_dir x (by omega), decide_eq_false (by omega), Nat.mod_eq_of_lt h1]
    · by_cases h2 : 2147483648 ≤ x ∧ x < 2147484160
      · rw [if_pos (hi.2 (Or.inr h2)), if_neg (by omega), if_pos (by omega), and511 x (by omega), and_dir x (by omega), decide_eq_true h2.1]
        have : ((x % 512 : Nat) : Int) = (x : Int) - 2147483648 := by omega
        rw [this]
      · rw [if_neg (fun h => by have := hi.1 h; omega), if_neg (by omega), if_neg (by omega)]

theorem refPerm_ev (a : Int) (h : a ≤ 9223372036854775807) : Ev (fun k => truchmanref19_Perm.f k a) ((permSpec a).1, (permSpec a).2.1, (permSpec a).2.2 == 0) := by
  refine Ev.step (f := fun _ => some ((permSpec a).1, (permSpec a).2.1, (permSpec a).2.2 == 0)) (fun k => ?_) (Ev.now _)
  unfold truchmanref19_Perm.f
  by_cases h0 : a ≥ 0
  · rw [if_pos h0]
    simp only [truchmanref19_Perm.j0]
    by_cases h1 : a < 512
    · have hp : permSpec a = (a, false, 0) := by unfold permSpec; rw [if_pos ⟨h0, h1⟩]
      rw [hp, decide_eq_true h1, if_pos rfl]; rfl
    · rw [decide_eq_false h1, if_neg (by decide)]
      by_cases h2 : a ≥ 2147483648
      · rw [if_pos h2]
        by_cases h3 : a < 2147484160
        · have hp : permSpec a = (a - 2147483648, true, 0) := by unfold permSpec; rw [if_neg (by omega), if_pos ⟨h2, h3⟩]
          rw [hp, if_pos h3, wrap_id (by omega) (by omega)]; rfl
        · have hp : permSpec a = (0, false, 19) := by unfold permSpec; rw [if_neg (by omega), if_neg (by omega)]
          rw [hp, if_neg h3]; rfl
      · have hp : permSpec a = (0, false, 19) := by unfold permSpec; rw [if_neg (by omega), if_neg (by omega)]
        rw [hp, if_neg h2]; rfl
  · have hp : permSpec a = (0, false, 19) := by unfold permSpec; rw [if_neg (by omega), if_neg (by omega)]
    rw [hp, if_neg h0]
    simp only [truchmanref19_Perm.j0]
    rw [if_neg (by decide), if_neg (by omega)]; rfl

theorem lives19_at : truchmanlaw19_lives.f 10 = some true := by decide +kernel

theorem lives19 : Ev (fun k => truchmanlaw19_lives.f k) true := by
  have h : ∀ d, truchmanlaw19_lives.f (10 + d) = some true := by
    intro d
    induction d with
    | zero => exact lives19_at
    | succ d ih => exact truchmanlaw19_lives.mono (10 + d) _ ih
  refine ⟨10, fun k hk => ?_⟩
  have := h (k - 10)
  rwa [Nat.add_sub_cancel' hk] at this

end Go.Proofs.Ytemadfllannljaa.Pure
