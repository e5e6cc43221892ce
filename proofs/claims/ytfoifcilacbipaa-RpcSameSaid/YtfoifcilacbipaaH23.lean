/- Plain laws of law06: a message's bytes. -/
import Derived.Test.YtfoifcilacbipaaH21
import Derived.Test.YtfoifcilacbipaaPx2
namespace Go.Proofs.Ytfoifcilacbipaa.G
open Go.RowKit Go.Proofs.Ytfoifcilacbipaa.P Go.Proofs.YtfoifcilacbipaaW.PrintWords Go.Proofs.YtfoifcilacbipaaW.PrintLast Go.Proofs.YtfoifcilacbipaaW.PrintMore
set_option linter.unusedVariables false
set_option linter.unusedSimpArgs false

theorem wrapId {a : Int} (h0 : -9223372036854775808 ≤ a) (h1 : a ≤ 9223372036854775807) : wrap64 a = a := by
  unfold wrap64; omega
theorem u64wrap {n : Int} (h0 : 0 ≤ n) (h1 : n < 18446744073709551616) : IntKind.u64.wrap n = n := by
  simp [IntKind.wrap, IntKind.bits, IntKind.signed]; omega

theorem U32_eq (l : List Int) (n : Int) (h0 : 0 ≤ n) (h1 : n < 4294967296) (hl : l.length ≤ 1000000000000) : xdr_U32.f l n = some (l ++ beN n 4) := by
  unfold xdr_U32.f xdr_number.f
  rw [u64wrap h0 (by omega), if_pos ⟨by omega, by omega, hl⟩]
  rfl

def wrF (r : Bool) : List Int := if r = true then [1, 0] else [0, 2, 536870913, 1]
def beL (l : List Int) : List Int := l.flatMap (fun n => beN n 4)
def wrMsg (r : Bool) (x p : Int) (l : List Int) : List Int := beN x 4 ++ beL (wrF r) ++ beN p 4 ++ l

theorem wrF_ok (r : Bool) : (wrF r).length ≤ 4 ∧ ∀ n ∈ wrF r, 0 ≤ n ∧ n < 4294967296 := by
  cases r <;> simp [wrF]
theorem beL_length (l : List Int) : (beL l).length = 4 * l.length := by
  induction l with
  | nil => rfl
  | cons n l ih => simp only [beL, List.flatMap_cons, List.length_append, beN_length, List.length_cons] at ih ⊢; omega

theorem rd_at (l : List Int) (i : Nat) (h : i < l.length) : rd l (i : Int) = l[i] := by
  unfold rd
  rw [Int.toNat_natCast, List.getD_eq_getElem?_getD]
  simp [h]

theorem Write_l0 (F : List Int) (hF : F.length ≤ 4) (hN : ∀ n ∈ F, 0 ≤ n ∧ n < 4294967296) (r : Bool) (x p : Int) (hp : 0 ≤ p ∧ p < 4294967296) (l : List Int) (hl : l.length ≤ 1000000) (d : Nat) : ∀ (i : Nat) (out : List Int), i + d = F.length → out.length ≤ 1000 + 4 * i →
    Ev (fun k => rpc_Write.l0 k out F (F.length : Int) (i : Int) r x p l) (out ++ beL (F.drop i) ++ beN p 4 ++ l) := by
  induction d with
  | zero =>
    intro i out hd ho
    refine Ev.step (f := fun _ => some (out ++ beL (F.drop i) ++ beN p 4 ++ l)) (fun k => ?_) (Ev.now _)
    simp only [rpc_Write.l0]
    rw [if_neg (by omega), U32_eq out p hp.1 hp.2 (by omega), Option.bind_some, if_pos (by rw [List.length_append, beN_length]; omega), List.drop_of_length_le (by omega)]
    simp [beL]
  | succ d ih =>
    intro i out hd ho
    have hi : i < F.length := by omega
    have hn := hN F[i] (List.getElem_mem hi)
    refine Ev.step (f := fun k => rpc_Write.l0 k (out ++ beN F[i] 4) F (F.length : Int) ((i + 1 : Nat) : Int) r x p l) (fun k => ?_) ?_
    · simp only [rpc_Write.l0]
      rw [if_pos (by omega), if_pos (by omega), if_pos (by omega), rd_at F i hi, U32_eq out _ hn.1 hn.2 (by omega), Option.bind_some, wrapId (by omega) (by omega)]
      rfl
    · have h := ih (i + 1) (out ++ beN F[i] 4) (by omega) (by rw [List.length_append, beN_length]; omega)
      rw [List.drop_eq_getElem_cons hi]
      have e : beL (F[i] :: F.drop (i + 1)) = beN F[i] 4 ++ beL (F.drop (i + 1)) := rfl
      rw [e, ← List.append_assoc]
      exact h

theorem Write_ev (r : Bool) (x p : Int) (hx : 0 ≤ x ∧ x < 4294967296) (hp : 0 ≤ p ∧ p < 4294967296) (l : List Int) (hl : l.length ≤ 1000000) : Ev (fun k => rpc_Write.f k r x p l) (wrMsg r x p l) := by
  have hF := wrF_ok r
  have hfix : rpc_fixed.f r = some (wrF r) := by unfold rpc_fixed.f wrF; split <;> rfl
  have h := Write_l0 (wrF r) hF.1 hF.2 r x p hp l hl (wrF r).length 0 (beN x 4) (Nat.zero_add _) (by rw [beN_length]; omega)
  refine Ev.congr (f := fun k => rpc_Write.l0 k (beN x 4) (wrF r) ((wrF r).length : Int) ((0 : Nat) : Int) r x p l) (fun k => ?_) ?_
  · unfold rpc_Write.f
    rw [U32_eq [] x hx.1 hx.2 (by simp), Option.bind_some, hfix, Option.bind_some, List.nil_append]
    rfl
  · rw [List.drop_zero] at h
    exact h

theorem lives_ev : Ev (fun k => truchmanlaw06_lives.f k) true := by
  refine Ev.congr (fun k => ?_) (Ev.bind (f := fun k t => if (t.length : Int) = 24 then (if 3 < (t.length : Int) then (if (rd t 3) = 7 then (if 23 < (t.length : Int) then (some ((rd t 23) == 3)) else (none)) else (some false)) else (none)) else (some false)) (Write_ev false 7 3 (by omega) (by omega) [] (by simp)) ?_)
  · rfl
  · have h1 : wrMsg false 7 3 [] = [0, 0, 0, 7, 0, 0, 0, 0, 0, 0, 0, 2, 32, 0, 0, 1, 0, 0, 0, 1, 0, 0, 0, 3] := by decide
    rw [h1]
    exact Ev.now _
end Go.Proofs.Ytfoifcilacbipaa.G
