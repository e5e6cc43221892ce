/- Plain laws: the document's text, number of eight bytes, and yes or no. -/
import Derived.Test.YtdfnhmgopihfcaaL1
import Derived.Test.YtdfnhmgopihfcaaPx1
import Derived.Test.YtdfnhmgopihfcaaPx2
namespace Go.Proofs.Ytdfnhmgopihfcaa.Pure
open Go.RowKit Go.Proofs.Ytdfnhmgopihfcaa.P Go.Proofs.Ytdfnhmgopihfcaa.G Go.Proofs.YtdfnhmgopihfcaaW.PrintWords Go.Proofs.YtdfnhmgopihfcaaW.PrintLast Go.Proofs.YtdfnhmgopihfcaaW.PrintMore

theorem U64_eq (b : List Int) (n : Int) (hb : b.length ≤ 1000000000000) : xdr_U64.f b n = some (b ++ beN n 8) := by
  unfold xdr_U64.f
  rw [show (8 : Int) = ((8 : Nat) : Int) from rfl, number_eq b n 8 (by omega) (by omega) hb]
  rfl

theorem refU64_eq (n : Nat) (h : n < 18446744073709551616) : truchmanref01_U64.f (n : Int) = some (beN (n : Int) 8) := by
  unfold truchmanref01_U64.f
  have h1 : Int.tdiv (n : Int) 4294967296 = ((n / 4294967296 : Nat) : Int) := by rw [Int.tdiv_eq_ediv_of_nonneg (by omega)]; simp
  have h2 : Int.tmod (n : Int) 4294967296 = ((n % 4294967296 : Nat) : Int) := by rw [Int.tmod_eq_emod_of_nonneg (by omega)]; simp
  have h3 : ((n / 4294967296 : Nat) : Int) % 4294967296 = ((n / 4294967296 : Nat) : Int) := by omega
  have h4 : ((n % 4294967296 : Nat) : Int) % 4294967296 = ((n % 4294967296 : Nat) : Int) := by omega
  rw [h1, h2, u64_id (by omega) (by omega), h3, h4, refU32_eq _ (by omega), Option.bind_some, refU32_eq _ (by omega), Option.bind_some, if_pos (by rw [beN_length, beN_length]; omega)]
  congr 1
  simp only [beN, List.cons_append, List.nil_append]
  simp
  omega

theorem refText_l0 (d : Nat) : ∀ (x : List Int), (x.length + d) % 4 = 0 → d ≤ 3 → x.length ≤ 1000000 → Ev (fun k => truchmanref01_Text.l0 k x) (x ++ List.replicate d 0) := by
  induction d with
  | zero =>
    intro x h _ _
    refine Ev.step (f := fun _ => some (x ++ List.replicate 0 0)) (fun k => ?_) (Ev.now _)
    simp only [truchmanref01_Text.l0]
    rw [if_pos (by omega)]
    simp
  | succ d ih =>
    intro x h hd hl
    have h2 := ih (x ++ [0]) (by simp; omega) (by omega)
    by_cases hl2 : x.length + 1 ≤ 1000000
    · have h3 := h2 (by simp; omega)
      rw [List.append_assoc, List.singleton_append, ← List.replicate_succ] at h3
      refine Ev.step (fun k => ?_) h3
      simp only [truchmanref01_Text.l0]
      rw [if_neg (by omega), if_pos (by omega)]
    · omega

theorem refText_ev (s : List Int) (hs : s.length ≤ 100000) : Ev (fun k => truchmanref01_Text.f k s) (textB s) := by
  have hm : ((s.length : Int)) % 4294967296 = ((s.length : Nat) : Int) := by omega
  refine Ev.congr (f := fun k => truchmanref01_Text.l0 k (beN (s.length : Int) 4 ++ s)) (fun k => ?_) ?_
  · unfold truchmanref01_Text.f
    rw [hm, refU32_eq _ (by omega), Option.bind_some, if_pos (by rw [beN_length]; omega)]
  · unfold textB
    exact refText_l0 _ _ (by rw [List.length_append, beN_length]; have := padN_mod s.length; omega) (padN_le _) (by rw [List.length_append, beN_length]; omega)

theorem Bool_eq (b : List Int) (is : Bool) (hb : b.length ≤ 1000000000000) : xdr_Bool.f b is = some (b ++ beN (if is then 1 else 0) 4) := by
  unfold xdr_Bool.f
  cases is
  · rw [if_neg (by decide), U32_eq b 0 (by decide) (by decide) hb]; rfl
  · rw [if_pos rfl, U32_eq b 1 (by decide) (by decide) hb]; rfl
theorem refBool_eq (is : Bool) : truchmanref01_Bool.f is = some (beN (if is then 1 else 0) 4) := by
  unfold truchmanref01_Bool.f
  cases is
  · rw [if_neg (by decide)]; exact congrArg (fun x => Option.bind x fun t => some t) (refU32_eq 0 (by decide))
  · rw [if_pos rfl]; exact congrArg (fun x => Option.bind x fun t => some t) (refU32_eq 1 (by decide))
end Go.Proofs.Ytdfnhmgopihfcaa.Pure
