/- The printed contracts of Few, Text, Around and lives, as the hand walks use them; and what is read of what was laid. -/
import Derived.Test.YtdfnhmgopihfcaaL2
import Derived.Test.YtdfnhmgopihfcaaG7
import Derived.Test.YtdfnhmgopihfcaaPx2
import Derived.Test.YtdfnhmgopihfcaaPx1
namespace Go.Proofs.Ytdfnhmgopihfcaa.H
open Go.RowKit Go.Proofs.Ytdfnhmgopihfcaa.P Go.Proofs.Ytdfnhmgopihfcaa.G Go.Proofs.Ytdfnhmgopihfcaa.Pure Go.Proofs.YtdfnhmgopihfcaaW.PrintWords Go.Proofs.YtdfnhmgopihfcaaW.PrintLast Go.Proofs.YtdfnhmgopihfcaaW.PrintMore
set_option linter.unusedVariables false
set_option linter.unusedSimpArgs false

theorem around_eq (a m : Int) (ha : (Lit.int .i64 a).wf = true) (hm : 0 < m) (hm2 : m ≤ 9223372036854775807) : ∃ r : Nat, (r : Int) < m ∧ truchmanref01_Around.f a m = some (r : Int) := by
  have hw : -9223372036854775808 ≤ a ∧ a ≤ 9223372036854775807 := by
    simp [Lit.wf, IntKind.min, IntKind.max, IntKind.signed, IntKind.bits] at ha
    omega
  unfold truchmanref01_Around.f
  by_cases h : a < 0
  · rw [if_pos h, if_neg (by omega), wrap_id (n := a + 1) (by omega) (by omega), wrap_id (by omega) (by omega)]
    have h1 : Int.tmod (-(a + 1)) m = (-(a + 1)) % m := Int.tmod_eq_emod_of_nonneg (by omega)
    have h2 := Int.emod_nonneg (-(a + 1)) (show m ≠ 0 by omega)
    have h3 := Int.emod_lt_of_pos (-(a + 1)) hm
    exact ⟨((-(a + 1)) % m).toNat, by omega, by rw [h1]; congr 1; omega⟩
  · rw [if_neg h, if_neg (by omega)]
    have h1 : Int.tmod a m = a % m := Int.tmod_eq_emod_of_nonneg (by omega)
    have h2 := Int.emod_nonneg a (show m ≠ 0 by omega)
    have h3 := Int.emod_lt_of_pos a hm
    exact ⟨(a % m).toNat, by omega, by rw [h1]; congr 1; omega⟩


/-- A row of the call's own. -/
def Row (w w' : World) (A : Option Addr) (c : Nat) (xs : List Int) : Prop := xs.length ≤ c ∧ Kd.R (Kd.int .u8) 5 w' w.heap.size (fun _ => True) (.slice A xs.length c) xs
theorem Row.F {w w' : World} {A : Option Addr} {c : Nat} {xs : List Int} (h : Row w w' A c xs) : Kd.F (Kd.int .u8) w' (fun k => w.heap.size ≤ k ∧ k < w'.heap.size) A xs.length xs :=
  Kd.F_mono (Kd.R_F (Kd.R_bound h.2)) (fun k hk => ⟨hk.2.1, hk.2.2.1⟩)

theorem few_new (A0 : Option Addr) (c0 : Nat) (l0 : List Int) (m : Nat) (w : World) (hr0 : Kd.C (Kd.int .u8) w A0 l0.length l0) (hc0 : l0.length ≤ c0) (hm : m ≤ 1000000) :
    Calls Try.prog 14 #[.slice A0 l0.length c0, .int .i64 (m : Int)] w fun e w' => ∃ A c, e = .returned (.slice A (l0.take m).length c) ∧ Row w w' A c (l0.take m) ∧ Below w.heap.size w w' :=
  (truchmanref01_Few.calls A0 c0 l0 (m : Int) _ w hr0 hc0 (Few_eq l0 m hm)).mono fun e w' h => by
    obtain ⟨v, rfl, hR, hB⟩ := h
    obtain ⟨A, c, rfl, hl, _⟩ := Kd.R_reads hR
    exact ⟨A, c, rfl, ⟨hl, hR⟩, hB⟩
theorem text_new (A0 : Option Addr) (c0 : Nat) (l0 : List Int) (w : World) (hr0 : Kd.C (Kd.int .u8) w A0 l0.length l0) (hc0 : l0.length ≤ c0) (hm : l0.length ≤ 100000) :
    Calls Try.prog 21 #[.slice A0 l0.length c0] w fun e w' => ∃ A c, e = .returned (.slice A (textB l0).length c) ∧ Row w w' A c (textB l0) ∧ Below w.heap.size w w' := by
  obtain ⟨k, hk⟩ := (refText_ev l0 hm).rounds
  refine (truchmanref01_Text.calls k A0 c0 l0 _ w hr0 hc0 hk).mono fun e w' h => ?_
  obtain ⟨v, rfl, hR, hB⟩ := h
  obtain ⟨A, c, rfl, hl, _⟩ := Kd.R_reads hR
  exact ⟨A, c, rfl, ⟨hl, hR⟩, hB⟩
theorem lives_new (w : World) : Calls Try.prog 16 #[] w fun e w' => e = .returned (.bool true) ∧ Below w.heap.size w w' :=
  truchmanlaw01_lives.calls true w lives01
theorem around_new (a m : Int) (r : Int) (w : World) (h : truchmanref01_Around.f a m = some r) : Calls Try.prog 23 #[.int .i64 a, .int .i64 m] w fun e w' => e = .returned (.int .i64 r) ∧ ∃ n, w' = w.drewN n :=
  (truchmanref01_Around.calls a m r w h).mono fun e w' h => ⟨h.1, h.2.out⟩

theorem readU32_be (n : Nat) (h : n < 4294967296) (ys : List Int) : takeE 0 (beN (n : Int) 4 ++ ys) 4 = 0 ∧ readU32 0 (beN (n : Int) 4 ++ ys) = (n : Int) ∧ takeL 0 (beN (n : Int) 4 ++ ys) 4 = ys := by
  have hl : (0 : Int) = 0 ∧ 4 ≤ (beN (n : Int) 4 ++ ys).length := ⟨rfl, by rw [List.length_append, beN_length]; omega⟩
  obtain ⟨h1, h2, h3⟩ := take_ok hl
  refine ⟨h1, ?_, ?_⟩
  · unfold readU32
    rw [h2, List.take_append_of_le_length (by rw [beN_length]; omega), List.take_of_length_le (by rw [beN_length]; omega)]
    simp only [beN]
    rw [valN4 (by omega) (by omega) (by omega) (by omega) 0 (by decide) []]
    simp only [valN]
    omega
  · rw [h3, List.drop_append_of_le_length (by rw [beN_length]; omega), List.drop_of_length_le (by rw [beN_length]; omega), List.nil_append]

/-- What was there stays, but for two blocks. -/
structure K2 (g h : Nat) (w w' : World) : Prop where mk ::
  size : w.heap.size ≤ w'.heap.size
  block : ∀ k, k < w.heap.size → k ≠ g → k ≠ h → w'.heap[k]? = w.heap[k]?
theorem K2.refl (g h : Nat) (w : World) : K2 g h w w := ⟨Nat.le_refl _, fun _ _ _ _ => rfl⟩
theorem K2.mov1 {g h : Nat} {a b c : World} (k : K2 g h a b) (m : Mov g b c) : K2 g h a c := ⟨Nat.le_trans k.size m.size, fun i hi hg hh => (m.block i (Nat.lt_of_lt_of_le hi k.size) hg).trans (k.block i hi hg hh)⟩
theorem K2.mov2 {g h : Nat} {a b c : World} (k : K2 g h a b) (m : Mov h b c) : K2 g h a c := ⟨Nat.le_trans k.size m.size, fun i hi hg hh => (m.block i (Nat.lt_of_lt_of_le hi k.size) hh).trans (k.block i hi hg hh)⟩
theorem K2.drew {g h : Nat} {a b : World} (k : K2 g h a b) : K2 g h a b.drew := ⟨k.size, k.block⟩
/-- A row of bytes that lies among these blocks is the same text in every such world. -/
theorem K2.conv {g h : Nat} {w : World} {A : Option Addr} {c : Nat} {xs : List Int} {src dst e : TypeId} (hs : Try.prog.underlying src = some (.slice e)) (he : Try.prog.underlying e = some (.int .u8)) (hd : Try.prog.underlying dst = some .string)
    (hf : Kd.F (Kd.int .u8) w (fun k => k < w.heap.size ∧ k ≠ g ∧ k ≠ h) A xs.length xs) : ∀ w', K2 g h w w' → (convert src dst (.slice A xs.length c)).run Try.prog w' = .ok (.string (strOfNums xs)) w' :=
  fun w' hk => Kd.C_string hs he hd (Kd.F_now (Kd.F_step hf (fun k hk2 hlt => hk.block k hlt hk2.2.1 hk2.2.2)))

theorem F_same {w w' : World} {ok ok' : Nat → Prop} {A : Option Addr} {n : Nat} {xs : List Int} (hf : Kd.F (Kd.int .u8) w' ok A n xs) (hs : ∀ k, ok k → k < w'.heap.size → w.heap[k]? = w'.heap[k]?) (hi : ∀ k, ok k → k < w'.heap.size → ok' k) : Kd.F (Kd.int .u8) w ok' A n xs :=
  Kd.F_mono (Kd.F_step (Kd.F_bound hf) (fun k hk _ => hs k hk.1 hk.2)) (fun k hk => hi k hk.1 hk.2)
end Go.Proofs.Ytdfnhmgopihfcaa.H
