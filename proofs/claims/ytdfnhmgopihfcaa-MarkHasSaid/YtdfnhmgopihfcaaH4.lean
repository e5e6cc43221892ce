/- MarkHas, walked by hand. -/
import Derived.Test.YtdfnhmgopihfcaaL4
import Derived.Test.YtdfnhmgopihfcaaL3
namespace Go.Proofs.Ytdfnhmgopihfcaa.H
open Go.RowKit Go.Proofs.Ytdfnhmgopihfcaa.P Go.Proofs.Ytdfnhmgopihfcaa.G Go.Proofs.Ytdfnhmgopihfcaa.Pure Go.Proofs.YtdfnhmgopihfcaaW.PrintWords Go.Proofs.YtdfnhmgopihfcaaW.PrintLast Go.Proofs.YtdfnhmgopihfcaaW.PrintMore
set_option linter.unusedVariables false
set_option linter.unusedSimpArgs false

theorem lives3_new (w : World) : Calls Try.prog 27 #[] w fun e w' => e = .returned (.bool true) ∧ Below w.heap.size w w' := by
  obtain ⟨k, hk⟩ := lives03.rounds
  exact truchmanlaw03_lives.calls k true w hk

theorem mark_new (A0 : Option Addr) (c0 : Nat) (l0 : List Int) (a : Int) (w : World) (hr0 : Kd.C (Kd.int .u8) w A0 l0.length l0) (hc0 : l0.length ≤ c0) (ha : a ≤ 9223372036854775807) (hl : l0.length ≤ 1000000) (hf : Kd.F (Kd.int .u8) w (fun k => k < w.heap.size) A0 l0.length l0) :
    Calls Try.prog 28 #[.slice A0 l0.length c0, .int .i64 a] w fun e w' => ∃ A c ys, Aside0 (ys = (markSpec l0 a).1) ∧ e = .returned (.tuple #[.slice A ys.length c, .int .i64 (markSpec l0 a).2]) ∧ ys.length ≤ c ∧ Kd.F (Kd.int .u8) w' (fun k => k < w'.heap.size) A ys.length ys ∧ Below w.heap.size w w' := by
  obtain ⟨k, hk⟩ := (Mark_ev l0 a ha hl).rounds
  refine (mark_Mark.calls k (fun k => k < w.heap.size) A0 c0 l0 a _ _ w ⟨A0, c0, rfl, hc0, hf⟩ hk).mono fun e w' h => ?_
  obtain ⟨v, rfl, hR, hB⟩ := h
  obtain ⟨A, c, rfl, hl, _⟩ := Kd.R_reads hR
  exact ⟨A, c, _, ⟨rfl⟩, rfl, hl, Kd.F_mono (Kd.R_F (Kd.R_bound hR)) (fun k hk => hk.2.2.1), hB⟩

/-- The bytes that are left: fragments of the rest, each but the last one of s bytes; or nothing, the last one having been seen. -/
def Rest (s : Nat) (own all b : List Int) (done : Bool) : Prop :=
  (done = false ∧ ∃ d rest, rest.length ≤ d ∧ rest.length ≤ 60 ∧ all ++ rest = own ∧ b = frames rest (goS s d rest.length)) ∨ (done = true ∧ all = own ∧ b = [])
theorem goS_cons (s d n : Nat) (h : s < n) (hd : n ≤ d) (hs : 1 ≤ s) : ∃ d', n - s ≤ d' ∧ goS s d n = s :: goS s d' (n - s) := by
  cases d with
  | zero => omega
  | succ d => exact ⟨d, by omega, by simp only [goS]; rw [if_pos h]⟩
theorem goS_one (s d n : Nat) (h : n ≤ s) : goS s d n = [n] := by
  cases d with
  | zero => rfl
  | succ d => simp only [goS]; rw [if_neg (by omega)]
theorem goS_ne (s d n : Nat) : (goS s d n).isEmpty = false := by
  cases d with
  | zero => rfl
  | succ d => simp only [goS]; split <;> rfl

/-- One round: the number, its fragment, and what is behind. -/
theorem Rest_step {s : Nat} {own all b : List Int} (h : Rest s own all b false) (hs : 1 ≤ s ∧ s ≤ 20) :
    ∃ (v k : Nat) (x b' : List Int), b = beN (v : Int) 4 ++ (x ++ b') ∧ v < 4294967296 ∧ x.length = k ∧ k = v % 2147483648 ∧ k ≤ s ∧ (v < 2147483648 → k = s) ∧ b.length ≤ 400 ∧ Rest s own (all ++ x) b' (decide (2147483648 ≤ v)) := by
  rcases h with ⟨_, d, rest, hd, h60, hall, rfl⟩ | ⟨h, _⟩
  · have hlen := frames_length (goS s d rest.length) rest (goS_sum hs.1 d rest.length hd).symm
    have hcnt := goS_len hs.1 d rest.length hd
    have hmb := mcount_bound s rest.length hs.1
    have hbl : (frames rest (goS s d rest.length)).length ≤ 400 := by omega
    by_cases hlt : s < rest.length
    · obtain ⟨d', hd', he⟩ := goS_cons s d rest.length hlt hd hs.1
      refine ⟨s, s, rest.take s, frames (rest.drop s) (goS s d' (rest.length - s)), ?_, by omega, by rw [List.length_take]; omega, by omega, Nat.le_refl _, fun _ => rfl, hbl, ?_⟩
      · rw [he]
        simp only [frames]
        rw [goS_ne, if_neg (by decide), Int.add_zero, List.append_assoc]
      · rw [show decide (2147483648 ≤ s) = false from decide_eq_false (by omega)]
        refine .inl ⟨rfl, d', rest.drop s, by rw [List.length_drop]; exact hd', by rw [List.length_drop]; omega, ?_, by rw [List.length_drop]⟩
        rw [List.append_assoc, List.take_append_drop]
        exact hall
    · have he := goS_one s d rest.length (by omega)
      refine ⟨rest.length + 2147483648, rest.length, rest, [], ?_, by omega, rfl, by omega, by omega, fun h => by omega, hbl, ?_⟩
      · rw [he]
        simp only [frames]
        simp only [List.isEmpty_nil, if_true]
        rw [List.take_of_length_le (Nat.le_refl _), List.append_assoc]
        rfl
      · rw [show decide (2147483648 ≤ rest.length + 2147483648) = true from decide_eq_true (by omega)]
        exact .inr ⟨rfl, hall, rfl⟩
  · cases h

set_option maxHeartbeats 8000000 in
set_option maxRecDepth 100000 in
theorem MarkHas_full (A0 : Option Addr) (c0 : Nat) (l0 : List Int) (a1 : Int) (w : World) (hr0 : Kd.C (Kd.int .u8) w A0 l0.length l0) (hc0 : l0.length ≤ c0) (hw1 : (Lit.int .i64 a1).wf = true) :
    Calls Try.prog 10 #[.slice A0 l0.length c0, .int .i64 a1] w fun e w' => e = .returned (.bool true) ∧ Below w.heap.size w w' := by
  obtain ⟨q, hq, heq⟩ := around_eq a1 20 hw1 (by decide) (by decide)
  have HQ := Aside0.mk heq
  have HR0 := Aside0.mk hr0
  clear heq hr0
  go_enter Try.func10, Try.ntmps10
  go_wp2_with fail
  refine (few_new A0 c0 l0 60 w HR0.out hc0 (by decide)).mono ?_
  rintro r w1 ⟨A2, c2, rfl, hR2, hB2⟩
  obtain ⟨own, hown⟩ : ∃ own, own = l0.take 60 := ⟨_, rfl⟩
  rw [← hown] at hR2 ⊢
  have hol : own.length ≤ 60 := by rw [hown]; exact List.length_take_le _ _
  have HR2 := Aside0.mk hR2.F
  have HK2 := Aside0.mk hR2.1
  have HB2 := Aside0.mk hB2
  clear hown hR2 hB2
  go_wp2_with fail
  refine (around_new a1 20 (q : Int) _ HQ.out).mono ?_
  rintro r w2 ⟨rfl, n2, rfl⟩
  obtain ⟨s, hs⟩ : ∃ s : Nat, s = q + 1 := ⟨_, rfl⟩
  have hs1 : 1 ≤ s ∧ s ≤ 20 := by omega
  have HS1 := Aside0.mk hs1
  have hsq : (1 : Int) + (q : Int) = (s : Int) := by omega
  have HR3 := Aside0.mk (Kd.F_drewN HR2.out n2)
  have HB3 := Aside0.mk (pw_below_drewN HB2.out n2)
  have HSP : Aside0 ((markSpec own (s : Int)).2 = 0 ∧ (markSpec own (s : Int)).1 = frames own (goS s own.length own.length)) := ⟨by
    have hm := mcount_bound s own.length (by omega)
    unfold markSpec
    rw [if_neg (by omega), if_neg (by omega), Int.toNat_natCast, if_neg (by omega)]
    exact ⟨rfl, rfl⟩⟩
  clear hs hs1 HR2 HB2
  go_wp2_with fail
  refine (mark_new A2 c2 own (s : Int) _ (Kd.F_now HR3.out) HK2.out (by have := HS1.out; omega) (by omega) (Kd.F_mono HR3.out (fun k hk => hk.2))).mono ?_
  rintro r w3 ⟨A4, c4, b4, E4, rfl, hl4, hf4, hB4⟩
  rw [HSP.out.1]
  have HF4 := Aside0.mk hf4
  have HL4 := Aside0.mk hl4
  have HR4 := Aside0.mk (Kd.F_mono (Kd.F_below HR3.out hB4) (fun k hk => Nat.lt_of_lt_of_le hk.2 hB4.size))
  have HB4 := Aside0.mk (HB3.out.trans (hB4.mono HB3.out.size))
  have HRS : Aside0 (Rest s own [] b4 false) := ⟨.inl ⟨rfl, own.length, own, Nat.le_refl _, hol, rfl, by rw [E4.out, HSP.out.2]⟩⟩
  clear hl4 hf4 hB4 HR3 HB3 hsq E4 HSP
  go_wp2_with fail
  have HBW := Aside0.mk HB4.out.size
  go_loopw [7, 9, 10] (fun bv av dv w' => ∃ (A5 : Option Addr) (c5 : Nat) (b : List Int) (A6 : Option Addr) (c6 : Nat) (all : List Int) (done : Bool), bv = .slice A5 b.length c5 ∧ av = .slice A6 all.length c6 ∧ dv = .bool done ∧ Aside0 (b.length ≤ c5 ∧ all.length ≤ c6 ∧ all.length ≤ 60) ∧ Aside0 (Kd.F (Kd.int .u8) w3 (fun k => k < w3.heap.size) A5 b.length b) ∧ Aside0 (Kd.R (Kd.int .u8) 5 w' w3.heap.size (fun _ => True) (.slice A6 all.length c6) all) ∧ Aside0 (Rest s own all b done) ∧ Aside0 (Below w3.heap.size w3 w'))
    (fun bv _ _ _ => match bv with | .slice _ n _ => n | _ => 0)
  case atStart => exact ⟨A4, c4, b4, none, 0, [], false, rfl, rfl, rfl, ⟨HL4.out, Nat.le_refl _, by simp⟩, HF4, ⟨Kd.R_nil _ _ _ _ _⟩, HRS, ⟨Below.refl _ _⟩⟩
  case round =>
    obtain ⟨A5, c5, b, A6, c6, all, done, rfl, rfl, rfl, HC, HF, HA, HRS2, HB⟩ := hrel
    clear HRS
    cases done with
    | true =>
      have hb0 : b = [] ∧ all = own := by rcases HRS2.out with ⟨h, _⟩ | ⟨_, h1, h2⟩; cases h; exact ⟨h2, h1⟩
      obtain ⟨rfl, rfl⟩ := hb0
      have hcv1 := Kd.C_string (P := Try.prog) (c := c6) Try.underlying24 Try.underlying5 Try.underlying9 (Kd.R_reads' HA.out).2.2
      have hcv2 := Kd.C_string (P := Try.prog) (c := c2) Try.underlying24 Try.underlying5 Try.underlying9 (Kd.F_now (Kd.F_step HR4.out (fun k hk _ => HB.out.block k hk)))
      go_wp2_with fail
      refine (lives3_new _).mono ?_
      rintro r w9 ⟨rfl, hB9⟩
      have HB9 := Aside0.mk ((HB4.out.trans (HB.out.mono HB4.out.size)).trans (hB9.mono (Nat.le_trans HB4.out.size HB.out.size)))
      clear hB9
      go_wp2_with fail
      go_ret
      exact ⟨rfl, HB9.out⟩
    | false =>
      obtain ⟨v, k, x, b', hb, hv, hx, hk, hks, hks2, hbl, hrest⟩ := Rest_step HRS2.out HS1.out
      have HRest := Aside0.mk hrest
      have hbn : b.length = 4 + (k + b'.length) := by rw [hb]; simp only [List.length_append, beN_length, hx]
      have HX := Aside0.mk (And.intro hb hx)
      have HN := Aside0.mk (And.intro hbn (And.intro hk hks2))
      have b3 : (3 : Int) < (b.length : Int) := by omega
      have b4' : 4 + (k : Int) ≤ (b.length : Int) := by omega
      have HF1 := Aside0.mk (Kd.F_step HF.out (fun k hk _ => HB.out.block k hk))
      clear hb hx hbn hk hrest HRS2 hks2
      go_wp2_with fail
      refine (Read_calls A5 c5 b _ (Kd.F_now HF1.out) HC.out.1 (by omega)).mono ?_
      rintro r w5 ⟨g, rfl, hg, hg', hrd, hB5⟩
      have HRD := Aside0.mk hrd
      have HG := Aside0.mk (Nat.le_trans HB.out.size hg)
      have HB5 := Aside0.mk (HB.out.trans (hB5.mono HB.out.size))
      have HA5 := Aside0.mk (Kd.R_step (Kd.R_bound HA.out) (fun k hk _ => hB5.block k hk.2.2.1))
      have HG2 := Aside0.mk hg
      clear hrd hg hg' hB5
      go_wp2_with fail
      refine (U32R_calls _ g 0 b _ HRD.out).mono ?_
      rintro r w6 ⟨rfl, _, hm6⟩
      have hv6 : valN 0 (takeO 0 b 4) % 4294967296 = (v : Int) := by
        have h1 := (readU32_be v hv (x ++ b')).2.1
        rw [← HX.out.1] at h1
        exact h1
      obtain ⟨V, hV⟩ : ∃ V : Int, V = (v : Int) := ⟨_, rfl⟩
      rw [hv6, ← hV]
      have HV := Aside0.mk hV
      clear hV
      have HB6 := Aside0.mk (Mov.below HB5.out hm6 (Nat.le_refl _) HG.out)
      have HA6 : Aside0 (Kd.R (Kd.int .u8) 5 w6 w3.heap.size (fun _ => True) (.slice A6 all.length c6) all) := ⟨Kd.R_mono (Kd.R_step HA5.out (fun k hk hlt => hm6.block k hlt (fun e => by have h1 := hk.2.2.1; have h2 := HG2.out; omega))) (fun _ _ => trivial)⟩
      have HF6 := Aside0.mk (Kd.F_step HF.out (fun k hk _ => HB6.out.block k hk))
      clear hm6 hv6 HA5 HA HRD HB5 HF1 HB
      obtain ⟨i0, hi0, _, hsz, _⟩ := info_parts infoU8r
      obtain ⟨A', hcut, hA', hC'⟩ := print_mid_of (P := Try.prog) (Value.int .u8) 0 24 5 .i64 .i64 Try.underlying24 hi0 hsz A5 c5 b ((4 : Nat) : Int) ((4 + k : Nat) : Int) (by omega) (by omega) (by omega) HC.out.1
      obtain ⟨A8, hcut2, hA8⟩ := print_cut_of (P := Try.prog) (Value.int .u8) 0 24 5 .i64 Try.underlying24 hi0 hsz A5 b.length c5 (4 + k) (by omega)
      have hxe : (b.take (4 + k)).drop 4 = x := by
        rw [HX.out.1, ← List.append_assoc, List.take_append_of_le_length (by rw [List.length_append, beN_length, HX.out.2]; omega), List.take_of_length_le (by rw [List.length_append, beN_length, HX.out.2]; omega), List.drop_append_of_le_length (by rw [beN_length]; omega), List.drop_of_length_le (by rw [beN_length]; omega), List.nil_append]
      have hbe : b.drop (4 + k) = b' := by
        rw [HX.out.1, ← List.append_assoc, List.drop_append_of_le_length (by rw [List.length_append, beN_length, HX.out.2]; omega), List.drop_of_length_le (by rw [List.length_append, beN_length, HX.out.2]; omega), List.nil_append]
      have hble : b.length - (4 + k) = b'.length := by have := HN.out.1; omega
      simp only [Int.toNat_natCast] at hcut hA' hC'
      rw [hxe] at hcut hA' hC'
      rw [hble] at hcut2
      have hk4 : ((4 + k : Nat) : Int) = 4 + (k : Int) := by omega
      have h44 : ((4 : Nat) : Int) = 4 := rfl
      rw [hk4] at hcut hcut2
      rw [h44] at hcut
      have HFx : Aside0 (Kd.F (Kd.int .u8) w6 (fun k => k < w3.heap.size) A' x.length x) := ⟨Kd.F_imp HF6.out (fun W' hC => Kd.C_of_reads (h1 := fun _ => rfl) (hA' _ (Kd.reads_of_C hC)))⟩
      have HFb : Aside0 (Kd.F (Kd.int .u8) w3 (fun k => k < w3.heap.size) A8 b'.length b') := ⟨Kd.F_imp HF.out (fun W' hC => by
        have h1 := hA8 W' b HC.out.1 (Kd.reads_of_C hC)
        rw [hbe, hble] at h1
        exact Kd.C_of_reads (h1 := fun _ => rfl) h1)⟩
      have HCx := Aside0.mk hC'
      have HLA : Aside0 (all.length + x.length ≤ 60) := ⟨by
        rcases HRest.out with ⟨_, d, rest, _, _, h3, _⟩ | ⟨_, h3, _⟩
        · have := congrArg List.length h3; simp only [List.length_append] at this; omega
        · have := congrArg List.length h3; simp only [List.length_append] at this; omega⟩
      have hxk : x.length = k := HX.out.2
      have HB'L : Aside0 (b'.length ≤ c5 - (4 + k)) := ⟨by have := HC.out.1; have := HN.out.1; omega⟩
      have hvk : V % 2147483648 = (k : Int) := by have := HN.out.2.1; have := HV.out; omega
      have HVL := Aside0.mk (And.intro hxe (And.intro hbe hble))
      clear hA' hA8 hC' hk4 h44 hxe hbe hble hi0 hsz HF HF6
      rw [hxk] at hcut
      have v0 : (0 : Int) ≤ V := by have := HV.out; omega
      have HMS : Aside0 (b'.length < b.length) := ⟨by have := HN.out.1; omega⟩
      rcases Nat.lt_or_ge v 2147483648 with hvl | hvl
      all_goals
        have HVV := Aside0.mk hvl
      case' inl =>
        have hks3 : k = s := HN.out.2.2 hvl
        subst hks3
        have hdn : decide (2147483648 ≤ v) = false := decide_eq_false (by omega)
        rw [hdn] at HRest
        have hvi : V < 2147483648 := by have := HV.out; omega
      case' inr =>
        have hdn : decide (2147483648 ≤ v) = true := decide_eq_true hvl
        rw [hdn] at HRest
        have hvi : (2147483648 : Int) ≤ V := by have := HV.out; omega
      all_goals
        have hv2 : V < 4294967296 := by have := HV.out; omega
        clear hdn HN HX hbl hvl hv
        go_wp2_with (first | ((with_reducible refine gate_builtin (b := .append) (xs := #[.tmp 63, .tmp 67]) rfl ?_); at_builtin; refine Kd.R_append_rows (Kd.int .u8) (w0 := w3) w3.heap.size rfl (.tmp 63) (.tmp 67) 24 5 (.int .u8 0) 1 rfl Try.underlying24 infoU8r rfl (by decide) (by omega) (.slice A6 all.length c6) all x _ _ _ (fun _ => True) (fun _ => False) rfl rfl ?aO ?aR (fun _ _ h => h) (fun _ h => h.elim) ?aF ?aB ?aS ?aL ?_; (case aR => rw [← hxk]; exact Kd.F_now HFx.out); (case aB => exact HB6.out); (case aF => exact (fun _ _ => trivial)); (case aO => exact HA6.out); (case aS => exact HB6.out.size); (case aL => have := HLA.out; omega); intro v1 w7 ho hb7 hg hat; obtain ⟨A9, c9, rfl, hl9, _⟩ := Kd.R_reads ho; obtain ⟨al2, hal2⟩ : ∃ al2, al2 = all ++ x := ⟨_, rfl⟩; rw [← hal2] at ho hl9 HRest ⊢; have HL2 : Aside0 (al2.length ≤ 60) := ⟨by rw [hal2, List.length_append]; exact HLA.out⟩; have HO := Aside0.mk ho; have HB7 := Aside0.mk hb7; have HL9 := Aside0.mk hl9; clear ho hb7 hg hat hl9 hal2))
        go_roundw
        case rel => exact ⟨A8, _, b', A9, c9, al2, _, by first | rfl | simp, rfl, by first | rfl | (simp; done) | (simp; omega), ⟨HB'L.out, HL9.out, HL2.out⟩, HFb, HO, HRest, HB7⟩
        case measure => have := HMS.out; simp only []; omega

theorem MarkHas_row (A0 : Option Addr) (c0 : Nat) (l0 : List Int) (a1 : Int) (w : World) (hr0 : Kd.C (Kd.int .u8) w A0 l0.length l0) (hc0 : l0.length ≤ c0) (g0_ : l0.length ≤ maxLen) (g1_ : l0.length * 1 ≤ 140737488351232) (g2_ : (∀ x ∈ l0, (Lit.int .u8 x).wf = true)) (g3_ : (Lit.int .i64 a1).wf = true) :
    Calls Try.prog 10 #[.slice A0 l0.length c0, .int .i64 a1] w fun e w' => e = .returned (.bool true) ∧ Below w.heap.size w w' :=
  MarkHas_full A0 c0 l0 a1 w hr0 hc0 g3_
end Go.Proofs.Ytdfnhmgopihfcaa.H
