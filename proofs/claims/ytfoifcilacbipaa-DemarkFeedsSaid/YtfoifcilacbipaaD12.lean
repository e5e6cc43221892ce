/- Walks of law04's laws: DemarkCuts. -/
import Derived.Test.YtfoifcilacbipaaD11
namespace Go.Proofs.Ytfoifcilacbipaa.G
open Go.RowKit Go.Proofs.Ytfoifcilacbipaa.P Go.Proofs.Ytfoifcilacbipaa.Pure Go.Proofs.YtfoifcilacbipaaW.PrintWords Go.Proofs.YtfoifcilacbipaaW.PrintLast Go.Proofs.YtfoifcilacbipaaW.PrintMore
set_option linter.unusedVariables false
set_option linter.unusedSimpArgs false

theorem dOver_out (s : DSt) (o : List (List Int)) : dOver { s with out := o ++ s.out } = { dOver s with out := o ++ (dOver s).out } := by
  unfold dOver
  simp only
  split
  · simp
  · rfl
theorem dStep_out (s : DSt) (o : List (List Int)) (x : Int) : dStep { s with out := o ++ s.out } x = { dStep s x with out := o ++ (dStep s x).out } := by
  obtain ⟨most, frags, mode, head, frag, left, n, ends, out, e⟩ := s
  rcases mode with _ | _ | mode
  · show dNumber ⟨most, frags, 0, head, frag, left, n, ends, o ++ out, e⟩ x = { dNumber ⟨most, frags, 0, head, frag, left, n, ends, out, e⟩ x with out := o ++ (dNumber ⟨most, frags, 0, head, frag, left, n, ends, out, e⟩ x).out }
    unfold dNumber
    simp only
    split
    · rfl
    · split
      · rfl
      · split
        · rfl
        · split
          · exact dOver_out ⟨most, frags, 0, [], frag, _, n + 1, _, out, e⟩ o
          · rfl
  · show dBody ⟨most, frags, 1, head, frag, left, n, ends, o ++ out, e⟩ x = { dBody ⟨most, frags, 1, head, frag, left, n, ends, out, e⟩ x with out := o ++ (dBody ⟨most, frags, 1, head, frag, left, n, ends, out, e⟩ x).out }
    unfold dBody
    simp only
    split
    · exact dOver_out ⟨most, frags, 1, head, frag ++ [x], left - 1, n, ends, out, e⟩ o
    · rfl
  · rfl
theorem dRun_out (xs : List Int) : ∀ (s : DSt) (o : List (List Int)), dRun { s with out := o ++ s.out } xs = { dRun s xs with out := o ++ (dRun s xs).out } := by
  induction xs with
  | nil => intro s o; rfl
  | cons x xs ih => intro s o; rw [dRun_cons, dStep_out, ih, dRun_cons]

/-- A piece more: what is told of it comes behind what was told. -/
theorem dRun_more (t : DSt) (xs : List Int) : { dRun { t with out := [] } xs with out := [] } = { dRun t xs with out := [] } ∧ t.out ++ (dRun { t with out := [] } xs).out = (dRun t xs).out := by
  have h := dRun_out xs { t with out := [] } t.out
  have h2 : ({ ({ t with out := [] } : DSt) with out := t.out ++ ({ t with out := [] } : DSt).out } : DSt) = t := by simp
  rw [h2] at h
  rw [h]
  exact ⟨rfl, rfl⟩

theorem take_piece (l : List Int) (a b : Nat) (h : a ≤ b) : l.take b = l.take a ++ (l.take b).drop a := by
  have h2 := (List.take_append_drop a (l.take b)).symm
  rw [List.take_take, Nat.min_eq_left h] at h2
  exact h2

theorem dStep_most (s : DSt) (x : Int) : (dStep s x).most = s.most := by
  obtain ⟨most, frags, mode, head, frag, left, n, ends, out, e⟩ := s
  rcases mode with _ | _ | mode
  · show (dNumber _ x).most = most
    unfold dNumber
    simp only
    split
    · rfl
    · split
      · rfl
      · split
        · rfl
        · split
          · unfold dOver; split <;> rfl
          · rfl
  · show (dBody _ x).most = most
    unfold dBody
    simp only
    split
    · unfold dOver; split <;> rfl
    · rfl
  · rfl
theorem dRun_most (xs : List Int) : ∀ s : DSt, (dRun s xs).most = s.most := by
  induction xs with
  | nil => intro s; rfl
  | cons x xs ih => intro s; rw [dRun_cons, ih, dStep_most]

theorem F_piece {k : IntKind} {W : World} {ok : Nat → Prop} {A : Option Addr} {l : List Int} {c lo hi : Nat} (h : Kd.F (Kd.int k) W ok A l.length l) (h0 : lo < l.length) (h1 : lo ≤ hi) (h2 : hi ≤ l.length) (hc : l.length ≤ c) : Kd.F (Kd.int k) W ok (A.map (fun x => x.add lo)) ((l.take hi).drop lo).length ((l.take hi).drop lo) := by
  have h3 := Kd.F_mid h h1 h2 hc
  rw [if_neg (by omega), show (Kd.int k).sz = 1 from rfl, Nat.mul_one] at h3
  exact h3

attribute [local go_sem] max2_int min2_int max_two min_two

set_option maxHeartbeats 8000000 in
set_option maxRecDepth 100000 in
theorem DemarkCuts_walk (A0 : Option Addr) (c0 : Nat) (l0 : List Int) (a1 : Int) (a2 : Int) (A3 : Option Addr) (c3 : Nat) (l3 : List Int) (A4 : Option Addr) (c4 : Nat) (l4 : List Int) (w : World) (hr0 : Kd.C (Kd.int .u8) w A0 l0.length l0) (hc0 : l0.length ≤ c0) (hr3 : Kd.C (Kd.int .i64) w A3 l3.length l3) (hc3 : l3.length ≤ c3) (hr4 : Kd.C (Kd.int .i64) w A4 l4.length l4) (hc4 : l4.length ≤ c4) (g0_ : l0.length ≤ maxLen) (g1_ : l0.length * 1 ≤ 140737488351232) (g2_ : (∀ x ∈ l0, (Lit.int .u8 x).wf = true)) (g3_ : (Lit.int .i64 a1).wf = true) (g4_ : (Lit.int .i64 a2).wf = true) (g5_ : l3.length ≤ maxLen) (g6_ : l3.length * 8 ≤ 140737488351232) (g7_ : (∀ x ∈ l3, (Lit.int .i64 x).wf = true)) (g8_ : l4.length ≤ maxLen) (g9_ : l4.length * 8 ≤ 140737488351232) (g10_ : (∀ x ∈ l4, (Lit.int .i64 x).wf = true)) :
    Calls Try.prog 7 #[.slice A0 l0.length c0, .int .i64 a1, .int .i64 a2, .slice A3 l3.length c3, .slice A4 l4.length c4] w fun e w' => e = .returned (.bool true) ∧ Below w.heap.size w w' := by
  have HR0 := Aside0.mk hr0
  have HC0 := Aside0.mk hc0
  have HR3 := Aside0.mk hr3
  have HC3 := Aside0.mk hc3
  have HR4 := Aside0.mk hr4
  have HC4 := Aside0.mk hc4
  have HG7 := Aside0.mk g7_
  have HG10 := Aside0.mk g10_
  clear hr0 hc0 hr3 hc3 hr4 hc4 g0_ g1_ g2_ g5_ g6_ g7_ g8_ g9_ g10_
  go_enter Try.func7, Try.ntmps7
  go_wp2_with fail
  refine (Few_law A0 c0 l0 100 (by omega) _ HR0.out HC0.out).mono ?_
  rintro r w1 ⟨Af, cf, rfl, hr1, hb1⟩
  obtain ⟨few, hfew⟩ : ∃ few, few = l0.take 100 := ⟨_, rfl⟩
  rw [← hfew] at hr1 ⊢
  have HL : Aside0 (few.length ≤ 100) := ⟨by rw [hfew, List.length_take]; omega⟩
  have HR1 := Aside0.mk (Kd.F_mono (Kd.R_F (Kd.R_bound hr1)) (fun k hk => hk.2.2.1))
  have HC1 := Aside0.mk (Kd.R_reads' hr1).2.1
  have HB1 := Aside0.mk hb1
  clear hr1 hb1 hfew
  go_wp2_with fail
  refine (Around_law a1 101 _ g3_ (by omega) (by omega)).mono ?_
  rintro r w2 ⟨m, hm, rfl, n1, rfl⟩
  go_wp2_with fail
  refine (Around_law a2 6 _ g4_ (by omega) (by omega)).mono ?_
  rintro r w2 ⟨y, hy, rfl, n2, rfl⟩
  obtain ⟨w2, hw2⟩ : ∃ w2, w2 = w1.drewN (n1 + n2) := ⟨_, rfl⟩
  have HB2 : Aside0 (Below w1.heap.size w1 w2) := ⟨by rw [hw2]; exact pw_below_drewN (Below.refl _ _) _⟩
  have HS2 : Aside0 (w2.heap.size = w1.heap.size) := ⟨by rw [hw2]; rfl⟩
  go_wp2_with fail
  have HIN : Aside0 (dIn (m : Int) (1 + (y : Int)) = true) := ⟨by unfold dIn; simp only [Bool.and_eq_true, decide_eq_true_eq]; omega⟩
  rw [← hw2]
  clear hw2
  refine (New_law (m : Int) (1 + (y : Int)) w1.heap.size w2 HIN.out (by have := HS2.out; omega)).mono ?_
  rintro r w3 ⟨okX, rfl, hd3, ho3, hb3⟩
  have HX3 := Aside0.mk hd3
  have HO3 := Aside0.mk ho3
  have HB3 := Aside0.mk (below_then HB2.out HB2.out.size hb3)
  clear hd3 ho3 hb3
  go_wp2_with fail
  refine (New_law (m : Int) (1 + (y : Int)) w1.heap.size w3 HIN.out HB3.out.size).mono ?_
  rintro r w4 ⟨okY, rfl, hd4, ho4, hb4⟩
  have HX4 := Aside0.mk (DL_below HX3.out hb4)
  have HY4 := Aside0.mk hd4
  have HYX : Aside0 (∀ k, okY k → ¬ okX k) := ⟨fun k hk hx => by have := ho4 k hk; have := (HX3.out.2.1 k hx).2; omega⟩
  have HB4 := Aside0.mk (below_then HB3.out HB3.out.size hb4)
  obtain ⟨gx, hgx⟩ : ∃ gx, gx = w2.heap.size := ⟨_, rfl⟩
  obtain ⟨gy, hgy⟩ : ∃ gy, gy = w3.heap.size := ⟨_, rfl⟩
  rw [← hgx] at HX4 ⊢
  rw [← hgy] at HY4 ⊢
  clear hd4 ho4 hb4 HX3 HO3 HB3 hgx hgy
  obtain ⟨d0, hd0⟩ : ∃ d0, d0 = dNew (m : Int) (1 + (y : Int)) := ⟨_, rfl⟩
  rw [← hd0] at HX4 HY4
  have HD0 := Aside0.mk hd0
  clear hd0
  go_wp2_with fail
  have HI0 : Aside0 (DInv d0 0) := ⟨HY4.out.2.2⟩
  have HP4 : Aside0 (LP w1.heap.size okX okY w4 gx { dRun d0 (few.take 0) with out := [] } (.slice none 0 0) (dRun d0 (few.take 0)).out) := ⟨by
    rw [HD0.out] at HX4 ⊢
    exact ⟨HX4.out, Kd.N_nil _ _ _ _ _, fun k hk => ⟨(HY4.out.2.1 k hk).2, HYX.out k hk⟩, HB4.out.size⟩⟩
  go_loopw [18, 20, 21] (fun pv av iv w' => ∃ (Ap : Option Addr) (cp : Nat) (at_ i : Nat) (okZ : Nat → Prop), pv = .slice Ap (dRun d0 (few.take at_)).out.length cp ∧ av = .int .i64 (at_ : Int) ∧ iv = .int .i64 (i : Int) ∧ Aside0 (at_ ≤ few.length ∧ i ≤ 9 * at_ + 8) ∧ Aside0 (LP w1.heap.size okZ okY w' gx { dRun d0 (few.take at_) with out := [] } pv (dRun d0 (few.take at_)).out) ∧ Aside0 (DL w1.heap.size okY w' gy d0 0) ∧ Aside0 (Below w1.heap.size w1 w')) (fun pv av iv _ => (9 * few.length + 9 - intOf iv).toNat)
  case atStart => exact ⟨none, 0, 0, 0, okX, by rw [HD0.out]; rfl, rfl, rfl, ⟨by omega⟩, by rw [HD0.out] at HP4 ⊢; exact HP4, HY4, HB4⟩
  case round =>
    obtain ⟨Ap, cp, at_, i, okZ, rfl, rfl, rfl, HI, HP, HY, HB⟩ := hrel
    rcases Nat.lt_or_ge at_ few.length with hlt | hge
    · have hlt' : (at_ : Int) < (few.length : Int) := by omega
      go_wp2_with fail
      refine (piece_law A3 c3 l3 i _ (Kd.C_below HR3.out (below_then HB1.out HB1.out.size HB.out)) HC3.out HG7.out).mono ?_
      rintro r w5 ⟨n, hn1, hn2, rfl, hb5⟩
      have HP5 := Aside0.mk (LP_below HP.out hb5)
      have HY5 := Aside0.mk (DL_below HY.out hb5)
      have HB5 := Aside0.mk (below_then HB.out HB.out.size hb5)
      have HFW := Aside0.mk (Kd.F_below HR1.out HB5.out)
      have HL' := HL.out
      have HN := Aside0.mk hn2
      clear hb5 HP HY HB hn2
      have x3 := HC1.out
      have x4 := HI.out.2
      rcases Nat.lt_or_ge few.length (at_ + n) with hq | hq
      · obtain ⟨xs, hxs⟩ : ∃ xs, xs = (few.take (few.length)).drop at_ := ⟨_, rfl⟩
        have hxl : xs.length = few.length - at_ := by rw [hxs, List.length_drop, List.length_take]; omega
        have HXS := Aside0.mk hxs
        have HXL := Aside0.mk hxl
        clear hxs hxl
        go_wp2_with fail
        have hcall := Feed_join w1.heap.size okZ okY gx _ _ _ (Af.map (fun x => x.add at_)) (cf - at_) xs w5 HP5.out (by rw [HXL.out]; omega) (by rw [HXL.out]; omega) (by rw [HXS.out]; exact Kd.F_mono (F_piece HFW.out hlt (by omega) (by omega) x3) (fun k hk => ⟨fun hz => by have := (HP5.out.d.2.1 k hz).1; omega, Nat.lt_of_lt_of_le hk HB5.out.size⟩))
        rw [HXL.out] at hcall
        refine hcall.mono ?_
        clear hcall
        rintro r w6 ⟨A2, c2, okN, okp, okE, rfl, hj, hol⟩
        obtain ⟨outs, houts⟩ : ∃ outs, outs = (dRun { dRun d0 (few.take at_) with out := [] } xs).out := ⟨_, rfl⟩
        rw [← houts] at hj hol ⊢
        have HJ := Aside0.mk hj
        have HOL := Aside0.mk hol
        have HOU := Aside0.mk houts
        clear hj hol houts
        have HTN : Aside0 (dRun (dRun d0 (few.take at_)) xs = dRun d0 few) := ⟨by rw [← dRun_append, HXS.out, ← take_piece few at_ few.length (by omega), List.take_length]⟩
        have HOE : Aside0 ((dRun d0 (few.take at_)).out ++ outs = (dRun d0 few).out) := ⟨by rw [HOU.out, (dRun_more _ xs).2, HTN.out]⟩
        have HSE : Aside0 ({ dRun { dRun d0 (few.take at_) with out := [] } xs with out := [] } = { dRun d0 few with out := [] }) := ⟨by rw [(dRun_more _ xs).1, HTN.out]⟩
        have HPL : Aside0 ((dRun d0 (few.take at_)).out.length ≤ 100) := ⟨by have := (dInv_run (few.take at_) HI0.out).out; rw [List.length_take] at this; omega⟩
        go_wp2_with (first | ((with_reducible refine gate_builtin (b := .append) (xs := #[.tmp 72, .tmp 78]) rfl ?_); at_builtin; refine Kd.N_append_rows (Kd.slice 5 (Kd.int .u8)) (w0 := w6) 0 rfl (.tmp 72) (.tmp 78) 42 28 (.slice none 0 0) 24 rfl Try.underlying42 infoSl rfl (by decide) (by decide) (.slice Ap (dRun d0 (few.take at_)).out.length cp) (dRun d0 (few.take at_)).out outs A2 outs.length c2 okN okp rfl rfl HJ.out.n HJ.out.f HJ.out.fp HJ.out.fresh (Below.refl 0 _) (Nat.zero_le _) ?aL ?_; (case aL => have := HPL.out; have := HOL.out; have := HXL.out; omega); intro v1 w7 hq1 hb1 hg1 hat1; rw [HOE.out] at hq1; have HQ := Aside0.mk hq1; have HG := Aside0.mk hg1; clear hq1 hb1 hg1 hat1; obtain ⟨A7, c7, rfl⟩ := Kd.N_slice HQ.out))
        obtain ⟨hlp, hfrm⟩ := HJ.out.next _ _ _ HQ.out HG.out
        rw [HSE.out] at hlp
        have HLP := Aside0.mk hlp
        have HFRM := Aside0.mk hfrm
        have HY7 := Aside0.mk (DL_frm HY5.out hfrm (fun k hk h => h.2 hk))
        have HB7 := Aside0.mk (Frm.below HB5.out hfrm (Nat.le_refl _) (fun k h => h.1))
        clear hlp hfrm HJ HQ HG HSE HOE HTN HPL HOU HP5 HY5
        refine (Held_quiet _ _ _ _ HLP.out.d.1 (by have := HLP.out.d.2.2.head; omega) (by have := HLP.out.d.2.2.frag; have := HLP.out.d.2.2.most1; omega)).mono ?_
        obtain ⟨v, hv⟩ : ∃ v, v = (({ dRun d0 few with out := [] } : DSt).head.length : Int) + (({ dRun d0 few with out := [] } : DSt).frag.length : Int) := ⟨_, rfl⟩
        have hv2 : v ≤ (m : Int) + 3 := by
          have h1 : (dRun d0 (few)).head.length ≤ 3 := HLP.out.d.2.2.head
          have h2 : ((dRun d0 (few)).frag.length : Int) ≤ (dRun d0 (few)).most := HLP.out.d.2.2.frag
          have h3 : (dRun d0 (few)).most = (m : Int) := by rw [dRun_most, HD0.out]; rfl
          have h4 : v = ((dRun d0 (few)).head.length : Int) + ((dRun d0 (few)).frag.length : Int) := hv
          omega
        have hv3 : 0 ≤ v := by rw [hv]; omega
        rw [← hv]
        clear hv
        rintro r w8 ⟨rfl, hf8⟩
        have HLP8 := Aside0.mk (LP_frm HLP.out hf8 (fun _ _ h => h))
        have HY8 := Aside0.mk (DL_frm HY7.out hf8 (fun _ _ h => h))
        have HB8 := Aside0.mk (Frm.below HB7.out hf8 (Nat.le_refl _) (fun _ h => h.elim))
        clear hf8 HLP HY7 HB7
        go_wp2_with fail
        go_roundw
        case rel => exact ⟨A7, c7, few.length, i + 1, okE, by rw [List.take_length], rfl, rfl, ⟨by have := HN.out; have := HI.out; omega⟩, by rw [List.take_length]; exact HLP8, HY8, HB8⟩
        case measure => show ((9 : Int) * (few.length : Int) + 9 - ((i : Int) + 1)).toNat < ((9 : Int) * (few.length : Int) + 9 - (i : Int)).toNat; have := HI.out; omega
      · obtain ⟨xs, hxs⟩ : ∃ xs, xs = (few.take (at_ + n)).drop at_ := ⟨_, rfl⟩
        have hxl : xs.length = n := by rw [hxs, List.length_drop, List.length_take]; omega
        have HXS := Aside0.mk hxs
        have HXL := Aside0.mk hxl
        clear hxs hxl
        go_wp2_with fail
        have hcall := Feed_join w1.heap.size okZ okY gx _ _ _ (Af.map (fun x => x.add at_)) (cf - at_) xs w5 HP5.out (by rw [HXL.out]; omega) (by rw [HXL.out]; omega) (by rw [HXS.out]; exact Kd.F_mono (F_piece HFW.out hlt (by omega) (by omega) x3) (fun k hk => ⟨fun hz => by have := (HP5.out.d.2.1 k hz).1; omega, Nat.lt_of_lt_of_le hk HB5.out.size⟩))
        rw [HXL.out] at hcall
        refine hcall.mono ?_
        clear hcall
        rintro r w6 ⟨A2, c2, okN, okp, okE, rfl, hj, hol⟩
        obtain ⟨outs, houts⟩ : ∃ outs, outs = (dRun { dRun d0 (few.take at_) with out := [] } xs).out := ⟨_, rfl⟩
        rw [← houts] at hj hol ⊢
        have HJ := Aside0.mk hj
        have HOL := Aside0.mk hol
        have HOU := Aside0.mk houts
        clear hj hol houts
        have HTN : Aside0 (dRun (dRun d0 (few.take at_)) xs = dRun d0 (few.take (at_ + n))) := ⟨by rw [← dRun_append, HXS.out, ← take_piece few at_ (at_ + n) (by omega)]⟩
        have HOE : Aside0 ((dRun d0 (few.take at_)).out ++ outs = (dRun d0 (few.take (at_ + n))).out) := ⟨by rw [HOU.out, (dRun_more _ xs).2, HTN.out]⟩
        have HSE : Aside0 ({ dRun { dRun d0 (few.take at_) with out := [] } xs with out := [] } = { dRun d0 (few.take (at_ + n)) with out := [] }) := ⟨by rw [(dRun_more _ xs).1, HTN.out]⟩
        have HPL : Aside0 ((dRun d0 (few.take at_)).out.length ≤ 100) := ⟨by have := (dInv_run (few.take at_) HI0.out).out; rw [List.length_take] at this; omega⟩
        go_wp2_with (first | ((with_reducible refine gate_builtin (b := .append) (xs := #[.tmp 72, .tmp 78]) rfl ?_); at_builtin; refine Kd.N_append_rows (Kd.slice 5 (Kd.int .u8)) (w0 := w6) 0 rfl (.tmp 72) (.tmp 78) 42 28 (.slice none 0 0) 24 rfl Try.underlying42 infoSl rfl (by decide) (by decide) (.slice Ap (dRun d0 (few.take at_)).out.length cp) (dRun d0 (few.take at_)).out outs A2 outs.length c2 okN okp rfl rfl HJ.out.n HJ.out.f HJ.out.fp HJ.out.fresh (Below.refl 0 _) (Nat.zero_le _) ?aL ?_; (case aL => have := HPL.out; have := HOL.out; have := HXL.out; omega); intro v1 w7 hq1 hb1 hg1 hat1; rw [HOE.out] at hq1; have HQ := Aside0.mk hq1; have HG := Aside0.mk hg1; clear hq1 hb1 hg1 hat1; obtain ⟨A7, c7, rfl⟩ := Kd.N_slice HQ.out))
        obtain ⟨hlp, hfrm⟩ := HJ.out.next _ _ _ HQ.out HG.out
        rw [HSE.out] at hlp
        have HLP := Aside0.mk hlp
        have HFRM := Aside0.mk hfrm
        have HY7 := Aside0.mk (DL_frm HY5.out hfrm (fun k hk h => h.2 hk))
        have HB7 := Aside0.mk (Frm.below HB5.out hfrm (Nat.le_refl _) (fun k h => h.1))
        clear hlp hfrm HJ HQ HG HSE HOE HTN HPL HOU HP5 HY5
        refine (Held_quiet _ _ _ _ HLP.out.d.1 (by have := HLP.out.d.2.2.head; omega) (by have := HLP.out.d.2.2.frag; have := HLP.out.d.2.2.most1; omega)).mono ?_
        obtain ⟨v, hv⟩ : ∃ v, v = (({ dRun d0 (few.take (at_ + n)) with out := [] } : DSt).head.length : Int) + (({ dRun d0 (few.take (at_ + n)) with out := [] } : DSt).frag.length : Int) := ⟨_, rfl⟩
        have hv2 : v ≤ (m : Int) + 3 := by
          have h1 : (dRun d0 (few.take (at_ + n))).head.length ≤ 3 := HLP.out.d.2.2.head
          have h2 : ((dRun d0 (few.take (at_ + n))).frag.length : Int) ≤ (dRun d0 (few.take (at_ + n))).most := HLP.out.d.2.2.frag
          have h3 : (dRun d0 (few.take (at_ + n))).most = (m : Int) := by rw [dRun_most, HD0.out]; rfl
          have h4 : v = ((dRun d0 (few.take (at_ + n))).head.length : Int) + ((dRun d0 (few.take (at_ + n))).frag.length : Int) := hv
          omega
        have hv3 : 0 ≤ v := by rw [hv]; omega
        rw [← hv]
        clear hv
        rintro r w8 ⟨rfl, hf8⟩
        have HLP8 := Aside0.mk (LP_frm HLP.out hf8 (fun _ _ h => h))
        have HY8 := Aside0.mk (DL_frm HY7.out hf8 (fun _ _ h => h))
        have HB8 := Aside0.mk (Frm.below HB7.out hf8 (Nat.le_refl _) (fun _ h => h.elim))
        clear hf8 HLP HY7 HB7
        go_wp2_with fail
        go_roundw
        case rel => exact ⟨A7, c7, (at_ + n), i + 1, okE, rfl, rfl, rfl, ⟨by have := HN.out; have := HI.out; omega⟩, HLP8, HY8, HB8⟩
        case measure => show ((9 : Int) * (few.length : Int) + 9 - ((i : Int) + 1)).toNat < ((9 : Int) * (few.length : Int) + 9 - (i : Int)).toNat; have := HI.out; omega
    · have hie : at_ = few.length := by have := HI.out.1; omega
      subst hie
      rw [List.take_length] at HP
      have HP0 := HP
      clear HP
      rw [List.take_length]
      go_wp2_with fail
      obtain ⟨wE, hwE⟩ : ∃ wE, wE = wr := ⟨_, rfl⟩
      obtain ⟨Y2, hY2⟩ : ∃ Y2 : Nat → Prop, Y2 = fun k => k < wE.heap.size ∧ ¬ okY k := ⟨_, rfl⟩
      have HE := Aside0.mk hwE
      have HY2 : Aside0 (∀ k, Y2 k ↔ k < wE.heap.size ∧ ¬ okY k) := ⟨fun k => by rw [hY2]⟩
      clear hwE hY2
      rw [← HE.out] at HP0 HY HB ⊢
      have HPy : Aside0 (LP w1.heap.size okY Y2 wE gy { dRun d0 (few.take 0) with out := [] } (.slice none 0 0) (dRun d0 (few.take 0)).out) := ⟨by
        have h := HY.out
        have hd : ({ dRun d0 (few.take 0) with out := [] } : DSt) = d0 ∧ (dRun d0 (few.take 0)).out = [] := by rw [HD0.out]; exact ⟨rfl, rfl⟩
        rw [hd.1, hd.2]
        exact ⟨h, Kd.N_nil _ _ _ _ _, fun k hk => (HY2.out k).1 hk, HB.out.size⟩⟩
      go_loopw [19, 20, 23] (fun pv av iv w' => ∃ (Ap : Option Addr) (cp : Nat) (at_ i : Nat) (okZ : Nat → Prop), pv = .slice Ap (dRun d0 (few.take at_)).out.length cp ∧ av = .int .i64 (at_ : Int) ∧ iv = .int .i64 (i : Int) ∧ Aside0 (at_ ≤ few.length ∧ i ≤ 9 * at_ + 8) ∧ Aside0 (LP w1.heap.size okZ Y2 w' gy { dRun d0 (few.take at_) with out := [] } pv (dRun d0 (few.take at_)).out) ∧ Aside0 (Frm (fun k => w1.heap.size ≤ k ∧ ¬ Y2 k) wE w') ∧ Aside0 (Below w1.heap.size w1 w')) (fun pv av iv _ => (9 * few.length + 9 - intOf iv).toNat)
      case atStart => exact ⟨none, 0, 0, 0, okY, by rw [HD0.out]; rfl, rfl, rfl, ⟨by omega⟩, by rw [HD0.out] at HPy ⊢; exact HPy, ⟨Frm.refl _ _⟩, HB⟩
      case round =>
        clear HB
        obtain ⟨Ap, cp, at_, i, okZ, rfl, rfl, rfl, HI, HP, HF, HB⟩ := hrel
        rcases Nat.lt_or_ge at_ few.length with hlt | hge
        · have hlt' : (at_ : Int) < (few.length : Int) := by omega
          go_wp2_with fail
          refine (piece_law A4 c4 l4 i _ (Kd.C_below HR4.out (below_then HB1.out HB1.out.size HB.out)) HC4.out HG10.out).mono ?_
          rintro r w5 ⟨n, hn1, hn2, rfl, hb5⟩
          have HP5 := Aside0.mk (LP_below HP.out hb5)
          have HF5 := Aside0.mk (HF.out.trans (Frm.of_below (ok := fun k => w1.heap.size ≤ k ∧ ¬ Y2 k) hb5))
          have HB5 := Aside0.mk (below_then HB.out HB.out.size hb5)
          have HFW := Aside0.mk (Kd.F_below HR1.out HB5.out)
          have HL' := HL.out
          have HN := Aside0.mk hn2
          clear hb5 HP HF HB hn2
          have x3 := HC1.out
          have x4 := HI.out.2
          rcases Nat.lt_or_ge few.length (at_ + n) with hq | hq
          · obtain ⟨xs, hxs⟩ : ∃ xs, xs = (few.take (few.length)).drop at_ := ⟨_, rfl⟩
            have hxl : xs.length = few.length - at_ := by rw [hxs, List.length_drop, List.length_take]; omega
            have HXS := Aside0.mk hxs
            have HXL := Aside0.mk hxl
            clear hxs hxl
            go_wp2_with fail
            have hcall := Feed_join w1.heap.size okZ Y2 gy _ _ _ (Af.map (fun x => x.add at_)) (cf - at_) xs w5 HP5.out (by rw [HXL.out]; omega) (by rw [HXL.out]; omega) (by rw [HXS.out]; exact Kd.F_mono (F_piece HFW.out hlt (by omega) (by omega) x3) (fun k hk => ⟨fun hz => by have := (HP5.out.d.2.1 k hz).1; omega, Nat.lt_of_lt_of_le hk HB5.out.size⟩))
            rw [HXL.out] at hcall
            refine hcall.mono ?_
            clear hcall
            rintro r w6 ⟨A2, c2, okN, okp, okE, rfl, hj, hol⟩
            obtain ⟨outs, houts⟩ : ∃ outs, outs = (dRun { dRun d0 (few.take at_) with out := [] } xs).out := ⟨_, rfl⟩
            rw [← houts] at hj hol ⊢
            have HJ := Aside0.mk hj
            have HOL := Aside0.mk hol
            have HOU := Aside0.mk houts
            clear hj hol houts
            have HTN : Aside0 (dRun (dRun d0 (few.take at_)) xs = dRun d0 few) := ⟨by rw [← dRun_append, HXS.out, ← take_piece few at_ few.length (by omega), List.take_length]⟩
            have HOE : Aside0 ((dRun d0 (few.take at_)).out ++ outs = (dRun d0 few).out) := ⟨by rw [HOU.out, (dRun_more _ xs).2, HTN.out]⟩
            have HSE : Aside0 ({ dRun { dRun d0 (few.take at_) with out := [] } xs with out := [] } = { dRun d0 few with out := [] }) := ⟨by rw [(dRun_more _ xs).1, HTN.out]⟩
            have HPL : Aside0 ((dRun d0 (few.take at_)).out.length ≤ 100) := ⟨by have := (dInv_run (few.take at_) HI0.out).out; rw [List.length_take] at this; omega⟩
            go_wp2_with (first | ((with_reducible refine gate_builtin (b := .append) (xs := #[.tmp 100, .tmp 106]) rfl ?_); at_builtin; refine Kd.N_append_rows (Kd.slice 5 (Kd.int .u8)) (w0 := w6) 0 rfl (.tmp 100) (.tmp 106) 42 28 (.slice none 0 0) 24 rfl Try.underlying42 infoSl rfl (by decide) (by decide) (.slice Ap (dRun d0 (few.take at_)).out.length cp) (dRun d0 (few.take at_)).out outs A2 outs.length c2 okN okp rfl rfl HJ.out.n HJ.out.f HJ.out.fp HJ.out.fresh (Below.refl 0 _) (Nat.zero_le _) ?aL ?_; (case aL => have := HPL.out; have := HOL.out; have := HXL.out; omega); intro v1 w7 hq1 hb1 hg1 hat1; rw [HOE.out] at hq1; have HQ := Aside0.mk hq1; have HG := Aside0.mk hg1; clear hq1 hb1 hg1 hat1; obtain ⟨A7, c7, rfl⟩ := Kd.N_slice HQ.out))
            obtain ⟨hlp, hfrm⟩ := HJ.out.next _ _ _ HQ.out HG.out
            rw [HSE.out] at hlp
            have HLP := Aside0.mk hlp
            have HFRM := Aside0.mk hfrm
            have HFR7 := Aside0.mk (HF5.out.trans hfrm)
            have HB7 := Aside0.mk (Frm.below HB5.out hfrm (Nat.le_refl _) (fun k h => h.1))
            clear hlp hfrm HJ HQ HG HSE HOE HTN HPL HOU HP5 HF5
            go_roundw
            case rel => exact ⟨A7, c7, few.length, i + 1, okE, by rw [List.take_length], rfl, rfl, ⟨by have := HN.out; have := HI.out; omega⟩, by rw [List.take_length]; exact HLP, HFR7, HB7⟩
            case measure => show ((9 : Int) * (few.length : Int) + 9 - ((i : Int) + 1)).toNat < ((9 : Int) * (few.length : Int) + 9 - (i : Int)).toNat; have := HI.out; omega
          · obtain ⟨xs, hxs⟩ : ∃ xs, xs = (few.take (at_ + n)).drop at_ := ⟨_, rfl⟩
            have hxl : xs.length = n := by rw [hxs, List.length_drop, List.length_take]; omega
            have HXS := Aside0.mk hxs
            have HXL := Aside0.mk hxl
            clear hxs hxl
            go_wp2_with fail
            have hcall := Feed_join w1.heap.size okZ Y2 gy _ _ _ (Af.map (fun x => x.add at_)) (cf - at_) xs w5 HP5.out (by rw [HXL.out]; omega) (by rw [HXL.out]; omega) (by rw [HXS.out]; exact Kd.F_mono (F_piece HFW.out hlt (by omega) (by omega) x3) (fun k hk => ⟨fun hz => by have := (HP5.out.d.2.1 k hz).1; omega, Nat.lt_of_lt_of_le hk HB5.out.size⟩))
            rw [HXL.out] at hcall
            refine hcall.mono ?_
            clear hcall
            rintro r w6 ⟨A2, c2, okN, okp, okE, rfl, hj, hol⟩
            obtain ⟨outs, houts⟩ : ∃ outs, outs = (dRun { dRun d0 (few.take at_) with out := [] } xs).out := ⟨_, rfl⟩
            rw [← houts] at hj hol ⊢
            have HJ := Aside0.mk hj
            have HOL := Aside0.mk hol
            have HOU := Aside0.mk houts
            clear hj hol houts
            have HTN : Aside0 (dRun (dRun d0 (few.take at_)) xs = dRun d0 (few.take (at_ + n))) := ⟨by rw [← dRun_append, HXS.out, ← take_piece few at_ (at_ + n) (by omega)]⟩
            have HOE : Aside0 ((dRun d0 (few.take at_)).out ++ outs = (dRun d0 (few.take (at_ + n))).out) := ⟨by rw [HOU.out, (dRun_more _ xs).2, HTN.out]⟩
            have HSE : Aside0 ({ dRun { dRun d0 (few.take at_) with out := [] } xs with out := [] } = { dRun d0 (few.take (at_ + n)) with out := [] }) := ⟨by rw [(dRun_more _ xs).1, HTN.out]⟩
            have HPL : Aside0 ((dRun d0 (few.take at_)).out.length ≤ 100) := ⟨by have := (dInv_run (few.take at_) HI0.out).out; rw [List.length_take] at this; omega⟩
            go_wp2_with (first | ((with_reducible refine gate_builtin (b := .append) (xs := #[.tmp 100, .tmp 106]) rfl ?_); at_builtin; refine Kd.N_append_rows (Kd.slice 5 (Kd.int .u8)) (w0 := w6) 0 rfl (.tmp 100) (.tmp 106) 42 28 (.slice none 0 0) 24 rfl Try.underlying42 infoSl rfl (by decide) (by decide) (.slice Ap (dRun d0 (few.take at_)).out.length cp) (dRun d0 (few.take at_)).out outs A2 outs.length c2 okN okp rfl rfl HJ.out.n HJ.out.f HJ.out.fp HJ.out.fresh (Below.refl 0 _) (Nat.zero_le _) ?aL ?_; (case aL => have := HPL.out; have := HOL.out; have := HXL.out; omega); intro v1 w7 hq1 hb1 hg1 hat1; rw [HOE.out] at hq1; have HQ := Aside0.mk hq1; have HG := Aside0.mk hg1; clear hq1 hb1 hg1 hat1; obtain ⟨A7, c7, rfl⟩ := Kd.N_slice HQ.out))
            obtain ⟨hlp, hfrm⟩ := HJ.out.next _ _ _ HQ.out HG.out
            rw [HSE.out] at hlp
            have HLP := Aside0.mk hlp
            have HFRM := Aside0.mk hfrm
            have HFR7 := Aside0.mk (HF5.out.trans hfrm)
            have HB7 := Aside0.mk (Frm.below HB5.out hfrm (Nat.le_refl _) (fun k h => h.1))
            clear hlp hfrm HJ HQ HG HSE HOE HTN HPL HOU HP5 HF5
            go_roundw
            case rel => exact ⟨A7, c7, (at_ + n), i + 1, okE, rfl, rfl, rfl, ⟨by have := HN.out; have := HI.out; omega⟩, HLP, HFR7, HB7⟩
            case measure => show ((9 : Int) * (few.length : Int) + 9 - ((i : Int) + 1)).toNat < ((9 : Int) * (few.length : Int) + 9 - (i : Int)).toNat; have := HI.out; omega
        · have hie : at_ = few.length := by have := HI.out.1; omega
          subst hie
          rw [List.take_length] at HP ⊢
          have HPL : Aside0 ((dRun d0 few).out.length ≤ 100) := ⟨by have := (dInv_run few HI0.out).out; have := HL.out; omega⟩
          have HNP := Aside0.mk (Kd.N_step (Kd.N_bound HP0.out.n) (fun k hk hlt => HF.out.block k hlt (fun hn => hn.2 ((HY2.out k).2 ⟨hk.2, hk.1.2.2⟩))))
          have HDX := Aside0.mk (DL_frm HP0.out.d HF.out (fun k hk hn => hn.2 ((HY2.out k).2 ⟨(HP0.out.d.2.1 k hk).2, fun hy => (HP0.out.y k hy).2 hk⟩)))
          have HDY := Aside0.mk HP.out.d
          have HNQ := Aside0.mk HP.out.n
          clear HP HP0 HF HY
          go_wp2_with fail
          refine (SameBytes_law _ _ _ _ (dRun d0 few).out (by have := HPL.out; omega) _ (Kd.N_reads' HNP.out).2.2 (Kd.N_reads' HNP.out).2.1 (Kd.N_reads' HNQ.out).2.2 (Kd.N_reads' HNQ.out).2.1).mono ?_
          rintro r w5 ⟨rfl, n5, rfl⟩
          have HX5 := Aside0.mk (DL_below HDX.out (pw_below_drewN (Below.refl _ _) n5))
          have HY5 := Aside0.mk (DL_below HDY.out (pw_below_drewN (Below.refl _ _) n5))
          have HB5 := Aside0.mk (pw_below_drewN HB.out n5)
          clear HNP HNQ HDX HDY
          obtain ⟨sx, hsx⟩ : ∃ sx : DSt, sx = { dRun d0 few with out := [] } := ⟨_, rfl⟩
          rw [← hsx] at HX5 HY5
          clear hsx
          go_wp2_with fail
          refine (Errno_calls_d _ _ _ _ HX5.out.1).mono ?_
          rintro r w6 ⟨rfl, hw6⟩
          rw [hw6]
          clear hw6
          go_wp2_with fail
          refine (Errno_calls_d _ _ _ _ HY5.out.1).mono ?_
          rintro r w6 ⟨rfl, hw6⟩
          rw [hw6]
          clear hw6
          go_wp2_with fail
          obtain ⟨v, hv⟩ : ∃ v, v = (sx.head.length : Int) + (sx.frag.length : Int) := ⟨_, rfl⟩
          obtain ⟨cl, hcl⟩ : ∃ cl, cl = dClean sx := ⟨_, rfl⟩
          have HV := Aside0.mk hv
          have HCL := Aside0.mk hcl
          clear hv hcl
          refine (Held_quiet _ _ _ _ HX5.out.1 (by have := HX5.out.2.2.head; omega) (by have := HX5.out.2.2.frag; have := HX5.out.2.2.most1; omega)).mono ?_
          rw [← HV.out]
          rintro r w6 ⟨rfl, hf6⟩
          have HX6 := Aside0.mk (DL_frm HX5.out hf6 (fun _ _ h => h))
          have HY6 := Aside0.mk (DL_frm HY5.out hf6 (fun _ _ h => h))
          have HB6 := Aside0.mk (Frm.below HB5.out hf6 (Nat.le_refl _) (fun _ h => h.elim))
          clear hf6 HX5 HY5 HB5
          go_wp2_with fail
          refine (Held_quiet _ _ _ _ HY6.out.1 (by have := HY6.out.2.2.head; omega) (by have := HY6.out.2.2.frag; have := HY6.out.2.2.most1; omega)).mono ?_
          rw [← HV.out]
          rintro r w7 ⟨rfl, hf7⟩
          have HX7 := Aside0.mk (DL_frm HX6.out hf7 (fun _ _ h => h))
          have HY7 := Aside0.mk (DL_frm HY6.out hf7 (fun _ _ h => h))
          have HB7 := Aside0.mk (Frm.below HB6.out hf7 (Nat.le_refl _) (fun _ h => h.elim))
          clear hf7 HX6 HY6 HB6
          go_wp2_with fail
          refine (Clean_calls_d _ _ _ _ HX7.out.1 (by have := HX7.out.2.2.head; omega) (by have := HX7.out.2.2.frag; have := HX7.out.2.2.most1; omega)).mono ?_
          rw [← HCL.out]
          rintro r w8 ⟨rfl, hf8⟩
          have HY8 := Aside0.mk (DL_frm HY7.out hf8 (fun _ _ h => h))
          have HB8 := Aside0.mk (Frm.below HB7.out hf8 (Nat.le_refl _) (fun _ h => h.elim))
          clear hf8 HX7 HY7 HB7
          go_wp2_with fail
          refine (Clean_calls_d _ _ _ _ HY8.out.1 (by have := HY8.out.2.2.head; omega) (by have := HY8.out.2.2.frag; have := HY8.out.2.2.most1; omega)).mono ?_
          rw [← HCL.out]
          rintro r w9 ⟨rfl, hf9⟩
          have HB9 := Aside0.mk (Frm.below HB8.out hf9 (Nat.le_refl _) (fun _ h => h.elim))
          clear hf9 HY8 HB8
          go_wp2_with fail
          refine (lives04 _).mono ?_
          rintro r w10 ⟨rfl, hb10⟩
          have HB10 := Aside0.mk (below_then HB9.out HB9.out.size hb10)
          clear hb10
          go_wp2_with fail
          go_ret
          exact ⟨rfl, below_then HB1.out HB1.out.size HB10.out⟩
end Go.Proofs.Ytfoifcilacbipaa.G
