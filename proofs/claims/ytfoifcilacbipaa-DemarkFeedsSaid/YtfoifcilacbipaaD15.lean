/- Walks of law04's laws: DemarkRound. -/
import Derived.Test.YtfoifcilacbipaaD14
namespace Go.Proofs.Ytfoifcilacbipaa.G
open Go.RowKit Go.Proofs.Ytfoifcilacbipaa.P Go.Proofs.Ytfoifcilacbipaa.Pure Go.Proofs.YtfoifcilacbipaaW.PrintWords Go.Proofs.YtfoifcilacbipaaW.PrintLast Go.Proofs.YtfoifcilacbipaaW.PrintMore
set_option linter.unusedVariables false
set_option linter.unusedSimpArgs false

attribute [local go_sem] max2_int min2_int max_two min_two

/-- What a loop over pieces holds: what was told so far of the first bytes, and the deframer as it is behind them. -/
theorem LP_start {B : Nat} {okX : Nat → Prop} {w : World} {g : Nat} {m f : Int} (h : DL B okX w g (dNew m f) 0) (hB : B ≤ w.heap.size) (few : List Int) : LP B okX (fun _ => False) w g { dRun (dNew m f) (few.take 0) with out := [] } (.slice none 0 0) (dRun (dNew m f) (few.take 0)).out :=
  ⟨h, Kd.N_nil _ _ _ _ _, fun _ hk => hk.elim, hB⟩

set_option maxHeartbeats 8000000 in
set_option maxRecDepth 100000 in
theorem DemarkRound_walk (A0 : Option Addr) (c0 : Nat) (l0 : List (List Int)) (A1 : Option Addr) (c1 : Nat) (l1 : List Int) (A2 : Option Addr) (c2 : Nat) (l2 : List Int) (w : World) (hr0 : Kd.C (Kd.slice 5 (Kd.int .u8)) w A0 l0.length l0) (hc0 : l0.length ≤ c0) (hr1 : Kd.C (Kd.int .i64) w A1 l1.length l1) (hc1 : l1.length ≤ c1) (hr2 : Kd.C (Kd.int .i64) w A2 l2.length l2) (hc2 : l2.length ≤ c2) (g0_ : l0.length ≤ maxLen) (g1_ : (∀ y0_ ∈ l0, (∀ y1_ ∈ y0_, (Lit.int .u8 y1_).wf = true))) (g2_ : l1.length ≤ maxLen) (g3_ : l1.length * 8 ≤ 140737488351232) (g4_ : (∀ x ∈ l1, (Lit.int .i64 x).wf = true)) (g5_ : l2.length ≤ maxLen) (g6_ : l2.length * 8 ≤ 140737488351232) (g7_ : (∀ x ∈ l2, (Lit.int .i64 x).wf = true)) :
    Calls Try.prog 6 #[.slice A0 l0.length c0, .slice A1 l1.length c1, .slice A2 l2.length c2] w fun e w' => e = .returned (.bool true) ∧ Below w.heap.size w w' := by
  have HR0 := Aside0.mk hr0
  have HC0 := Aside0.mk hc0
  have HR1 := Aside0.mk hr1
  have HC1 := Aside0.mk hc1
  have HR2 := Aside0.mk hr2
  have HC2 := Aside0.mk hc2
  have HG4 := Aside0.mk g4_
  have HG7 := Aside0.mk g7_
  clear hr0 hc0 hr1 hc1 hr2 hc2 g0_ g1_ g2_ g3_ g4_ g5_ g6_ g7_
  go_enter Try.func6, Try.ntmps6
  go_wp2_with fail
  refine (Good_law A0 c0 l0 A1 c1 l1 _ HR0.out HC0.out HR1.out HC1.out HG4.out).mono ?_
  rintro r w1 ⟨Al, cl, As, cs, s, hs1, hs2, rfl, hl1, hs3, hb1⟩
  have HRL : Aside0 ((gRecs l0).length ≤ 5 ∧ ∀ r ∈ gRecs l0, r.length ≤ 40) := ⟨gRecs_len l0, gRecs_each l0⟩
  obtain ⟨l, hl⟩ : ∃ l, l = gRecs l0 := ⟨_, rfl⟩
  rw [← hl] at hl1 HRL ⊢
  obtain ⟨si, hsi⟩ : ∃ si, si = ints s := ⟨_, rfl⟩
  rw [← hsi] at hs3 ⊢
  have HSI := Aside0.mk hsi
  have HS1 := Aside0.mk hs1
  have HL1 := Aside0.mk (Kd.R_F hl1)
  have HLC := Aside0.mk (Kd.R_reads' hl1).2.1
  have HS3 := Aside0.mk (Kd.R_reads' hs3)
  have HB1 := Aside0.mk hb1
  clear hl hsi hs1 hs2 hl1 hs3 hb1
  go_wp2_with fail
  have hcall := AllM_law As cs s Al cl l w1 HS1.out HRL.out.1 HRL.out.2 (by rw [← HSI.out]; exact HS3.out.2.2) (by rw [← HSI.out]; exact HS3.out.2.1) (Kd.F_now HL1.out) HLC.out
  rw [← HSI.out] at hcall
  refine hcall.mono ?_
  clear hcall
  rintro r w2 ⟨Af, cf, rfl, hf, hb2⟩
  have HFL : Aside0 ((allF s 0 l).length ≤ 1000) := ⟨by have := allF_len HS1.out l 0 HRL.out.2; have := HRL.out.1; omega⟩
  obtain ⟨few, hfew⟩ : ∃ few, few = allF s 0 l := ⟨_, rfl⟩
  rw [← hfew] at hf HFL ⊢
  have HFW0 := Aside0.mk hfew
  have HR1 := Aside0.mk (Kd.F_mono (Kd.R_F (Kd.R_bound hf)) (fun k hk => hk.2.2.1))
  have HC1 := Aside0.mk (Kd.R_reads' hf).2.1
  have HL2 := Aside0.mk (Kd.F_below HL1.out hb2)
  have HB2 := Aside0.mk (below_then HB1.out HB1.out.size hb2)
  clear hfew hf hb2 HL1 HS3 HSI HB1
  go_wp2_with fail
  refine (New_law 40 40 w2.heap.size w2 rfl (Nat.le_refl _)).mono ?_
  rintro r w3 ⟨okX, rfl, hd3, ho3, hb3⟩
  obtain ⟨gx, hgx⟩ : ∃ gx, gx = w2.heap.size := ⟨_, rfl⟩
  replace hd3 : DL w2.heap.size okX w3 gx (dNew 40 40) 0 := by rw [hgx]; exact hd3
  rw [← hgx]
  obtain ⟨d0, hd0⟩ : ∃ d0, d0 = dNew 40 40 := ⟨_, rfl⟩
  have HI0 : Aside0 (DInv d0 0) := ⟨by rw [hd0]; exact dInv_new rfl⟩
  have HP3 : Aside0 (LP w2.heap.size okX (fun _ => False) w3 gx { dRun d0 (few.take 0) with out := [] } (.slice none 0 0) (dRun d0 (few.take 0)).out) := ⟨by rw [hd0]; exact LP_start hd3 hb3.size few⟩
  have HOUT0 : Aside0 ((dRun d0 (few.take 0)).out = []) := ⟨by rw [hd0]; rfl⟩
  obtain ⟨left2, ends2, hrun⟩ : ∃ left2 ends2, dRun d0 few = ⟨40, 40, 0, [], [], left2, 0, ends2, l, 0⟩ := by
    rw [hd0, HFW0.out]
    exact dRun_allF HS1.out 40 40 (by omega) (by omega) l 0 0 false [] HRL.out.2 (fun j hj => by
      have h1 := recF_count HS1.out (0 + j) (l.getD j []) (by
        rw [List.getD_eq_getElem?_getD, List.getElem?_eq_getElem hj]
        exact HRL.out.2 _ (List.getElem_mem hj))
      omega)
  have HRUN := Aside0.mk hrun
  have HB3 := Aside0.mk hb3
  clear hd3 ho3 hb3 hgx hd0 hrun
  go_wp2_with fail
  go_loopw [13, 14, 15] (fun pv av iv w' => ∃ (Ap : Option Addr) (cp : Nat) (at_ i : Nat) (okZ : Nat → Prop), pv = .slice Ap (dRun d0 (few.take at_)).out.length cp ∧ av = .int .i64 (at_ : Int) ∧ iv = .int .i64 (i : Int) ∧ Aside0 (at_ ≤ few.length ∧ i ≤ 9 * at_ + 8) ∧ Aside0 (LP w2.heap.size okZ (fun _ => False) w' gx { dRun d0 (few.take at_) with out := [] } pv (dRun d0 (few.take at_)).out) ∧ Aside0 (Below w2.heap.size w2 w')) (fun pv av iv _ => (9 * few.length + 9 - intOf iv).toNat)
  case atStart => exact ⟨none, 0, 0, 0, okX, by rw [HOUT0.out]; rfl, rfl, rfl, ⟨by omega⟩, HP3, HB3⟩
  case round =>
    clear HP3 HB3
    obtain ⟨Ap, cp, at_, i, okZ, rfl, rfl, rfl, HI, HP, HB⟩ := hrel
    rcases Nat.lt_or_ge at_ few.length with hlt | hge
    · have hlt' : (at_ : Int) < (few.length : Int) := by omega
      go_wp2_with fail
      refine (piece_law A2 c2 l2 i _ (Kd.C_below HR2.out (below_then HB2.out HB2.out.size HB.out)) HC2.out HG7.out).mono ?_
      rintro r w5 ⟨n, hn1, hn2, rfl, hb5⟩
      have HP5 := Aside0.mk (LP_below HP.out hb5)
      have HB5 := Aside0.mk (below_then HB.out HB.out.size hb5)
      have HFW := Aside0.mk (Kd.F_below HR1.out HB5.out)
      have HL' := HFL.out
      have HN := Aside0.mk hn2
      clear hb5 HP HB hn2
      have x3 := HC1.out
      have x4 := HI.out.2
      rcases Nat.lt_or_ge few.length (at_ + n) with hq | hq
      · obtain ⟨xs, hxs⟩ : ∃ xs, xs = (few.take (few.length)).drop at_ := ⟨_, rfl⟩
        have hxl : xs.length = few.length - at_ := by rw [hxs, List.length_drop, List.length_take]; omega
        have HXS := Aside0.mk hxs
        have HXL := Aside0.mk hxl
        clear hxs hxl
        go_wp2_with fail
        have hcall := Feed_join w2.heap.size okZ (fun _ => False) gx _ _ _ (Af.map (fun x => x.add at_)) (cf - at_) xs w5 HP5.out (by rw [HXL.out]; omega) (by rw [HXL.out]; omega) (by rw [HXS.out]; exact Kd.F_mono (F_piece HFW.out hlt (by omega) (by omega) x3) (fun k hk => ⟨fun hz => by have := (HP5.out.d.2.1 k hz).1; omega, Nat.lt_of_lt_of_le hk HB5.out.size⟩))
        rw [HXL.out] at hcall
        refine hcall.mono ?_
        clear hcall
        rintro r w6 ⟨A2, c2, okN, okp, okE, rfl, hj, hol⟩
        obtain ⟨outs, houts⟩ : ∃ outs, outs = (dRun { dRun d0 (few.take at_) with out := [] } xs).out := ⟨_, rfl⟩
        rw [← houts] at hj hol ⊢
        have HJ := Aside0.mk hj
        have HOL := Aside0.mk hol
        have HOU := Aside0.mk houts
        clear hj hol houts
        have HTN : Aside0 (dRun (dRun d0 (few.take at_)) xs = dRun d0 (few.take (few.length))) := ⟨by rw [← dRun_append, HXS.out, ← take_piece few at_ (few.length) (by omega)]⟩
        have HOE : Aside0 ((dRun d0 (few.take at_)).out ++ outs = (dRun d0 (few.take (few.length))).out) := ⟨by rw [HOU.out, (dRun_more _ xs).2, HTN.out]⟩
        have HSE : Aside0 ({ dRun { dRun d0 (few.take at_) with out := [] } xs with out := [] } = { dRun d0 (few.take (few.length)) with out := [] }) := ⟨by rw [(dRun_more _ xs).1, HTN.out]⟩
        have HPL : Aside0 ((dRun d0 (few.take at_)).out.length ≤ 1000) := ⟨by have := (dInv_run (few.take at_) HI0.out).out; rw [List.length_take] at this; omega⟩
        go_wp2_with (first | ((with_reducible refine gate_builtin (b := .append) (xs := #[.tmp 57, .tmp 63]) rfl ?_); at_builtin; refine Kd.N_append_rows (Kd.slice 5 (Kd.int .u8)) (w0 := w6) 0 rfl (.tmp 57) (.tmp 63) 42 28 (.slice none 0 0) 24 rfl Try.underlying42 infoSl rfl (by decide) (by decide) (.slice Ap (dRun d0 (few.take at_)).out.length cp) (dRun d0 (few.take at_)).out outs A2 outs.length c2 okN okp rfl rfl HJ.out.n HJ.out.f HJ.out.fp HJ.out.fresh (Below.refl 0 _) (Nat.zero_le _) ?aL ?_; (case aL => have := HPL.out; have := HOL.out; have := HXL.out; omega); intro v1 w7 hq1 hb1 hg1 hat1; rw [HOE.out] at hq1; have HQ := Aside0.mk hq1; have HG := Aside0.mk hg1; clear hq1 hb1 hg1 hat1; obtain ⟨A7, c7, rfl⟩ := Kd.N_slice HQ.out))
        obtain ⟨hlp, hfrm⟩ := HJ.out.next _ _ _ HQ.out HG.out
        rw [HSE.out] at hlp
        have HLP := Aside0.mk hlp
        have HB7 := Aside0.mk (Frm.below HB5.out hfrm (Nat.le_refl _) (fun k h => h.1))
        clear hlp hfrm HJ HQ HG HSE HOE HTN HPL HOU HP5 HB5
        go_roundw
        case rel => exact ⟨A7, c7, few.length, i + 1, okE, by rw [List.take_length], rfl, rfl, ⟨by have := HN.out; have := HI.out; omega⟩, by rw [List.take_length] at HLP ⊢; exact HLP, HB7⟩
        case measure => show ((9 : Int) * (few.length : Int) + 9 - ((i : Int) + 1)).toNat < ((9 : Int) * (few.length : Int) + 9 - (i : Int)).toNat; have := HI.out; omega
      · obtain ⟨xs, hxs⟩ : ∃ xs, xs = (few.take (at_ + n)).drop at_ := ⟨_, rfl⟩
        have hxl : xs.length = n := by rw [hxs, List.length_drop, List.length_take]; omega
        have HXS := Aside0.mk hxs
        have HXL := Aside0.mk hxl
        clear hxs hxl
        go_wp2_with fail
        have hcall := Feed_join w2.heap.size okZ (fun _ => False) gx _ _ _ (Af.map (fun x => x.add at_)) (cf - at_) xs w5 HP5.out (by rw [HXL.out]; omega) (by rw [HXL.out]; omega) (by rw [HXS.out]; exact Kd.F_mono (F_piece HFW.out hlt (by omega) (by omega) x3) (fun k hk => ⟨fun hz => by have := (HP5.out.d.2.1 k hz).1; omega, Nat.lt_of_lt_of_le hk HB5.out.size⟩))
        rw [HXL.out] at hcall
        refine hcall.mono ?_
        clear hcall
        rintro r w6 ⟨A2, c2, okN, okp, okE, rfl, hj, hol⟩
        obtain ⟨outs, houts⟩ : ∃ outs, outs = (dRun { dRun d0 (few.take at_) with out := [] } xs).out := ⟨_, rfl⟩
        rw [← houts] at hj hol ⊢
        have HJ := Aside0.mk hj
        have HOL := Aside0.mk hol
        have HOU := Aside0.mk houts
        clear hj hol houts
        have HTN : Aside0 (dRun (dRun d0 (few.take at_)) xs = dRun d0 (few.take (at_ + n))) := ⟨by rw [← dRun_append, HXS.out, ← take_piece few at_ (at_ + n) (by omega)]⟩
        have HOE : Aside0 ((dRun d0 (few.take at_)).out ++ outs = (dRun d0 (few.take (at_ + n))).out) := ⟨by rw [HOU.out, (dRun_more _ xs).2, HTN.out]⟩
        have HSE : Aside0 ({ dRun { dRun d0 (few.take at_) with out := [] } xs with out := [] } = { dRun d0 (few.take (at_ + n)) with out := [] }) := ⟨by rw [(dRun_more _ xs).1, HTN.out]⟩
        have HPL : Aside0 ((dRun d0 (few.take at_)).out.length ≤ 1000) := ⟨by have := (dInv_run (few.take at_) HI0.out).out; rw [List.length_take] at this; omega⟩
        go_wp2_with (first | ((with_reducible refine gate_builtin (b := .append) (xs := #[.tmp 57, .tmp 63]) rfl ?_); at_builtin; refine Kd.N_append_rows (Kd.slice 5 (Kd.int .u8)) (w0 := w6) 0 rfl (.tmp 57) (.tmp 63) 42 28 (.slice none 0 0) 24 rfl Try.underlying42 infoSl rfl (by decide) (by decide) (.slice Ap (dRun d0 (few.take at_)).out.length cp) (dRun d0 (few.take at_)).out outs A2 outs.length c2 okN okp rfl rfl HJ.out.n HJ.out.f HJ.out.fp HJ.out.fresh (Below.refl 0 _) (Nat.zero_le _) ?aL ?_; (case aL => have := HPL.out; have := HOL.out; have := HXL.out; omega); intro v1 w7 hq1 hb1 hg1 hat1; rw [HOE.out] at hq1; have HQ := Aside0.mk hq1; have HG := Aside0.mk hg1; clear hq1 hb1 hg1 hat1; obtain ⟨A7, c7, rfl⟩ := Kd.N_slice HQ.out))
        obtain ⟨hlp, hfrm⟩ := HJ.out.next _ _ _ HQ.out HG.out
        rw [HSE.out] at hlp
        have HLP := Aside0.mk hlp
        have HB7 := Aside0.mk (Frm.below HB5.out hfrm (Nat.le_refl _) (fun k h => h.1))
        clear hlp hfrm HJ HQ HG HSE HOE HTN HPL HOU HP5 HB5
        go_roundw
        case rel => exact ⟨A7, c7, at_ + n, i + 1, okE, rfl, rfl, rfl, ⟨by have := HN.out; have := HI.out; omega⟩, HLP, HB7⟩
        case measure => show ((9 : Int) * (few.length : Int) + 9 - ((i : Int) + 1)).toNat < ((9 : Int) * (few.length : Int) + 9 - (i : Int)).toNat; have := HI.out; omega
    · have hie : at_ = few.length := by have := HI.out.1; omega
      subst hie
      rw [List.take_length, HRUN.out] at HP ⊢
      have HD := Aside0.mk HP.out.d
      have HNP := Aside0.mk HP.out.n
      have HLW := Aside0.mk (Kd.F_below HL2.out HB.out)
      have HRL5 := Aside0.mk HRL.out.1
      clear HP HR1 HC1 HL2
      go_wp2_with fail
      refine (SameBytes_law _ _ _ _ l (by have := HRL5.out; omega) _ (Kd.N_reads' HNP.out).2.2 (Kd.N_reads' HNP.out).2.1 (Kd.F_now HLW.out) HLC.out).mono ?_
      rintro r w5 ⟨rfl, n5, rfl⟩
      have HX5 := Aside0.mk (DL_below HD.out (pw_below_drewN (Below.refl _ _) n5))
      have HB5 := Aside0.mk (pw_below_drewN HB.out n5)
      clear HNP HD
      obtain ⟨sx, hsx⟩ : ∃ sx : DSt, sx = ⟨40, 40, 0, [], [], left2, 0, ends2, [], 0⟩ := ⟨_, rfl⟩
      replace HX5 : Aside0 (DL w2.heap.size okZ (wr.drewN n5) gx sx 0) := ⟨by rw [hsx]; exact HX5.out⟩
      have he : sx.e = 0 := by rw [hsx]
      have hh : sx.head.length = 0 := by rw [hsx]; rfl
      have hf : sx.frag.length = 0 := by rw [hsx]; rfl
      have hcl : dClean sx = true := by rw [hsx]; rfl
      have HE := Aside0.mk he
      have HH := Aside0.mk hh
      have HF := Aside0.mk hf
      have HCL := Aside0.mk hcl
      clear hsx he hh hf hcl
      go_wp2_with fail
      refine (Errno_calls_d _ _ _ _ HX5.out.1).mono ?_
      rw [HE.out]
      rintro r w6 ⟨rfl, hw6⟩
      rw [hw6]
      clear hw6
      go_wp2_with fail
      refine (Clean_calls_d _ _ _ _ HX5.out.1 (by have := HH.out; omega) (by have := HF.out; omega)).mono ?_
      rw [HCL.out]
      rintro r w8 ⟨rfl, hf8⟩
      have HX8 := Aside0.mk (DL_frm HX5.out hf8 (fun _ _ h => h))
      have HB8 := Aside0.mk (Frm.below HB5.out hf8 (Nat.le_refl _) (fun _ h => h.elim))
      clear hf8 HX5 HB5
      go_wp2_with fail
      refine (Held_quiet _ _ _ _ HX8.out.1 (by have := HH.out; omega) (by have := HF.out; omega)).mono ?_
      rw [HH.out, HF.out]
      rintro r w9 ⟨rfl, hf9⟩
      have HB9 := Aside0.mk (Frm.below HB8.out hf9 (Nat.le_refl _) (fun _ h => h.elim))
      clear hf9 HX8 HB8
      go_wp2_with fail
      refine (lives04 _).mono ?_
      rintro r w10 ⟨rfl, hb10⟩
      have HB10 := Aside0.mk (below_then HB9.out HB9.out.size hb10)
      clear hb10
      go_wp2_with fail
      go_ret
      exact ⟨rfl, below_then HB2.out HB2.out.size HB10.out⟩
end Go.Proofs.Ytfoifcilacbipaa.G
