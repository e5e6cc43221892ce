/- Walks of law04's laws: DemarkErrors. -/
import Derived.Test.YtfoifcilacbipaaD15
namespace Go.Proofs.Ytfoifcilacbipaa.G
open Go.RowKit Go.Proofs.Ytfoifcilacbipaa.P Go.Proofs.Ytfoifcilacbipaa.Pure Go.Proofs.YtfoifcilacbipaaW.PrintWords Go.Proofs.YtfoifcilacbipaaW.PrintLast Go.Proofs.YtfoifcilacbipaaW.PrintMore
set_option linter.unusedVariables false
set_option linter.unusedSimpArgs false

attribute [local go_sem] max2_int min2_int max_two min_two

theorem C_blk {w : World} {g t : Nat} {xs : List Int} {cs : Array Value} (h : w.heap[g]? = some (.cells cs t (0, 0))) (hcs : cs = (xs.map (Value.int .u8)).toArray) (hl : xs.length ≤ 1000000) : Kd.C (Kd.int .u8) w (some ⟨g, 0, none⟩) xs.length xs := by
  subst hcs
  refine ⟨rfl, by omega, fun _ => ⟨_, rfl, fun j p hj => ⟨[.int .u8 p], rfl, rfl, fun i u hu => ?_⟩⟩⟩
  rcases i with _ | i
  · injection hu with hu
    subst hu
    have h1 := blk_cell h j
    have h2 : (⟨g, 0, none⟩ : Addr).add (j * (Kd.int .u8).sz + 0) = ⟨g, j, none⟩ := by
      rw [show (Kd.int .u8).sz = 1 from rfl, Nat.mul_one, Nat.add_zero]
      rcases j with _ | j <;> simp [Addr.add]
    rw [h2, h1]
    simp [hj]
  · simp at hu

theorem alloc_size (w : World) (o : Obj) : (w.alloc o).heap.size = w.heap.size + 1 := by simp

def zeros12 : List Int := [0, 0, 0, 0, 0, 0, 0, 0, 0, 0, 0, 0]
theorem dRun_41 (left : Int) (ends : Bool) (l : List (List Int)) : ∃ left2 n2 ends2, dRun ⟨40, 2, 0, [], [], left, 0, ends, l, 0⟩ [0, 0, 0, 41, 1, 2] = ⟨40, 2, 2, [], [], left2, n2, ends2, l, 4⟩ := by
  have e : ([0, 0, 0, 41, 1, 2] : List Int) = beN 41 4 ++ [1, 2] := by decide
  rw [e, dRun_append, dRun_num _ _ _ _ _ _ _ _ _ (by omega) (by omega), if_neg (by omega), if_pos (by simp), dRun_two (by simp [dFail])]
  exact ⟨_, _, _, rfl⟩
theorem dRun_0 (left n : Int) (ends : Bool) (l : List (List Int)) (hn : n + 1 ≤ 2) : dRun ⟨40, 2, 0, [], [], left, n, ends, l, 0⟩ (beN 0 4) = ⟨40, 2, 0, [], [], 0, n + 1, false, l, 0⟩ := by
  rw [dRun_num _ _ _ _ _ _ _ _ _ (by omega) (by omega), if_neg (by omega), if_neg (by simp), if_pos (by omega)]
  unfold dOver
  rfl
theorem dRun_zeros (left : Int) (ends : Bool) (l : List (List Int)) : ∃ left2 n2 ends2, dRun ⟨40, 2, 0, [], [], left, 0, ends, l, 0⟩ zeros12 = ⟨40, 2, 2, [], [], left2, n2, ends2, l, 5⟩ := by
  have e : zeros12 = beN 0 4 ++ (beN 0 4 ++ beN 0 4) := by decide
  rw [e, dRun_append, dRun_append, dRun_0 _ _ _ _ (by omega), dRun_0 _ _ _ _ (by omega), dRun_num _ _ _ _ _ _ _ _ _ (by omega) (by omega), if_pos (by omega)]
  exact ⟨_, _, _, rfl⟩

theorem Few_all {l : List Int} {m : Nat} (h : l.length ≤ m) : l.take m = l := List.take_of_length_le h

set_option maxHeartbeats 8000000 in
set_option maxRecDepth 100000 in
theorem DemarkErrors_walk (A0 : Option Addr) (c0 : Nat) (l0 : List (List Int)) (a1 : Bool) (A2 : Option Addr) (c2 : Nat) (l2 : List (List Int)) (w : World) (hr0 : Kd.C (Kd.slice 5 (Kd.int .u8)) w A0 l0.length l0) (hc0 : l0.length ≤ c0) (hr2 : Kd.C (Kd.slice 5 (Kd.int .u8)) w A2 l2.length l2) (hc2 : l2.length ≤ c2) (g0_ : l0.length ≤ maxLen) (g1_ : (∀ y0_ ∈ l0, (∀ y1_ ∈ y0_, (Lit.int .u8 y1_).wf = true))) (g2_ : l2.length ≤ maxLen) (g3_ : (∀ y0_ ∈ l2, (∀ y1_ ∈ y0_, (Lit.int .u8 y1_).wf = true))) :
    Calls Try.prog 8 #[.slice A0 l0.length c0, .bool a1, .slice A2 l2.length c2] w fun e w' => e = .returned (.bool true) ∧ Below w.heap.size w w' := by
  have HR0 := Aside0.mk hr0
  have HC0 := Aside0.mk hc0
  have HR2 := Aside0.mk hr2
  have HC2 := Aside0.mk hc2
  obtain ⟨m, hm⟩ : ∃ m : Nat, m = min l0.length 3 := ⟨_, rfl⟩
  have hmin : (if 3 < (l0.length : Int) then 3 else (l0.length : Int)) = (m : Int) := by split <;> omega
  have hml : m ≤ l0.length := by omega
  have hmc : m ≤ c0 := by omega
  have HM3 : Aside0 (m ≤ 3) := ⟨by omega⟩
  have HRM : Aside0 (Kd.C (Kd.slice 5 (Kd.int .u8)) w A0 (l0.take m).length (l0.take m)) := ⟨Kd.C_take hr0 hml⟩
  have HLM : Aside0 ((l0.take m).length = m) := ⟨by rw [List.length_take]; omega⟩
  clear hr0 hc0 hr2 hc2 g0_ g1_ g2_ g3_ hm
  go_enter Try.func8, Try.ntmps8
  go_wp2_with fail
  have hcall := Good_law A0 c0 (l0.take m) none 0 [] w HRM.out (by rw [HLM.out]; exact hmc) (Kd.C_nil _ _) (Nat.le_refl _) (by simp)
  rw [HLM.out] at hcall
  refine hcall.mono ?_
  clear hcall
  rintro r w1 ⟨Al, cl, As, cs, s, hs1, hs2, rfl, hl1, hs3, hb1⟩
  have HRL : Aside0 ((gRecs (l0.take m)).length ≤ 3 ∧ ∀ r ∈ gRecs (l0.take m), r.length ≤ 40) := ⟨by have := gRecs_len2 (l0.take m); have := HLM.out; have := HM3.out; omega, gRecs_each _⟩
  obtain ⟨l, hl⟩ : ∃ l, l = gRecs (l0.take m) := ⟨_, rfl⟩
  rw [← hl] at hl1 HRL ⊢
  have HL1 := Aside0.mk (Kd.R_F hl1)
  have HLC := Aside0.mk (Kd.R_reads' hl1).2.1
  have HB1 := Aside0.mk hb1
  have HNS : Aside0 (SOk []) := ⟨⟨by simp, by simp⟩⟩
  clear hmin hml hmc HRM HLM HM3 hl hs1 hs2 hl1 hs3 hb1
  go_wp2_with fail
  refine (AllM_law none 0 [] Al cl l w1 HNS.out (by have := HRL.out.1; omega) HRL.out.2 (Kd.C_nil _ _) (Nat.le_refl _) (Kd.F_now HL1.out) HLC.out).mono ?_
  rintro r w2 ⟨Af, cf, rfl, hf, hb2⟩
  have HFL : Aside0 ((allF [] 0 l).length ≤ 1000) := ⟨by have := allF_len HNS.out l 0 HRL.out.2; have := HRL.out.1; omega⟩
  obtain ⟨few, hfew⟩ : ∃ few, few = allF [] 0 l := ⟨_, rfl⟩
  rw [← hfew] at hf HFL ⊢
  have HFW0 := Aside0.mk hfew
  have HR1 := Aside0.mk (Kd.F_mono (Kd.R_F (Kd.R_bound hf)) (fun k hk => hk.2.2.1))
  have HC1 := Aside0.mk (Kd.R_reads' hf).2.1
  have HL2 := Aside0.mk (Kd.F_below HL1.out hb2)
  have HB2 := Aside0.mk (below_then HB1.out HB1.out.size hb2)
  clear hfew hf hb2 HL1 HB1
  go_wp2_with fail
  refine (New_law 40 2 w2.heap.size w2 rfl (Nat.le_refl _)).mono ?_
  rintro r w3 ⟨okX, rfl, hd3, ho3, hb3⟩
  obtain ⟨gx, hgx⟩ : ∃ gx, gx = w2.heap.size := ⟨_, rfl⟩
  replace hd3 : DL w2.heap.size okX w3 gx (dNew 40 2) 0 := by rw [hgx]; exact hd3
  rw [← hgx]
  obtain ⟨d0, hd0⟩ : ∃ d0, d0 = dNew 40 2 := ⟨_, rfl⟩
  obtain ⟨left2, ends2, hrun⟩ : ∃ left2 ends2, dRun d0 few = ⟨40, 2, 0, [], [], left2, 0, ends2, l, 0⟩ := by
    rw [hd0, HFW0.out]
    exact dRun_allF HNS.out 40 2 (by omega) (by omega) l 0 0 false [] HRL.out.2 (fun j hj => by
      rw [show szOf [] (0 + j) = 4096 from rfl, mcount_le (by omega) (by
        rw [List.getD_eq_getElem?_getD, List.getElem?_eq_getElem hj]
        have := HRL.out.2 _ (List.getElem_mem hj)
        simp only [Option.getD_some]
        omega)]
      omega)
  rw [← hd0] at hd3
  have HD3 := Aside0.mk hd3
  have HRUN := Aside0.mk hrun
  have HB3 := Aside0.mk hb3
  clear hd3 ho3 hb3 hgx hd0 hrun
  cases a1
  · go_wp2_with fail
    obtain ⟨bad, hbad⟩ : ∃ bad : List Int, bad = [0, 0, 0, 41, 1, 2] := ⟨_, rfl⟩
    obtain ⟨w4, hw4⟩ : ∃ w4, w4 = w3.alloc (.cells #[.int .u8 0, .int .u8 0, .int .u8 0, .int .u8 41, .int .u8 1, .int .u8 2] 5) := ⟨_, rfl⟩
    have HBC : Aside0 (Kd.C (Kd.int .u8) w4 (some ⟨w3.heap.size, 0, none⟩) bad.length bad) := ⟨by rw [hw4, hbad]; exact C_blk (heap_alloc_new _ _) rfl (by decide)⟩
    have HBL : Aside0 (bad.length = 6) := ⟨by rw [hbad]; rfl⟩
    have HB4 : Aside0 (Below w3.heap.size w3 w4) := ⟨by rw [hw4]; exact (Below.refl _ _).alloc (Nat.le_refl _) _⟩
    have HGB : Aside0 (w3.heap.size = w3.heap.size) := ⟨rfl⟩
    obtain ⟨gb, hgb⟩ : ∃ gb, gb = w3.heap.size := ⟨_, rfl⟩
    rw [← hgb] at HBC ⊢
    try rw [← hw4]
    obtain ⟨lf3, n3, ends3, hrun3⟩ : ∃ lf3 n3 ends3, dRun d0 (few ++ bad) = ⟨40, 2, 2, [], [], lf3, n3, ends3, l, 4⟩ := by rw [dRun_append, HRUN.out, hbad]; exact dRun_41 left2 ends2 l
    have HRUN3 := Aside0.mk hrun3
    clear hbad hgb hw4 hrun3 HGB
    have HFW := Aside0.mk (Kd.F_below HR1.out (below_then HB3.out HB3.out.size HB4.out))
    refine (Few_law Af cf few 1000 (by omega) _ (Kd.F_now HFW.out) HC1.out).mono ?_
    rintro r w5 ⟨A5, c5, rfl, hr5, hb5⟩
    rw [Few_all HFL.out] at hr5 ⊢
    have HR5 := Aside0.mk hr5
    have HBC5 := Aside0.mk (Kd.C_below HBC.out hb5)
    rw [HBL.out] at HBC5
    have HB5 := Aside0.mk hb5
    clear hr5 hb5 HBC HFW HR1
    go_wp2_with (first | ((with_reducible refine gate_builtin (b := .append) (xs := #[.tmp 49, .tmp 50]) rfl ?_); at_builtin; refine Kd.R_append_rows (Kd.int .u8) (w0 := w4) w4.heap.size rfl (.tmp 49) (.tmp 50) 28 5 (.int .u8 0) 1 rfl Try.underlying28 infoU8r rfl (by decide) (by omega) (.slice A5 few.length c5) few bad (some ⟨gb, 0, none⟩) 6 6 (fun _ => True) (fun _ => False) rfl rfl HR5.out HBC5.out (fun _ _ h => h) (fun _ h => h.elim) (fun _ _ => trivial) HB5.out HB5.out.size ?aL ?_; (case aL => have := HFL.out; omega); intro v6 w6 ho6 hb6 hg6 hat6; obtain ⟨fb, hfb⟩ : ∃ fb, fb = few ++ bad := ⟨_, rfl⟩; rw [← hfb] at ho6; have HFB := Aside0.mk hfb; clear hfb; obtain ⟨A6, c6, rfl, hl6, _⟩ := Kd.R_reads ho6; have HO6 := Aside0.mk ho6; have HB6 := Aside0.mk hb6; have HC6 := Aside0.mk hl6; clear ho6 hb6 hg6 hat6 hl6))
    have HD6 := Aside0.mk (DL_below HD3.out (below_then HB4.out HB4.out.size HB6.out))
    have HLN : Aside0 (fb.length ≤ 1100) := ⟨by rw [HFB.out, List.length_append, HBL.out]; have := HFL.out; omega⟩
    have HB26 := Aside0.mk (below_then HB3.out HB3.out.size (below_then HB4.out HB4.out.size HB6.out))
    refine (Feed_law w2.heap.size okX gx d0 0 A6 c6 fb w6 HD6.out HB26.out.size HC6.out (by have := HLN.out; omega) (Kd.F_mono (Kd.R_F (Kd.R_bound HO6.out)) (fun k hk => ⟨fun hz => by have h1 := (HD3.out.2.1 k hz).2; have h2 := HB4.out.size; have h3 := hk.2.1; omega, hk.2.2.1⟩))).mono ?_
    rintro r w7 ⟨vo, okE, rfl, hn7, hd7, hs7, hfr7⟩
    rw [HFB.out, HRUN3.out] at hn7 hd7
    obtain ⟨A7, c7, rfl⟩ := Kd.N_slice hn7
    have HB27 := Aside0.mk (Frm.below HB26.out hfr7 (Nat.le_refl _) (fun k hk => (HD6.out.2.1 k hk).1))
    have HN7 := Aside0.mk (Kd.N_reads' hn7)
    have HL7 := Aside0.mk (Kd.F_below HL2.out HB27.out)
    obtain ⟨sx, hsx⟩ : ∃ sx : DSt, sx = ⟨40, 2, 2, [], [], lf3, n3, ends3, [], 4⟩ := ⟨_, rfl⟩
    replace hd7 : DL w2.heap.size okE w7 gx sx 0 := by rw [hsx]; exact hd7
    have HD7 := Aside0.mk hd7
    have HE : Aside0 (sx.e = 4) := ⟨by rw [hsx]⟩
    have HH : Aside0 (sx.head.length = 0) := ⟨by rw [hsx]; rfl⟩
    have HF : Aside0 (sx.frag.length = 0) := ⟨by rw [hsx]; rfl⟩
    have HCL : Aside0 (dClean sx = false) := ⟨by rw [hsx]; rfl⟩
    have HMO : Aside0 (2 ≤ sx.mode ∧ sx.out = [] ∧ { sx with out := [] } = sx) := ⟨by rw [hsx]; exact ⟨by simp, rfl, rfl⟩⟩
    clear hn7 hd7 hs7 hfr7 hsx HD6 HO6 HB6 HRUN3
    go_wp2_with fail
    refine (SameBytes_law _ _ _ _ l (by have := HRL.out.1; omega) _ HN7.out.2.2 HN7.out.2.1 (Kd.F_now HL7.out) HLC.out).mono ?_
    rintro r w8 ⟨rfl, n8, rfl⟩
    have HX8 := Aside0.mk (DL_below HD7.out (pw_below_drewN (Below.refl _ _) n8))
    have HB8 := Aside0.mk (pw_below_drewN HB27.out n8)
    clear HN7 HD7
    go_wp2_with fail
    refine (Errno_calls_d _ _ _ _ HX8.out.1).mono ?_
    rw [HE.out]
    rintro r w9 ⟨rfl, hw9⟩
    rw [hw9]
    clear hw9
    go_wp2_with fail
    refine (Held_quiet _ _ _ _ HX8.out.1 (by have := HH.out; omega) (by have := HF.out; omega)).mono ?_
    rw [HH.out, HF.out]
    rintro r w10 ⟨rfl, hf10⟩
    have HX10 := Aside0.mk (DL_frm HX8.out hf10 (fun _ _ h => h))
    have HB10 := Aside0.mk (Frm.below HB8.out hf10 (Nat.le_refl _) (fun _ h => h.elim))
    clear hf10 HX8 HB8
    go_wp2_with fail
    refine (Clean_calls_d _ _ _ _ HX10.out.1 (by have := HH.out; omega) (by have := HF.out; omega)).mono ?_
    rw [HCL.out]
    rintro r w11 ⟨rfl, hf11⟩
    have HX11 := Aside0.mk (DL_frm HX10.out hf11 (fun _ _ h => h))
    have HB11 := Aside0.mk (Frm.below HB10.out hf11 (Nat.le_refl _) (fun _ h => h.elim))
    clear hf11 HX10 HB10
    go_wp2_with fail
    refine (Good_law A2 c2 l2 none 0 [] _ (Kd.C_below HR2.out (below_then HB2.out HB2.out.size HB11.out)) HC2.out (Kd.C_nil _ _) (Nat.le_refl _) (by simp)).mono ?_
    rintro r w12 ⟨Ak, ck, At, ct, s2, ht1, ht2, rfl, hk1, ht3, hb12⟩
    have HRK : Aside0 ((gRecs l2).length ≤ 5 ∧ ∀ r ∈ gRecs l2, r.length ≤ 40) := ⟨gRecs_len l2, gRecs_each l2⟩
    obtain ⟨kk, hkk⟩ : ∃ kk, kk = gRecs l2 := ⟨_, rfl⟩
    rw [← hkk] at hk1 HRK ⊢
    obtain ⟨si, hsi⟩ : ∃ si, si = ints s2 := ⟨_, rfl⟩
    rw [← hsi] at ht3 ⊢
    have HSI := Aside0.mk hsi
    have HS1 := Aside0.mk ht1
    have HK1 := Aside0.mk (Kd.R_reads' hk1)
    have HS3 := Aside0.mk (Kd.R_reads' ht3)
    have HX12 := Aside0.mk (DL_below HX11.out hb12)
    have HB12 := Aside0.mk (below_then HB11.out HB11.out.size hb12)
    clear hkk hsi ht1 ht2 hk1 ht3 hb12 HX11 HB11
    go_wp2_with fail
    have hcall := AllM_law At ct s2 Ak ck kk w12 HS1.out HRK.out.1 HRK.out.2 (by rw [← HSI.out]; exact HS3.out.2.2) (by rw [← HSI.out]; exact HS3.out.2.1) HK1.out.2.2 HK1.out.2.1
    rw [← HSI.out] at hcall
    refine hcall.mono ?_
    clear hcall
    rintro r w13 ⟨An, cn, rfl, hn, hb13⟩
    have HNL : Aside0 ((allF s2 0 kk).length ≤ 1000) := ⟨by have := allF_len HS1.out kk 0 HRK.out.2; have := HRK.out.1; omega⟩
    obtain ⟨next, hnext⟩ : ∃ next, next = allF s2 0 kk := ⟨_, rfl⟩
    rw [← hnext] at hn HNL ⊢
    have HNN := Aside0.mk hn
    have HX13 := Aside0.mk (DL_below HX12.out hb13)
    have HB13 := Aside0.mk (below_then HB12.out HB12.out.size hb13)
    clear hnext hb13 hn HB12
    go_wp2_with fail
    refine (Feed_law w2.heap.size okE gx sx 0 An cn next w13 HX13.out HB13.out.size (Kd.R_reads' HNN.out).2.1 (by have := HNL.out; omega) (Kd.F_mono (Kd.R_F (Kd.R_bound HNN.out)) (fun k hk => ⟨fun hz => by have h1 := (HX12.out.2.1 k hz).2; have h3 := hk.2.1; omega, hk.2.2.1⟩))).mono ?_
    rintro r w14 ⟨vo, okG, rfl, hn14, hd14, hs14, hfr14⟩
    rw [dRun_two HMO.out.1, HMO.out.2.1] at hn14
    rw [dRun_two HMO.out.1, HMO.out.2.2] at hd14
    obtain ⟨A14, c14, rfl⟩ := Kd.N_slice hn14
    have HX14 := Aside0.mk hd14
    have HB14 := Aside0.mk (Frm.below HB13.out hfr14 (Nat.le_refl _) (fun k hk => (HX13.out.2.1 k hk).1))
    clear hn14 hd14 hs14 hfr14 HX13 HB13 HX12
    go_wp2_with fail
    refine (Errno_calls_d _ _ _ _ HX14.out.1).mono ?_
    rw [HE.out]
    rintro r w15 ⟨rfl, hw15⟩
    rw [hw15]
    clear hw15
    go_wp2_with fail
    refine (Held_quiet _ _ _ _ HX14.out.1 (by have := HH.out; omega) (by have := HF.out; omega)).mono ?_
    rw [HH.out, HF.out]
    rintro r w16 ⟨rfl, hf16⟩
    have HB16 := Aside0.mk (Frm.below HB14.out hf16 (Nat.le_refl _) (fun _ h => h.elim))
    clear hf16 HX14 HB14
    go_wp2_with fail
    refine (lives04 _).mono ?_
    rintro r w17 ⟨rfl, hb17⟩
    have HB17 := Aside0.mk (below_then HB16.out HB16.out.size hb17)
    clear hb17
    go_wp2_with fail
    go_ret
    exact ⟨rfl, below_then HB2.out HB2.out.size HB17.out⟩
  · go_wp2_with fail
    obtain ⟨bad, hbad⟩ : ∃ bad : List Int, bad = zeros12 := ⟨_, rfl⟩
    obtain ⟨w4, hw4⟩ : ∃ w4, w4 = (w3.alloc (.cells #[.int .u8 0, .int .u8 0, .int .u8 0, .int .u8 41, .int .u8 1, .int .u8 2] 5)).alloc (.cells #[.int .u8 0, .int .u8 0, .int .u8 0, .int .u8 0, .int .u8 0, .int .u8 0, .int .u8 0, .int .u8 0, .int .u8 0, .int .u8 0, .int .u8 0, .int .u8 0] 5) := ⟨_, rfl⟩
    have HBC : Aside0 (Kd.C (Kd.int .u8) w4 (some ⟨w3.heap.size + 1, 0, none⟩) bad.length bad) := ⟨by rw [hw4, hbad]; rw [show w3.heap.size + 1 = (w3.alloc (.cells #[.int .u8 0, .int .u8 0, .int .u8 0, .int .u8 41, .int .u8 1, .int .u8 2] 5)).heap.size from (alloc_size _ _).symm]; exact C_blk (heap_alloc_new _ _) rfl (by decide)⟩
    have HBL : Aside0 (bad.length = 12) := ⟨by rw [hbad]; rfl⟩
    have HB4 : Aside0 (Below w3.heap.size w3 w4) := ⟨by rw [hw4]; exact below_alloc (below_alloc (Below.refl _ _) _) _⟩
    have HGB : Aside0 (w3.heap.size + 1 = w3.heap.size + 1) := ⟨rfl⟩
    obtain ⟨gb, hgb⟩ : ∃ gb, gb = w3.heap.size + 1 := ⟨_, rfl⟩
    rw [← hgb] at HBC ⊢
    try rw [← hw4]
    obtain ⟨lf3, n3, ends3, hrun3⟩ : ∃ lf3 n3 ends3, dRun d0 (few ++ bad) = ⟨40, 2, 2, [], [], lf3, n3, ends3, l, 5⟩ := by rw [dRun_append, HRUN.out, hbad]; exact dRun_zeros left2 ends2 l
    have HRUN3 := Aside0.mk hrun3
    clear hbad hgb hw4 hrun3 HGB
    have HFW := Aside0.mk (Kd.F_below HR1.out (below_then HB3.out HB3.out.size HB4.out))
    refine (Few_law Af cf few 1000 (by omega) _ (Kd.F_now HFW.out) HC1.out).mono ?_
    rintro r w5 ⟨A5, c5, rfl, hr5, hb5⟩
    rw [Few_all HFL.out] at hr5 ⊢
    have HR5 := Aside0.mk hr5
    have HBC5 := Aside0.mk (Kd.C_below HBC.out hb5)
    rw [HBL.out] at HBC5
    have HB5 := Aside0.mk hb5
    clear hr5 hb5 HBC HFW HR1
    go_wp2_with (first | ((with_reducible refine gate_builtin (b := .append) (xs := #[.tmp 49, .tmp 50]) rfl ?_); at_builtin; refine Kd.R_append_rows (Kd.int .u8) (w0 := w4) w4.heap.size rfl (.tmp 49) (.tmp 50) 28 5 (.int .u8 0) 1 rfl Try.underlying28 infoU8r rfl (by decide) (by omega) (.slice A5 few.length c5) few bad (some ⟨gb, 0, none⟩) 12 12 (fun _ => True) (fun _ => False) rfl rfl HR5.out HBC5.out (fun _ _ h => h) (fun _ h => h.elim) (fun _ _ => trivial) HB5.out HB5.out.size ?aL ?_; (case aL => have := HFL.out; omega); intro v6 w6 ho6 hb6 hg6 hat6; obtain ⟨fb, hfb⟩ : ∃ fb, fb = few ++ bad := ⟨_, rfl⟩; rw [← hfb] at ho6; have HFB := Aside0.mk hfb; clear hfb; obtain ⟨A6, c6, rfl, hl6, _⟩ := Kd.R_reads ho6; have HO6 := Aside0.mk ho6; have HB6 := Aside0.mk hb6; have HC6 := Aside0.mk hl6; clear ho6 hb6 hg6 hat6 hl6))
    have HD6 := Aside0.mk (DL_below HD3.out (below_then HB4.out HB4.out.size HB6.out))
    have HLN : Aside0 (fb.length ≤ 1100) := ⟨by rw [HFB.out, List.length_append, HBL.out]; have := HFL.out; omega⟩
    have HB26 := Aside0.mk (below_then HB3.out HB3.out.size (below_then HB4.out HB4.out.size HB6.out))
    refine (Feed_law w2.heap.size okX gx d0 0 A6 c6 fb w6 HD6.out HB26.out.size HC6.out (by have := HLN.out; omega) (Kd.F_mono (Kd.R_F (Kd.R_bound HO6.out)) (fun k hk => ⟨fun hz => by have h1 := (HD3.out.2.1 k hz).2; have h2 := HB4.out.size; have h3 := hk.2.1; omega, hk.2.2.1⟩))).mono ?_
    rintro r w7 ⟨vo, okE, rfl, hn7, hd7, hs7, hfr7⟩
    rw [HFB.out, HRUN3.out] at hn7 hd7
    obtain ⟨A7, c7, rfl⟩ := Kd.N_slice hn7
    have HB27 := Aside0.mk (Frm.below HB26.out hfr7 (Nat.le_refl _) (fun k hk => (HD6.out.2.1 k hk).1))
    have HN7 := Aside0.mk (Kd.N_reads' hn7)
    have HL7 := Aside0.mk (Kd.F_below HL2.out HB27.out)
    obtain ⟨sx, hsx⟩ : ∃ sx : DSt, sx = ⟨40, 2, 2, [], [], lf3, n3, ends3, [], 5⟩ := ⟨_, rfl⟩
    replace hd7 : DL w2.heap.size okE w7 gx sx 0 := by rw [hsx]; exact hd7
    have HD7 := Aside0.mk hd7
    have HE : Aside0 (sx.e = 5) := ⟨by rw [hsx]⟩
    have HH : Aside0 (sx.head.length = 0) := ⟨by rw [hsx]; rfl⟩
    have HF : Aside0 (sx.frag.length = 0) := ⟨by rw [hsx]; rfl⟩
    have HCL : Aside0 (dClean sx = false) := ⟨by rw [hsx]; rfl⟩
    have HMO : Aside0 (2 ≤ sx.mode ∧ sx.out = [] ∧ { sx with out := [] } = sx) := ⟨by rw [hsx]; exact ⟨by simp, rfl, rfl⟩⟩
    clear hn7 hd7 hs7 hfr7 hsx HD6 HO6 HB6 HRUN3
    go_wp2_with fail
    refine (SameBytes_law _ _ _ _ l (by have := HRL.out.1; omega) _ HN7.out.2.2 HN7.out.2.1 (Kd.F_now HL7.out) HLC.out).mono ?_
    rintro r w8 ⟨rfl, n8, rfl⟩
    have HX8 := Aside0.mk (DL_below HD7.out (pw_below_drewN (Below.refl _ _) n8))
    have HB8 := Aside0.mk (pw_below_drewN HB27.out n8)
    clear HN7 HD7
    go_wp2_with fail
    refine (Errno_calls_d _ _ _ _ HX8.out.1).mono ?_
    rw [HE.out]
    rintro r w9 ⟨rfl, hw9⟩
    rw [hw9]
    clear hw9
    go_wp2_with fail
    refine (Held_quiet _ _ _ _ HX8.out.1 (by have := HH.out; omega) (by have := HF.out; omega)).mono ?_
    rw [HH.out, HF.out]
    rintro r w10 ⟨rfl, hf10⟩
    have HX10 := Aside0.mk (DL_frm HX8.out hf10 (fun _ _ h => h))
    have HB10 := Aside0.mk (Frm.below HB8.out hf10 (Nat.le_refl _) (fun _ h => h.elim))
    clear hf10 HX8 HB8
    go_wp2_with fail
    refine (Clean_calls_d _ _ _ _ HX10.out.1 (by have := HH.out; omega) (by have := HF.out; omega)).mono ?_
    rw [HCL.out]
    rintro r w11 ⟨rfl, hf11⟩
    have HX11 := Aside0.mk (DL_frm HX10.out hf11 (fun _ _ h => h))
    have HB11 := Aside0.mk (Frm.below HB10.out hf11 (Nat.le_refl _) (fun _ h => h.elim))
    clear hf11 HX10 HB10
    go_wp2_with fail
    refine (Good_law A2 c2 l2 none 0 [] _ (Kd.C_below HR2.out (below_then HB2.out HB2.out.size HB11.out)) HC2.out (Kd.C_nil _ _) (Nat.le_refl _) (by simp)).mono ?_
    rintro r w12 ⟨Ak, ck, At, ct, s2, ht1, ht2, rfl, hk1, ht3, hb12⟩
    have HRK : Aside0 ((gRecs l2).length ≤ 5 ∧ ∀ r ∈ gRecs l2, r.length ≤ 40) := ⟨gRecs_len l2, gRecs_each l2⟩
    obtain ⟨kk, hkk⟩ : ∃ kk, kk = gRecs l2 := ⟨_, rfl⟩
    rw [← hkk] at hk1 HRK ⊢
    obtain ⟨si, hsi⟩ : ∃ si, si = ints s2 := ⟨_, rfl⟩
    rw [← hsi] at ht3 ⊢
    have HSI := Aside0.mk hsi
    have HS1 := Aside0.mk ht1
    have HK1 := Aside0.mk (Kd.R_reads' hk1)
    have HS3 := Aside0.mk (Kd.R_reads' ht3)
    have HX12 := Aside0.mk (DL_below HX11.out hb12)
    have HB12 := Aside0.mk (below_then HB11.out HB11.out.size hb12)
    clear hkk hsi ht1 ht2 hk1 ht3 hb12 HX11 HB11
    go_wp2_with fail
    have hcall := AllM_law At ct s2 Ak ck kk w12 HS1.out HRK.out.1 HRK.out.2 (by rw [← HSI.out]; exact HS3.out.2.2) (by rw [← HSI.out]; exact HS3.out.2.1) HK1.out.2.2 HK1.out.2.1
    rw [← HSI.out] at hcall
    refine hcall.mono ?_
    clear hcall
    rintro r w13 ⟨An, cn, rfl, hn, hb13⟩
    have HNL : Aside0 ((allF s2 0 kk).length ≤ 1000) := ⟨by have := allF_len HS1.out kk 0 HRK.out.2; have := HRK.out.1; omega⟩
    obtain ⟨next, hnext⟩ : ∃ next, next = allF s2 0 kk := ⟨_, rfl⟩
    rw [← hnext] at hn HNL ⊢
    have HNN := Aside0.mk hn
    have HX13 := Aside0.mk (DL_below HX12.out hb13)
    have HB13 := Aside0.mk (below_then HB12.out HB12.out.size hb13)
    clear hnext hb13 hn HB12
    go_wp2_with fail
    refine (Feed_law w2.heap.size okE gx sx 0 An cn next w13 HX13.out HB13.out.size (Kd.R_reads' HNN.out).2.1 (by have := HNL.out; omega) (Kd.F_mono (Kd.R_F (Kd.R_bound HNN.out)) (fun k hk => ⟨fun hz => by have h1 := (HX12.out.2.1 k hz).2; have h3 := hk.2.1; omega, hk.2.2.1⟩))).mono ?_
    rintro r w14 ⟨vo, okG, rfl, hn14, hd14, hs14, hfr14⟩
    rw [dRun_two HMO.out.1, HMO.out.2.1] at hn14
    rw [dRun_two HMO.out.1, HMO.out.2.2] at hd14
    obtain ⟨A14, c14, rfl⟩ := Kd.N_slice hn14
    have HX14 := Aside0.mk hd14
    have HB14 := Aside0.mk (Frm.below HB13.out hfr14 (Nat.le_refl _) (fun k hk => (HX13.out.2.1 k hk).1))
    clear hn14 hd14 hs14 hfr14 HX13 HB13 HX12
    go_wp2_with fail
    refine (Errno_calls_d _ _ _ _ HX14.out.1).mono ?_
    rw [HE.out]
    rintro r w15 ⟨rfl, hw15⟩
    rw [hw15]
    clear hw15
    go_wp2_with fail
    refine (Held_quiet _ _ _ _ HX14.out.1 (by have := HH.out; omega) (by have := HF.out; omega)).mono ?_
    rw [HH.out, HF.out]
    rintro r w16 ⟨rfl, hf16⟩
    have HB16 := Aside0.mk (Frm.below HB14.out hf16 (Nat.le_refl _) (fun _ h => h.elim))
    clear hf16 HX14 HB14
    go_wp2_with fail
    refine (lives04 _).mono ?_
    rintro r w17 ⟨rfl, hb17⟩
    have HB17 := Aside0.mk (below_then HB16.out HB16.out.size hb17)
    clear hb17
    go_wp2_with fail
    go_ret
    exact ⟨rfl, below_then HB2.out HB2.out.size HB17.out⟩
end Go.Proofs.Ytfoifcilacbipaa.G
