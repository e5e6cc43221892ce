/- Walks of law04's laws: DemarkFeeds. -/
import Derived.Test.YtfoifcilacbipaaD17
import Derived.IntWalk
namespace Go.Proofs.Ytfoifcilacbipaa.G
open Go.RowKit Go.Proofs.Ytfoifcilacbipaa.P Go.Proofs.Ytfoifcilacbipaa.Pure Go.Proofs.YtfoifcilacbipaaW.PrintWords Go.Proofs.YtfoifcilacbipaaW.PrintLast Go.Proofs.YtfoifcilacbipaaW.PrintMore
set_option linter.unusedVariables false
set_option linter.unusedSimpArgs false

attribute [local go_sem] max2_int min2_int max_two min_two

theorem By_app {a b : List Int} (ha : By a) (hb : By b) : By (a ++ b) := fun x hx => (List.mem_append.1 hx).elim (ha x) (hb x)
theorem By_take {a : List Int} (ha : By a) (n : Nat) : By (a.take n) := fun x hx => ha x (List.mem_of_mem_take hx)
theorem By_drop {a : List Int} (ha : By a) (n : Nat) : By (a.drop n) := fun x hx => ha x (List.mem_of_mem_drop hx)
theorem By_beN : ∀ (k : Nat) (v : Int), By (beN v k) := by
  intro k
  induction k with
  | zero => intro v x hx; exact absurd hx (by simp [beN])
  | succ k ih =>
    intro v
    simp only [beN]
    intro x hx
    rcases List.mem_cons.1 hx with h | h
    · rw [h]; omega
    · exact ih v x h
theorem By_frames : ∀ (L : List Nat) (r : List Int), By r → By (frames r L) := by
  intro L
  induction L with
  | nil => intro r _ x hx; simp [frames] at hx
  | cons n L ih => intro r h; simp only [frames]; exact By_app (By_app (By_beN _ _) (By_take h _)) (ih _ (By_drop h _))
theorem By_allF (s : List Nat) : ∀ (rs : List (List Int)) (i : Nat), (∀ r ∈ rs, By r) → By (allF s i rs) := by
  intro rs
  induction rs with
  | nil => intro i _ x hx; simp [allF] at hx
  | cons r rs ih => intro i h; simp only [allF]; exact By_app (By_frames _ _ (h r (by simp))) (ih _ (fun x hx => h x (by simp [hx])))
theorem By_wf {l : List Int} (h : ∀ x ∈ l, (Lit.int .u8 x).wf = true) : By l := fun x hx => by
  have h1 := h x hx
  simp [Lit.wf, IntKind.min, IntKind.max, IntKind.signed, IntKind.bits] at h1
  omega
theorem By_gRecs {recs : List (List Int)} (h : ∀ y ∈ recs, ∀ z ∈ y, (Lit.int .u8 z).wf = true) : ∀ r ∈ gRecs recs, By r := by
  intro r hr
  unfold gRecs at hr
  obtain ⟨x, hx, rfl⟩ := List.mem_map.1 hr
  exact By_take (By_wf (h x (List.mem_of_mem_take hx))) _

theorem DF_drewN {ok : Nat → Prop} {w : World} {g : Nat} {s : DSt} (h : DF ok w g s) (n : Nat) : DF ok (w.drewN n) g s := DF_below h (pw_below_drewN (Below.refl _ _) n)
theorem alloc_size' (w : World) (o : Obj) : (w.alloc o).heap.size = w.heap.size + 1 := by simp

set_option maxHeartbeats 16000000 in
set_option maxRecDepth 100000 in
theorem DemarkFeeds_walk (A0 : Option Addr) (c0 : Nat) (l0 : List Int) (A1 : Option Addr) (c1 : Nat) (l1 : List (List Int)) (A2 : Option Addr) (c2 : Nat) (l2 : List Int) (a3 : Int) (a4 : Int) (A5 : Option Addr) (c5 : Nat) (l5 : List Int) (w : World) (hr0 : Kd.C (Kd.int .u8) w A0 l0.length l0) (hc0 : l0.length ≤ c0) (hr1 : Kd.C (Kd.slice 5 (Kd.int .u8)) w A1 l1.length l1) (hc1 : l1.length ≤ c1) (hr2 : Kd.C (Kd.int .i64) w A2 l2.length l2) (hc2 : l2.length ≤ c2) (hr5 : Kd.C (Kd.int .i64) w A5 l5.length l5) (hc5 : l5.length ≤ c5) (g0_ : l0.length ≤ maxLen) (g1_ : l0.length * 1 ≤ 140737488351232) (g2_ : (∀ x ∈ l0, (Lit.int .u8 x).wf = true)) (g3_ : l1.length ≤ maxLen) (g4_ : (∀ y0_ ∈ l1, (∀ y1_ ∈ y0_, (Lit.int .u8 y1_).wf = true))) (g5_ : l2.length ≤ maxLen) (g6_ : l2.length * 8 ≤ 140737488351232) (g7_ : (∀ x ∈ l2, (Lit.int .i64 x).wf = true)) (g8_ : (Lit.int .i64 a3).wf = true) (g9_ : (Lit.int .i64 a4).wf = true) (g10_ : l5.length ≤ maxLen) (g11_ : l5.length * 8 ≤ 140737488351232) (g12_ : (∀ x ∈ l5, (Lit.int .i64 x).wf = true)) :
    Calls Try.prog 5 #[.slice A0 l0.length c0, .slice A1 l1.length c1, .slice A2 l2.length c2, .int .i64 a3, .int .i64 a4, .slice A5 l5.length c5] w fun e w' => e = .returned (.bool true) ∧ Below w.heap.size w w' := by
  have HR0 := Aside0.mk hr0
  have HC0 := Aside0.mk hc0
  have HR1 := Aside0.mk hr1
  have HC1 := Aside0.mk hc1
  have HR2 := Aside0.mk hr2
  have HC2 := Aside0.mk hc2
  have HR5 := Aside0.mk hr5
  have HC5 := Aside0.mk hc5
  have HG2 := Aside0.mk (By_wf g2_)
  have HG4 := Aside0.mk (By_gRecs g4_)
  have HG7 := Aside0.mk g7_
  have HG8 := Aside0.mk g8_
  have HG9 := Aside0.mk g9_
  have HG12 := Aside0.mk g12_
  clear hr0 hc0 hr1 hc1 hr2 hc2 hr5 hc5 g0_ g1_ g2_ g3_ g4_ g5_ g6_ g7_ g8_ g9_ g10_ g11_ g12_
  go_enter Try.func5, Try.ntmps5
  go_wp2_with fail
  refine (Good_law A1 c1 l1 A2 c2 l2 _ HR1.out HC1.out HR2.out HC2.out HG7.out).mono ?_
  rintro r w1 ⟨Al, cl, As, cs, s, hs1, hs2, rfl, hl1, hs3, hb1⟩
  have HRL : Aside0 ((gRecs l1).length ≤ 5 ∧ ∀ r ∈ gRecs l1, r.length ≤ 40) := ⟨gRecs_len l1, gRecs_each l1⟩
  obtain ⟨l, hl⟩ : ∃ l, l = gRecs l1 := ⟨_, rfl⟩
  rw [← hl] at hl1 HRL HG4 ⊢
  obtain ⟨si, hsi⟩ : ∃ si, si = ints s := ⟨_, rfl⟩
  rw [← hsi] at hs3 ⊢
  have HSI := Aside0.mk hsi
  have HS1 := Aside0.mk hs1
  have HL1 := Aside0.mk (Kd.R_reads' hl1)
  have HS3 := Aside0.mk (Kd.R_reads' hs3)
  have HB1 := Aside0.mk hb1
  clear hl hsi hs1 hs2 hl1 hs3 hb1
  go_wp2_with fail
  have hcall := AllM_law As cs s Al cl l w1 HS1.out HRL.out.1 HRL.out.2 (by rw [← HSI.out]; exact HS3.out.2.2) (by rw [← HSI.out]; exact HS3.out.2.1) HL1.out.2.2 HL1.out.2.1
  rw [← HSI.out] at hcall
  refine hcall.mono ?_
  clear hcall
  rintro r w2 ⟨Ao, co, rfl, hf, hb2⟩
  have HOL : Aside0 ((allF s 0 l).length ≤ 1000) := ⟨by have := allF_len HS1.out l 0 HRL.out.2; have := HRL.out.1; omega⟩
  have HOB : Aside0 (By (allF s 0 l)) := ⟨By_allF s l 0 HG4.out⟩
  obtain ⟨own, hown⟩ : ∃ own, own = allF s 0 l := ⟨_, rfl⟩
  rw [← hown] at hf HOL HOB ⊢
  have HOW := Aside0.mk (Kd.R_reads' hf)
  have HB2 := Aside0.mk (below_then HB1.out HB1.out.size hb2)
  clear hown hf hb2 HL1 HS3 HSI HB1 HRL HG4 HS1
  go_wp2_with fail
  refine (Few_law A0 c0 l0 80 (by omega) w2 (Kd.C_below HR0.out HB2.out) HC0.out).mono ?_
  rintro r w3 ⟨Af, cf, rfl, hr3, hb3⟩
  obtain ⟨few, hfew⟩ : ∃ few, few = l0.take 80 := ⟨_, rfl⟩
  rw [← hfew] at hr3 ⊢
  have HFL : Aside0 (few.length ≤ 80) := ⟨by rw [hfew, List.length_take]; omega⟩
  have HFB : Aside0 (By few) := ⟨by rw [hfew]; exact By_take HG2.out _⟩
  have HF3 := Aside0.mk (Kd.F_mono (Kd.R_F (Kd.R_bound hr3)) (fun k hk => hk.2.2.1))
  have HFC := Aside0.mk (Kd.R_reads' hr3).2.1
  have HOW3 := Aside0.mk (Kd.C_below HOW.out.2.2 hb3)
  have HB3 := Aside0.mk (below_then HB2.out HB2.out.size hb3)
  clear hfew hr3 hb3 HB2 HG2 HR0 HC0
  go_wp2_with fail
  refine (Few_law Ao co own 1000 (by omega) w3 HOW3.out HOW.out.2.1).mono ?_
  rintro r w4 ⟨A4, c4, rfl, hr4, hb4⟩
  rw [Few_all HOL.out] at hr4 ⊢
  have HR4 := Aside0.mk hr4
  have HF4 := Aside0.mk (Kd.F_below HF3.out hb4)
  have HB34 := Aside0.mk hb4
  have HB4 := Aside0.mk (below_then HB3.out HB3.out.size hb4)
  clear hr4 hb4 HF3 HOW3 HOW
  go_wp2_with (first | ((with_reducible refine gate_builtin (b := .append) (xs := #[.tmp 45, .tmp 46]) rfl ?_); at_builtin; refine Kd.R_append_rows (Kd.int .u8) (w0 := w3) w3.heap.size rfl (.tmp 45) (.tmp 46) 28 5 (.int .u8 0) 1 rfl Try.underlying28 infoU8r rfl (by decide) (by omega) (.slice A4 own.length c4) own few Af few.length cf (fun _ => True) (fun _ => False) rfl rfl HR4.out (Kd.F_now HF4.out) (fun _ _ h => h) (fun _ h => h.elim) (fun _ _ => trivial) HB34.out HB34.out.size ?aL ?_; (case aL => have := HOL.out; have := HFL.out; omega); intro v6 w5 ho6 hb6 hg6 hat6; obtain ⟨fb, hfb⟩ : ∃ fb, fb = own ++ few := ⟨_, rfl⟩; rw [← hfb] at ho6; have HFB5 : Aside0 (By fb ∧ fb.length ≤ 1100) := ⟨by rw [hfb, List.length_append]; exact ⟨By_app HOB.out HFB.out, by have := HOL.out; have := HFL.out; omega⟩⟩; clear hfb; obtain ⟨A6, c6, rfl, hl6, _⟩ := Kd.R_reads ho6; have HG5 := Aside0.mk (Kd.F_mono (Kd.R_F (Kd.R_bound ho6)) (fun k hk => hk.2.2.1)); have HB35 := Aside0.mk hb6; have HC6 := Aside0.mk hl6; clear ho6 hb6 hg6 hat6 hl6))
  have HF5 : Aside0 (Kd.F (Kd.int .u8) w5 (fun k => k < w5.heap.size) Af few.length few) := ⟨Kd.F_mono (Kd.F_step HF4.out (fun k hk hlt => (HB35.out.block k hk).trans (HB34.out.block k hk).symm)) (fun k hk => Nat.lt_of_lt_of_le hk HB35.out.size)⟩
  have HB5 := Aside0.mk (below_then HB3.out HB3.out.size HB35.out)
  clear HB34 HB35 HF4 HR4 HB4 HOB
  go_wp2_with fail
  refine (Around_law a3 51 _ HG8.out (by omega) (by omega)).mono ?_
  rintro r w6 ⟨m, hm, rfl, n1, rfl⟩
  go_wp2_with fail
  refine (Around_law a4 5 _ HG9.out (by omega) (by omega)).mono ?_
  rintro r w6 ⟨y, hy, rfl, n2, rfl⟩
  obtain ⟨w6, hw6⟩ : ∃ w6, w6 = ((w5.alloc (.cells #[.slice Af few.length cf, .slice A6 fb.length c6] 28)).drewN n1).drewN n2 := ⟨_, rfl⟩
  obtain ⟨ad, had⟩ : ∃ ad : Addr, ad = ⟨w5.heap.size, 0, none⟩ := ⟨_, rfl⟩
  have HIN : Aside0 (dIn (m : Int) (1 + (y : Int)) = true) := ⟨by unfold dIn; simp only [Bool.and_eq_true, decide_eq_true_eq]; omega⟩
  obtain ⟨f, hf⟩ : ∃ f : Int, f = 1 + (y : Int) := ⟨_, rfl⟩
  have hblk : w6.heap[w5.heap.size]? = some (.cells #[.slice Af few.length cf, .slice A6 fb.length c6] 28 (0, 0)) := by rw [hw6]; exact heap_alloc_new w5 _
  have HBW : Aside0 (Below w5.heap.size w5 w6) := ⟨by rw [hw6]; exact pw_below_drewN (pw_below_drewN (below_alloc (Below.refl _ _) _) _) _⟩
  have HAD : Aside0 (ad.block < w6.heap.size) := ⟨by rw [had]; exact blk_lt hblk⟩
  have HALL : Aside0 (∀ k : Nat, k < 2 → ∃ Ax cx xs, w6.cell? (ad.add k) = some (.slice Ax (List.length xs) cx) ∧ Kd.F (Kd.int .u8) w6 (fun k => k < w6.heap.size) Ax xs.length xs ∧ xs.length ≤ cx ∧ xs.length ≤ 1100 ∧ By xs) := ⟨fun k hk => by
    rcases k with _ | _ | k
    · exact ⟨Af, cf, few, by rw [had]; exact (blk_cell hblk 0).trans rfl, Kd.F_mono (Kd.F_below HF5.out HBW.out) (fun k hk => Nat.lt_of_lt_of_le hk HBW.out.size), HFC.out, by have := HFL.out; omega, HFB.out⟩
    · exact ⟨A6, c6, fb, by rw [had]; exact (blk_cell hblk 1).trans rfl, Kd.F_mono (Kd.F_below HG5.out HBW.out) (fun k hk => Nat.lt_of_lt_of_le hk HBW.out.size), HC6.out, HFB5.out.2, HFB5.out.1⟩
    · omega⟩
  have HB6 := Aside0.mk (below_then HB5.out HB5.out.size HBW.out)
  have HR56 := Aside0.mk (Kd.C_below HR5.out HB6.out)
  rw [← hw6, ← had]
  rw [← hf] at HIN
  have HF' := Aside0.mk hf
  clear hw6 had hblk HBW HF5 HG5 HC6 HFB5 HFB HFC HFL HB5 hf
  go_wp2_with fail
  rw [← HF'.out]
  go_loopw [21] (fun kv w' => ∃ k : Nat, k ≤ 2 ∧ kv = .int .i64 (k : Int) ∧ Aside0 (Below w6.heap.size w6 w')) (fun kv _ => (2 - intOf kv).toNat)
  case atStart => exact ⟨0, by omega, rfl, ⟨Below.refl _ _⟩⟩
  case round =>
    obtain ⟨k, hk, rfl, HBO⟩ := hrel
    rcases Nat.lt_or_ge k 2 with hk2 | hk2
    · have hk2' : (k : Int) < 2 := by omega
      obtain ⟨wO, hwO⟩ : ∃ wO, wO = wr := ⟨_, rfl⟩
      rw [← hwO] at HBO ⊢
      clear hwO
      obtain ⟨Ax, cx, xs, hcell, hF, hcx, hxl, hBy⟩ := HALL.out k hk2
      have HCELL : Aside0 (∀ W, Below wO.heap.size wO W → W.cell? (ad.add k) = some (.slice Ax xs.length cx)) := ⟨fun W hW => by
        have h1 := below_then HBO.out HBO.out.size hW
        rw [h1.cell (p := ad.add k) (by have := HAD.out; rw [show (ad.add k).block = ad.block by unfold Addr.add; split <;> rfl]; exact this)]
        exact hcell⟩
      have HX := Aside0.mk (Kd.F_mono (Kd.F_below hF HBO.out) (fun k hk => Nat.lt_of_lt_of_le hk HBO.out.size))
      have HXC := Aside0.mk hcx
      have HXL := Aside0.mk hxl
      have HXB := Aside0.mk hBy
      have HR5O := Aside0.mk (Kd.C_below HR56.out HBO.out)
      clear hcell hF hcx hxl hBy hm hy
      go_wp2_with fail
      refine (New_law (m : Int) f wO.heap.size wO HIN.out (Nat.le_refl _)).mono ?_
      rintro r w7 ⟨okX, rfl, hd7, ho7, hb7⟩
      obtain ⟨gx, hgx⟩ : ∃ gx, gx = wO.heap.size := ⟨_, rfl⟩
      replace hd7 : DL wO.heap.size okX w7 gx (dNew (m : Int) f) 0 := by rw [hgx]; exact hd7
      rw [← hgx]
      have HI0 : Aside0 (DInv (dNew (m : Int) f) 0) := ⟨dInv_new HIN.out⟩
      have HP7 : Aside0 (LP wO.heap.size okX (fun _ => False) w7 gx { dRun (dNew (m : Int) f) (xs.take 0) with out := [] } (.slice none 0 0) (dRun (dNew (m : Int) f) (xs.take 0)).out) := ⟨LP_start hd7 hb7.size xs⟩
      have HB7 := Aside0.mk hb7
      have hc7 := HCELL.out _ hb7
      obtain ⟨d0, hd0⟩ : ∃ d0, d0 = dNew (m : Int) f := ⟨_, rfl⟩
      have HOUT0 : Aside0 ((dRun d0 (xs.take 0)).out = []) := ⟨by rw [hd0]; rfl⟩
      rw [← hd0] at HI0 HP7
      have HD0 := Aside0.mk hd0
      clear hd7 ho7 hb7 hgx hd0
      go_wp2_with fail
      clear hc7
      go_loopw [24, 25, 26] (fun pv av iv w' => ∃ (Ap : Option Addr) (cp : Nat) (at_ i : Nat) (okZ : Nat → Prop), pv = .slice Ap (dRun d0 (xs.take at_)).out.length cp ∧ av = .int .i64 (at_ : Int) ∧ iv = .int .i64 (i : Int) ∧ Aside0 (at_ ≤ xs.length ∧ i ≤ 9 * at_ + 8) ∧ Aside0 (LP wO.heap.size okZ (fun _ => False) w' gx { dRun d0 (xs.take at_) with out := [] } pv (dRun d0 (xs.take at_)).out) ∧ Aside0 (Below wO.heap.size wO w')) (fun pv av iv _ => (9 * xs.length + 9 - intOf iv).toNat)
      case atStart => exact ⟨none, 0, 0, 0, okX, by rw [HOUT0.out]; rfl, rfl, rfl, ⟨by omega⟩, HP7, HB7⟩
      case round =>
        clear HP7 HB7
        obtain ⟨Ap, cp, at_, i, okZ, rfl, rfl, rfl, HI, HP, HB⟩ := hrel
        have hcw := HCELL.out _ HB.out
        rcases Nat.lt_or_ge at_ xs.length with hlt | hge
        · have hlt' : (at_ : Int) < (xs.length : Int) := by omega
          obtain ⟨n, hn1, hn2, hpc⟩ := piece_q A5 c5 l5 i _ (Kd.C_below HR5O.out HB.out) HC5.out HG12.out
          have HPC := Aside0.mk hpc
          have HN := Aside0.mk hn2
          have HL' := HXL.out
          clear hpc hn2
          have x4 := HI.out.2
          obtain ⟨nx, hnx⟩ : ∃ nx : Nat, nx = min (at_ + n) xs.length := ⟨_, rfl⟩
          have hsum : IntKind.i64.wrap ((at_ : Int) + (n : Int)) = (at_ : Int) + (n : Int) := IntWalk.i64_in _ (by omega)
          have hmin : (if (xs.length : Int) < (at_ : Int) + (n : Int) then (xs.length : Int) else (at_ : Int) + (n : Int)) = (nx : Int) := by split <;> omega
          have HNX : Aside0 (nx = min (at_ + n) xs.length) := ⟨hnx⟩
          clear hnx
          go_wp2_with fail
          go_quiet ((go_at_call 23; exact Calls.quiet_of (HPC.out _ ⟨_, rfl⟩)))
          obtain ⟨w8, hw8⟩ : ∃ w8, w8 = wr.drewN nq := ⟨_, rfl⟩
          have hb8 : Below wr.heap.size wr w8 := by rw [hw8]; exact pw_below_drewN (Below.refl _ _) _
          rw [← hw8]
          have HP8 := Aside0.mk (LP_below HP.out hb8)
          have HB8 := Aside0.mk (below_then HB.out HB.out.size hb8)
          clear hw8 hb8 hcw hsum hmin HP HB HPC
          have hc8 := HCELL.out _ HB8.out
          have hnx1 : at_ ≤ nx := by have := HNX.out; omega
          have hnx2 : nx ≤ xs.length := by have := HNX.out; omega
          have x3 := HXC.out
          obtain ⟨ys, hys⟩ : ∃ ys, ys = (xs.take nx).drop at_ := ⟨_, rfl⟩
          have hyl : ys.length = nx - at_ := by rw [hys, List.length_drop, List.length_take]; omega
          have HYS := Aside0.mk hys
          have HYL := Aside0.mk hyl
          clear hys hyl
          go_wp2_with fail
          have HFX := Aside0.mk (Kd.F_below HX.out HB8.out)
          have hcall := Feed_join wO.heap.size okZ (fun _ => False) gx _ _ _ (Ax.map (fun x => x.add at_)) (cx - at_) ys w8 HP8.out (by rw [HYL.out]; omega) (by rw [HYL.out]; omega) (by rw [HYS.out]; exact Kd.F_mono (F_piece HFX.out hlt hnx1 hnx2 x3) (fun k hk => ⟨fun hz => by have := (HP8.out.d.2.1 k hz).1; omega, Nat.lt_of_lt_of_le hk HB8.out.size⟩))
          rw [HYL.out] at hcall
          refine hcall.mono ?_
          clear hcall
          rintro r w9 ⟨A2, c2, okN, okp, okE, rfl, hj, hol⟩
          obtain ⟨outs, houts⟩ : ∃ outs, outs = (dRun { dRun d0 (xs.take at_) with out := [] } ys).out := ⟨_, rfl⟩
          rw [← houts] at hj hol ⊢
          have HJ := Aside0.mk hj
          have HOL := Aside0.mk hol
          have HOU := Aside0.mk houts
          clear hj hol houts hc8
          have HTN : Aside0 (dRun (dRun d0 (xs.take at_)) ys = dRun d0 (xs.take nx)) := ⟨by rw [← dRun_append, HYS.out, ← take_piece xs at_ nx (by omega)]⟩
          have HOE : Aside0 ((dRun d0 (xs.take at_)).out ++ outs = (dRun d0 (xs.take nx)).out) := ⟨by rw [HOU.out, (dRun_more _ ys).2, HTN.out]⟩
          have HSE : Aside0 ({ dRun { dRun d0 (xs.take at_) with out := [] } ys with out := [] } = { dRun d0 (xs.take nx) with out := [] }) := ⟨by rw [(dRun_more _ ys).1, HTN.out]⟩
          have HPL : Aside0 ((dRun d0 (xs.take at_)).out.length ≤ 1100) := ⟨by have := (dInv_run (xs.take at_) HI0.out).out; rw [List.length_take] at this; omega⟩
          go_wp2_with (first | ((with_reducible refine gate_builtin (b := .append) (xs := #[.tmp 90, .tmp 99]) rfl ?_); at_builtin; refine Kd.N_append_rows (Kd.slice 5 (Kd.int .u8)) (w0 := w9) 0 rfl (.tmp 90) (.tmp 99) 42 28 (.slice none 0 0) 24 rfl Try.underlying42 infoSl rfl (by decide) (by decide) (.slice Ap (dRun d0 (xs.take at_)).out.length cp) (dRun d0 (xs.take at_)).out outs A2 outs.length c2 okN okp rfl rfl HJ.out.n HJ.out.f HJ.out.fp HJ.out.fresh (Below.refl 0 _) (Nat.zero_le _) ?aL ?_; (case aL => have := HPL.out; have := HOL.out; have := HYL.out; omega); intro v1 w10 hq1 hb1 hg1 hat1; rw [HOE.out] at hq1; have HQ := Aside0.mk hq1; have HG := Aside0.mk hg1; clear hq1 hb1 hg1 hat1; obtain ⟨A7, c7, rfl⟩ := Kd.N_slice HQ.out; obtain ⟨hlp, hfrm⟩ := HJ.out.next _ _ _ HQ.out HG.out; rw [HSE.out] at hlp; have HLP := Aside0.mk hlp; have HB10 := Aside0.mk (Frm.below HB8.out hfrm (Nat.le_refl _) (fun k h => h.1)); have hc10 := HCELL.out _ HB10.out; clear hlp hfrm HJ HQ HG HSE HOE HTN HPL HOU HP8 HB8))
          have HFX2 : Aside0 (Kd.F (Kd.int .u8) w10 (fun k => k < wO.heap.size) Ax (xs.take nx).length (xs.take nx)) := ⟨Kd.F_take (Kd.F_below HX.out HB10.out) hnx2⟩
          have HTL : Aside0 ((xs.take nx).length = nx) := ⟨by rw [List.length_take]; omega⟩
          have hcall := refAll_law (fun k => k < wO.heap.size) Ax cx (xs.take nx) (m : Int) f w10 HIN.out (By_take HXB.out _) (by rw [HTL.out]; omega) (Kd.V_mk (by rw [HTL.out]; omega) HFX2.out)
          rw [HTL.out, ← HD0.out] at hcall
          refine hcall.mono ?_
          clear hcall
          rintro r w11 ⟨Ar, cr, rfl, hrc, hrr, hb11⟩
          have hda : dAns (dRun d0 (xs.take nx)) = ((dRun d0 (xs.take nx)).out, (dRun d0 (xs.take nx)).e, ((dRun d0 (xs.take nx)).head.length : Int) + ((dRun d0 (xs.take nx)).frag.length : Int), dClean (dRun d0 (xs.take nx))) := rfl
          rw [hda] at hrc hrr ⊢
          clear hda hc10
          obtain ⟨sx, hsx⟩ : ∃ sx : DSt, sx = { dRun d0 (xs.take nx) with out := [] } := ⟨_, rfl⟩
          obtain ⟨ev, hev⟩ : ∃ ev, ev = (dRun d0 (xs.take nx)).e := ⟨_, rfl⟩
          obtain ⟨hv, hhv⟩ : ∃ hv, hv = ((dRun d0 (xs.take nx)).head.length : Int) + ((dRun d0 (xs.take nx)).frag.length : Int) := ⟨_, rfl⟩
          obtain ⟨cv, hcv⟩ : ∃ cv, cv = dClean (dRun d0 (xs.take nx)) := ⟨_, rfl⟩
          have HE : Aside0 (sx.e = ev) := ⟨by rw [hsx, hev]⟩
          have HH : Aside0 ((sx.head.length : Int) + (sx.frag.length : Int) = hv) := ⟨by rw [hsx, hhv]⟩
          have HCV : Aside0 (dClean sx = cv) := ⟨by rw [hsx, hcv]; rfl⟩
          have HLP11 := Aside0.mk (LP_below HLP.out hb11)
          have HB11 := Aside0.mk (below_then HB10.out HB10.out.size hb11)
          have HRR := Aside0.mk hrr
          have HRC := Aside0.mk hrc
          have HPL : Aside0 ((dRun d0 (xs.take nx)).out.length ≤ 1100) := ⟨by have := (dInv_run (xs.take nx) HI0.out).out; rw [List.length_take] at this; omega⟩
          rw [← hev, ← hhv, ← hcv]
          have HSX := Aside0.mk hsx
          clear hsx hev hhv hcv hrr hrc hb11 HLP HB10
          go_wp2_with fail
          obtain ⟨w12, hw12⟩ : ∃ w12, w12 = w11.alloc (.cells #[.slice Ar (dRun d0 (xs.take nx)).out.length cr, .int .i64 ev, .int .i64 hv, .bool cv] 57) := ⟨_, rfl⟩
          rw [← hw12]
          have hu := Try.underlying57
          obtain ⟨gb, hgb⟩ : ∃ gb, gb = w11.heap.size := ⟨_, rfl⟩
          have hblk : w12.heap[gb]? = some (.cells #[.slice Ar (dRun d0 (xs.take nx)).out.length cr, .int .i64 ev, .int .i64 hv, .bool cv] 57 (0, 0)) := by rw [hw12, hgb]; exact heap_alloc_new w11 _
          have hk0 : w12.cell? ⟨gb, 0, none⟩ = some (.slice Ar (dRun d0 (xs.take nx)).out.length cr) := (blk_cell hblk 0).trans rfl
          have hk1 : w12.cell? ⟨gb, 1, none⟩ = some (.int .i64 ev) := (blk_cell hblk 1).trans rfl
          have hk2 : w12.cell? ⟨gb, 2, none⟩ = some (.int .i64 hv) := (blk_cell hblk 2).trans rfl
          have hk3 : w12.cell? ⟨gb, 3, none⟩ = some (.bool cv) := (blk_cell hblk 3).trans rfl
          have hb12 : Below w11.heap.size w11 w12 := by rw [hw12]; exact below_alloc (Below.refl _ _) _
          rw [← hgb]
          have HLP12 := Aside0.mk (LP_below HLP11.out hb12)
          have HB12 := Aside0.mk (below_then HB11.out HB11.out.size hb12)
          have HRR12 := Aside0.mk (Kd.C_below HRR.out hb12)
          clear hblk hgb hw12 hb12 HRR HLP11 HB11
          have HDX : Aside0 (DL wO.heap.size okE w12 gx sx 0) := ⟨by rw [HSX.out]; exact HLP12.out.d⟩
          have HS : Aside0 (∀ n, Calls Try.prog 26 #[.slice A7 (dRun d0 (xs.take nx)).out.length c7, .slice Ar (dRun d0 (xs.take nx)).out.length cr] (w12.drewN n) fun e w' => e = .returned (.bool true) ∧ ∃ m, w' = (w12.drewN n).drewN m) := ⟨fun n => SameBytes_law _ _ _ _ _ (by have := HPL.out; omega) _ (Kd.C_drewN (Kd.N_reads' HLP12.out.n).2.2 n) (Kd.N_reads' HLP12.out.n).2.1 (Kd.C_drewN HRR12.out n) HRC.out⟩
          have HA1 : Aside0 (∀ n, Calls Try.prog 27 #[.pointer (some ⟨gx, 0, none⟩)] (w12.drewN n) fun r w' => r = .returned (.int .i64 ev) ∧ w' = w12.drewN n) := ⟨fun n => by rw [← HE.out]; exact Errno_calls_d _ _ _ _ (DF_drewN HDX.out.1 n)⟩
          have HA2 : Aside0 (∀ n, Calls Try.prog 28 #[.pointer (some ⟨gx, 0, none⟩)] (w12.drewN n) fun r w' => r = .returned (.int .i64 hv) ∧ ∃ m, w' = (w12.drewN n).drewN m) := ⟨fun n => by rw [← HH.out]; exact Held_calls_d _ _ _ _ (DF_drewN HDX.out.1 n) (by have := HDX.out.2.2.head; omega) (by have := HDX.out.2.2.frag; have := HDX.out.2.2.most1; omega)⟩
          have HA3 : Aside0 (∀ n, Calls Try.prog 29 #[.pointer (some ⟨gx, 0, none⟩)] (w12.drewN n) fun r w' => r = .returned (.bool cv) ∧ ∃ m, w' = (w12.drewN n).drewN m) := ⟨fun n => by rw [← HCV.out]; exact Clean_q _ _ _ _ (DF_drewN HDX.out.1 n) (by have := HDX.out.2.2.head; omega) (by have := HDX.out.2.2.frag; have := HDX.out.2.2.most1; omega)⟩
          go_quiet ((first | (go_at_call 26; exact Calls.quiet_of (HS.out _)) | (go_at_call 27; exact Calls.quiet_of_same (HA1.out _)) | (go_at_call 28; exact Calls.quiet_of (HA2.out _)) | (go_at_call 29; exact Calls.quiet_of (HA3.out _))))
          clear hk0 hk1 hk2 hk3
          obtain ⟨w13, hw13⟩ : ∃ w13, w13 = w12.drewN nq := ⟨_, rfl⟩
          have hb13 : Below w12.heap.size w12 w13 := by rw [hw13]; exact pw_below_drewN (Below.refl _ _) _
          rw [← hw13]
          have HLP13 := Aside0.mk (LP_below HLP12.out hb13)
          have HB13 := Aside0.mk (below_then HB12.out HB12.out.size hb13)
          clear hw13 hb13 HS HA1 HA2 HA3 HDX HLP12 HB12
          go_wp2_with fail
          go_roundw
          case rel => exact ⟨A7, c7, nx, i + 1, okE, rfl, rfl, rfl, ⟨by have := HNX.out; have := HN.out; have := HI.out; omega⟩, HLP13, HB13⟩
          case measure => show ((9 : Int) * (xs.length : Int) + 9 - ((i : Int) + 1)).toNat < ((9 : Int) * (xs.length : Int) + 9 - (i : Int)).toNat; have := HI.out; omega
        · have hie : at_ = xs.length := by have := HI.out.1; omega
          subst hie
          go_wp2_with fail
          have HBZ := Aside0.mk (below_then HBO.out HBO.out.size HB.out)
          clear HP HB hcw
          go_roundw
          case rel => exact ⟨k + 1, by omega, by go_num, HBZ⟩
          case measure => simp [intOf]; omega
    · obtain rfl : k = 2 := by omega
      go_wp2_with fail
      refine (lives04 _).mono ?_
      rintro r w10 ⟨rfl, hb10⟩
      have HB10 := Aside0.mk (below_then HBO.out HBO.out.size hb10)
      clear hb10
      go_wp2_with fail
      go_ret
      exact ⟨rfl, below_then HB6.out HB6.out.size HB10.out⟩
end Go.Proofs.Ytfoifcilacbipaa.G
