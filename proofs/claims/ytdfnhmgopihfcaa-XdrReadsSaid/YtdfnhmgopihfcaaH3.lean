/- XdrReads, walked by hand: program's and document's reader have one state. -/
import Derived.Test.YtdfnhmgopihfcaaL4
import Derived.Deep.RegionHeld3
namespace Go.Proofs.Ytdfnhmgopihfcaa.H
open Go.RowKit Go.Proofs.Ytdfnhmgopihfcaa.P Go.Proofs.Ytdfnhmgopihfcaa.G Go.Proofs.Ytdfnhmgopihfcaa.Pure Go.Proofs.YtdfnhmgopihfcaaW.PrintWords Go.Proofs.YtdfnhmgopihfcaaW.PrintLast Go.Proofs.YtdfnhmgopihfcaaW.PrintMore
set_option linter.unusedVariables false
set_option linter.unusedSimpArgs false

/-- An array of two whole numbers. -/
def kd2 : Kd (Int × Int) := Kd.pair (Kd.int .i64) (Kd.int .i64)
theorem kd2_at {w : World} {A : Option Addr} {n : Nat} {xs : List (Int × Int)} (h : Kd.C kd2 w A n xs) (i : Nat) (hi : i < xs.length) : ∃ ad, A = some ad ∧ w.cell? (ad.add (i * 2)) = some (.int .i64 (xs[i]).1) ∧ w.cell? (ad.add (i * 2 + 1)) = some (.int .i64 (xs[i]).2) := by
  have hl : xs.length = n := h.1
  obtain ⟨ad, c, e, _, hK, hc⟩ := Kd.C_get h (0, 0) (i : Int) (by omega) (by omega)
  rw [Int.toNat_natCast, List.getD_eq_getElem?_getD, List.getElem?_eq_getElem hi] at hK
  rw [Int.toNat_natCast] at hc
  obtain ⟨c1, c2, rfl, h1, h2⟩ := hK
  have e1 : c1 = [Value.int .i64 (xs[i]).1] := h1
  have e2 : c2 = [Value.int .i64 (xs[i]).2] := h2
  subst e1 e2
  exact ⟨ad, e, hc 0 _ rfl, hc 1 _ rfl⟩

theorem RD_drewN {ok : Nat → Prop} {g : Nat} {w : World} {e : Int} {xs : List Int} (h : RD ok w g e xs) (n : Nat) : RD ok (w.drewN n) g e xs := RD_below h (pw_below_drewN (Below.refl _ _) n)
/-- What the program's reader hands out lay there ahead of the call. -/
theorem Part_old {okr : Nat → Prop} {g h : Nat} {w wa : World} {A : Option Addr} {n : Nat} {xs : List Int} (hm : Mov g w wa) (hh : ¬ okr h) (ho : ∀ k, okr k → k < w.heap.size) (hf : Kd.F (Kd.int .u8) wa (fun k => okr k ∧ k ≠ g) A n xs) : Kd.F (Kd.int .u8) w (fun k => k < w.heap.size ∧ k ≠ g ∧ k ≠ h) A n xs :=
  F_same hf (fun k hk _ => (hm.block k (ho k hk.1) hk.2).symm) (fun k hk _ => ⟨ho k hk.1, hk.2, fun e => hh (e ▸ hk.1)⟩)

theorem Part_oldw {okr : Nat → Prop} {g h : Nat} {w wa wb : World} {A : Option Addr} {n : Nat} {xs : List Int} (hm : Mov g w wa) (hm2 : Mov h wa wb) (hg : okr g) (hh : h < w.heap.size) (hf : Kd.F (Kd.int .u8) wb (fun k => (¬ okr k ∧ k ≤ h) ∧ k ≠ h) A n xs) : Kd.F (Kd.int .u8) w (fun k => k < w.heap.size ∧ k ≠ g ∧ k ≠ h) A n xs :=
  F_same hf (fun k hk _ => by
    have hkg : k ≠ g := fun e => hk.1.1 (e ▸ hg)
    have hkw : k < w.heap.size := Nat.lt_of_le_of_lt hk.1.2 hh
    rw [hm2.block k (Nat.lt_of_lt_of_le hkw hm.size) hk.2, hm.block k hkw hkg]) (fun k hk _ => ⟨Nat.lt_of_le_of_lt hk.1.2 hh, fun e => hk.1.1 (e ▸ hg), hk.2⟩)
theorem RF_lt {ok : Nat → Prop} {w : World} {h : Nat} {e : Int} {xs : List Int} (H : RF ok w h e xs) : h < w.heap.size := by
  obtain ⟨B, I, ⟨hb, A, c, hc, hl, hf⟩, _⟩ := H
  exact blk_lt hc

/-- Both readers, one state. -/
def Both (okr okw : Nat → Prop) (w : World) (g h : Nat) : Prop := ∃ e xs, RD okr w g e xs ∧ RF okw w h e xs

set_option maxHeartbeats 8000000 in
set_option maxRecDepth 100000 in
theorem XdrReads_full (A0 : Option Addr) (c0 : Nat) (l0 : List Int) (A1 : Option Addr) (c1 : Nat) (l1 : List (Int × Int)) (w : World) (hr0 : Kd.C (Kd.int .u8) w A0 l0.length l0) (hc0 : l0.length ≤ c0) (hr1 : Kd.C kd2 w A1 l1.length l1) (hc1 : l1.length ≤ c1)
    (hby : Bytes l0) (hwf : ∀ p ∈ l1, (Lit.int .i64 p.1).wf = true ∧ (Lit.int .i64 p.2).wf = true) :
    Calls Try.prog 11 #[.slice A0 l0.length c0, .slice A1 l1.length c1] w fun e w' => e = .returned (.bool true) ∧ Below w.heap.size w w' := by
  have hx1 : l1.length ≤ 9223372036854775807 := hr1.2.1
  have HR0 := Aside0.mk hr0
  have HR1 := Aside0.mk hr1
  have HBY := Aside0.mk hby
  have HWF := Aside0.mk hwf
  clear hr0 hr1 hby hwf
  go_enter Try.func11, Try.ntmps11
  go_wp2_with fail
  refine (few_new A0 c0 l0 60 w HR0.out hc0 (by decide)).mono ?_
  rintro r w1 ⟨A2, c2, rfl, hR2, hB2⟩
  obtain ⟨own, hown⟩ : ∃ own, own = l0.take 60 := ⟨_, rfl⟩
  rw [← hown] at hR2 ⊢
  have HOB : Aside0 (Bytes own) := ⟨by rw [hown]; exact fun x hx => HBY.out x (List.mem_of_mem_take hx)⟩
  have hol : own.length ≤ 60 := by rw [hown]; exact List.length_take_le _ _
  have HR2 := Aside0.mk hR2.F
  have HK2 := Aside0.mk hR2.1
  have HB2 := Aside0.mk hB2
  clear hown hR2 hB2
  go_wp2_with fail
  refine (Read_calls A2 c2 own w1 (Kd.F_now HR2.out) HK2.out (by omega)).mono ?_
  rintro r w2 ⟨g, rfl, hg, hg', hrd, hB3⟩
  have HB3 := Aside0.mk (HB2.out.trans (hB3.mono HB2.out.size))
  have HR3 := Aside0.mk (Kd.F_below HR2.out hB3)
  have HRD := Aside0.mk hrd
  have HG := Aside0.mk (And.intro hg hg')
  have HGW := Aside0.mk (Nat.le_trans HB2.out.size hg)
  have HW12 := Aside0.mk hB3.size
  clear hrd hg hg' hB3 HR2 HB2
  go_wp2_with fail
  have hnew : (w2.alloc (.cells #[.slice A2 own.length c2, .int .i64 0, .int .i64 0] 67)).heap[w2.heap.size]? = some (.cells #[.slice A2 own.length c2, .int .i64 0, .int .i64 0] 67 (0, 0)) := heap_alloc_new w2 _
  obtain ⟨okr, hokr⟩ : ∃ okr : Nat → Prop, okr = (fun k => w1.heap.size ≤ k ∧ k < w2.heap.size) := ⟨_, rfl⟩
  have HOK : Aside0 (okr g ∧ ¬ okr w2.heap.size) := ⟨by rw [hokr]; exact ⟨HG.out, fun h => by have := h.2; omega⟩⟩
  have HOKS : Aside0 (∀ k, okr k → k < w2.heap.size) := ⟨by rw [hokr]; exact fun k hk => hk.2⟩
  have HBo : Aside0 (Both okr (fun k => ¬ okr k ∧ k ≤ w2.heap.size) (w2.alloc (.cells #[.slice A2 own.length c2, .int .i64 0, .int .i64 0] 67)) g w2.heap.size) := ⟨0, own, by
    have h1 := RD_below HRD.out (below_alloc (Below.refl _ _) (.cells #[.slice A2 own.length c2, .int .i64 0, .int .i64 0] 67))
    rw [hokr]
    exact h1, own, 0, ⟨⟨HOK.out.2, Nat.le_refl _⟩, A2, c2, hnew, HK2.out, by
      refine Kd.F_alloc (Kd.F_mono HR3.out (fun k hk => ?_)) _
      rw [hokr]
      have := hk.2
      have := HW12.out
      exact ⟨⟨fun h => by have := h.1; omega, by omega⟩, by omega⟩⟩, Nat.zero_le _, by omega, HOB.out, .inl ⟨rfl, rfl⟩⟩
  have HB4 := Aside0.mk (HB3.out.alloc HB3.out.size (.cells #[.slice A2 own.length c2, .int .i64 0, .int .i64 0] 67))
  have HHW : Aside0 (w.heap.size ≤ w2.heap.size) := ⟨HB3.out.size⟩
  obtain ⟨h, hh⟩ : ∃ h, h = w2.heap.size := ⟨_, rfl⟩
  rw [← hh] at HBo HOK HHW HOKS ⊢
  generalize w2.alloc (.cells #[.slice A2 own.length c2, .int .i64 0, .int .i64 0] 67) = w3 at HBo HB4 ⊢
  clear hh hokr hnew
  go_loopw [8] (fun v w' => ∃ i : Nat, v = .int .i64 (i : Int) ∧ Aside0 (Both okr (fun k => ¬ okr k ∧ k ≤ h) w' g h) ∧ Aside0 (Below w.heap.size w w')) (fun v _ => (l1.length - intOf v).toNat)
  case atStart => exact ⟨0, rfl, HBo, HB4⟩
  case round =>
    obtain ⟨i, rfl, HBi, HB⟩ := hrel
    rcases Classical.em (i < l1.length ∧ i < 10) with hi | hi
    · obtain ⟨hi1, hi2⟩ := hi
      obtain ⟨e, xs, hrd, hrf⟩ := HBi.out
      obtain ⟨ad, had, hx, hy⟩ := kd2_at (Kd.C_below HR1.out HB.out) i hi1
      subst had
      have hw := HWF.out _ (List.getElem_mem hi1)
      generalize l1[i] = p at hx hy hw
      obtain ⟨p1, p2⟩ := p
      have hy' : wr.cell? ⟨(ad.add (i * 2)).block, (ad.add (i * 2)).off + 1, none⟩ = some (.int .i64 p2) := by rw [← add_field _ _ 1 (by omega)]; exact hy
      obtain ⟨q, hq, heq⟩ := around_eq p1 5 hw.1 (by decide) (by decide)
      obtain ⟨q2, hq2, heq2⟩ := around_eq p2 31 hw.2 (by decide) (by decide)
      have HQ := Aside0.mk heq
      have HQ2 := Aside0.mk heq2
      have HRD1 := Aside0.mk hrd
      have HRF1 := Aside0.mk hrf
      have i0 : (0 : Int) ≤ (i : Int) := by omega
      clear heq heq2 hrd hrf HBi hw
      go_wp2_with fail
      refine (around_new p1 5 (q : Int) _ HQ.out).mono ?_
      rintro r w5 ⟨rfl, n5, rfl⟩
      have HRD5 := Aside0.mk (RD_drewN HRD1.out n5)
      have HRF5 := Aside0.mk (RF_drewN HRF1.out n5)
      have HB5 := Aside0.mk (pw_below_drewN HB.out n5)
      have hqc : q = 0 ∨ q = 1 ∨ q = 2 ∨ q = 3 ∨ q = 4 := by omega
      have hi1' : (i : Int) < 10 := by omega
      clear hq hx hy hy'
      rcases hqc with rfl | rfl | rfl | rfl | rfl
      case' inl =>
        go_wp2_with fail
        refine (U32R_calls okr g e xs _ HRD5.out).mono ?_
        rintro r w6 ⟨rfl, hrd, hm⟩
        rw [show valN 0 (takeO e xs 4) % 4294967296 = readU32 e xs from rfl]
        have HRD6 := Aside0.mk hrd
        have HRF6 := Aside0.mk (RF_mov HRF5.out hm (fun hn => hn.1 HOK.out.1))
        have HB6 := Aside0.mk (Mov.below HB5.out hm (Nat.le_refl _) HGW.out)
        clear hrd hm HRD5 HRF5 HB5
        go_wp2_with fail
        refine (U32W_calls _ h e xs _ HRF6.out).mono ?_
        rintro r w7 ⟨rfl, hrf, hm⟩
        have HRF7 := Aside0.mk hrf
        have HRD7 := Aside0.mk (RD_mov HRD6.out hm HOK.out.2)
        have HB7 := Aside0.mk (Mov.below HB6.out hm (Nat.le_refl _) HHW.out)
        clear hrf hm HRD6 HRF6 HB6
        go_wp2_with fail
        have HBO : Aside0 (∃ e7 xs7, RD okr w7 g e7 xs7 ∧ RF (fun k => ¬ okr k ∧ k ≤ h) w7 h e7 xs7) := ⟨_, _, HRD7.out, HRF7.out⟩
      case' inr.inl =>
        go_wp2_with fail
        refine (U64R_calls okr g e xs _ HRD5.out).mono ?_
        rintro r w6 ⟨rfl, hrd, hm⟩
        rw [show valN 0 (takeO e xs 8) = readU64 e xs from rfl]
        have HRD6 := Aside0.mk hrd
        have HRF6 := Aside0.mk (RF_mov HRF5.out hm (fun hn => hn.1 HOK.out.1))
        have HB6 := Aside0.mk (Mov.below HB5.out hm (Nat.le_refl _) HGW.out)
        clear hrd hm HRD5 HRF5 HB5
        go_wp2_with fail
        refine (U64W_calls _ h e xs _ HRF6.out).mono ?_
        rintro r w7 ⟨rfl, hrf, hm⟩
        have HRF7 := Aside0.mk hrf
        have HRD7 := Aside0.mk (RD_mov HRD6.out hm HOK.out.2)
        have HB7 := Aside0.mk (Mov.below HB6.out hm (Nat.le_refl _) HHW.out)
        clear hrf hm HRD6 HRF6 HB6
        go_wp2_with fail
        have HBO : Aside0 (∃ e7 xs7, RD okr w7 g e7 xs7 ∧ RF (fun k => ¬ okr k ∧ k ≤ h) w7 h e7 xs7) := ⟨_, _, HRD7.out, HRF7.out⟩
      case' inr.inr.inl =>
        go_wp2_with fail
        refine (BoolR_calls okr g e xs _ HRD5.out).mono ?_
        rintro r w6 ⟨rfl, hrd, hm⟩
        have HRD6 := Aside0.mk hrd
        have HRF6 := Aside0.mk (RF_mov HRF5.out hm (fun hn => hn.1 HOK.out.1))
        have HB6 := Aside0.mk (Mov.below HB5.out hm (Nat.le_refl _) HGW.out)
        clear hrd hm HRD5 HRF5 HB5
        obtain ⟨bb, hbb⟩ : ∃ bb, bb = (readU32 e xs == 1) := ⟨_, rfl⟩
        rw [← hbb]
        go_wp2_with fail
        refine (BoolW_calls _ h e xs _ HRF6.out).mono ?_
        rintro r w7 ⟨rfl, hrf, hm⟩
        rw [← hbb]
        have HRF7 := Aside0.mk hrf
        have HRD7 := Aside0.mk (RD_mov HRD6.out hm HOK.out.2)
        have HB7 := Aside0.mk (Mov.below HB6.out hm (Nat.le_refl _) HHW.out)
        clear hrf hm HRD6 HRF6 HB6 hbb
        go_wp2_with fail
        have HBO : Aside0 (∃ e7 xs7, RD okr w7 g e7 xs7 ∧ RF (fun k => ¬ okr k ∧ k ≤ h) w7 h e7 xs7) := ⟨_, _, HRD7.out, HRF7.out⟩
      case' inr.inr.inr.inl =>
        go_wp2_with fail
        refine (around_new p2 31 (q2 : Int) _ HQ2.out).mono ?_
        rintro r w6 ⟨rfl, n6, rfl⟩
        have HRD6 := Aside0.mk (RD_drewN HRD1.out (n5 + n6))
        have HRF6 := Aside0.mk (RF_drewN HRF1.out (n5 + n6))
        have HB6 := Aside0.mk (pw_below_drewN HB.out (n5 + n6))
        go_wp2_with fail
        generalize wr.drewN (n5 + n6) = w6 at HRD6 HRF6 HB6 ⊢
        clear HRD5 HRF5 HB5 HRD1 HRF1 HB
        obtain ⟨ys, hys⟩ : ∃ ys, ys = textO e xs (q2 : Int) := ⟨_, rfl⟩
        have HYS := Aside0.mk hys
        clear hys
        go_region_held3 (fun w' => K2 g h w6 w')
          (first | exact HKb | exact HKa | exact (K2.refl g h _).drew)
          (first
            | (go_at_call 31; refine (TextR_calls okr g e xs (q2 : Int) _ (RD_below HRD6.out (below_drew (Below.refl _ _)))).mono ?_; rintro r wa ⟨va, rfl, hpa, hra, hma⟩; rw [← HYS.out] at hpa; obtain ⟨A5, c5, rfl, hl5, hf5⟩ := hpa; have HKa : K2 g h w6 wa := (K2.refl g h _).drew.mov1 hma; have HFa := RF_mov (RF_below HRF6.out (below_drew (Below.refl _ _))) hma (fun hn => hn.1 HOK.out.1); have hcv := K2.conv (c := c5) Try.underlying24 Try.underlying5 Try.underlying9 (Part_old (w := w6) ⟨hma.os, hma.tape, hma.output, hma.size, hma.block⟩ HOK.out.2 (fun k hk => Nat.lt_trans (HOKS.out k hk) (RF_lt HRF6.out)) hf5))
            | (go_at_call 43; refine (TextW_calls _ h e xs (q2 : Int) _ HFa).mono ?_; rintro r wb ⟨vb, rfl, hpb, hrb, hmb⟩; rw [← HYS.out] at hpb; obtain ⟨A6, c6, rfl, hl6, hf6⟩ := hpb; have HKb : K2 g h w6 wb := HKa.mov2 hmb; have hcv2 := K2.conv (c := c6) Try.underlying24 Try.underlying5 Try.underlying9 (Part_oldw (w := w6) ⟨hma.os, hma.tape, hma.output, hma.size, hma.block⟩ hmb HOK.out.1 (RF_lt HRF6.out) hf6)))
        all_goals
          have HRF7 := Aside0.mk hrb
          have HRD7 := Aside0.mk (RD_mov hra hmb HOK.out.2)
          have HB7 := Aside0.mk (Mov.below (Mov.below (below_drew HB6.out) hma (Nat.le_refl _) HGW.out) hmb (Nat.le_refl _) HHW.out)
          clear hra hrb hma hmb hcv hcv2 HKa HKb HFa hf5 hf6 HRD6 HRF6 HB6
          go_wp2_with fail
          obtain ⟨w7, hw7⟩ : ∃ w7, w7 = wb := ⟨_, rfl⟩
          rw [← hw7] at HRF7 HRD7 HB7 ⊢
          have HBO : Aside0 (∃ e7 xs7, RD okr w7 g e7 xs7 ∧ RF (fun k => ¬ okr k ∧ k ≤ h) w7 h e7 xs7) := ⟨_, _, HRD7.out, HRF7.out⟩
          clear hw7
      case' inr.inr.inr.inr =>
        go_wp2_with fail
        have HRD6 := HRD5
        have HRF6 := HRF5
        have HB6 := HB5
        generalize wr.drewN n5 = w6 at HRD6 HRF6 HB6 ⊢
        clear HRD5 HRF5 HB5 HRD1 HRF1 HB
        obtain ⟨ys, hys⟩ : ∃ ys, ys = textO e xs p2 := ⟨_, rfl⟩
        have HYS := Aside0.mk hys
        clear hys
        go_region_held3 (fun w' => K2 g h w6 w')
          (first | exact HKb | exact HKa | exact (K2.refl g h _).drew)
          (first
            | (go_at_call 31; refine (TextR_calls okr g e xs p2 _ (RD_below HRD6.out (below_drew (Below.refl _ _)))).mono ?_; rintro r wa ⟨va, rfl, hpa, hra, hma⟩; rw [← HYS.out] at hpa; obtain ⟨A5, c5, rfl, hl5, hf5⟩ := hpa; have HKa : K2 g h w6 wa := (K2.refl g h _).drew.mov1 hma; have HFa := RF_mov (RF_below HRF6.out (below_drew (Below.refl _ _))) hma (fun hn => hn.1 HOK.out.1); have hcv := K2.conv (c := c5) Try.underlying24 Try.underlying5 Try.underlying9 (Part_old (w := w6) ⟨hma.os, hma.tape, hma.output, hma.size, hma.block⟩ HOK.out.2 (fun k hk => Nat.lt_trans (HOKS.out k hk) (RF_lt HRF6.out)) hf5))
            | (go_at_call 43; refine (TextW_calls _ h e xs p2 _ HFa).mono ?_; rintro r wb ⟨vb, rfl, hpb, hrb, hmb⟩; rw [← HYS.out] at hpb; obtain ⟨A6, c6, rfl, hl6, hf6⟩ := hpb; have HKb : K2 g h w6 wb := HKa.mov2 hmb; have hcv2 := K2.conv (c := c6) Try.underlying24 Try.underlying5 Try.underlying9 (Part_oldw (w := w6) ⟨hma.os, hma.tape, hma.output, hma.size, hma.block⟩ hmb HOK.out.1 (RF_lt HRF6.out) hf6)))
        all_goals
          have HRF7 := Aside0.mk hrb
          have HRD7 := Aside0.mk (RD_mov hra hmb HOK.out.2)
          have HB7 := Aside0.mk (Mov.below (Mov.below (below_drew HB6.out) hma (Nat.le_refl _) HGW.out) hmb (Nat.le_refl _) HHW.out)
          clear hra hrb hma hmb hcv hcv2 HKa HKb HFa hf5 hf6 HRD6 HRF6 HB6
          go_wp2_with fail
          obtain ⟨w7, hw7⟩ : ∃ w7, w7 = wb := ⟨_, rfl⟩
          rw [← hw7] at HRF7 HRD7 HB7 ⊢
          have HBO : Aside0 (∃ e7 xs7, RD okr w7 g e7 xs7 ∧ RF (fun k => ¬ okr k ∧ k ≤ h) w7 h e7 xs7) := ⟨_, _, HRD7.out, HRF7.out⟩
          clear hw7
      all_goals
        clear HRD7 HRF7
        obtain ⟨e7, xs7, hrd7, hrf7⟩ := HBO.out
        have hc7 := RF_e hrf7
        have HRD7 := Aside0.mk hrd7
        have HRF7 := Aside0.mk hrf7
        clear hrd7 hrf7 HBO
        go_quiet ((first
          | (go_at_call 32; exact Calls.quiet_of_same (ErrnoR_calls okr g e7 xs7 _ (RD_drewN HRD7.out _)))
          | (go_at_call 34; exact Calls.quiet_of_same (LeftR_calls okr g e7 xs7 _ (RD_drewN HRD7.out _)))
          | (go_at_call 44; exact Calls.quiet_of (LeftW_calls _ h e7 xs7 _ (RF_drewN HRF7.out _)))
          | (go_at_call 45; exact Calls.quiet_of_same (EndR_calls okr g e7 xs7 _ (RD_drewN HRD7.out _)))
          | (go_at_call 46; exact Calls.quiet_of (EndW_calls _ h e7 xs7 _ (RF_drewN HRF7.out _)))))
        go_wp2_with fail
        go_roundw
        case rel => exact ⟨i + 1, by simp, ⟨e7, xs7, RD_drewN HRD7.out _, RF_drewN HRF7.out _⟩, ⟨pw_below_drewN HB7.out _⟩⟩
        case measure => simp [intOf]; omega
    · have hend : ¬ (i < l1.length) ∨ (10 : Int) ≤ (i : Int) := by omega
      rcases hend with hend | hend
      all_goals
        clear hi
        go_wp2_with fail
        all_goals
          refine (lives_new _).mono ?_
          rintro r w4 ⟨rfl, hB4⟩
          have HB4 := Aside0.mk (HB.out.trans (hB4.mono HB.out.size))
          clear hB4
          go_wp2_with fail
          go_ret
          exact ⟨rfl, HB4.out⟩

theorem bytes_of' {l : List Int} (h : ∀ x ∈ l, (Lit.int .u8 x).wf = true) : Bytes l := fun x hx => by
  have := h x hx
  simp [Lit.wf, IntKind.min, IntKind.max, IntKind.signed, IntKind.bits] at this
  omega
end Go.Proofs.Ytdfnhmgopihfcaa.H
