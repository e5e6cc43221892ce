-- Written by a program of this session (wip/tools), over the kit's printer; Lean checks it.
import Derived.Test.YtdfnhmgopihfcaaPx0
import Derived.Test.YtdfnhmgopihfcaaPx1
import Derived.Test.YtdfnhmgopihfcaaPx2
import Derived.Test.YtdfnhmgopihfcaaPx3
import Derived.Test.YtdfnhmgopihfcaaPx4
namespace Go.Proofs.Ytdfnhmgopihfcaa.P
open Go.RowKit Go.Proofs.YtdfnhmgopihfcaaW.PrintWords Go.Proofs.YtdfnhmgopihfcaaW.PrintLast Go.Proofs.YtdfnhmgopihfcaaW.PrintMore
attribute [local go_sem] max2_int min2_int max_two min_two max_three min_three max_four min_four   -- for this text's walks alone
set_option linter.unusedVariables false
set_option linter.unusedSimpArgs false

/-! ### truchmanlaw03_MarkSizes: function 5 -/
mutual
def truchmanlaw03_MarkSizes.l0 : Nat → Int → Int → Int → List Int → Int → Int → Option (Bool)
  | 0, _, _, _, _, _, _ => none
  | k + 1, x1, x5, x6, x7, x8, x9 => if x9 < (x7.length : Int) then (if 0 ≤ x9 then (truchmanlaw03_MarkSizes.l0 k x1 x5 x6 x7 (wrap64 (x8 + (rd x7 x9))) (wrap64 (x9 + 1))) else (none)) else ((truchmanref03_Sizes.f k x5 x6).bind fun t276 => ((truchmanlaw03_same.f k x7 t276).bind fun t279 => (if t279 = true then (truchmanlaw03_MarkSizes.j1 k x1 x5 (x8 != x5)) else (truchmanlaw03_MarkSizes.j1 k x1 x5 true))))
def truchmanlaw03_MarkSizes.j1 : Nat → Int → Int → Bool → Option (Bool)
  | 0, _, _, _ => none
  | k + 1, x1, x5, x40 => if x40 = true then (some false) else ((mark_Sizes.f k x5 (mx x1 1)).bind fun t280 => ((truchmanref03_Sizes.f k x5 (mx x1 1)).bind fun t283 => ((truchmanlaw03_same.f k t280 t283).bind fun t286 => (if t286 = true then ((truchmanlaw03_lives.f k).bind fun t287 => (some t287)) else (some false)))))
end
def truchmanlaw03_MarkSizes.f (k : Nat) (a0 : Int) (a1 : Int) : Option (Bool) := (truchmanref01_Around.f a0 4097).bind fun t270 => ((truchmanref01_Around.f a1 100).bind fun t271 => ((mark_Sizes.f k t270 (wrap64 (1 + t271))).bind fun t272 => (truchmanlaw03_MarkSizes.l0 k a1 t270 (wrap64 (1 + t271)) t272 0 0)))
theorem truchmanlaw03_MarkSizes.mono_l : ∀ k, (∀ y0 y1 y2 y3 y4 y5, LeO (truchmanlaw03_MarkSizes.l0 k y0 y1 y2 y3 y4 y5) (truchmanlaw03_MarkSizes.l0 (k + 1) y0 y1 y2 y3 y4 y5)) ∧ (∀ y0 y1 y2, LeO (truchmanlaw03_MarkSizes.j1 k y0 y1 y2) (truchmanlaw03_MarkSizes.j1 (k + 1) y0 y1 y2))
  | 0 => ⟨fun _ _ _ _ _ _ r h => by simp [truchmanlaw03_MarkSizes.l0] at h, fun _ _ _ r h => by simp [truchmanlaw03_MarkSizes.j1] at h⟩
  | k + 1 => by
    obtain ⟨ih0, ih1⟩ := truchmanlaw03_MarkSizes.mono_l k
    refine ⟨?_, ?_⟩
    · intro y0 y1 y2 y3 y4 y5
      unfold truchmanlaw03_MarkSizes.l0
      repeat' first
      | (with_reducible exact ih0 _ _ _ _ _ _)
      | (with_reducible exact ih1 _ _ _)
      | (with_reducible exact mark_Sizes.mono _ _ _)
      | (with_reducible exact truchmanlaw03_lives.mono _)
      | (with_reducible exact truchmanlaw03_same.mono _ _ _)
      | (with_reducible exact truchmanref03_Sizes.mono _ _ _)
      | (with_reducible exact LeO.refl _)
      | (with_reducible exact LeO.none _)
      | (with_reducible refine LeO.ite ?_ ?_)
      | (with_reducible refine LeO.bind ?_ (fun _ => ?_))
      | exact ih0 _ _ _ _ _ _
      | exact ih1 _ _ _
      | exact mark_Sizes.mono _ _ _
      | exact truchmanlaw03_lives.mono _
      | exact truchmanlaw03_same.mono _ _ _
      | exact truchmanref03_Sizes.mono _ _ _
      | exact LeO.none _
      | refine LeO.ite ?_ ?_
      | refine LeO.bind ?_ (fun _ => ?_)
    · intro y0 y1 y2
      unfold truchmanlaw03_MarkSizes.j1
      repeat' first
      | (with_reducible exact ih0 _ _ _ _ _ _)
      | (with_reducible exact ih1 _ _ _)
      | (with_reducible exact mark_Sizes.mono _ _ _)
      | (with_reducible exact truchmanlaw03_lives.mono _)
      | (with_reducible exact truchmanlaw03_same.mono _ _ _)
      | (with_reducible exact truchmanref03_Sizes.mono _ _ _)
      | (with_reducible exact LeO.refl _)
      | (with_reducible exact LeO.none _)
      | (with_reducible refine LeO.ite ?_ ?_)
      | (with_reducible refine LeO.bind ?_ (fun _ => ?_))
      | exact ih0 _ _ _ _ _ _
      | exact ih1 _ _ _
      | exact mark_Sizes.mono _ _ _
      | exact truchmanlaw03_lives.mono _
      | exact truchmanlaw03_same.mono _ _ _
      | exact truchmanref03_Sizes.mono _ _ _
      | exact LeO.none _
      | refine LeO.ite ?_ ?_
      | refine LeO.bind ?_ (fun _ => ?_)
theorem truchmanlaw03_MarkSizes.mono : ∀ a0 a1 k, LeO (truchmanlaw03_MarkSizes.f k a0 a1) (truchmanlaw03_MarkSizes.f (k + 1) a0 a1) := by
  intro a0 a1 k
  obtain ⟨ih0, ih1⟩ := truchmanlaw03_MarkSizes.mono_l k
  unfold truchmanlaw03_MarkSizes.f
  repeat' first
      | (with_reducible exact ih0 _ _ _ _ _ _)
      | (with_reducible exact ih1 _ _ _)
      | (with_reducible exact mark_Sizes.mono _ _ _)
      | (with_reducible exact truchmanlaw03_lives.mono _)
      | (with_reducible exact truchmanlaw03_same.mono _ _ _)
      | (with_reducible exact truchmanref03_Sizes.mono _ _ _)
      | (with_reducible exact LeO.refl _)
      | (with_reducible exact LeO.none _)
      | (with_reducible refine LeO.ite ?_ ?_)
      | (with_reducible refine LeO.bind ?_ (fun _ => ?_))
      | exact ih0 _ _ _ _ _ _
      | exact ih1 _ _ _
      | exact mark_Sizes.mono _ _ _
      | exact truchmanlaw03_lives.mono _
      | exact truchmanlaw03_same.mono _ _ _
      | exact truchmanref03_Sizes.mono _ _ _
      | exact LeO.none _
      | refine LeO.ite ?_ ?_
      | refine LeO.bind ?_ (fun _ => ?_)
set_option maxHeartbeats 8000000 in
set_option maxRecDepth 100000 in
theorem truchmanlaw03_MarkSizes.calls (k : Nat) (a0 : Int) (a1 : Int) (r : Bool) (w : World) (hrt : Aside0 (r = true)) (h : truchmanlaw03_MarkSizes.f k a0 a1 = some r) :
    Calls Try.prog 5 #[.int .i64 a0, .int .i64 a1] w fun e w' => e = .returned (.bool r) ∧ Below w.heap.size w w' := by
  have HB := Aside0.mk (Below.refl w.heap.size w)
  have H : ((truchmanref01_Around.f a0 4097).bind fun t270 => ((truchmanref01_Around.f a1 100).bind fun t271 => ((mark_Sizes.f k t270 (wrap64 (1 + t271))).bind fun t272 => (truchmanlaw03_MarkSizes.l0 k a1 t270 (wrap64 (1 + t271)) t272 0 0)))) = some r := h
  clear h
  replace H := Option.bind_eq_some_iff.mp H
  obtain ⟨t270, A30, H⟩ := H
  replace H : ((truchmanref01_Around.f a1 100).bind fun t271 => ((mark_Sizes.f k t270 (wrap64 (1 + t271))).bind fun t272 => (truchmanlaw03_MarkSizes.l0 k a1 t270 (wrap64 (1 + t271)) t272 0 0))) = some r := H
  have A3 := Aside0.mk A30
  clear A30
  replace H := Option.bind_eq_some_iff.mp H
  obtain ⟨t271, A40, H⟩ := H
  replace H : ((mark_Sizes.f k t270 (wrap64 (1 + t271))).bind fun t272 => (truchmanlaw03_MarkSizes.l0 k a1 t270 (wrap64 (1 + t271)) t272 0 0)) = some r := H
  have A4 := Aside0.mk A40
  clear A40
  replace H := Option.bind_eq_some_iff.mp H
  obtain ⟨t272, A50, H⟩ := H
  replace H : (truchmanlaw03_MarkSizes.l0 k a1 t270 (wrap64 (1 + t271)) t272 0 0) = some r := H
  have A5 := Aside0.mk A50
  clear A50
  have H' := Aside0.mk H
  clear H
  go_enter Try.func5, Try.ntmps5
  go_wp2_with (first | ((with_reducible refine gate_callee (f := 23) rfl ?_); refine goesL_ (some 11) rfl rfl Try.func23 (by kernel_rfl) rfl #[.int .i64 a0, .int .i64 4097] rfl (by (try simp only [List.map_toArray, List.map_cons, List.map_nil]); first | done | rfl | (simp only [List.length_drop, List.length_take]; rfl)) ?_; (with_reducible refine (truchmanref01_Around.calls a0 4097 t270 _ A3.out).mono ?_); rintro e w' ⟨rfl, ⟨nd, rfl⟩⟩; refine ⟨_, rfl, ?_⟩) | ((with_reducible refine gate_callee (f := 23) rfl ?_); refine goesL_ (some 13) rfl rfl Try.func23 (by kernel_rfl) rfl #[.int .i64 a1, .int .i64 100] rfl (by (try simp only [List.map_toArray, List.map_cons, List.map_nil]); first | done | rfl | (simp only [List.length_drop, List.length_take]; rfl)) ?_; (with_reducible refine (truchmanref01_Around.calls a1 100 t271 _ A4.out).mono ?_); rintro e w' ⟨rfl, ⟨nd, rfl⟩⟩; refine ⟨_, rfl, ?_⟩) | ((with_reducible refine gate_callee (f := 24) rfl ?_); refine goesL_ (some 17) rfl rfl Try.func24 (by kernel_rfl) rfl #[.int .i64 t270, .int .i64 (wrap64 (1 + t271))] rfl (by (try simp only [List.map_toArray, List.map_cons, List.map_nil]); first | done | rfl | (simp only [List.length_drop, List.length_take]; rfl)) ?_; (with_reducible refine (mark_Sizes.calls k t270 (wrap64 (1 + t271)) t272 _ A5.out).mono ?_); rintro e w6 ⟨v273, rfl, ho0, hb⟩; refine ⟨_, rfl, ?_⟩; have n0_ := Aside0.mk (Kd.R_lower ho0 (below_size (by repeat (first | (with_reducible first | exact HB.out | apply below_alloc | apply pw_below_drewN | apply below_drew1) | exact HB.out)))); have n1_ := Aside0.mk (below_step (by repeat (first | (with_reducible first | exact HB.out | apply below_alloc | apply pw_below_drewN | apply below_drew1) | exact HB.out)) hb); clear HB; have HO274 := n0_; have HB := n1_; clear n0_ n1_; (try clear hb); (try clear hb2); (try clear hk); (try clear hi); (try clear ho0)))
  go_loopg [8, 9] k (fun kq v8 v9 w' => ∃ (x8_1 : Int) (x9_1 : Int), v8 = .int .i64 x8_1 ∧ v9 = .int .i64 x9_1 ∧ Aside0 (truchmanlaw03_MarkSizes.l0 kq a1 t270 (wrap64 (1 + t271)) t272 x8_1 x9_1 = some r) ∧ Aside0 (kq ≤ k) ∧ Aside0 (Kd.R (Kd.int .i64) 3 w' w.heap.size (fun _ => True) v273 t272) ∧ Aside0 (Below w.heap.size w w'))
  case atStart => exact ⟨(0), (0), (by first | rfl | (simp; done) | (simp [*]; done)), (by first | rfl | (simp; done) | (simp [*]; done)), H', ⟨Nat.le_refl _⟩, ⟨by (with_reducible repeat (first | apply Kd.R_alloc | apply Kd.R_drewN | apply Kd.R_drew)); exact HO274.out⟩, ⟨by repeat (first | (with_reducible first | exact HB.out | apply below_alloc | apply pw_below_drewN | apply below_drew1) | exact HB.out)⟩⟩
  case round =>
    clear H'
    try clear c2
    try clear p2
    try clear c5
    try clear p6
    obtain ⟨x8_1, x9_1, rfl, rfl, HA, HK1, HO_7, HB⟩ := hrel
    cases gk with
    | zero => exact absurd HA.out (by simp [truchmanlaw03_MarkSizes.l0])
    | succ k1 =>
      have H := HA.out
      clear HA
      simp only [truchmanlaw03_MarkSizes.l0] at H
      by_cases c7 : x9_1 < (t272.length : Int)
      · rw [if_pos c7] at H
        have c7b0 : decide (x9_1 < (t272.length : Int)) = true := decide_eq_true c7
        clear c7
        by_cases c8 : 0 ≤ x9_1
        · rw [if_pos c8] at H
          have c8b0 : decide (0 ≤ x9_1) = true := decide_eq_true c8
          clear c8
          have H' := Aside0.mk H
          clear H
          obtain ⟨Ao9, co9, eo9⟩ := Kd.R_slice HO_7.out
          subst eo9
          have p275 : 0 ≤ (x9_1 : Int) := of_decide_eq_true (by first | (with_reducible assumption) | assumption)
          have q275 : x9_1 < (t272.length : Int) := of_decide_eq_true (by first | (with_reducible assumption) | assumption)
          obtain ⟨ad275, e275, hx275_0⟩ := Kd.at_int (Kd.R_reads' HO_7.out).2.2 x9_1 p275 q275
          cases e275
          replace p275 := eq_true p275
          replace q275 := eq_true q275
          go_wp2
          go_roundg k1
          case measure => have := HK1.out; omega
          case rel => exact ⟨(wrap64 (x8_1 + (rd t272 x9_1))), (wrap64 (x9_1 + 1)), (by first | rfl | (simp; done) | (simp [*]; done)), (by first | rfl | (simp; done) | (simp [*]; done)), H', ⟨by have := HK1.out; omega⟩, ⟨by (with_reducible repeat (first | apply Kd.R_alloc | apply Kd.R_drewN | apply Kd.R_drew)); exact HO_7.out⟩, ⟨by repeat (first | (with_reducible first | exact HB.out | apply below_alloc | apply pw_below_drewN | apply below_drew1) | exact HB.out)⟩⟩
        · rw [if_neg c8] at H
          exact absurd H (by simp)
      · rw [if_neg c7] at H
        have c7b0 : decide (x9_1 < (t272.length : Int)) = false := decide_eq_false c7
        clear c7
        have HC10 := Aside0.mk H
        clear H
        obtain ⟨Ao11, co11, eo11⟩ := Kd.R_slice HO_7.out
        subst eo11
        go_upto_region 9 with (fail)
        go_cut [40] (fun v40 wc => ∃ (kq : Nat) (x40_9 : Bool), v40 = .bool x40_9 ∧ Aside0 (truchmanlaw03_MarkSizes.j1 kq a1 t270 x40_9 = some r) ∧ Aside0 (kq ≤ k1) ∧ Aside0 (Below w.heap.size w wc))
        case first =>
          have H := HC10.out
          clear HC10
          replace H := Option.bind_eq_some_iff.mp H
          obtain ⟨t276, A120, H⟩ := H
          replace H : ((truchmanlaw03_same.f k1 t272 t276).bind fun t279 => (if t279 = true then (truchmanlaw03_MarkSizes.j1 k1 a1 t270 (x8_1 != t270)) else (truchmanlaw03_MarkSizes.j1 k1 a1 t270 true))) = some r := H
          have A12 := Aside0.mk A120
          clear A120
          replace H := Option.bind_eq_some_iff.mp H
          obtain ⟨t279, A130, H⟩ := H
          replace H : (if t279 = true then (truchmanlaw03_MarkSizes.j1 k1 a1 t270 (x8_1 != t270)) else (truchmanlaw03_MarkSizes.j1 k1 a1 t270 true)) = some r := H
          have A13 := Aside0.mk A130
          clear A130
          by_cases c14 : t279 = true
          · subst c14
            have H1 : (truchmanlaw03_MarkSizes.j1 k1 a1 t270 (x8_1 != t270)) = some r := by rw [if_pos rfl] at H; exact H
            clear H
            have H := H1
            clear H1
            have H' := Aside0.mk H
            clear H
            go_wp2_with (first | ((with_reducible refine gate_callee (f := 26) rfl ?_); refine goesL_ (some 33) rfl rfl Try.func26 (by kernel_rfl) rfl #[.int .i64 t270, .int .i64 (wrap64 (1 + t271))] rfl (by (try simp only [List.map_toArray, List.map_cons, List.map_nil]); first | done | rfl | (simp only [List.length_drop, List.length_take]; rfl)) ?_; (with_reducible refine (truchmanref03_Sizes.calls k1 t270 (wrap64 (1 + t271)) t276 _ A12.out).mono ?_); rintro e w15 ⟨v277, rfl, ho0, hb⟩; refine ⟨_, rfl, ?_⟩; have n0_ := Aside0.mk (Kd.R_elder' (by (with_reducible repeat (first | apply Kd.R_alloc | apply Kd.R_drewN | apply Kd.R_drew)); exact HO_7.out) (Kd.R_base ho0) hb); have n1_ := Aside0.mk (Kd.R_lower (Kd.R_new' ho0 (Kd.R_lt (by (with_reducible repeat (first | apply Kd.R_alloc | apply Kd.R_drewN | apply Kd.R_drew)); exact HO_7.out))) (below_size (by repeat (first | (with_reducible first | exact HB.out | apply below_alloc | apply pw_below_drewN | apply below_drew1) | exact HB.out)))); have n2_ := Aside0.mk (below_step (by repeat (first | (with_reducible first | exact HB.out | apply below_alloc | apply pw_below_drewN | apply below_drew1) | exact HB.out)) hb); clear HO_7; clear HB; have HO_7 := n0_; have HO278 := n1_; have HB := n2_; clear n0_ n1_ n2_; (try clear hb); (try clear hb2); (try clear hk); (try clear hi); (try clear ho0); obtain ⟨Ao16, co16, eo16⟩ := Kd.R_slice HO278.out; subst eo16) | ((with_reducible refine gate_callee (f := 25) rfl ?_); refine goesL_ (some 34) rfl rfl Try.func25 (by kernel_rfl) rfl #[.slice Ao11 t272.length co11, .slice Ao16 t276.length co16] rfl (by (try simp only [List.map_toArray, List.map_cons, List.map_nil]); first | done | rfl | (simp only [List.length_drop, List.length_take]; rfl)) ?_; (with_reducible refine (truchmanlaw03_same.calls k1 _ _ t272 _ _ t276 true _ ?side1 ?side2 ?side3 ?side4 A13.out).mono ?_); (case side1 => repeat (first | exact (Kd.R_reads' HO_7.out).2.2 | (with_reducible refine Kd.C_alloc ?_ _) | (with_reducible refine Kd.C_drewN ?_ _) | (with_reducible refine Kd.C_drew ?_))); (case side2 => exact (Kd.R_reads' HO_7.out).2.1); (case side3 => repeat (first | exact (Kd.R_reads' HO278.out).2.2 | (with_reducible refine Kd.C_alloc ?_ _) | (with_reducible refine Kd.C_drewN ?_ _) | (with_reducible refine Kd.C_drew ?_))); (case side4 => exact (Kd.R_reads' HO278.out).2.1); rintro e w' ⟨rfl, ⟨nd, rfl⟩⟩; refine ⟨_, rfl, ?_⟩))
            go_meet
            case rel => exact ⟨_, ((x8_1 != t270)), (by first | rfl | (simp; done) | (simp [*]; done)), H', ⟨by have := HK1.out; first | omega | exact Nat.le_refl _⟩, ⟨by repeat (first | (with_reducible first | exact HB.out | apply below_alloc | apply pw_below_drewN | apply below_drew1) | exact HB.out)⟩⟩
          · replace c14 := Bool.eq_false_iff.mpr c14
            subst c14
            have H1 : (truchmanlaw03_MarkSizes.j1 k1 a1 t270 true) = some r := by rw [if_neg (show ¬ (false = true) by decide)] at H; exact H
            clear H
            have H := H1
            clear H1
            have H' := Aside0.mk H
            clear H
            go_wp2_with (first | ((with_reducible refine gate_callee (f := 26) rfl ?_); refine goesL_ (some 33) rfl rfl Try.func26 (by kernel_rfl) rfl #[.int .i64 t270, .int .i64 (wrap64 (1 + t271))] rfl (by (try simp only [List.map_toArray, List.map_cons, List.map_nil]); first | done | rfl | (simp only [List.length_drop, List.length_take]; rfl)) ?_; (with_reducible refine (truchmanref03_Sizes.calls k1 t270 (wrap64 (1 + t271)) t276 _ A12.out).mono ?_); rintro e w17 ⟨v277, rfl, ho0, hb⟩; refine ⟨_, rfl, ?_⟩; have n0_ := Aside0.mk (Kd.R_elder' (by (with_reducible repeat (first | apply Kd.R_alloc | apply Kd.R_drewN | apply Kd.R_drew)); exact HO_7.out) (Kd.R_base ho0) hb); have n1_ := Aside0.mk (Kd.R_lower (Kd.R_new' ho0 (Kd.R_lt (by (with_reducible repeat (first | apply Kd.R_alloc | apply Kd.R_drewN | apply Kd.R_drew)); exact HO_7.out))) (below_size (by repeat (first | (with_reducible first | exact HB.out | apply below_alloc | apply pw_below_drewN | apply below_drew1) | exact HB.out)))); have n2_ := Aside0.mk (below_step (by repeat (first | (with_reducible first | exact HB.out | apply below_alloc | apply pw_below_drewN | apply below_drew1) | exact HB.out)) hb); clear HO_7; clear HB; have HO_7 := n0_; have HO278 := n1_; have HB := n2_; clear n0_ n1_ n2_; (try clear hb); (try clear hb2); (try clear hk); (try clear hi); (try clear ho0); obtain ⟨Ao18, co18, eo18⟩ := Kd.R_slice HO278.out; subst eo18) | ((with_reducible refine gate_callee (f := 25) rfl ?_); refine goesL_ (some 34) rfl rfl Try.func25 (by kernel_rfl) rfl #[.slice Ao11 t272.length co11, .slice Ao18 t276.length co18] rfl (by (try simp only [List.map_toArray, List.map_cons, List.map_nil]); first | done | rfl | (simp only [List.length_drop, List.length_take]; rfl)) ?_; (with_reducible refine (truchmanlaw03_same.calls k1 _ _ t272 _ _ t276 false _ ?side1 ?side2 ?side3 ?side4 A13.out).mono ?_); (case side1 => repeat (first | exact (Kd.R_reads' HO_7.out).2.2 | (with_reducible refine Kd.C_alloc ?_ _) | (with_reducible refine Kd.C_drewN ?_ _) | (with_reducible refine Kd.C_drew ?_))); (case side2 => exact (Kd.R_reads' HO_7.out).2.1); (case side3 => repeat (first | exact (Kd.R_reads' HO278.out).2.2 | (with_reducible refine Kd.C_alloc ?_ _) | (with_reducible refine Kd.C_drewN ?_ _) | (with_reducible refine Kd.C_drew ?_))); (case side4 => exact (Kd.R_reads' HO278.out).2.1); rintro e w' ⟨rfl, ⟨nd, rfl⟩⟩; refine ⟨_, rfl, ?_⟩))
            go_meet
            case rel => exact ⟨_, (true), (by first | rfl | (simp; done) | (simp [*]; done)), H', ⟨by have := HK1.out; first | omega | exact Nat.le_refl _⟩, ⟨by repeat (first | (with_reducible first | exact HB.out | apply below_alloc | apply pw_below_drewN | apply below_drew1) | exact HB.out)⟩⟩
        case rest =>
          clear HC10
          try clear c1
          try clear c2
          try clear p2
          try clear q2
          try clear hx2
          try clear c5
          try clear p6
          try clear c7
          try clear c7b0
          try clear c8
          try clear c8b0
          try clear c14
          try clear hx275_0
          try clear p2
          try clear p275
          try clear p6
          try clear q275
          obtain ⟨kq, x40_9, rfl, HA, HJ9, HB⟩ := hcut
          cases kq with
          | zero => exact absurd HA.out (by simp [truchmanlaw03_MarkSizes.j1])
          | succ kj9 =>
            have H := HA.out
            clear HA
            simp only [truchmanlaw03_MarkSizes.j1] at H
            by_cases c19 : x40_9 = true
            · subst c19
              have H1 : (some false) = some r := by rw [if_pos rfl] at H; exact H
              clear H
              have H := H1
              clear H1
              obtain rfl := Option.some.inj H
              exact absurd hrt.out (by decide)
            · replace c19 := Bool.eq_false_iff.mpr c19
              subst c19
              have H1 : ((mark_Sizes.f kj9 t270 (mx a1 1)).bind fun t280 => ((truchmanref03_Sizes.f kj9 t270 (mx a1 1)).bind fun t283 => ((truchmanlaw03_same.f kj9 t280 t283).bind fun t286 => (if t286 = true then ((truchmanlaw03_lives.f kj9).bind fun t287 => (some t287)) else (some false))))) = some r := by rw [if_neg (show ¬ (false = true) by decide)] at H; exact H
              clear H
              have H := H1
              clear H1
              obtain ⟨ji20, hji20⟩ : ∃ j_ : Int, (mx a1 1) = j_ := ⟨_, rfl⟩
              replace H : ((mark_Sizes.f kj9 t270 (ji20)).bind fun t280 => ((truchmanref03_Sizes.f kj9 t270 (ji20)).bind fun t283 => ((truchmanlaw03_same.f kj9 t280 t283).bind fun t286 => (if t286 = true then ((truchmanlaw03_lives.f kj9).bind fun t287 => (some t287)) else (some false))))) = some r := by first | (rw [hji20] at H; exact H) | (simp only [hji20] at H ⊢; exact H)
              have hji20_ : (if a1 < 1 then 1 else a1) = ji20 := hji20
              replace H := Option.bind_eq_some_iff.mp H
              obtain ⟨t280, A210, H⟩ := H
              replace H : ((truchmanref03_Sizes.f kj9 t270 (ji20)).bind fun t283 => ((truchmanlaw03_same.f kj9 t280 t283).bind fun t286 => (if t286 = true then ((truchmanlaw03_lives.f kj9).bind fun t287 => (some t287)) else (some false)))) = some r := H
              have A21 := Aside0.mk A210
              clear A210
              replace H := Option.bind_eq_some_iff.mp H
              obtain ⟨t283, A220, H⟩ := H
              replace H : ((truchmanlaw03_same.f kj9 t280 t283).bind fun t286 => (if t286 = true then ((truchmanlaw03_lives.f kj9).bind fun t287 => (some t287)) else (some false))) = some r := H
              have A22 := Aside0.mk A220
              clear A220
              replace H := Option.bind_eq_some_iff.mp H
              obtain ⟨t286, A230, H⟩ := H
              replace H : (if t286 = true then ((truchmanlaw03_lives.f kj9).bind fun t287 => (some t287)) else (some false)) = some r := H
              have A23 := Aside0.mk A230
              clear A230
              by_cases c24 : t286 = true
              · subst c24
                have H1 : ((truchmanlaw03_lives.f kj9).bind fun t287 => (some t287)) = some r := by rw [if_pos rfl] at H; exact H
                clear H
                have H := H1
                clear H1
                replace H := Option.bind_eq_some_iff.mp H
                obtain ⟨t287, A250, H⟩ := H
                replace H : (some t287) = some r := H
                have A25 := Aside0.mk A250
                clear A250
                obtain rfl := Option.some.inj H
                go_wp2_with (first | ((with_reducible refine gate_callee (f := 24) rfl ?_); refine goesL_ (some 44) rfl rfl Try.func24 (by kernel_rfl) rfl #[.int .i64 t270, .int .i64 ji20] rfl (by (try simp only [List.map_toArray, List.map_cons, List.map_nil]); first | done | (simp only [hji20]; rfl) | rfl | (simp only [List.length_drop, List.length_take]; rfl)) ?_; (with_reducible refine (mark_Sizes.calls kj9 t270 ji20 t280 _ A21.out).mono ?_); rintro e w26 ⟨v281, rfl, ho0, hb⟩; refine ⟨_, rfl, ?_⟩; have n0_ := Aside0.mk (Kd.R_lower ho0 (below_size (by repeat (first | (with_reducible first | exact HB.out | apply below_alloc | apply pw_below_drewN | apply below_drew1) | exact HB.out)))); have n1_ := Aside0.mk (below_step (by repeat (first | (with_reducible first | exact HB.out | apply below_alloc | apply pw_below_drewN | apply below_drew1) | exact HB.out)) hb); clear HB; have HO282 := n0_; have HB := n1_; clear n0_ n1_; (try clear hb); (try clear hb2); (try clear hk); (try clear hi); (try clear ho0)) | ((with_reducible refine gate_callee (f := 26) rfl ?_); refine goesL_ (some 48) rfl rfl Try.func26 (by kernel_rfl) rfl #[.int .i64 t270, .int .i64 ji20] rfl (by (try simp only [List.map_toArray, List.map_cons, List.map_nil]); first | done | (simp only [hji20]; rfl) | rfl | (simp only [List.length_drop, List.length_take]; rfl)) ?_; (with_reducible refine (truchmanref03_Sizes.calls kj9 t270 ji20 t283 _ A22.out).mono ?_); rintro e w27 ⟨v284, rfl, ho0, hb⟩; refine ⟨_, rfl, ?_⟩; have n0_ := Aside0.mk (Kd.R_elder' (by (with_reducible repeat (first | apply Kd.R_alloc | apply Kd.R_drewN | apply Kd.R_drew)); exact HO282.out) (Kd.R_base ho0) hb); have n1_ := Aside0.mk (Kd.R_lower (Kd.R_new' ho0 (Kd.R_lt (by (with_reducible repeat (first | apply Kd.R_alloc | apply Kd.R_drewN | apply Kd.R_drew)); exact HO282.out))) (below_size (by repeat (first | (with_reducible first | exact HB.out | apply below_alloc | apply pw_below_drewN | apply below_drew1) | exact HB.out)))); have n2_ := Aside0.mk (below_step (by repeat (first | (with_reducible first | exact HB.out | apply below_alloc | apply pw_below_drewN | apply below_drew1) | exact HB.out)) hb); clear HO282; clear HB; have HO282 := n0_; have HO285 := n1_; have HB := n2_; clear n0_ n1_ n2_; (try clear hb); (try clear hb2); (try clear hk); (try clear hi); (try clear ho0); obtain ⟨Ao28, co28, eo28⟩ := Kd.R_slice HO282.out; subst eo28; obtain ⟨Ao29, co29, eo29⟩ := Kd.R_slice HO285.out; subst eo29) | ((with_reducible refine gate_callee (f := 25) rfl ?_); refine goesL_ (some 49) rfl rfl Try.func25 (by kernel_rfl) rfl #[.slice Ao28 t280.length co28, .slice Ao29 t283.length co29] rfl (by (try simp only [List.map_toArray, List.map_cons, List.map_nil]); first | done | rfl | (simp only [List.length_drop, List.length_take]; rfl)) ?_; (with_reducible refine (truchmanlaw03_same.calls kj9 _ _ t280 _ _ t283 true _ ?side1 ?side2 ?side3 ?side4 A23.out).mono ?_); (case side1 => repeat (first | exact (Kd.R_reads' HO282.out).2.2 | (with_reducible refine Kd.C_alloc ?_ _) | (with_reducible refine Kd.C_drewN ?_ _) | (with_reducible refine Kd.C_drew ?_))); (case side2 => exact (Kd.R_reads' HO282.out).2.1); (case side3 => repeat (first | exact (Kd.R_reads' HO285.out).2.2 | (with_reducible refine Kd.C_alloc ?_ _) | (with_reducible refine Kd.C_drewN ?_ _) | (with_reducible refine Kd.C_drew ?_))); (case side4 => exact (Kd.R_reads' HO285.out).2.1); rintro e w' ⟨rfl, ⟨nd, rfl⟩⟩; refine ⟨_, rfl, ?_⟩) | (go_at_call 27; (with_reducible refine (truchmanlaw03_lives.calls kj9  t287 _ A25.out).mono ?_); rintro e w30 ⟨rfl, hb⟩; have n0_ := Aside0.mk (Kd.R_below (by (with_reducible repeat (first | apply Kd.R_alloc | apply Kd.R_drewN | apply Kd.R_drew)); exact HO282.out) hb); have n1_ := Aside0.mk (Kd.R_below (by (with_reducible repeat (first | apply Kd.R_alloc | apply Kd.R_drewN | apply Kd.R_drew)); exact HO285.out) hb); have n2_ := Aside0.mk (below_step (by repeat (first | (with_reducible first | exact HB.out | apply below_alloc | apply pw_below_drewN | apply below_drew1) | exact HB.out)) hb); clear HO282; clear HO285; clear HB; have HO282 := n0_; have HO285 := n1_; have HB := n2_; clear n0_ n1_ n2_; (try clear hb); (try clear hb2); (try clear hk); (try clear hi)))
                go_ret
                exact ⟨by first | rfl | (simp [errW_none, errW_some] <;> rfl) | (simp only [← hji20]; first | rfl | (simp [errW_none, errW_some] <;> rfl)) | (simp [*, errW_none, errW_some] <;> rfl), by repeat (first | (with_reducible first | exact HB.out | apply below_alloc | apply pw_below_drewN | apply below_drew1) | exact HB.out)⟩
              · replace c24 := Bool.eq_false_iff.mpr c24
                subst c24
                have H1 : (some false) = some r := by rw [if_neg (show ¬ (false = true) by decide)] at H; exact H
                clear H
                have H := H1
                clear H1
                obtain rfl := Option.some.inj H
                exact absurd hrt.out (by decide)

/-- THE ONE PURE STATEMENT of truchmanlaw03_MarkSizes: yours. -/
def truchmanlaw03_MarkSizes.Pure : Prop := ∀ (a0 : Int) (a1 : Int), (Lit.int .i64 a0).wf = true → (Lit.int .i64 a1).wf = true → ∃ k, truchmanlaw03_MarkSizes.f k a0 a1 = some true
theorem truchmanlaw03_MarkSizes.walk (P : truchmanlaw03_MarkSizes.Pure) (a0 : Int) (a1 : Int) (w : World) (w0 : (Lit.int .i64 a0).wf = true) (w1 : (Lit.int .i64 a1).wf = true) :
    Calls Try.prog 5 #[.int .i64 a0, .int .i64 a1] w fun e w' => e = .returned (.bool true) ∧ Below w.heap.size w w' := by
  obtain ⟨k, h⟩ := P a0 a1 w0 w1
  refine (truchmanlaw03_MarkSizes.calls k a0 a1 true w ⟨rfl⟩ h).mono ?_
  rintro e w' ⟨rfl, hd⟩
  exact ⟨rfl, hd⟩

/-! ### truchmanref03_Mark: function 29 -/
def truchmanref03_Mark.l0 : Nat → List Int → List Int → List Int → Int → Int → Option (List Int × Int)
  | 0, _, _, _, _, _ => none
  | k + 1, x0, x6, x7, x8, x9 => if x9 < (x6.length : Int) then (if 0 ≤ x9 then (if x9 = (wrap64 ((x6.length : Int) - 1)) then ((truchmanref01_U32.f ((((rd x6 x9) % 4294967296) + 2147483648) % 4294967296)).bind fun t292 => (if x7.length + t292.length < 140737488355328 then ((some (x7 ++ t292 : List Int)).bind fun y295 => (if 0 ≤ x8 then (if x8 ≤ (wrap64 (x8 + (rd x6 x9))) then (if (wrap64 (x8 + (rd x6 x9))) ≤ (x0.length : Int) then (if y295.length + ((x0.take ((wrap64 (x8 + (rd x6 x9))) : Int).toNat).drop (x8 : Int).toNat).length < 140737488355328 then (truchmanref03_Mark.l0 k x0 x6 (y295 ++ ((x0.take ((wrap64 (x8 + (rd x6 x9))) : Int).toNat).drop (x8 : Int).toNat)) (wrap64 (x8 + (rd x6 x9))) (wrap64 (x9 + 1))) else (none)) else (none)) else (none)) else (none))) else (none))) else ((truchmanref01_U32.f ((rd x6 x9) % 4294967296)).bind fun t304 => (if x7.length + t304.length < 140737488355328 then ((some (x7 ++ t304 : List Int)).bind fun y307 => (if 0 ≤ x8 then (if x8 ≤ (wrap64 (x8 + (rd x6 x9))) then (if (wrap64 (x8 + (rd x6 x9))) ≤ (x0.length : Int) then (if y307.length + ((x0.take ((wrap64 (x8 + (rd x6 x9))) : Int).toNat).drop (x8 : Int).toNat).length < 140737488355328 then (truchmanref03_Mark.l0 k x0 x6 (y307 ++ ((x0.take ((wrap64 (x8 + (rd x6 x9))) : Int).toNat).drop (x8 : Int).toNat)) (wrap64 (x8 + (rd x6 x9))) (wrap64 (x9 + 1))) else (none)) else (none)) else (none)) else (none))) else (none)))) else (none)) else (some (x7, 0))
def truchmanref03_Mark.f (k : Nat) (l0 : List Int) (a1 : Int) : Option (List Int × Int) := if a1 < 1 then (some (([] : List Int), 1)) else (if (l0.length : Int) > 4096 then (some (([] : List Int), 4)) else ((truchmanref03_Sizes.f k (l0.length : Int) a1).bind fun t288 => (if (t288.length : Int) > 64 then (some (([] : List Int), 5)) else (truchmanref03_Mark.l0 k l0 t288 ([] : List Int) 0 0))))
theorem truchmanref03_Mark.mono_l : ∀ k, (∀ y0 y1 y2 y3 y4, LeO (truchmanref03_Mark.l0 k y0 y1 y2 y3 y4) (truchmanref03_Mark.l0 (k + 1) y0 y1 y2 y3 y4))
  | 0 => fun _ _ _ _ _ r h => by simp [truchmanref03_Mark.l0] at h
  | k + 1 => by
    have ih0 := truchmanref03_Mark.mono_l k
    · intro y0 y1 y2 y3 y4
      unfold truchmanref03_Mark.l0
      repeat' first
      | (with_reducible exact ih0 _ _ _ _ _)
      | (with_reducible exact truchmanref03_Sizes.mono _ _ _)
      | (with_reducible exact LeO.refl _)
      | (with_reducible exact LeO.none _)
      | (with_reducible refine LeO.ite ?_ ?_)
      | (with_reducible refine LeO.bind ?_ (fun _ => ?_))
      | exact ih0 _ _ _ _ _
      | exact truchmanref03_Sizes.mono _ _ _
      | exact LeO.none _
      | refine LeO.ite ?_ ?_
      | refine LeO.bind ?_ (fun _ => ?_)
theorem truchmanref03_Mark.mono : ∀ a0 a1 k, LeO (truchmanref03_Mark.f k a0 a1) (truchmanref03_Mark.f (k + 1) a0 a1) := by
  intro a0 a1 k
  have ih0 := truchmanref03_Mark.mono_l k
  unfold truchmanref03_Mark.f
  repeat' first
      | (with_reducible exact ih0 _ _ _ _ _)
      | (with_reducible exact truchmanref03_Sizes.mono _ _ _)
      | (with_reducible exact LeO.refl _)
      | (with_reducible exact LeO.none _)
      | (with_reducible refine LeO.ite ?_ ?_)
      | (with_reducible refine LeO.bind ?_ (fun _ => ?_))
      | exact ih0 _ _ _ _ _
      | exact truchmanref03_Sizes.mono _ _ _
      | exact LeO.none _
      | refine LeO.ite ?_ ?_
      | refine LeO.bind ?_ (fun _ => ?_)
set_option maxHeartbeats 8000000 in
set_option maxRecDepth 100000 in
theorem truchmanref03_Mark.calls (k : Nat) (A0 : Option Addr) (c0 : Nat) (l0 : List Int) (a1 : Int) (r1 : List Int) (r2 : Int) (w : World) (hr0 : Kd.C (Kd.int .u8) w A0 l0.length l0) (hc0 : l0.length ≤ c0) (h : truchmanref03_Mark.f k l0 a1 = some (r1, r2)) :
    Calls Try.prog 29 #[.slice A0 l0.length c0, .int .i64 a1] w fun e w' => ∃ v0_ : Value, e = .returned (.tuple #[v0_, .int .i64 r2]) ∧ Kd.R (Kd.int .u8) 5 w' w.heap.size (fun _ => True) v0_ r1 ∧ Below w.heap.size w w' := by
  have HR0 := Aside0.mk hr0
  have HC0 := Aside0.mk hc0
  clear hr0 hc0
  have HB := Aside0.mk (Below.refl w.heap.size w)
  have H : (if a1 < 1 then (some (([] : List Int), 1)) else (if (l0.length : Int) > 4096 then (some (([] : List Int), 4)) else ((truchmanref03_Sizes.f k (l0.length : Int) a1).bind fun t288 => (if (t288.length : Int) > 64 then (some (([] : List Int), 5)) else (truchmanref03_Mark.l0 k l0 t288 ([] : List Int) 0 0))))) = some (r1, r2) := h
  clear h
  by_cases c3 : a1 < 1
  · rw [if_pos c3] at H
    have c3b0 : decide (a1 < 1) = true := decide_eq_true c3
    clear c3
    simp only [Option.some.injEq, Prod.mk.injEq] at H
    obtain ⟨rfl, rfl⟩ := H
    go_enter Try.func29, Try.ntmps29
    go_wp2
    go_ret2
    exact ⟨_, by first | rfl | (simp [errW_none, errW_some] <;> rfl) | (simp [*, errW_none, errW_some] <;> rfl), by first | exact Kd.R_nil _ _ _ _ _ | exact Kd.N_nil _ _ _ _ _ | exact Kd.V_nil _ _ _ _ _ | exact Kd.Q_nil _ _ _ _ _ | exact Kd.S_nil _ _ _ _ _, by repeat (first | (with_reducible first | exact HB.out | apply below_alloc | apply pw_below_drewN | apply below_drew1) | exact HB.out)⟩
  · rw [if_neg c3] at H
    have c3b0 : decide (a1 < 1) = false := decide_eq_false c3
    clear c3
    by_cases c4 : (l0.length : Int) > 4096
    · rw [if_pos c4] at H
      have c4b0 : decide (4096 < (l0.length : Int)) = true := decide_eq_true c4
      have c4b1 : decide (4096 < l0.length) = true := decide_eq_true (by omega)
      clear c4
      simp only [Option.some.injEq, Prod.mk.injEq] at H
      obtain ⟨rfl, rfl⟩ := H
      go_enter Try.func29, Try.ntmps29
      go_wp2
      go_ret2
      exact ⟨_, by first | rfl | (simp [errW_none, errW_some] <;> rfl) | (simp [*, errW_none, errW_some] <;> rfl), by first | exact Kd.R_nil _ _ _ _ _ | exact Kd.N_nil _ _ _ _ _ | exact Kd.V_nil _ _ _ _ _ | exact Kd.Q_nil _ _ _ _ _ | exact Kd.S_nil _ _ _ _ _, by repeat (first | (with_reducible first | exact HB.out | apply below_alloc | apply pw_below_drewN | apply below_drew1) | exact HB.out)⟩
    · rw [if_neg c4] at H
      have c4b0 : decide (4096 < (l0.length : Int)) = false := decide_eq_false c4
      have c4b1 : decide (4096 < l0.length) = false := decide_eq_false (by omega)
      clear c4
      replace H := Option.bind_eq_some_iff.mp H
      obtain ⟨t288, A50, H⟩ := H
      replace H : (if (t288.length : Int) > 64 then (some (([] : List Int), 5)) else (truchmanref03_Mark.l0 k l0 t288 ([] : List Int) 0 0)) = some (r1, r2) := H
      have A5 := Aside0.mk A50
      clear A50
      by_cases c6 : (t288.length : Int) > 64
      · rw [if_pos c6] at H
        have c6b0 : decide (64 < (t288.length : Int)) = true := decide_eq_true c6
        have c6b1 : decide (64 < t288.length) = true := decide_eq_true (by omega)
        clear c6
        simp only [Option.some.injEq, Prod.mk.injEq] at H
        obtain ⟨rfl, rfl⟩ := H
        go_enter Try.func29, Try.ntmps29
        go_wp2_with (first | ((with_reducible refine gate_callee (f := 26) rfl ?_); refine goesL_ (some 19) rfl rfl Try.func26 (by kernel_rfl) rfl #[.int .i64 (l0.length : Int), .int .i64 a1] rfl (by (try simp only [List.map_toArray, List.map_cons, List.map_nil]); first | done | rfl | (simp only [List.length_drop, List.length_take]; rfl)) ?_; (with_reducible refine (truchmanref03_Sizes.calls k (l0.length : Int) a1 t288 _ A5.out).mono ?_); rintro e w7 ⟨v289, rfl, ho0, hb⟩; refine ⟨_, rfl, ?_⟩; have n0_ := Aside0.mk (Kd.R_lower ho0 (below_size (by repeat (first | (with_reducible first | exact HB.out | apply below_alloc | apply pw_below_drewN | apply below_drew1) | exact HB.out)))); have n1_ := Aside0.mk (below_step (by repeat (first | (with_reducible first | exact HB.out | apply below_alloc | apply pw_below_drewN | apply below_drew1) | exact HB.out)) hb); clear HB; have HO290 := n0_; have HB := n1_; clear n0_ n1_; (try clear hb); (try clear hb2); (try clear hk); (try clear hi); (try clear ho0); obtain ⟨Ao8, co8, eo8⟩ := Kd.R_slice HO290.out; subst eo8))
        go_ret2
        exact ⟨_, by first | rfl | (simp [errW_none, errW_some] <;> rfl) | (simp [*, errW_none, errW_some] <;> rfl), by first | exact Kd.R_nil _ _ _ _ _ | exact Kd.N_nil _ _ _ _ _ | exact Kd.V_nil _ _ _ _ _ | exact Kd.Q_nil _ _ _ _ _ | exact Kd.S_nil _ _ _ _ _, by repeat (first | (with_reducible first | exact HB.out | apply below_alloc | apply pw_below_drewN | apply below_drew1) | exact HB.out)⟩
      · rw [if_neg c6] at H
        have c6b0 : decide (64 < (t288.length : Int)) = false := decide_eq_false c6
        have c6b1 : decide (64 < t288.length) = false := decide_eq_false (by omega)
        clear c6
        have H' := Aside0.mk H
        clear H
        go_enter Try.func29, Try.ntmps29
        go_wp2_with (first | ((with_reducible refine gate_callee (f := 26) rfl ?_); refine goesL_ (some 19) rfl rfl Try.func26 (by kernel_rfl) rfl #[.int .i64 (l0.length : Int), .int .i64 a1] rfl (by (try simp only [List.map_toArray, List.map_cons, List.map_nil]); first | done | rfl | (simp only [List.length_drop, List.length_take]; rfl)) ?_; (with_reducible refine (truchmanref03_Sizes.calls k (l0.length : Int) a1 t288 _ A5.out).mono ?_); rintro e w9 ⟨v289, rfl, ho0, hb⟩; refine ⟨_, rfl, ?_⟩; have n0_ := Aside0.mk (Kd.R_lower ho0 (below_size (by repeat (first | (with_reducible first | exact HB.out | apply below_alloc | apply pw_below_drewN | apply below_drew1) | exact HB.out)))); have n1_ := Aside0.mk (below_step (by repeat (first | (with_reducible first | exact HB.out | apply below_alloc | apply pw_below_drewN | apply below_drew1) | exact HB.out)) hb); clear HB; have HO290 := n0_; have HB := n1_; clear n0_ n1_; (try clear hb); (try clear hb2); (try clear hk); (try clear hi); (try clear ho0); obtain ⟨Ao10, co10, eo10⟩ := Kd.R_slice HO290.out; subst eo10))
        go_loopg [7, 8, 9] k (fun kq v7 v8 v9 w' => ∃ (x7_1 : List Int) (x8_1 : Int) (x9_1 : Int), v8 = .int .i64 x8_1 ∧ v9 = .int .i64 x9_1 ∧ Aside0 (truchmanref03_Mark.l0 kq l0 t288 x7_1 x8_1 x9_1 = some (r1, r2)) ∧ Aside0 (kq ≤ k) ∧ Aside0 (Kd.R (Kd.int .i64) 3 w' w.heap.size (fun _ => True) (.slice Ao10 t288.length co10) t288) ∧ Aside0 (Kd.R (Kd.int .u8) 5 w' w.heap.size (fun _ => True) v7 x7_1) ∧ Aside0 (Below w.heap.size w w'))
        case atStart => exact ⟨(([] : List Int)), (0), (0), (by first | rfl | (simp; done) | (simp [*]; done)), (by first | rfl | (simp; done) | (simp [*]; done)), H', ⟨Nat.le_refl _⟩, ⟨by (with_reducible repeat (first | apply Kd.R_alloc | apply Kd.R_drewN | apply Kd.R_drew)); exact HO290.out⟩, ⟨by first | exact Kd.R_nil _ _ _ _ _ | exact Kd.N_nil _ _ _ _ _ | exact Kd.V_nil _ _ _ _ _ | exact Kd.Q_nil _ _ _ _ _ | exact Kd.S_nil _ _ _ _ _⟩, ⟨by repeat (first | (with_reducible first | exact HB.out | apply below_alloc | apply pw_below_drewN | apply below_drew1) | exact HB.out)⟩⟩
        case round =>
          clear H'
          try clear c2
          try clear p2
          try clear c3
          try clear c3b0
          try clear c4
          try clear c4b0
          try clear c4b1
          try clear c6
          try clear c6b0
          try clear c6b1
          obtain ⟨x7_1, x8_1, x9_1, rfl, rfl, HA, HK1, HO_6, HO_7, HB⟩ := hrel
          cases gk with
          | zero => exact absurd HA.out (by simp [truchmanref03_Mark.l0])
          | succ k1 =>
            have H := HA.out
            clear HA
            simp only [truchmanref03_Mark.l0] at H
            by_cases c11 : x9_1 < (t288.length : Int)
            · rw [if_pos c11] at H
              have c11b0 : decide (x9_1 < (t288.length : Int)) = true := decide_eq_true c11
              clear c11
              by_cases c12 : 0 ≤ x9_1
              · rw [if_pos c12] at H
                have c12b0 : decide (0 ≤ x9_1) = true := decide_eq_true c12
                clear c12
                by_cases c13 : x9_1 = (wrap64 ((t288.length : Int) - 1))
                · rw [if_pos c13] at H
                  have c13b0 : (x9_1 == (wrap64 ((t288.length : Int) - 1))) = true := beq_iff_eq.mpr c13
                  have c13b1 : (x9_1 != (wrap64 ((t288.length : Int) - 1))) = false := bne_eq_false_iff_eq.mpr c13
                  clear c13
                  replace H := Option.bind_eq_some_iff.mp H
                  obtain ⟨t292, A140, H⟩ := H
                  replace H : (if x7_1.length + t292.length < 140737488355328 then ((some (x7_1 ++ t292 : List Int)).bind fun y295 => (if 0 ≤ x8_1 then (if x8_1 ≤ (wrap64 (x8_1 + (rd t288 x9_1))) then (if (wrap64 (x8_1 + (rd t288 x9_1))) ≤ (l0.length : Int) then (if y295.length + ((l0.take ((wrap64 (x8_1 + (rd t288 x9_1))) : Int).toNat).drop (x8_1 : Int).toNat).length < 140737488355328 then (truchmanref03_Mark.l0 k1 l0 t288 (y295 ++ ((l0.take ((wrap64 (x8_1 + (rd t288 x9_1))) : Int).toNat).drop (x8_1 : Int).toNat)) (wrap64 (x8_1 + (rd t288 x9_1))) (wrap64 (x9_1 + 1))) else (none)) else (none)) else (none)) else (none))) else (none)) = some (r1, r2) := H
                  have A14 := Aside0.mk A140
                  clear A140
                  by_cases c15 : x7_1.length + t292.length < 140737488355328
                  · rw [if_pos c15] at H
                    have LMc15 := Aside0.mk c15
                    clear c15
                    obtain ⟨y295, hy295⟩ : ∃ y_ : List Int, y_ = (x7_1 ++ t292) := ⟨_, rfl⟩
                    replace H : (if 0 ≤ x8_1 then (if x8_1 ≤ (wrap64 (x8_1 + (rd t288 x9_1))) then (if (wrap64 (x8_1 + (rd t288 x9_1))) ≤ (l0.length : Int) then (if y295.length + ((l0.take ((wrap64 (x8_1 + (rd t288 x9_1))) : Int).toNat).drop (x8_1 : Int).toNat).length < 140737488355328 then (truchmanref03_Mark.l0 k1 l0 t288 (y295 ++ ((l0.take ((wrap64 (x8_1 + (rd t288 x9_1))) : Int).toNat).drop (x8_1 : Int).toNat)) (wrap64 (x8_1 + (rd t288 x9_1))) (wrap64 (x9_1 + 1))) else (none)) else (none)) else (none)) else (none)) = some (r1, r2) := by first | (rw [hy295]; with_reducible exact H) | (have H2_ := (Option.bind_some _ _).symm.trans H; rw [hy295]; with_reducible exact H2_) | (have H2_ := (Option.bind_some _ _).symm.trans H; with_reducible exact H2_) | with_reducible exact H | (rw [hy295]; exact H) | exact H
                    have Ny295 := Aside0.mk hy295
                    clear hy295
                    by_cases c16 : 0 ≤ x8_1
                    · rw [if_pos c16] at H
                      have c16b0 := eq_true c16
                      have c16b1 : decide (0 ≤ x8_1) = true := decide_eq_true c16
                      clear c16
                      by_cases c17 : x8_1 ≤ (wrap64 (x8_1 + (rd t288 x9_1)))
                      · rw [if_pos c17] at H
                        have c17b0 := eq_true c17
                        have c17b1 : decide (x8_1 ≤ (wrap64 (x8_1 + (rd t288 x9_1)))) = true := decide_eq_true c17
                        by_cases c18 : (wrap64 (x8_1 + (rd t288 x9_1))) ≤ (l0.length : Int)
                        · rw [if_pos c18] at H
                          have c18b0 := eq_true c18
                          have c18b1 : decide ((wrap64 (x8_1 + (rd t288 x9_1))) ≤ (l0.length : Int)) = true := decide_eq_true c18
                          by_cases c19 : y295.length + ((l0.take ((wrap64 (x8_1 + (rd t288 x9_1))) : Int).toNat).drop (x8_1 : Int).toNat).length < 140737488355328
                          · rw [if_pos c19] at H
                            have LMc19 := Aside0.mk c19
                            clear c19
                            obtain ⟨y300, hy300⟩ : ∃ y_ : List Int, y_ = (y295 ++ ((l0.take ((wrap64 (x8_1 + (rd t288 x9_1))) : Int).toNat).drop (x8_1 : Int).toNat)) := ⟨_, rfl⟩
                            replace H : (truchmanref03_Mark.l0 k1 l0 t288 y300 (wrap64 (x8_1 + (rd t288 x9_1))) (wrap64 (x9_1 + 1))) = some (r1, r2) := by first | (rw [hy300]; with_reducible exact H) | (have H2_ := (Option.bind_some _ _).symm.trans H; rw [hy300]; with_reducible exact H2_) | (have H2_ := (Option.bind_some _ _).symm.trans H; with_reducible exact H2_) | with_reducible exact H | (rw [hy300]; exact H) | exact H
                            have Ny300 := Aside0.mk hy300
                            clear hy300
                            have H' := Aside0.mk H
                            clear H
                            have p291 : 0 ≤ (x9_1 : Int) := of_decide_eq_true (by first | (with_reducible assumption) | assumption)
                            have q291 : x9_1 < (t288.length : Int) := of_decide_eq_true (by first | (with_reducible assumption) | assumption)
                            obtain ⟨ad291, e291, hx291_0⟩ := Kd.at_int (Kd.R_reads' HO_6.out).2.2 x9_1 p291 q291
                            cases e291
                            replace p291 := eq_true p291
                            replace q291 := eq_true q291
                            go_wp2_with (first | ((with_reducible refine gate_callee (f := 19) rfl ?_); refine goesL_ (some 43) rfl rfl Try.func19 (by kernel_rfl) rfl #[.int .u32 ((((rd t288 x9_1) % 4294967296) + 2147483648) % 4294967296)] rfl (by (try simp only [List.map_toArray, List.map_cons, List.map_nil]); first | done | rfl | (simp only [List.length_drop, List.length_take]; rfl)) ?_; (with_reducible refine (truchmanref01_U32.calls ((((rd t288 x9_1) % 4294967296) + 2147483648) % 4294967296) t292 _ A14.out).mono ?_); rintro e w20 ⟨v293, rfl, ho0, hb⟩; refine ⟨_, rfl, ?_⟩; have n0_ := Aside0.mk (Kd.R_below (by (with_reducible repeat (first | apply Kd.R_alloc | apply Kd.R_drewN | apply Kd.R_drew)); exact HO_6.out) hb); have n1_ := Aside0.mk (Kd.R_elder' (by (with_reducible repeat (first | apply Kd.R_alloc | apply Kd.R_drewN | apply Kd.R_drew)); exact HO_7.out) (Kd.R_base ho0) hb); have n2_ := Aside0.mk (Kd.R_lower (Kd.R_new' ho0 (Kd.R_lt (by (with_reducible repeat (first | apply Kd.R_alloc | apply Kd.R_drewN | apply Kd.R_drew)); exact HO_7.out))) (below_size (by repeat (first | (with_reducible first | exact HB.out | apply below_alloc | apply pw_below_drewN | apply below_drew1) | exact HB.out)))); have n3_ := Aside0.mk (below_step (by repeat (first | (with_reducible first | exact HB.out | apply below_alloc | apply pw_below_drewN | apply below_drew1) | exact HB.out)) hb); clear HO_6; clear HO_7; clear HB; have HO_6 := n0_; have HO_7 := n1_; have HO294 := n2_; have HB := n3_; clear n0_ n1_ n2_ n3_; (try clear hb); (try clear hb2); (try clear hk); (try clear hi); (try clear ho0); obtain ⟨Ao22, co22, eo22⟩ := Kd.R_slice HO294.out; subst eo22) | ((with_reducible refine gate_builtin (b := .append) (xs := #[.tmp 41, .tmp 43]) rfl ?_); at_builtin; refine Kd.R_append_rows (Kd.int .u8) (w0 := w) w.heap.size rfl (.tmp 41) (.tmp 43) 24 5 (.int .u8 0) 1 rfl Try.underlying24 info5 rfl (by decide) (by omega) u7 x7_1 t292 _ _ _ (fun k_ => some k_ ≠ (.slice Ao22 t292.length co22 : Value).ownBlock) (fun _ => False) rfl rfl ?aO ?aR (fun _ _ h => h) (fun _ h => h.elim) ?aF ?aB ?aS ?aL ?_; (case aR => repeat (first | exact (Kd.R_reads' HO294.out).2.2 | (with_reducible refine Kd.C_alloc ?_ _) | (with_reducible refine Kd.C_drewN ?_ _) | (with_reducible refine Kd.C_drew ?_))); (case aB => exact (by repeat (first | (with_reducible first | exact HB.out | apply below_alloc | apply pw_below_drewN | apply below_drew1) | exact HB.out))); (case aF => exact (fun k_ hk => Kd.fresh' (Kd.R_lt (by (with_reducible repeat (first | apply Kd.R_alloc | apply Kd.R_drewN | apply Kd.R_drew)); exact HO294.out)) k_ hk)); (case aO => exact (by (with_reducible repeat (first | apply Kd.R_alloc | apply Kd.R_drewN | apply Kd.R_drew)); exact Kd.R_mono HO_7.out (fun _ hk => hk.2))); (case aS => exact (below_size (by repeat (first | (with_reducible first | exact HB.out | apply below_alloc | apply pw_below_drewN | apply below_drew1) | exact HB.out)))); (case aL => have := LMc15.out; omega); intro v296 w21 ho hb hg hat; rw [← Ny295.out] at ho; have n0_ := Aside0.mk (Kd.R_over' (by (with_reducible repeat (first | apply Kd.R_alloc | apply Kd.R_drewN | apply Kd.R_drew)); exact HO_6.out) (Kd.R_typed (by (with_reducible repeat (first | apply Kd.R_alloc | apply Kd.R_drewN | apply Kd.R_drew)); exact HO_7.out)) (by decide) hg); have n1_ := Aside0.mk (Kd.R_after (ok := (fun _ => True)) (by (with_reducible repeat (first | apply Kd.R_alloc | apply Kd.R_drewN | apply Kd.R_drew)); exact HO294.out) hg hat); have n2_ := Aside0.mk (hb); have n3_ := Aside0.mk (ho); clear HO_6; clear HO294; clear HB; clear HO_7; have HO_6 := n0_; have HO294 := n1_; have HB := n2_; have HO297 := n3_; clear n0_ n1_ n2_ n3_; clear ho hb hg hat; have p298 : 0 ≤ (x9_1 : Int) := of_decide_eq_true (by first | (with_reducible assumption) | assumption); have q298 : x9_1 < (t288.length : Int) := of_decide_eq_true (by first | (with_reducible assumption) | assumption); obtain ⟨ad298, e298, hx298_0⟩ := Kd.at_int (Kd.R_reads' HO_6.out).2.2 x9_1 p298 q298; obtain rfl : ad291 = ad298 := (by injection e298); replace p298 := eq_true p298; replace q298 := eq_true q298; obtain ⟨i023, hi023, _, hsz23, _⟩ := info_parts info5; obtain ⟨A23, hcut23, hA23, hC23⟩ := print_mid_of (P := Try.prog) (Value.int .u8) 0 24 5 .i64 .i64 Try.underlying24 hi023 hsz23 A0 c0 l0 x8_1 (wrap64 (x8_1 + (rd t288 x9_1))) (of_decide_eq_true (by first | (with_reducible assumption) | assumption)) (by first | omega | exact of_decide_eq_true (by first | (with_reducible assumption) | assumption)) (of_decide_eq_true (by first | (with_reducible assumption) | assumption)) HC0.out; have HR299 := Aside0.mk (Kd.C_of_reads (h1 := fun _ => rfl) (hA23 _ (Kd.reads_of_C HR0.out))); have HC299 := Aside0.mk hC23; clear hA23 hC23 hi023 hsz23) | ((with_reducible refine gate_builtin (b := .append) (xs := #[.tmp 45, .tmp 54]) rfl ?_); at_builtin; refine Kd.R_append_rows (Kd.int .u8) (w0 := w) w.heap.size rfl (.tmp 45) (.tmp 54) 24 5 (.int .u8 0) 1 rfl Try.underlying24 info5 rfl (by decide) (by omega) v296 y295 ((l0.take ((wrap64 (x8_1 + (rd t288 x9_1))) : Int).toNat).drop (x8_1 : Int).toNat) _ _ _ (fun k_ => some k_ ≠ (.slice Ao22 t292.length co22 : Value).ownBlock) (fun _ => False) rfl rfl ?aO ?aR (fun _ _ h => h) (fun _ h => h.elim) ?aF ?aB ?aS ?aL ?_; (case aR => have hlx_ := (show ((l0.take ((wrap64 (x8_1 + (rd t288 x9_1))) : Int).toNat).drop (x8_1 : Int).toNat).length = ((wrap64 (x8_1 + (rd t288 x9_1))).toNat - x8_1.toNat) from (by rw [List.length_drop, List.length_take]; have h_ : ((wrap64 (x8_1 + (rd t288 x9_1))) : Int) ≤ (l0.length : Int) := of_decide_eq_true (by first | (with_reducible assumption) | assumption); omega)); have hr_ := HR299.out; first | (rw [hlx_] at hr_; repeat (first | exact (Kd.C_below hr_ HB.out) | (with_reducible refine Kd.C_alloc ?_ _) | (with_reducible refine Kd.C_drewN ?_ _) | (with_reducible refine Kd.C_drew ?_)); done) | (repeat (first | exact (Kd.C_below HR299.out HB.out) | (with_reducible refine Kd.C_alloc ?_ _) | (with_reducible refine Kd.C_drewN ?_ _) | (with_reducible refine Kd.C_drew ?_)); done) | (rw [← hlx_]; repeat (first | exact (Kd.C_below HR299.out HB.out) | (with_reducible refine Kd.C_alloc ?_ _) | (with_reducible refine Kd.C_drewN ?_ _) | (with_reducible refine Kd.C_drew ?_)); done)); (case aB => exact (by repeat (first | (with_reducible first | exact HB.out | apply below_alloc | apply pw_below_drewN | apply below_drew1) | exact HB.out))); (case aF => exact (fun k_ hk => Kd.fresh' (Kd.R_lt (by (with_reducible repeat (first | apply Kd.R_alloc | apply Kd.R_drewN | apply Kd.R_drew)); exact HO294.out)) k_ hk)); (case aO => exact (by (with_reducible repeat (first | apply Kd.R_alloc | apply Kd.R_drewN | apply Kd.R_drew)); exact HO297.out)); (case aS => exact (below_size (by repeat (first | (with_reducible first | exact HB.out | apply below_alloc | apply pw_below_drewN | apply below_drew1) | exact HB.out)))); (case aL => have := LMc19.out; have hlx_ := (show ((l0.take ((wrap64 (x8_1 + (rd t288 x9_1))) : Int).toNat).drop (x8_1 : Int).toNat).length = ((wrap64 (x8_1 + (rd t288 x9_1))).toNat - x8_1.toNat) from (by rw [List.length_drop, List.length_take]; have h_ : ((wrap64 (x8_1 + (rd t288 x9_1))) : Int) ≤ (l0.length : Int) := of_decide_eq_true (by first | (with_reducible assumption) | assumption); omega)); omega); intro v301 w24 ho hb hg hat; rw [← Ny300.out] at ho; have n0_ := Aside0.mk (Kd.R_over' (by (with_reducible repeat (first | apply Kd.R_alloc | apply Kd.R_drewN | apply Kd.R_drew)); exact HO_6.out) (Kd.R_typed (by (with_reducible repeat (first | apply Kd.R_alloc | apply Kd.R_drewN | apply Kd.R_drew)); exact HO297.out)) (by decide) hg); have n1_ := Aside0.mk (Kd.R_after (ok := (fun _ => True)) (by (with_reducible repeat (first | apply Kd.R_alloc | apply Kd.R_drewN | apply Kd.R_drew)); exact HO294.out) hg hat); have n2_ := Aside0.mk (hb); have n3_ := Aside0.mk (ho); clear HO_6; clear HO294; clear HB; clear HO297; have HO_6 := n0_; have HO294 := n1_; have HB := n2_; have HO302 := n3_; clear n0_ n1_ n2_ n3_; clear ho hb hg hat; have p303 : 0 ≤ (x9_1 : Int) := of_decide_eq_true (by first | (with_reducible assumption) | assumption); have q303 : x9_1 < (t288.length : Int) := of_decide_eq_true (by first | (with_reducible assumption) | assumption); obtain ⟨ad303, e303, hx303_0⟩ := Kd.at_int (Kd.R_reads' HO_6.out).2.2 x9_1 p303 q303; obtain rfl : ad291 = ad303 := (by injection e303); replace p303 := eq_true p303; replace q303 := eq_true q303))
                            go_roundg k1
                            case measure => have := HK1.out; omega
                            case rel => exact ⟨(y300), (wrap64 (x8_1 + (rd t288 x9_1))), (wrap64 (x9_1 + 1)), (by first | rfl | (simp; done) | (simp [*]; done)), (by first | rfl | (simp; done) | (simp [*]; done)), H', ⟨by have := HK1.out; omega⟩, ⟨by (with_reducible repeat (first | apply Kd.R_alloc | apply Kd.R_drewN | apply Kd.R_drew)); exact HO_6.out⟩, ⟨by (with_reducible repeat (first | apply Kd.R_alloc | apply Kd.R_drewN | apply Kd.R_drew)); exact Kd.R_mono HO302.out (fun _ hk => trivial)⟩, ⟨by repeat (first | (with_reducible first | exact HB.out | apply below_alloc | apply pw_below_drewN | apply below_drew1) | exact HB.out)⟩⟩
                          · rw [if_neg c19] at H
                            exact absurd H (by simp)
                        · rw [if_neg c18] at H
                          exact absurd H (by simp)
                      · rw [if_neg c17] at H
                        exact absurd H (by simp)
                    · rw [if_neg c16] at H
                      exact absurd H (by simp)
                  · rw [if_neg c15] at H
                    exact absurd H (by simp)
                · rw [if_neg c13] at H
                  have c13b0 : (x9_1 == (wrap64 ((t288.length : Int) - 1))) = false := beq_eq_false_iff_ne.mpr c13
                  have c13b1 : (x9_1 != (wrap64 ((t288.length : Int) - 1))) = true := bne_iff_ne.mpr c13
                  replace H := Option.bind_eq_some_iff.mp H
                  obtain ⟨t304, A250, H⟩ := H
                  replace H : (if x7_1.length + t304.length < 140737488355328 then ((some (x7_1 ++ t304 : List Int)).bind fun y307 => (if 0 ≤ x8_1 then (if x8_1 ≤ (wrap64 (x8_1 + (rd t288 x9_1))) then (if (wrap64 (x8_1 + (rd t288 x9_1))) ≤ (l0.length : Int) then (if y307.length + ((l0.take ((wrap64 (x8_1 + (rd t288 x9_1))) : Int).toNat).drop (x8_1 : Int).toNat).length < 140737488355328 then (truchmanref03_Mark.l0 k1 l0 t288 (y307 ++ ((l0.take ((wrap64 (x8_1 + (rd t288 x9_1))) : Int).toNat).drop (x8_1 : Int).toNat)) (wrap64 (x8_1 + (rd t288 x9_1))) (wrap64 (x9_1 + 1))) else (none)) else (none)) else (none)) else (none))) else (none)) = some (r1, r2) := H
                  have A25 := Aside0.mk A250
                  clear A250
                  by_cases c26 : x7_1.length + t304.length < 140737488355328
                  · rw [if_pos c26] at H
                    have LMc26 := Aside0.mk c26
                    clear c26
                    obtain ⟨y307, hy307⟩ : ∃ y_ : List Int, y_ = (x7_1 ++ t304) := ⟨_, rfl⟩
                    replace H : (if 0 ≤ x8_1 then (if x8_1 ≤ (wrap64 (x8_1 + (rd t288 x9_1))) then (if (wrap64 (x8_1 + (rd t288 x9_1))) ≤ (l0.length : Int) then (if y307.length + ((l0.take ((wrap64 (x8_1 + (rd t288 x9_1))) : Int).toNat).drop (x8_1 : Int).toNat).length < 140737488355328 then (truchmanref03_Mark.l0 k1 l0 t288 (y307 ++ ((l0.take ((wrap64 (x8_1 + (rd t288 x9_1))) : Int).toNat).drop (x8_1 : Int).toNat)) (wrap64 (x8_1 + (rd t288 x9_1))) (wrap64 (x9_1 + 1))) else (none)) else (none)) else (none)) else (none)) = some (r1, r2) := by first | (rw [hy307]; with_reducible exact H) | (have H2_ := (Option.bind_some _ _).symm.trans H; rw [hy307]; with_reducible exact H2_) | (have H2_ := (Option.bind_some _ _).symm.trans H; with_reducible exact H2_) | with_reducible exact H | (rw [hy307]; exact H) | exact H
                    have Ny307 := Aside0.mk hy307
                    clear hy307
                    by_cases c27 : 0 ≤ x8_1
                    · rw [if_pos c27] at H
                      have c27b0 := eq_true c27
                      have c27b1 : decide (0 ≤ x8_1) = true := decide_eq_true c27
                      clear c27
                      by_cases c28 : x8_1 ≤ (wrap64 (x8_1 + (rd t288 x9_1)))
                      · rw [if_pos c28] at H
                        have c28b0 := eq_true c28
                        have c28b1 : decide (x8_1 ≤ (wrap64 (x8_1 + (rd t288 x9_1)))) = true := decide_eq_true c28
                        by_cases c29 : (wrap64 (x8_1 + (rd t288 x9_1))) ≤ (l0.length : Int)
                        · rw [if_pos c29] at H
                          have c29b0 := eq_true c29
                          have c29b1 : decide ((wrap64 (x8_1 + (rd t288 x9_1))) ≤ (l0.length : Int)) = true := decide_eq_true c29
                          by_cases c30 : y307.length + ((l0.take ((wrap64 (x8_1 + (rd t288 x9_1))) : Int).toNat).drop (x8_1 : Int).toNat).length < 140737488355328
                          · rw [if_pos c30] at H
                            have LMc30 := Aside0.mk c30
                            clear c30
                            obtain ⟨y312, hy312⟩ : ∃ y_ : List Int, y_ = (y307 ++ ((l0.take ((wrap64 (x8_1 + (rd t288 x9_1))) : Int).toNat).drop (x8_1 : Int).toNat)) := ⟨_, rfl⟩
                            replace H : (truchmanref03_Mark.l0 k1 l0 t288 y312 (wrap64 (x8_1 + (rd t288 x9_1))) (wrap64 (x9_1 + 1))) = some (r1, r2) := by first | (rw [hy312]; with_reducible exact H) | (have H2_ := (Option.bind_some _ _).symm.trans H; rw [hy312]; with_reducible exact H2_) | (have H2_ := (Option.bind_some _ _).symm.trans H; with_reducible exact H2_) | with_reducible exact H | (rw [hy312]; exact H) | exact H
                            have Ny312 := Aside0.mk hy312
                            clear hy312
                            have H' := Aside0.mk H
                            clear H
                            have p291 : 0 ≤ (x9_1 : Int) := of_decide_eq_true (by first | (with_reducible assumption) | assumption)
                            have q291 : x9_1 < (t288.length : Int) := of_decide_eq_true (by first | (with_reducible assumption) | assumption)
                            obtain ⟨ad291, e291, hx291_0⟩ := Kd.at_int (Kd.R_reads' HO_6.out).2.2 x9_1 p291 q291
                            cases e291
                            replace p291 := eq_true p291
                            replace q291 := eq_true q291
                            go_wp2_with (first | ((with_reducible refine gate_callee (f := 19) rfl ?_); refine goesL_ (some 43) rfl rfl Try.func19 (by kernel_rfl) rfl #[.int .u32 ((rd t288 x9_1) % 4294967296)] rfl (by (try simp only [List.map_toArray, List.map_cons, List.map_nil]); first | done | rfl | (simp only [List.length_drop, List.length_take]; rfl)) ?_; (with_reducible refine (truchmanref01_U32.calls ((rd t288 x9_1) % 4294967296) t304 _ A25.out).mono ?_); rintro e w31 ⟨v305, rfl, ho0, hb⟩; refine ⟨_, rfl, ?_⟩; have n0_ := Aside0.mk (Kd.R_below (by (with_reducible repeat (first | apply Kd.R_alloc | apply Kd.R_drewN | apply Kd.R_drew)); exact HO_6.out) hb); have n1_ := Aside0.mk (Kd.R_elder' (by (with_reducible repeat (first | apply Kd.R_alloc | apply Kd.R_drewN | apply Kd.R_drew)); exact HO_7.out) (Kd.R_base ho0) hb); have n2_ := Aside0.mk (Kd.R_lower (Kd.R_new' ho0 (Kd.R_lt (by (with_reducible repeat (first | apply Kd.R_alloc | apply Kd.R_drewN | apply Kd.R_drew)); exact HO_7.out))) (below_size (by repeat (first | (with_reducible first | exact HB.out | apply below_alloc | apply pw_below_drewN | apply below_drew1) | exact HB.out)))); have n3_ := Aside0.mk (below_step (by repeat (first | (with_reducible first | exact HB.out | apply below_alloc | apply pw_below_drewN | apply below_drew1) | exact HB.out)) hb); clear HO_6; clear HO_7; clear HB; have HO_6 := n0_; have HO_7 := n1_; have HO306 := n2_; have HB := n3_; clear n0_ n1_ n2_ n3_; (try clear hb); (try clear hb2); (try clear hk); (try clear hi); (try clear ho0); obtain ⟨Ao33, co33, eo33⟩ := Kd.R_slice HO306.out; subst eo33) | ((with_reducible refine gate_builtin (b := .append) (xs := #[.tmp 41, .tmp 43]) rfl ?_); at_builtin; refine Kd.R_append_rows (Kd.int .u8) (w0 := w) w.heap.size rfl (.tmp 41) (.tmp 43) 24 5 (.int .u8 0) 1 rfl Try.underlying24 info5 rfl (by decide) (by omega) u7 x7_1 t304 _ _ _ (fun k_ => some k_ ≠ (.slice Ao33 t304.length co33 : Value).ownBlock) (fun _ => False) rfl rfl ?aO ?aR (fun _ _ h => h) (fun _ h => h.elim) ?aF ?aB ?aS ?aL ?_; (case aR => repeat (first | exact (Kd.R_reads' HO306.out).2.2 | (with_reducible refine Kd.C_alloc ?_ _) | (with_reducible refine Kd.C_drewN ?_ _) | (with_reducible refine Kd.C_drew ?_))); (case aB => exact (by repeat (first | (with_reducible first | exact HB.out | apply below_alloc | apply pw_below_drewN | apply below_drew1) | exact HB.out))); (case aF => exact (fun k_ hk => Kd.fresh' (Kd.R_lt (by (with_reducible repeat (first | apply Kd.R_alloc | apply Kd.R_drewN | apply Kd.R_drew)); exact HO306.out)) k_ hk)); (case aO => exact (by (with_reducible repeat (first | apply Kd.R_alloc | apply Kd.R_drewN | apply Kd.R_drew)); exact Kd.R_mono HO_7.out (fun _ hk => hk.2))); (case aS => exact (below_size (by repeat (first | (with_reducible first | exact HB.out | apply below_alloc | apply pw_below_drewN | apply below_drew1) | exact HB.out)))); (case aL => have := LMc26.out; omega); intro v308 w32 ho hb hg hat; rw [← Ny307.out] at ho; have n0_ := Aside0.mk (Kd.R_over' (by (with_reducible repeat (first | apply Kd.R_alloc | apply Kd.R_drewN | apply Kd.R_drew)); exact HO_6.out) (Kd.R_typed (by (with_reducible repeat (first | apply Kd.R_alloc | apply Kd.R_drewN | apply Kd.R_drew)); exact HO_7.out)) (by decide) hg); have n1_ := Aside0.mk (Kd.R_after (ok := (fun _ => True)) (by (with_reducible repeat (first | apply Kd.R_alloc | apply Kd.R_drewN | apply Kd.R_drew)); exact HO306.out) hg hat); have n2_ := Aside0.mk (hb); have n3_ := Aside0.mk (ho); clear HO_6; clear HO306; clear HB; clear HO_7; have HO_6 := n0_; have HO306 := n1_; have HB := n2_; have HO309 := n3_; clear n0_ n1_ n2_ n3_; clear ho hb hg hat; have p310 : 0 ≤ (x9_1 : Int) := of_decide_eq_true (by first | (with_reducible assumption) | assumption); have q310 : x9_1 < (t288.length : Int) := of_decide_eq_true (by first | (with_reducible assumption) | assumption); obtain ⟨ad310, e310, hx310_0⟩ := Kd.at_int (Kd.R_reads' HO_6.out).2.2 x9_1 p310 q310; obtain rfl : ad291 = ad310 := (by injection e310); replace p310 := eq_true p310; replace q310 := eq_true q310; obtain ⟨i034, hi034, _, hsz34, _⟩ := info_parts info5; obtain ⟨A34, hcut34, hA34, hC34⟩ := print_mid_of (P := Try.prog) (Value.int .u8) 0 24 5 .i64 .i64 Try.underlying24 hi034 hsz34 A0 c0 l0 x8_1 (wrap64 (x8_1 + (rd t288 x9_1))) (of_decide_eq_true (by first | (with_reducible assumption) | assumption)) (by first | omega | exact of_decide_eq_true (by first | (with_reducible assumption) | assumption)) (of_decide_eq_true (by first | (with_reducible assumption) | assumption)) HC0.out; have HR311 := Aside0.mk (Kd.C_of_reads (h1 := fun _ => rfl) (hA34 _ (Kd.reads_of_C HR0.out))); have HC311 := Aside0.mk hC34; clear hA34 hC34 hi034 hsz34) | ((with_reducible refine gate_builtin (b := .append) (xs := #[.tmp 45, .tmp 54]) rfl ?_); at_builtin; refine Kd.R_append_rows (Kd.int .u8) (w0 := w) w.heap.size rfl (.tmp 45) (.tmp 54) 24 5 (.int .u8 0) 1 rfl Try.underlying24 info5 rfl (by decide) (by omega) v308 y307 ((l0.take ((wrap64 (x8_1 + (rd t288 x9_1))) : Int).toNat).drop (x8_1 : Int).toNat) _ _ _ (fun k_ => some k_ ≠ (.slice Ao33 t304.length co33 : Value).ownBlock) (fun _ => False) rfl rfl ?aO ?aR (fun _ _ h => h) (fun _ h => h.elim) ?aF ?aB ?aS ?aL ?_; (case aR => have hlx_ := (show ((l0.take ((wrap64 (x8_1 + (rd t288 x9_1))) : Int).toNat).drop (x8_1 : Int).toNat).length = ((wrap64 (x8_1 + (rd t288 x9_1))).toNat - x8_1.toNat) from (by rw [List.length_drop, List.length_take]; have h_ : ((wrap64 (x8_1 + (rd t288 x9_1))) : Int) ≤ (l0.length : Int) := of_decide_eq_true (by first | (with_reducible assumption) | assumption); omega)); have hr_ := HR311.out; first | (rw [hlx_] at hr_; repeat (first | exact (Kd.C_below hr_ HB.out) | (with_reducible refine Kd.C_alloc ?_ _) | (with_reducible refine Kd.C_drewN ?_ _) | (with_reducible refine Kd.C_drew ?_)); done) | (repeat (first | exact (Kd.C_below HR311.out HB.out) | (with_reducible refine Kd.C_alloc ?_ _) | (with_reducible refine Kd.C_drewN ?_ _) | (with_reducible refine Kd.C_drew ?_)); done) | (rw [← hlx_]; repeat (first | exact (Kd.C_below HR311.out HB.out) | (with_reducible refine Kd.C_alloc ?_ _) | (with_reducible refine Kd.C_drewN ?_ _) | (with_reducible refine Kd.C_drew ?_)); done)); (case aB => exact (by repeat (first | (with_reducible first | exact HB.out | apply below_alloc | apply pw_below_drewN | apply below_drew1) | exact HB.out))); (case aF => exact (fun k_ hk => Kd.fresh' (Kd.R_lt (by (with_reducible repeat (first | apply Kd.R_alloc | apply Kd.R_drewN | apply Kd.R_drew)); exact HO306.out)) k_ hk)); (case aO => exact (by (with_reducible repeat (first | apply Kd.R_alloc | apply Kd.R_drewN | apply Kd.R_drew)); exact HO309.out)); (case aS => exact (below_size (by repeat (first | (with_reducible first | exact HB.out | apply below_alloc | apply pw_below_drewN | apply below_drew1) | exact HB.out)))); (case aL => have := LMc30.out; have hlx_ := (show ((l0.take ((wrap64 (x8_1 + (rd t288 x9_1))) : Int).toNat).drop (x8_1 : Int).toNat).length = ((wrap64 (x8_1 + (rd t288 x9_1))).toNat - x8_1.toNat) from (by rw [List.length_drop, List.length_take]; have h_ : ((wrap64 (x8_1 + (rd t288 x9_1))) : Int) ≤ (l0.length : Int) := of_decide_eq_true (by first | (with_reducible assumption) | assumption); omega)); omega); intro v313 w35 ho hb hg hat; rw [← Ny312.out] at ho; have n0_ := Aside0.mk (Kd.R_over' (by (with_reducible repeat (first | apply Kd.R_alloc | apply Kd.R_drewN | apply Kd.R_drew)); exact HO_6.out) (Kd.R_typed (by (with_reducible repeat (first | apply Kd.R_alloc | apply Kd.R_drewN | apply Kd.R_drew)); exact HO309.out)) (by decide) hg); have n1_ := Aside0.mk (Kd.R_after (ok := (fun _ => True)) (by (with_reducible repeat (first | apply Kd.R_alloc | apply Kd.R_drewN | apply Kd.R_drew)); exact HO306.out) hg hat); have n2_ := Aside0.mk (hb); have n3_ := Aside0.mk (ho); clear HO_6; clear HO306; clear HB; clear HO309; have HO_6 := n0_; have HO306 := n1_; have HB := n2_; have HO314 := n3_; clear n0_ n1_ n2_ n3_; clear ho hb hg hat; have p315 : 0 ≤ (x9_1 : Int) := of_decide_eq_true (by first | (with_reducible assumption) | assumption); have q315 : x9_1 < (t288.length : Int) := of_decide_eq_true (by first | (with_reducible assumption) | assumption); obtain ⟨ad315, e315, hx315_0⟩ := Kd.at_int (Kd.R_reads' HO_6.out).2.2 x9_1 p315 q315; obtain rfl : ad291 = ad315 := (by injection e315); replace p315 := eq_true p315; replace q315 := eq_true q315))
                            go_roundg k1
                            case measure => have := HK1.out; omega
                            case rel => exact ⟨(y312), (wrap64 (x8_1 + (rd t288 x9_1))), (wrap64 (x9_1 + 1)), (by first | rfl | (simp; done) | (simp [*]; done)), (by first | rfl | (simp; done) | (simp [*]; done)), H', ⟨by have := HK1.out; omega⟩, ⟨by (with_reducible repeat (first | apply Kd.R_alloc | apply Kd.R_drewN | apply Kd.R_drew)); exact HO_6.out⟩, ⟨by (with_reducible repeat (first | apply Kd.R_alloc | apply Kd.R_drewN | apply Kd.R_drew)); exact Kd.R_mono HO314.out (fun _ hk => trivial)⟩, ⟨by repeat (first | (with_reducible first | exact HB.out | apply below_alloc | apply pw_below_drewN | apply below_drew1) | exact HB.out)⟩⟩
                          · rw [if_neg c30] at H
                            exact absurd H (by simp)
                        · rw [if_neg c29] at H
                          exact absurd H (by simp)
                      · rw [if_neg c28] at H
                        exact absurd H (by simp)
                    · rw [if_neg c27] at H
                      exact absurd H (by simp)
                  · rw [if_neg c26] at H
                    exact absurd H (by simp)
              · rw [if_neg c12] at H
                exact absurd H (by simp)
            · rw [if_neg c11] at H
              have c11b0 : decide (x9_1 < (t288.length : Int)) = false := decide_eq_false c11
              clear c11
              simp only [Option.some.injEq, Prod.mk.injEq] at H
              obtain ⟨rfl, rfl⟩ := H
              go_wp2
              go_ret2
              exact ⟨_, by first | rfl | (simp [errW_none, errW_some] <;> rfl) | (simp [*, errW_none, errW_some] <;> rfl), by (with_reducible repeat (first | apply Kd.R_alloc | apply Kd.R_drewN | apply Kd.R_drew)); exact HO_7.out, by repeat (first | (with_reducible first | exact HB.out | apply below_alloc | apply pw_below_drewN | apply below_drew1) | exact HB.out)⟩

/-! ### truchmanlaw03_MarkMarks: function 6 -/
def truchmanlaw03_MarkMarks.l0 : Nat → List Int → List Int → List Int → Int → Option (Bool)
  | 0, _, _, _, _ => none
  | k + 1, x0, x5, x6, x7 => if x7 < 2 then (if 0 ≤ x7 then (if x7 < (x6.length : Int) then ((mark_Mark.f k x5 (rd x6 x7)).bind fun bt328 => ((truchmanref03_Mark.f k x5 (rd x6 x7)).bind fun bt333 => (if bt328.2 = bt333.2 then (if (strOfNums bt328.1).toList = (strOfNums bt333.1).toList then (truchmanlaw03_MarkMarks.l0 k x0 x5 x6 (wrap64 (x7 + 1))) else (some false)) else (some false)))) else (none)) else (none)) else ((truchmanref01_Few.f x0 100).bind fun t323 => (if (strOfNums x5).toList = (strOfNums t323).toList then ((truchmanlaw03_lives.f k).bind fun t326 => (some t326)) else (some false)))
def truchmanlaw03_MarkMarks.f (k : Nat) (l0 : List Int) (a1 : Int) : Option (Bool) := (truchmanref01_Few.f l0 100).bind fun t316 => ((truchmanref01_Around.f a1 41).bind fun t319 => (truchmanlaw03_MarkMarks.l0 k l0 t316 (([a1, t319] : List Int)) 0))
theorem truchmanlaw03_MarkMarks.mono_l : ∀ k, (∀ y0 y1 y2 y3, LeO (truchmanlaw03_MarkMarks.l0 k y0 y1 y2 y3) (truchmanlaw03_MarkMarks.l0 (k + 1) y0 y1 y2 y3))
  | 0 => fun _ _ _ _ r h => by simp [truchmanlaw03_MarkMarks.l0] at h
  | k + 1 => by
    have ih0 := truchmanlaw03_MarkMarks.mono_l k
    · intro y0 y1 y2 y3
      unfold truchmanlaw03_MarkMarks.l0
      repeat' first
      | (with_reducible exact ih0 _ _ _ _)
      | (with_reducible exact mark_Mark.mono _ _ _)
      | (with_reducible exact truchmanlaw03_lives.mono _)
      | (with_reducible exact truchmanref03_Mark.mono _ _ _)
      | (with_reducible exact LeO.refl _)
      | (with_reducible exact LeO.none _)
      | (with_reducible refine LeO.ite ?_ ?_)
      | (with_reducible refine LeO.bind ?_ (fun _ => ?_))
      | exact ih0 _ _ _ _
      | exact mark_Mark.mono _ _ _
      | exact truchmanlaw03_lives.mono _
      | exact truchmanref03_Mark.mono _ _ _
      | exact LeO.none _
      | refine LeO.ite ?_ ?_
      | refine LeO.bind ?_ (fun _ => ?_)
theorem truchmanlaw03_MarkMarks.mono : ∀ a0 a1 k, LeO (truchmanlaw03_MarkMarks.f k a0 a1) (truchmanlaw03_MarkMarks.f (k + 1) a0 a1) := by
  intro a0 a1 k
  have ih0 := truchmanlaw03_MarkMarks.mono_l k
  unfold truchmanlaw03_MarkMarks.f
  repeat' first
      | (with_reducible exact ih0 _ _ _ _)
      | (with_reducible exact mark_Mark.mono _ _ _)
      | (with_reducible exact truchmanlaw03_lives.mono _)
      | (with_reducible exact truchmanref03_Mark.mono _ _ _)
      | (with_reducible exact LeO.refl _)
      | (with_reducible exact LeO.none _)
      | (with_reducible refine LeO.ite ?_ ?_)
      | (with_reducible refine LeO.bind ?_ (fun _ => ?_))
      | exact ih0 _ _ _ _
      | exact mark_Mark.mono _ _ _
      | exact truchmanlaw03_lives.mono _
      | exact truchmanref03_Mark.mono _ _ _
      | exact LeO.none _
      | refine LeO.ite ?_ ?_
      | refine LeO.bind ?_ (fun _ => ?_)
def truchmanlaw03_MarkMarks.T10 : Bool × List (List Nat × List Nat) := (true, [([], []), ([0], [0]), ([], []), ([2], [2]), ([3], [3]), ([1, 4], [1, 4]), ([5, 3], [5]), ([6, 6], [6]), ([6, 7], [6, 7]), ([8, 7, 0, 1, 2, 3, 4, 5, 6, 7, 8], [8])])
def truchmanlaw03_MarkMarks.B10 : List Nat := [0, 1, 0, 4, 12, 31, 63, 127, 255, 511]
theorem truchmanlaw03_MarkMarks.tab10 : rtab .any (opsOf Try.f6 10) = truchmanlaw03_MarkMarks.T10 := by kernel_rfl
theorem truchmanlaw03_MarkMarks.bits10 : waitsOk truchmanlaw03_MarkMarks.T10.2 truchmanlaw03_MarkMarks.B10 = true := by kernel_rfl
set_option maxHeartbeats 8000000 in
set_option maxRecDepth 100000 in
theorem truchmanlaw03_MarkMarks.calls (k : Nat) (A0 : Option Addr) (c0 : Nat) (l0 : List Int) (a1 : Int) (r : Bool) (w : World) (hr0 : Kd.C (Kd.int .u8) w A0 l0.length l0) (hc0 : l0.length ≤ c0) (hrt : Aside0 (r = true)) (h : truchmanlaw03_MarkMarks.f k l0 a1 = some r) :
    Calls Try.prog 6 #[.slice A0 l0.length c0, .int .i64 a1] w fun e w' => e = .returned (.bool r) ∧ Below w.heap.size w w' := by
  have HR0 := Aside0.mk hr0
  have HC0 := Aside0.mk hc0
  clear hr0 hc0
  have HB := Aside0.mk (Below.refl w.heap.size w)
  have H : ((truchmanref01_Few.f l0 100).bind fun t316 => ((truchmanref01_Around.f a1 41).bind fun t319 => (truchmanlaw03_MarkMarks.l0 k l0 t316 (([a1, t319] : List Int)) 0))) = some r := h
  clear h
  replace H := Option.bind_eq_some_iff.mp H
  obtain ⟨t316, A30, H⟩ := H
  replace H : ((truchmanref01_Around.f a1 41).bind fun t319 => (truchmanlaw03_MarkMarks.l0 k l0 t316 (([a1, t319] : List Int)) 0)) = some r := H
  have A3 := Aside0.mk A30
  clear A30
  replace H := Option.bind_eq_some_iff.mp H
  obtain ⟨t319, A40, H⟩ := H
  replace H : (truchmanlaw03_MarkMarks.l0 k l0 t316 (([a1, t319] : List Int)) 0) = some r := H
  have A4 := Aside0.mk A40
  clear A40
  obtain ⟨y320, hy320⟩ : ∃ y_ : List Int, y_ = (([a1, t319] : List Int)) := ⟨_, rfl⟩
  replace H : (truchmanlaw03_MarkMarks.l0 k l0 t316 y320 0) = some r := by first | (rw [hy320]; with_reducible exact H) | (have H2_ := (Option.bind_some _ _).symm.trans H; rw [hy320]; with_reducible exact H2_) | (have H2_ := (Option.bind_some _ _).symm.trans H; with_reducible exact H2_) | with_reducible exact H | (rw [hy320]; exact H) | exact H
  have Ny320 := Aside0.mk hy320
  clear hy320
  have H' := Aside0.mk H
  clear H
  go_enter Try.func6, Try.ntmps6
  go_wp2_with (first | ((with_reducible refine gate_callee (f := 14) rfl ?_); refine goesL_ (some 13) rfl rfl Try.func14 (by kernel_rfl) rfl #[.slice A0 l0.length c0, .int .i64 100] rfl (by (try simp only [List.map_toArray, List.map_cons, List.map_nil]); first | done | rfl | (simp only [List.length_drop, List.length_take]; rfl)) ?_; (with_reducible refine (truchmanref01_Few.calls _ _ l0 100 t316 _ ?side1 ?side2 A3.out).mono ?_); (case side1 => repeat (first | exact HR0.out | (with_reducible refine Kd.C_alloc ?_ _) | (with_reducible refine Kd.C_drewN ?_ _) | (with_reducible refine Kd.C_drew ?_))); (case side2 => exact HC0.out); rintro e w5 ⟨v317, rfl, ho0, hb⟩; refine ⟨_, rfl, ?_⟩; have n0_ := Aside0.mk (Kd.R_lower ho0 (below_size (by repeat (first | (with_reducible first | exact HB.out | apply below_alloc | apply pw_below_drewN | apply below_drew1) | exact HB.out)))); have n1_ := Aside0.mk (below_step (by repeat (first | (with_reducible first | exact HB.out | apply below_alloc | apply pw_below_drewN | apply below_drew1) | exact HB.out)) hb); clear HB; have HO318 := n0_; have HB := n1_; clear n0_ n1_; (try clear hb); (try clear hb2); (try clear hk); (try clear hi); (try clear ho0)) | ((with_reducible refine gate_callee (f := 23) rfl ?_); refine goesL_ (some 16) rfl rfl Try.func23 (by kernel_rfl) rfl #[.int .i64 a1, .int .i64 41] rfl (by (try simp only [List.map_toArray, List.map_cons, List.map_nil]); first | done | rfl | (simp only [List.length_drop, List.length_take]; rfl)) ?_; (with_reducible refine (truchmanref01_Around.calls a1 41 t319 _ A4.out).mono ?_); rintro e w' ⟨rfl, ⟨nd, rfl⟩⟩; refine ⟨_, rfl, ?_⟩) | ((with_reducible refine gate_dst (N := 17) rfl ?_); refine Kd.R_lit (Kd.int .i64) _ 3 ?hg (N := 17) ?hd (xs := ([a1, t319] : List Int)) (inner := [.int .i64 a1, .int .i64 t319]) (ok := fun _ => True) (okp := fun _ => True) ?hr ?hp (fun _ hk => hk) trivial (Below.refl _ _) (Nat.le_refl _) (by simp) ?_; (case hd => rfl); (case hg => rfl); (case hr => first | (go_simp; done) | (go_simp; rfl)); (case hp => exact (Reps.one (show Kd.M (Kd.int .i64) _ _ _ a1 [.int .i64 a1] from rfl) (Reps.one (show Kd.M (Kd.int .i64) _ _ _ t319 [.int .i64 t319] from rfl) (Reps.none _ _)))); intro v321 w6 ho7 hb hg_ hnew_; clear hg_ hnew_; (first | rw [← Ny320.out] at ho7 | (simp only [Int.reduceToNat] at ho7; rw [← Ny320.out] at ho7)); have n0_ := Aside0.mk (Kd.R_below (by (with_reducible repeat (first | apply Kd.R_alloc | apply Kd.R_drewN | apply Kd.R_drew)); exact HO318.out) hb); have n1_ := Aside0.mk (Kd.R_lower ho7 (below_size (by repeat (first | (with_reducible first | exact HB.out | apply below_alloc | apply pw_below_drewN | apply below_drew1) | exact HB.out)))); have n2_ := Aside0.mk (below_step (by repeat (first | (with_reducible first | exact HB.out | apply below_alloc | apply pw_below_drewN | apply below_drew1) | exact HB.out)) hb); clear HO318; clear HB; have HO318 := n0_; have HO322 := n1_; have HB := n2_; clear n0_ n1_ n2_; clear hb ho7))
  go_loopg [7] k (fun kq v7 w' => ∃ (x7_1 : Int), v7 = .int .i64 x7_1 ∧ Aside0 (truchmanlaw03_MarkMarks.l0 kq l0 t316 y320 x7_1 = some r) ∧ Aside0 (kq ≤ k) ∧ Aside0 (Kd.R (Kd.int .u8) 5 w' w.heap.size (fun _ => True) v317 t316) ∧ Aside0 (Kd.R (Kd.int .i64) 3 w' w.heap.size (fun _ => True) v321 y320) ∧ Aside0 (Below w.heap.size w w'))
  case atStart => exact ⟨(0), (by first | rfl | (simp; done) | (simp [*]; done)), H', ⟨Nat.le_refl _⟩, ⟨by (with_reducible repeat (first | apply Kd.R_alloc | apply Kd.R_drewN | apply Kd.R_drew)); exact HO318.out⟩, ⟨by (with_reducible repeat (first | apply Kd.R_alloc | apply Kd.R_drewN | apply Kd.R_drew)); exact HO322.out⟩, ⟨by repeat (first | (with_reducible first | exact HB.out | apply below_alloc | apply pw_below_drewN | apply below_drew1) | exact HB.out)⟩⟩
  case round =>
    clear H'
    try clear c1
    try clear c2
    try clear p2
    try clear c6
    obtain ⟨x7_1, rfl, HA, HK1, HO_5, HO_6, HB⟩ := hrel
    cases gk with
    | zero => exact absurd HA.out (by simp [truchmanlaw03_MarkMarks.l0])
    | succ k1 =>
      have H := HA.out
      clear HA
      simp only [truchmanlaw03_MarkMarks.l0] at H
      by_cases c8 : x7_1 < 2
      · rw [if_pos c8] at H
        have c8b0 : decide (x7_1 < 2) = true := decide_eq_true c8
        clear c8
        by_cases c9 : 0 ≤ x7_1
        · rw [if_pos c9] at H
          have c9b0 : decide (0 ≤ x7_1) = true := decide_eq_true c9
          clear c9
          by_cases c10 : x7_1 < (y320.length : Int)
          · rw [if_pos c10] at H
            have c10b0 : decide (x7_1 < (y320.length : Int)) = true := decide_eq_true c10
            clear c10
            replace H := Option.bind_eq_some_iff.mp H
            obtain ⟨⟨t328, t331⟩, A110, H⟩ := H
            replace H : ((truchmanref03_Mark.f k1 t316 (rd y320 x7_1)).bind fun bt333 => (if t331 = bt333.2 then (if (strOfNums t328).toList = (strOfNums bt333.1).toList then (truchmanlaw03_MarkMarks.l0 k1 l0 t316 y320 (wrap64 (x7_1 + 1))) else (some false)) else (some false))) = some r := H
            have A11 := Aside0.mk A110
            clear A110
            replace H := Option.bind_eq_some_iff.mp H
            obtain ⟨⟨t333, t334⟩, A120, H⟩ := H
            replace H : (if t331 = t334 then (if (strOfNums t328).toList = (strOfNums t333).toList then (truchmanlaw03_MarkMarks.l0 k1 l0 t316 y320 (wrap64 (x7_1 + 1))) else (some false)) else (some false)) = some r := H
            have A12 := Aside0.mk A120
            clear A120
            by_cases c13 : t331 = t334
            · rw [if_pos c13] at H
              have c13b0 : (t331 == t334) = true := beq_iff_eq.mpr c13
              have c13b1 : (t331 != t334) = false := bne_eq_false_iff_eq.mpr c13
              clear c13
              by_cases c14 : (strOfNums t328).toList = (strOfNums t333).toList
              · rw [if_pos c14] at H
                have c14b0 : ((strOfNums t328).toList == (strOfNums t333).toList) = true := beq_iff_eq.mpr c14
                have c14b1 : ((strOfNums t328).toList != (strOfNums t333).toList) = false := bne_eq_false_iff_eq.mpr c14
                clear c14
                have H' := Aside0.mk H
                clear H
                obtain ⟨Ao15, co15, eo15⟩ := Kd.R_slice HO_6.out
                subst eo15
                have p327 : 0 ≤ (x7_1 : Int) := of_decide_eq_true (by first | (with_reducible assumption) | assumption)
                have q327 : x7_1 < (y320.length : Int) := of_decide_eq_true (by first | (with_reducible assumption) | assumption)
                obtain ⟨ad327, e327, hx327_0⟩ := Kd.at_int (Kd.R_reads' HO_6.out).2.2 x7_1 p327 q327
                cases e327
                replace p327 := eq_true p327
                replace q327 := eq_true q327
                obtain ⟨Ao16, co16, eo16⟩ := Kd.R_slice HO_5.out
                subst eo16
                go_wp2_with (first | ((with_reducible refine gate_callee (f := 28) rfl ?_); refine goesL_ (some 28) rfl rfl Try.func28 (by kernel_rfl) rfl #[.slice Ao16 t316.length co16, .int .i64 (rd y320 x7_1)] rfl (by (try simp only [List.map_toArray, List.map_cons, List.map_nil]); first | done | rfl | (simp only [List.length_drop, List.length_take]; rfl)) ?_; (with_reducible refine (mark_Mark.calls k1 (fun k_ => some k_ = (.slice Ao16 t316.length co16 : Value).ownBlock) _ _ t316 (rd y320 x7_1) t328 t331 _ ?side1 A11.out).mono ?_); (case side1 => exact Kd.R_V (Kd.R_tight rfl (Kd.R_apart' (HO_5.out) (Kd.R_typed HO_6.out) (by decide)))); rintro e w17 ⟨v329, rfl, ho0, hb⟩; refine ⟨_, rfl, ?_⟩; have n0_ := Aside0.mk (Kd.R_elder' (by (with_reducible repeat (first | apply Kd.R_alloc | apply Kd.R_drewN | apply Kd.R_drew)); exact HO_5.out) (Kd.R_base ho0) hb); have n1_ := Aside0.mk (Kd.R_below (by (with_reducible repeat (first | apply Kd.R_alloc | apply Kd.R_drewN | apply Kd.R_drew)); exact HO_6.out) hb); have n2_ := Aside0.mk (Kd.R_lower (Kd.R_new' (Kd.R_mono (ok' := fun k_ => True) ho0 (fun _ hk_ => trivial)) (Kd.R_lt (by (with_reducible repeat (first | apply Kd.R_alloc | apply Kd.R_drewN | apply Kd.R_drew)); exact HO_5.out))) (below_size (by repeat (first | (with_reducible first | exact HB.out | apply below_alloc | apply pw_below_drewN | apply below_drew1) | exact HB.out)))); have n3_ := Aside0.mk (below_step (by repeat (first | (with_reducible first | exact HB.out | apply below_alloc | apply pw_below_drewN | apply below_drew1) | exact HB.out)) hb); clear HO_5; clear HO_6; clear HB; have HO_5 := n0_; have HO_6 := n1_; have HO330 := n2_; have HB := n3_; clear n0_ n1_ n2_ n3_; (try clear hb); (try clear hb2); (try clear hk); (try clear hi); (try clear ho0); have p332 : 0 ≤ (x7_1 : Int) := of_decide_eq_true (by first | (with_reducible assumption) | assumption); have q332 : x7_1 < (y320.length : Int) := of_decide_eq_true (by first | (with_reducible assumption) | assumption); obtain ⟨ad332, e332, hx332_0⟩ := Kd.at_int (Kd.R_reads' HO_6.out).2.2 x7_1 p332 q332; obtain rfl : ad327 = ad332 := (by injection e332); replace p332 := eq_true p332; replace q332 := eq_true q332) | ((with_reducible refine gate_callee (f := 29) rfl ?_); refine goesL_ (some 37) rfl rfl Try.func29 (by kernel_rfl) rfl #[.slice Ao16 t316.length co16, .int .i64 (rd y320 x7_1)] rfl (by (try simp only [List.map_toArray, List.map_cons, List.map_nil]); first | done | rfl | (simp only [List.length_drop, List.length_take]; rfl)) ?_; (with_reducible refine (truchmanref03_Mark.calls k1 _ _ t316 (rd y320 x7_1) t333 t334 _ ?side1 ?side2 A12.out).mono ?_); (case side1 => repeat (first | exact (Kd.R_reads' HO_5.out).2.2 | (with_reducible refine Kd.C_alloc ?_ _) | (with_reducible refine Kd.C_drewN ?_ _) | (with_reducible refine Kd.C_drew ?_))); (case side2 => exact (Kd.R_reads' HO_5.out).2.1); rintro e w18 ⟨v335, rfl, ho0, hb⟩; refine ⟨_, rfl, ?_⟩; have n0_ := Aside0.mk (Kd.R_elder' (by (with_reducible repeat (first | apply Kd.R_alloc | apply Kd.R_drewN | apply Kd.R_drew)); exact HO_5.out) (Kd.R_base ho0) hb); have n1_ := Aside0.mk (Kd.R_below (by (with_reducible repeat (first | apply Kd.R_alloc | apply Kd.R_drewN | apply Kd.R_drew)); exact HO_6.out) hb); have n2_ := Aside0.mk (Kd.R_elder' (by (with_reducible repeat (first | apply Kd.R_alloc | apply Kd.R_drewN | apply Kd.R_drew)); exact HO330.out) (Kd.R_base ho0) hb); have n3_ := Aside0.mk (Kd.R_lower (Kd.R_new' (Kd.R_new' ho0 (Kd.R_lt (by (with_reducible repeat (first | apply Kd.R_alloc | apply Kd.R_drewN | apply Kd.R_drew)); exact HO_5.out))) (Kd.R_lt (by (with_reducible repeat (first | apply Kd.R_alloc | apply Kd.R_drewN | apply Kd.R_drew)); exact HO330.out))) (below_size (by repeat (first | (with_reducible first | exact HB.out | apply below_alloc | apply pw_below_drewN | apply below_drew1) | exact HB.out)))); have n4_ := Aside0.mk (below_step (by repeat (first | (with_reducible first | exact HB.out | apply below_alloc | apply pw_below_drewN | apply below_drew1) | exact HB.out)) hb); clear HO_5; clear HO_6; clear HO330; clear HB; have HO_5 := n0_; have HO_6 := n1_; have HO330 := n2_; have HO336 := n3_; have HB := n4_; clear n0_ n1_ n2_ n3_ n4_; (try clear hb); (try clear hb2); (try clear hk); (try clear hi); (try clear ho0); have hcv19 := own_string (P := Try.prog) Try.underlying24 Try.underlying5 Try.underlying9 (Kd.own_of_R HO330.out); have hcv20 := own_string (P := Try.prog) Try.underlying24 Try.underlying5 Try.underlying9 (Kd.own_of_R HO336.out)))
                go_roundg k1
                case measure => have := HK1.out; omega
                case rel => exact ⟨(wrap64 (x7_1 + 1)), (by first | rfl | (simp; done) | (simp [*]; done)), H', ⟨by have := HK1.out; omega⟩, ⟨by (with_reducible repeat (first | apply Kd.R_alloc | apply Kd.R_drewN | apply Kd.R_drew)); exact Kd.R_mono HO_5.out (fun _ hk => trivial)⟩, ⟨by (with_reducible repeat (first | apply Kd.R_alloc | apply Kd.R_drewN | apply Kd.R_drew)); exact HO_6.out⟩, ⟨by repeat (first | (with_reducible first | exact HB.out | apply below_alloc | apply pw_below_drewN | apply below_drew1) | exact HB.out)⟩⟩
              · rw [if_neg c14] at H
                have c14b0 : ((strOfNums t328).toList == (strOfNums t333).toList) = false := beq_eq_false_iff_ne.mpr c14
                have c14b1 : ((strOfNums t328).toList != (strOfNums t333).toList) = true := bne_iff_ne.mpr c14
                obtain rfl := Option.some.inj H
                exact absurd hrt.out (by decide)
            · rw [if_neg c13] at H
              have c13b0 : (t331 == t334) = false := beq_eq_false_iff_ne.mpr c13
              have c13b1 : (t331 != t334) = true := bne_iff_ne.mpr c13
              obtain rfl := Option.some.inj H
              exact absurd hrt.out (by decide)
          · rw [if_neg c10] at H
            exact absurd H (by simp)
        · rw [if_neg c9] at H
          exact absurd H (by simp)
      · rw [if_neg c8] at H
        have c8b0 : decide (x7_1 < 2) = false := decide_eq_false c8
        clear c8
        replace H := Option.bind_eq_some_iff.mp H
        obtain ⟨t323, A210, H⟩ := H
        replace H : (if (strOfNums t316).toList = (strOfNums t323).toList then ((truchmanlaw03_lives.f k1).bind fun t326 => (some t326)) else (some false)) = some r := H
        have A21 := Aside0.mk A210
        clear A210
        by_cases c22 : (strOfNums t316).toList = (strOfNums t323).toList
        · rw [if_pos c22] at H
          have c22b0 : ((strOfNums t316).toList == (strOfNums t323).toList) = true := beq_iff_eq.mpr c22
          have c22b1 : ((strOfNums t316).toList != (strOfNums t323).toList) = false := bne_eq_false_iff_eq.mpr c22
          clear c22
          replace H := Option.bind_eq_some_iff.mp H
          obtain ⟨t326, A230, H⟩ := H
          replace H : (some t326) = some r := H
          have A23 := Aside0.mk A230
          clear A230
          obtain rfl := Option.some.inj H
          try go_wp2
          have n0_ := Aside0.mk (Kd.R_drew HO_5.out)
          have n1_ := Aside0.mk (Kd.R_drew HO_6.out)
          have n2_ := Aside0.mk (below_drew1 HB.out)
          clear HO_5
          clear HO_6
          clear HB
          have HO_5 := n0_
          have HO_6 := n1_
          have HB := n2_
          clear n0_ n1_ n2_
          refine start_ (n := 10) (S := fun w' => Sem.run Try.prog (convert 24 9 (v317)) w' = Result.ok (Value.string (strOfNums t316)) w') (ds := []) #[false, false, false, false, false, false, false, false, false, false] (by kernel_rfl) rfl rfl (own_string (P := Try.prog) Try.underlying24 Try.underlying5 Try.underlying9 (Kd.own_of_R HO_5.out)) (fun hHeld => ?_); refine with_tabW truchmanlaw03_MarkMarks.tab10 truchmanlaw03_MarkMarks.bits10 (fun HT_ HW_ => ?_)
          generalize wr.drew = w24 at HO_5 HO_6 HB hHeld ⊢
          refine pure_ (i := 0) (N := some 50) (v := ?_) (a' := ?_) #[true, false, false, false, false, false, false, false, false, false] rfl rfl (any_of HT_.out (by kernel_rfl)) (fun _ _ _ h => h) (Or.inl ⟨by rfl, ?_⟩) ?_ ?_
          rotate_left
          · intro w'
            go_simp
            with_reducible rfl
          rotate_left
          · simp only [Act.put, List.setIfInBounds_toArray, List.set_cons_zero, List.set_cons_succ, i64_w, i32_w]
            rfl
          refine pure_ (i := 2) (N := some 52) (v := ?_) (a' := ?_) #[true, false, true, false, false, false, false, false, false, false] rfl rfl (any_of HT_.out (by kernel_rfl)) (fun _ _ _ h => h) (Or.inl ⟨by rfl, ?_⟩) ?_ ?_
          rotate_left
          · intro w'
            go_simp
            with_reducible rfl
          rotate_left
          · simp only [Act.put, List.setIfInBounds_toArray, List.set_cons_zero, List.set_cons_succ, i64_w, i32_w]
            rfl
          refine take_ (i := 1) (N := some 51) (v := ?_) (a' := ?_) #[true, true, true, false, false, false, false, false, false, false] rfl rfl (take_ofW HT_.out HW_.out (by kernel_rfl)) (fun _ _ _ h => h) (Or.inl ⟨by rfl, ?_⟩) hHeld ?_ ?_
          rotate_left
          · intro w' s0
            go_simp
            with_reducible rfl
          rotate_left
          · simp only [Act.put, List.setIfInBounds_toArray, List.set_cons_zero, List.set_cons_succ, i64_w, i32_w]
            rfl
          refine one_ (i := 3) (N := some 53) #[true, true, true, true, false, false, false, false, false, false] rfl rfl (one_of HT_.out (by kernel_rfl)) (by decide) (fun K hK => ?_)
          refine goes_ Try.func14 (by kernel_rfl) rfl #[.slice A0 l0.length c0, .int .i64 100] (by rfl) rfl rfl (by (try simp only [List.map_toArray, List.map_cons, List.map_nil]); first | done | rfl | (simp only [List.length_drop, List.length_take]; rfl)) ?_
          with_reducible refine (truchmanref01_Few.calls _ _ l0 100 t323 _ ?side1 ?side2 A21.out).mono ?_
          (case side1 => repeat (first | exact (Kd.C_below HR0.out HB.out) | (with_reducible refine Kd.C_alloc ?_ _) | (with_reducible refine Kd.C_drewN ?_ _) | (with_reducible refine Kd.C_drew ?_)))
          (case side2 => exact HC0.out)
          rintro e w25 ⟨v324, rfl, ho0, hb⟩
          refine ⟨_, rfl, ?_⟩
          have n0_ := Aside0.mk (Kd.R_elder' (by (with_reducible repeat (first | apply Kd.R_alloc | apply Kd.R_drewN | apply Kd.R_drew)); exact HO_5.out) (Kd.R_base ho0) hb)
          have n1_ := Aside0.mk (Kd.R_below (by (with_reducible repeat (first | apply Kd.R_alloc | apply Kd.R_drewN | apply Kd.R_drew)); exact HO_6.out) hb)
          have n2_ := Aside0.mk (Kd.R_lower (Kd.R_new' ho0 (Kd.R_lt (by (with_reducible repeat (first | apply Kd.R_alloc | apply Kd.R_drewN | apply Kd.R_drew)); exact HO_5.out))) (below_size (by repeat (first | (with_reducible first | exact HB.out | apply below_alloc | apply pw_below_drewN | apply below_drew1) | exact HB.out))))
          have n3_ := Aside0.mk (below_step (by repeat (first | (with_reducible first | exact HB.out | apply below_alloc | apply pw_below_drewN | apply below_drew1) | exact HB.out)) hb)
          clear HO_5
          clear HO_6
          clear HB
          have HO_5 := n0_
          have HO_6 := n1_
          have HO325 := n2_
          have HB := n3_
          clear n0_ n1_ n2_ n3_
          (try clear hb)
          (try clear hb2)
          (try clear hk)
          (try clear hi)
          (try clear ho0)
          refine hK.out _ _ (own_string (P := Try.prog) Try.underlying24 Try.underlying5 Try.underlying9 (Kd.own_of_R HO_5.out)) (fun hHeld => ?_)
          clear hK K
          refine norm_ (a' := ?_) ?_ ?_
          rotate_left
          · show Act.put _ (some 53) _ = _
            simp only [Act.put, List.setIfInBounds_toArray, List.set_cons_zero, List.set_cons_succ, i64_w, i32_w]
            rfl
          refine one_ (i := 4) (N := some 54) #[true, true, true, true, true, false, false, false, false, false] rfl rfl (one_of HT_.out (by kernel_rfl)) (by decide) (fun K hK => ?_)
          have hcv26 := own_string (P := Try.prog) Try.underlying24 Try.underlying5 Try.underlying9 (Kd.own_of_R HO325.out)
          refine value_ (w1 := ?_) (v := ?_) (by rfl) rfl ?_ ?_
          rotate_left 2
          · go_simp
            constructor
            · rfl
            · rfl
          clear hcv26
          refine hK.out _ _ (own_string (P := Try.prog) Try.underlying24 Try.underlying5 Try.underlying9 (Kd.own_of_R HO_5.out)) (fun hHeld => ?_)
          clear hK K
          refine norm_ (a' := ?_) ?_ ?_
          rotate_left
          · show Act.put _ (some 54) _ = _
            simp only [Act.put, List.setIfInBounds_toArray, List.set_cons_zero, List.set_cons_succ, i64_w, i32_w]
            rfl
          refine pure_ (i := 5) (N := some 55) (v := ?_) (a' := ?_) #[true, true, true, true, true, true, false, false, false, false] rfl rfl (any_of HT_.out (by kernel_rfl)) (fun _ _ _ h => h) (Or.inl ⟨by rfl, ?_⟩) ?_ ?_
          rotate_left
          · intro w'
            go_simp
            with_reducible rfl
          rotate_left
          · simp only [Act.put, List.setIfInBounds_toArray, List.set_cons_zero, List.set_cons_succ, i64_w, i32_w]
            rfl
          refine pure_ (i := 6) (N := some 56) (v := ?_) (a' := ?_) #[true, true, true, true, true, true, true, false, false, false] rfl rfl (any_of HT_.out (by kernel_rfl)) (fun _ _ _ h => h) (Or.inl ⟨by rfl, ?_⟩) ?_ ?_
          rotate_left
          · intro w'
            go_simp
            with_reducible rfl
          rotate_left
          · simp only [Act.put, List.setIfInBounds_toArray, List.set_cons_zero, List.set_cons_succ, i64_w, i32_w]
            rfl
          refine one_ (i := 7) (N := some 57) #[true, true, true, true, true, true, true, true, false, false] rfl rfl (one_of HT_.out (by kernel_rfl)) (by decide) (fun K hK => ?_)
          refine goes_ Try.func27 (by kernel_rfl) rfl #[] (by rfl) rfl rfl (by (try simp only [List.map_toArray, List.map_cons, List.map_nil]); first | done | rfl | (simp only [List.length_drop, List.length_take]; rfl)) ?_
          with_reducible refine (truchmanlaw03_lives.calls k1  t326 _ A23.out).mono ?_
          rintro e w27 ⟨rfl, hb⟩
          refine ⟨_, rfl, ?_⟩
          have n0_ := Aside0.mk (Kd.R_below (by (with_reducible repeat (first | apply Kd.R_alloc | apply Kd.R_drewN | apply Kd.R_drew)); exact HO_5.out) hb)
          have n1_ := Aside0.mk (Kd.R_below (by (with_reducible repeat (first | apply Kd.R_alloc | apply Kd.R_drewN | apply Kd.R_drew)); exact HO_6.out) hb)
          have n2_ := Aside0.mk (Kd.R_below (by (with_reducible repeat (first | apply Kd.R_alloc | apply Kd.R_drewN | apply Kd.R_drew)); exact HO325.out) hb)
          have n3_ := Aside0.mk (below_step (by repeat (first | (with_reducible first | exact HB.out | apply below_alloc | apply pw_below_drewN | apply below_drew1) | exact HB.out)) hb)
          clear HO_5
          clear HO_6
          clear HO325
          clear HB
          have HO_5 := n0_
          have HO_6 := n1_
          have HO325 := n2_
          have HB := n3_
          clear n0_ n1_ n2_ n3_
          (try clear hb)
          (try clear hb2)
          (try clear hk)
          (try clear hi)
          refine hK.out _ _ (own_string (P := Try.prog) Try.underlying24 Try.underlying5 Try.underlying9 (Kd.own_of_R HO_5.out)) (fun hHeld => ?_)
          clear hK K
          refine norm_ (a' := ?_) ?_ ?_
          rotate_left
          · show Act.put _ (some 57) _ = _
            simp only [Act.put, List.setIfInBounds_toArray, List.set_cons_zero, List.set_cons_succ, i64_w, i32_w]
            rfl
          refine pure_ (i := 8) (N := some 58) (v := ?_) (a' := ?_) #[true, true, true, true, true, true, true, true, true, false] rfl rfl (any_of HT_.out (by kernel_rfl)) (fun _ _ _ h => h) (Or.inl ⟨by rfl, ?_⟩) ?_ ?_
          rotate_left
          · intro w'
            go_simp
            with_reducible rfl
          rotate_left
          · simp only [Act.put, List.setIfInBounds_toArray, List.set_cons_zero, List.set_cons_succ, i64_w, i32_w]
            rfl
          refine pure_ (i := 9) (N := some 4) (v := ?_) (a' := ?_) #[true, true, true, true, true, true, true, true, true, true] rfl rfl (any_of HT_.out (by kernel_rfl)) (fun _ _ _ h => h) (Or.inl ⟨by rfl, ?_⟩) ?_ ?_
          rotate_left
          · intro w'
            go_simp
            with_reducible rfl
          rotate_left
          · simp only [Act.put, List.setIfInBounds_toArray, List.set_cons_zero, List.set_cons_succ, i64_w, i32_w]
            rfl
          refine done_ (done_of HT_.out (by kernel_rfl)) ?_
          try go_wp2
          go_ret
          exact ⟨by first | rfl | (simp [errW_none, errW_some] <;> rfl) | (simp [*, errW_none, errW_some] <;> rfl), by repeat (first | (with_reducible first | exact HB.out | apply below_alloc | apply pw_below_drewN | apply below_drew1) | exact HB.out)⟩
        · rw [if_neg c22] at H
          have c22b0 : ((strOfNums t316).toList == (strOfNums t323).toList) = false := beq_eq_false_iff_ne.mpr c22
          have c22b1 : ((strOfNums t316).toList != (strOfNums t323).toList) = true := bne_iff_ne.mpr c22
          obtain rfl := Option.some.inj H
          exact absurd hrt.out (by decide)

/-- THE ONE PURE STATEMENT of truchmanlaw03_MarkMarks: yours. -/
def truchmanlaw03_MarkMarks.Pure : Prop := ∀ (l0 : List Int) (a1 : Int), l0.length ≤ maxLen → l0.length * 1 ≤ 140737488351232 → (∀ x ∈ l0, (Lit.int .u8 x).wf = true) → (Lit.int .i64 a1).wf = true → ∃ k, truchmanlaw03_MarkMarks.f k l0 a1 = some true
theorem truchmanlaw03_MarkMarks.walk (P : truchmanlaw03_MarkMarks.Pure) (a0 : Option Addr) (len0 cap0 : Nat) (z0 : List Int) (a1 : Int) (w : World) (w0 : (a0 = none ∧ len0 = 0 ∧ cap0 = 0 ∧ z0 = []) ∨ ∃ x, a0 = some x ∧ len0 ≤ cap0 ∧ cap0 ≤ maxLen ∧ z0.length = cap0 ∧ (∀ i, i < z0.length → w.cell? (x.add i) = some (.int .u8 (z0.getD i 0))) ∧ ∀ n ∈ z0, (Lit.int .u8 n).wf = true) (y0 : len0 * 1 ≤ 140737488351232) (w1 : (Lit.int .i64 a1).wf = true) :
    Calls Try.prog 6 #[.slice a0 len0 cap0, .int .i64 a1] w fun e w' => e = .returned (.bool true) ∧ Below w.heap.size w w' := by
  obtain ⟨l0, rfl, hr0, hm0, hw0, hc0⟩ := ReadsInt.ofRowC w0
  obtain ⟨k, h⟩ := P l0 a1 hm0 y0 hw0 w1
  refine (truchmanlaw03_MarkMarks.calls k _ _ l0 a1 true w (Kd.C_of_reads (d := (0 : Int)) (h1 := fun _ => rfl) hr0) hc0 ⟨rfl⟩ h).mono ?_
  rintro e w' ⟨rfl, hd⟩
  exact ⟨rfl, hd⟩

end Go.Proofs.Ytdfnhmgopihfcaa.P
