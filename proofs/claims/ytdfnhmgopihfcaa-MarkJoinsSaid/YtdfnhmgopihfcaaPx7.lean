-- Written by a program of this session (wip/tools), over the kit's printer; Lean checks it.
import Derived.Test.YtdfnhmgopihfcaaPx0
import Derived.Test.YtdfnhmgopihfcaaPx1
import Derived.Test.YtdfnhmgopihfcaaPx4
import Derived.Test.YtdfnhmgopihfcaaPx5
import Derived.Test.YtdfnhmgopihfcaaPx6
namespace Go.Proofs.Ytdfnhmgopihfcaa.P
open Go.RowKit Go.Proofs.YtdfnhmgopihfcaaW.PrintWords Go.Proofs.YtdfnhmgopihfcaaW.PrintLast Go.Proofs.YtdfnhmgopihfcaaW.PrintMore
attribute [local go_sem] max2_int min2_int max_two min_two max_three min_three max_four min_four   -- for this text's walks alone
set_option linter.unusedVariables false
set_option linter.unusedSimpArgs false

/-! ### truchmanlaw03_MarkMarks: function 6 -/
def truchmanlaw03_MarkMarks.l0 : Nat → List Int → List Int → List Int → Int → Option (Bool)
  | 0, _, _, _, _ => none
  | k + 1, x0, x5, x6, x7 => if x7 < 2 then (if 0 ≤ x7 then (if x7 < (x6.length : Int) then ((mark_Mark.f k x5 (rd x6 x7)).bind fun bt328 => ((truchmanref03_Mark.f k x5 (rd x6 x7)).bind fun bt333 => (if bt328.2 = bt333.2 then (if (strOfNums bt328.1).toList = (strOfNums bt333.1).toList then (truchmanlaw03_MarkMarks.l0 k x0 x5 x6 (wrap64 (x7 + 1))) else (some false)) else (some false)))) else (none)) else (none)) else ((truchmanref01_Few.f x0 100).bind fun t323 => (if (strOfNums x5).toList = (strOfNums t323).toList then ((truchmanlaw03_lives.f k).bind fun t326 => (some t326)) else (some false)))
def truchmanlaw03_MarkMarks.f (k : Nat) (l0 : List Int) (a1 : Int) : Option (Bool) := (truchmanref01_Few.f l0 100).bind fun t316 => ((truchmanref01_Around.f a1 41).bind fun t319 => (truchmanlaw03_MarkMarks.l0 k l0 t316 (([a1, t319] : List Int)) 0))
theorem truchmanlaw03_MarkMarks.mono_l : ∀ k, (∀ y0 y1 y2 y3, LeO (truchmanlaw03_MarkMarks.l0 k y0 y1 y2 y3) (truchmanlaw03_MarkMarks.l0 (k + 1) y0 y1 y2 y3))
  | 0 => fun _ _ _ _ r h => by simp [truchmanlaw03_MarkMarks.l0] at h
  | k + 1 => by
    have ih0 := truchmanlaw03_MarkMarks.mono_l k
    · intro y0 y1 y2 y3
      unfold truchmanlaw03_MarkMarks.l0
      repeat' first
      | (with_reducible exact ih0 _ _ _ _)
      | (with_reducible exact mark_Mark.mono _ _ _)
      | (with_reducible exact truchmanlaw03_lives.mono _)
      | (with_reducible exact truchmanref03_Mark.mono _ _ _)
      | (with_reducible exact LeO.refl _)
      | (with_reducible exact LeO.none _)
      | (with_reducible refine LeO.ite ?_ ?_)
      | (with_reducible refine LeO.bind ?_ (fun _ => ?_))
      | exact ih0 _ _ _ _
      | exact mark_Mark.mono _ _ _
      | exact truchmanlaw03_lives.mono _
      | exact truchmanref03_Mark.mono _ _ _
      | exact LeO.none _
      | refine LeO.ite ?_ ?_
      | refine LeO.bind ?_ (fun _ => ?_)
theorem truchmanlaw03_MarkMarks.mono : ∀ a0 a1 k, LeO (truchmanlaw03_MarkMarks.f k a0 a1) (truchmanlaw03_MarkMarks.f (k + 1) a0 a1) := by
  intro a0 a1 k
  have ih0 := truchmanlaw03_MarkMarks.mono_l k
  unfold truchmanlaw03_MarkMarks.f
  repeat' first
      | (with_reducible exact ih0 _ _ _ _)
      | (with_reducible exact mark_Mark.mono _ _ _)
      | (with_reducible exact truchmanlaw03_lives.mono _)
      | (with_reducible exact truchmanref03_Mark.mono _ _ _)
      | (with_reducible exact LeO.refl _)
      | (with_reducible exact LeO.none _)
      | (with_reducible refine LeO.ite ?_ ?_)
      | (with_reducible refine LeO.bind ?_ (fun _ => ?_))
      | exact ih0 _ _ _ _
      | exact mark_Mark.mono _ _ _
      | exact truchmanlaw03_lives.mono _
      | exact truchmanref03_Mark.mono _ _ _
      | exact LeO.none _
      | refine LeO.ite ?_ ?_
      | refine LeO.bind ?_ (fun _ => ?_)
def truchmanlaw03_MarkMarks.T10 : Bool × List (List Nat × List Nat) := (true, [([], []), ([0], [0]), ([], []), ([2], [2]), ([3], [3]), ([1, 4], [1, 4]), ([5, 3], [5]), ([6, 6], [6]), ([6, 7], [6, 7]), ([8, 7, 0, 1, 2, 3, 4, 5, 6, 7, 8], [8])])
def truchmanlaw03_MarkMarks.B10 : List Nat := [0, 1, 0, 4, 12, 31, 63, 127, 255, 511]
theorem truchmanlaw03_MarkMarks.tab10 : rtab .any (opsOf Try.f6 10) = truchmanlaw03_MarkMarks.T10 := by kernel_rfl
theorem truchmanlaw03_MarkMarks.bits10 : waitsOk truchmanlaw03_MarkMarks.T10.2 truchmanlaw03_MarkMarks.B10 = true := by kernel_rfl
set_option maxHeartbeats 8000000 in
set_option maxRecDepth 100000 in
theorem truchmanlaw03_MarkMarks.calls (k : Nat) (A0 : Option Addr) (c0 : Nat) (l0 : List Int) (a1 : Int) (r : Bool) (w : World) (hr0 : Kd.C (Kd.int .u8) w A0 l0.length l0) (hc0 : l0.length ≤ c0) (hrt : Aside0 (r = true)) (h : truchmanlaw03_MarkMarks.f k l0 a1 = some r) :
    Calls Try.prog 6 #[.slice A0 l0.length c0, .int .i64 a1] w fun e w' => e = .returned (.bool r) ∧ Below w.heap.size w w' := by
  have HR0 := Aside0.mk hr0
  have HC0 := Aside0.mk hc0
  clear hr0 hc0
  have HB := Aside0.mk (Below.refl w.heap.size w)
  have H : ((truchmanref01_Few.f l0 100).bind fun t316 => ((truchmanref01_Around.f a1 41).bind fun t319 => (truchmanlaw03_MarkMarks.l0 k l0 t316 (([a1, t319] : List Int)) 0))) = some r := h
  clear h
  replace H := Option.bind_eq_some_iff.mp H
  obtain ⟨t316, A30, H⟩ := H
  replace H : ((truchmanref01_Around.f a1 41).bind fun t319 => (truchmanlaw03_MarkMarks.l0 k l0 t316 (([a1, t319] : List Int)) 0)) = some r := H
  have A3 := Aside0.mk A30
  clear A30
  replace H := Option.bind_eq_some_iff.mp H
  obtain ⟨t319, A40, H⟩ := H
  replace H : (truchmanlaw03_MarkMarks.l0 k l0 t316 (([a1, t319] : List Int)) 0) = some r := H
  have A4 := Aside0.mk A40
  clear A40
  obtain ⟨y320, hy320⟩ : ∃ y_ : List Int, y_ = (([a1, t319] : List Int)) := ⟨_, rfl⟩
  replace H : (truchmanlaw03_MarkMarks.l0 k l0 t316 y320 0) = some r := by first | (rw [hy320]; with_reducible exact H) | (have H2_ := (Option.bind_some _ _).symm.trans H; rw [hy320]; with_reducible exact H2_) | (have H2_ := (Option.bind_some _ _).symm.trans H; with_reducible exact H2_) | with_reducible exact H | (rw [hy320]; exact H) | exact H
  have Ny320 := Aside0.mk hy320
  clear hy320
  have H' := Aside0.mk H
  clear H
  go_enter Try.func6, Try.ntmps6
  go_wp2_with (first | ((with_reducible refine gate_callee (f := 14) rfl ?_); refine goesL_ (some 13) rfl rfl Try.func14 (by kernel_rfl) rfl #[.slice A0 l0.length c0, .int .i64 100] rfl (by (try simp only [List.map_toArray, List.map_cons, List.map_nil]); first | done | rfl | (simp only [List.length_drop, List.length_take]; rfl)) ?_; (with_reducible refine (truchmanref01_Few.calls _ _ l0 100 t316 _ ?side1 ?side2 A3.out).mono ?_); (case side1 => repeat (first | exact HR0.out | (with_reducible refine Kd.C_alloc ?_ _) | (with_reducible refine Kd.C_drewN ?_ _) | (with_reducible refine Kd.C_drew ?_))); (case side2 => exact HC0.out); rintro e w5 ⟨v317, rfl, ho0, hb⟩; refine ⟨_, rfl, ?_⟩; have n0_ := Aside0.mk (Kd.R_lower ho0 (below_size (by repeat (first | (with_reducible first | exact HB.out | apply below_alloc | apply pw_below_drewN | apply below_drew1) | exact HB.out)))); have n1_ := Aside0.mk (below_step (by repeat (first | (with_reducible first | exact HB.out | apply below_alloc | apply pw_below_drewN | apply below_drew1) | exact HB.out)) hb); clear HB; have HO318 := n0_; have HB := n1_; clear n0_ n1_; (try clear hb); (try clear hb2); (try clear hk); (try clear hi); (try clear ho0)) | ((with_reducible refine gate_callee (f := 23) rfl ?_); refine goesL_ (some 16) rfl rfl Try.func23 (by kernel_rfl) rfl #[.int .i64 a1, .int .i64 41] rfl (by (try simp only [List.map_toArray, List.map_cons, List.map_nil]); first | done | rfl | (simp only [List.length_drop, List.length_take]; rfl)) ?_; (with_reducible refine (truchmanref01_Around.calls a1 41 t319 _ A4.out).mono ?_); rintro e w' ⟨rfl, ⟨nd, rfl⟩⟩; refine ⟨_, rfl, ?_⟩) | ((with_reducible refine gate_dst (N := 17) rfl ?_); refine Kd.R_lit (Kd.int .i64) _ 3 ?hg (N := 17) ?hd (xs := ([a1, t319] : List Int)) (inner := [.int .i64 a1, .int .i64 t319]) (ok := fun _ => True) (okp := fun _ => True) ?hr ?hp (fun _ hk => hk) trivial (Below.refl _ _) (Nat.le_refl _) (by simp) ?_; (case hd => rfl); (case hg => rfl); (case hr => first | (go_simp; done) | (go_simp; rfl)); (case hp => exact (Reps.one (show Kd.M (Kd.int .i64) _ _ _ a1 [.int .i64 a1] from rfl) (Reps.one (show Kd.M (Kd.int .i64) _ _ _ t319 [.int .i64 t319] from rfl) (Reps.none _ _)))); intro v321 w6 ho7 hb hg_ hnew_; clear hg_ hnew_; (first | rw [← Ny320.out] at ho7 | (simp only [Int.reduceToNat] at ho7; rw [← Ny320.out] at ho7)); have n0_ := Aside0.mk (Kd.R_below (by (with_reducible repeat (first | apply Kd.R_alloc | apply Kd.R_drewN | apply Kd.R_drew)); exact HO318.out) hb); have n1_ := Aside0.mk (Kd.R_lower ho7 (below_size (by repeat (first | (with_reducible first | exact HB.out | apply below_alloc | apply pw_below_drewN | apply below_drew1) | exact HB.out)))); have n2_ := Aside0.mk (below_step (by repeat (first | (with_reducible first | exact HB.out | apply below_alloc | apply pw_below_drewN | apply below_drew1) | exact HB.out)) hb); clear HO318; clear HB; have HO318 := n0_; have HO322 := n1_; have HB := n2_; clear n0_ n1_ n2_; clear hb ho7))
  go_loopg [7] k (fun kq v7 w' => ∃ (x7_1 : Int), v7 = .int .i64 x7_1 ∧ Aside0 (truchmanlaw03_MarkMarks.l0 kq l0 t316 y320 x7_1 = some r) ∧ Aside0 (kq ≤ k) ∧ Aside0 (Kd.R (Kd.int .u8) 5 w' w.heap.size (fun _ => True) v317 t316) ∧ Aside0 (Kd.R (Kd.int .i64) 3 w' w.heap.size (fun _ => True) v321 y320) ∧ Aside0 (Below w.heap.size w w'))
  case atStart => exact ⟨(0), (by first | rfl | (simp; done) | (simp [*]; done)), H', ⟨Nat.le_refl _⟩, ⟨by (with_reducible repeat (first | apply Kd.R_alloc | apply Kd.R_drewN | apply Kd.R_drew)); exact HO318.out⟩, ⟨by (with_reducible repeat (first | apply Kd.R_alloc | apply Kd.R_drewN | apply Kd.R_drew)); exact HO322.out⟩, ⟨by repeat (first | (with_reducible first | exact HB.out | apply below_alloc | apply pw_below_drewN | apply below_drew1) | exact HB.out)⟩⟩
  case round =>
    clear H'
    try clear c1
    try clear c2
    try clear p2
    try clear c6
    obtain ⟨x7_1, rfl, HA, HK1, HO_5, HO_6, HB⟩ := hrel
    cases gk with
    | zero => exact absurd HA.out (by simp [truchmanlaw03_MarkMarks.l0])
    | succ k1 =>
      have H := HA.out
      clear HA
      simp only [truchmanlaw03_MarkMarks.l0] at H
      by_cases c8 : x7_1 < 2
      · rw [if_pos c8] at H
        have c8b0 : decide (x7_1 < 2) = true := decide_eq_true c8
        clear c8
        by_cases c9 : 0 ≤ x7_1
        · rw [if_pos c9] at H
          have c9b0 : decide (0 ≤ x7_1) = true := decide_eq_true c9
          clear c9
          by_cases c10 : x7_1 < (y320.length : Int)
          · rw [if_pos c10] at H
            have c10b0 : decide (x7_1 < (y320.length : Int)) = true := decide_eq_true c10
            clear c10
            replace H := Option.bind_eq_some_iff.mp H
            obtain ⟨⟨t328, t331⟩, A110, H⟩ := H
            replace H : ((truchmanref03_Mark.f k1 t316 (rd y320 x7_1)).bind fun bt333 => (if t331 = bt333.2 then (if (strOfNums t328).toList = (strOfNums bt333.1).toList then (truchmanlaw03_MarkMarks.l0 k1 l0 t316 y320 (wrap64 (x7_1 + 1))) else (some false)) else (some false))) = some r := H
            have A11 := Aside0.mk A110
            clear A110
            replace H := Option.bind_eq_some_iff.mp H
            obtain ⟨⟨t333, t334⟩, A120, H⟩ := H
            replace H : (if t331 = t334 then (if (strOfNums t328).toList = (strOfNums t333).toList then (truchmanlaw03_MarkMarks.l0 k1 l0 t316 y320 (wrap64 (x7_1 + 1))) else (some false)) else (some false)) = some r := H
            have A12 := Aside0.mk A120
            clear A120
            by_cases c13 : t331 = t334
            · rw [if_pos c13] at H
              have c13b0 : (t331 == t334) = true := beq_iff_eq.mpr c13
              have c13b1 : (t331 != t334) = false := bne_eq_false_iff_eq.mpr c13
              clear c13
              by_cases c14 : (strOfNums t328).toList = (strOfNums t333).toList
              · rw [if_pos c14] at H
                have c14b0 : ((strOfNums t328).toList == (strOfNums t333).toList) = true := beq_iff_eq.mpr c14
                have c14b1 : ((strOfNums t328).toList != (strOfNums t333).toList) = false := bne_eq_false_iff_eq.mpr c14
                clear c14
                have H' := Aside0.mk H
                clear H
                obtain ⟨Ao15, co15, eo15⟩ := Kd.R_slice HO_6.out
                subst eo15
                have p327 : 0 ≤ (x7_1 : Int) := of_decide_eq_true (by first | (with_reducible assumption) | assumption)
                have q327 : x7_1 < (y320.length : Int) := of_decide_eq_true (by first | (with_reducible assumption) | assumption)
                obtain ⟨ad327, e327, hx327_0⟩ := Kd.at_int (Kd.R_reads' HO_6.out).2.2 x7_1 p327 q327
                cases e327
                replace p327 := eq_true p327
                replace q327 := eq_true q327
                obtain ⟨Ao16, co16, eo16⟩ := Kd.R_slice HO_5.out
                subst eo16
                go_wp2_with (first | ((with_reducible refine gate_callee (f := 28) rfl ?_); refine goesL_ (some 28) rfl rfl Try.func28 (by kernel_rfl) rfl #[.slice Ao16 t316.length co16, .int .i64 (rd y320 x7_1)] rfl (by (try simp only [List.map_toArray, List.map_cons, List.map_nil]); first | done | rfl | (simp only [List.length_drop, List.length_take]; rfl)) ?_; (with_reducible refine (mark_Mark.calls k1 (fun k_ => some k_ = (.slice Ao16 t316.length co16 : Value).ownBlock) _ _ t316 (rd y320 x7_1) t328 t331 _ ?side1 A11.out).mono ?_); (case side1 => exact Kd.R_V (Kd.R_tight rfl (Kd.R_apart' (HO_5.out) (Kd.R_typed HO_6.out) (by decide)))); rintro e w17 ⟨v329, rfl, ho0, hb⟩; refine ⟨_, rfl, ?_⟩; have n0_ := Aside0.mk (Kd.R_elder' (by (with_reducible repeat (first | apply Kd.R_alloc | apply Kd.R_drewN | apply Kd.R_drew)); exact HO_5.out) (Kd.R_base ho0) hb); have n1_ := Aside0.mk (Kd.R_below (by (with_reducible repeat (first | apply Kd.R_alloc | apply Kd.R_drewN | apply Kd.R_drew)); exact HO_6.out) hb); have n2_ := Aside0.mk (Kd.R_lower (Kd.R_new' (Kd.R_mono (ok' := fun k_ => True) ho0 (fun _ hk_ => trivial)) (Kd.R_lt (by (with_reducible repeat (first | apply Kd.R_alloc | apply Kd.R_drewN | apply Kd.R_drew)); exact HO_5.out))) (below_size (by repeat (first | (with_reducible first | exact HB.out | apply below_alloc | apply pw_below_drewN | apply below_drew1) | exact HB.out)))); have n3_ := Aside0.mk (below_step (by repeat (first | (with_reducible first | exact HB.out | apply below_alloc | apply pw_below_drewN | apply below_drew1) | exact HB.out)) hb); clear HO_5; clear HO_6; clear HB; have HO_5 := n0_; have HO_6 := n1_; have HO330 := n2_; have HB := n3_; clear n0_ n1_ n2_ n3_; (try clear hb); (try clear hb2); (try clear hk); (try clear hi); (try clear ho0); have p332 : 0 ≤ (x7_1 : Int) := of_decide_eq_true (by first | (with_reducible assumption) | assumption); have q332 : x7_1 < (y320.length : Int) := of_decide_eq_true (by first | (with_reducible assumption) | assumption); obtain ⟨ad332, e332, hx332_0⟩ := Kd.at_int (Kd.R_reads' HO_6.out).2.2 x7_1 p332 q332; obtain rfl : ad327 = ad332 := (by injection e332); replace p332 := eq_true p332; replace q332 := eq_true q332) | ((with_reducible refine gate_callee (f := 29) rfl ?_); refine goesL_ (some 37) rfl rfl Try.func29 (by kernel_rfl) rfl #[.slice Ao16 t316.length co16, .int .i64 (rd y320 x7_1)] rfl (by (try simp only [List.map_toArray, List.map_cons, List.map_nil]); first | done | rfl | (simp only [List.length_drop, List.length_take]; rfl)) ?_; (with_reducible refine (truchmanref03_Mark.calls k1 _ _ t316 (rd y320 x7_1) t333 t334 _ ?side1 ?side2 A12.out).mono ?_); (case side1 => repeat (first | exact (Kd.R_reads' HO_5.out).2.2 | (with_reducible refine Kd.C_alloc ?_ _) | (with_reducible refine Kd.C_drewN ?_ _) | (with_reducible refine Kd.C_drew ?_))); (case side2 => exact (Kd.R_reads' HO_5.out).2.1); rintro e w18 ⟨v335, rfl, ho0, hb⟩; refine ⟨_, rfl, ?_⟩; have n0_ := Aside0.mk (Kd.R_elder' (by (with_reducible repeat (first | apply Kd.R_alloc | apply Kd.R_drewN | apply Kd.R_drew)); exact HO_5.out) (Kd.R_base ho0) hb); have n1_ := Aside0.mk (Kd.R_below (by (with_reducible repeat (first | apply Kd.R_alloc | apply Kd.R_drewN | apply Kd.R_drew)); exact HO_6.out) hb); have n2_ := Aside0.mk (Kd.R_elder' (by (with_reducible repeat (first | apply Kd.R_alloc | apply Kd.R_drewN | apply Kd.R_drew)); exact HO330.out) (Kd.R_base ho0) hb); have n3_ := Aside0.mk (Kd.R_lower (Kd.R_new' (Kd.R_new' ho0 (Kd.R_lt (by (with_reducible repeat (first | apply Kd.R_alloc | apply Kd.R_drewN | apply Kd.R_drew)); exact HO_5.out))) (Kd.R_lt (by (with_reducible repeat (first | apply Kd.R_alloc | apply Kd.R_drewN | apply Kd.R_drew)); exact HO330.out))) (below_size (by repeat (first | (with_reducible first | exact HB.out | apply below_alloc | apply pw_below_drewN | apply below_drew1) | exact HB.out)))); have n4_ := Aside0.mk (below_step (by repeat (first | (with_reducible first | exact HB.out | apply below_alloc | apply pw_below_drewN | apply below_drew1) | exact HB.out)) hb); clear HO_5; clear HO_6; clear HO330; clear HB; have HO_5 := n0_; have HO_6 := n1_; have HO330 := n2_; have HO336 := n3_; have HB := n4_; clear n0_ n1_ n2_ n3_ n4_; (try clear hb); (try clear hb2); (try clear hk); (try clear hi); (try clear ho0); have hcv19 := own_string (P := Try.prog) Try.underlying24 Try.underlying5 Try.underlying9 (Kd.own_of_R HO330.out); have hcv20 := own_string (P := Try.prog) Try.underlying24 Try.underlying5 Try.underlying9 (Kd.own_of_R HO336.out)))
                go_roundg k1
                case measure => have := HK1.out; omega
                case rel => exact ⟨(wrap64 (x7_1 + 1)), (by first | rfl | (simp; done) | (simp [*]; done)), H', ⟨by have := HK1.out; omega⟩, ⟨by (with_reducible repeat (first | apply Kd.R_alloc | apply Kd.R_drewN | apply Kd.R_drew)); exact Kd.R_mono HO_5.out (fun _ hk => trivial)⟩, ⟨by (with_reducible repeat (first | apply Kd.R_alloc | apply Kd.R_drewN | apply Kd.R_drew)); exact HO_6.out⟩, ⟨by repeat (first | (with_reducible first | exact HB.out | apply below_alloc | apply pw_below_drewN | apply below_drew1) | exact HB.out)⟩⟩
              · rw [if_neg c14] at H
                have c14b0 : ((strOfNums t328).toList == (strOfNums t333).toList) = false := beq_eq_false_iff_ne.mpr c14
                have c14b1 : ((strOfNums t328).toList != (strOfNums t333).toList) = true := bne_iff_ne.mpr c14
                obtain rfl := Option.some.inj H
                exact absurd hrt.out (by decide)
            · rw [if_neg c13] at H
              have c13b0 : (t331 == t334) = false := beq_eq_false_iff_ne.mpr c13
              have c13b1 : (t331 != t334) = true := bne_iff_ne.mpr c13
              obtain rfl := Option.some.inj H
              exact absurd hrt.out (by decide)
          · rw [if_neg c10] at H
            exact absurd H (by simp)
        · rw [if_neg c9] at H
          exact absurd H (by simp)
      · rw [if_neg c8] at H
        have c8b0 : decide (x7_1 < 2) = false := decide_eq_false c8
        clear c8
        replace H := Option.bind_eq_some_iff.mp H
        obtain ⟨t323, A210, H⟩ := H
        replace H : (if (strOfNums t316).toList = (strOfNums t323).toList then ((truchmanlaw03_lives.f k1).bind fun t326 => (some t326)) else (some false)) = some r := H
        have A21 := Aside0.mk A210
        clear A210
        by_cases c22 : (strOfNums t316).toList = (strOfNums t323).toList
        · rw [if_pos c22] at H
          have c22b0 : ((strOfNums t316).toList == (strOfNums t323).toList) = true := beq_iff_eq.mpr c22
          have c22b1 : ((strOfNums t316).toList != (strOfNums t323).toList) = false := bne_eq_false_iff_eq.mpr c22
          clear c22
          replace H := Option.bind_eq_some_iff.mp H
          obtain ⟨t326, A230, H⟩ := H
          replace H : (some t326) = some r := H
          have A23 := Aside0.mk A230
          clear A230
          obtain rfl := Option.some.inj H
          try go_wp2
          have n0_ := Aside0.mk (Kd.R_drew HO_5.out)
          have n1_ := Aside0.mk (Kd.R_drew HO_6.out)
          have n2_ := Aside0.mk (below_drew1 HB.out)
          clear HO_5
          clear HO_6
          clear HB
          have HO_5 := n0_
          have HO_6 := n1_
          have HB := n2_
          clear n0_ n1_ n2_
          refine start_ (n := 10) (S := fun w' => True) (ds := []) #[false, false, false, false, false, false, false, false, false, false] (by kernel_rfl) rfl rfl trivial (fun hHeld => ?_); refine with_tabW truchmanlaw03_MarkMarks.tab10 truchmanlaw03_MarkMarks.bits10 (fun HT_ HW_ => ?_)
          generalize wr.drew = w24 at HO_5 HO_6 HB hHeld ⊢
          refine pure_ (i := 0) (N := some 50) (v := ?_) (a' := ?_) #[true, false, false, false, false, false, false, false, false, false] rfl rfl (any_of HT_.out (by kernel_rfl)) (fun _ _ _ h => h) (Or.inl ⟨by rfl, ?_⟩) ?_ ?_
          rotate_left
          · intro w'
            go_simp
            with_reducible rfl
          rotate_left
          · simp only [Act.put, List.setIfInBounds_toArray, List.set_cons_zero, List.set_cons_succ, i64_w, i32_w]
            rfl
          refine pure_ (i := 2) (N := some 52) (v := ?_) (a' := ?_) #[true, false, true, false, false, false, false, false, false, false] rfl rfl (any_of HT_.out (by kernel_rfl)) (fun _ _ _ h => h) (Or.inl ⟨by rfl, ?_⟩) ?_ ?_
          rotate_left
          · intro w'
            go_simp
            with_reducible rfl
          rotate_left
          · simp only [Act.put, List.setIfInBounds_toArray, List.set_cons_zero, List.set_cons_succ, i64_w, i32_w]
            rfl
          refine inv_at [1, 3, 4, 5, 6, 7, 8, 9] (fun a0_ b a w' => ∃ (v324 : Value), a = putSel a0_ b [(1, 51, .string (strOfNums t316)), (3, 53, v324), (4, 54, .string (strOfNums t323)), (5, 55, .bool ((strOfNums t316).toList == (strOfNums t323).toList)), (6, 56, .bool ((strOfNums t316).toList == (strOfNums t323).toList)), (7, 57, .bool t326), (8, 58, .bool t326), (9, 4, .bool t326)] ∧ (Kd.R (Kd.int .u8) 5 w' w.heap.size (fun _ => True) v317 t316) ∧ (Kd.R (Kd.int .i64) 3 w' w.heap.size (fun _ => True) v321 y320) ∧ (Below w.heap.size w w') ∧ (b 3 = true → Kd.R (Kd.int .u8) 5 w' w.heap.size (fun k_ => some k_ ≠ (v317 : Value).ownBlock) v324 t323)) HT_.out HW_.out (by kernel_rfl) (by kernel_rfl) ?_ ?_ ?_
          · exact ⟨.bool false, by simp only [putSel, Bool.false_eq_true, if_false], HO_5.out, HO_6.out, HB.out, fun h_ => absurd h_ (by decide)⟩
          · skip
            clear HB HO_5 HO_6
            refine steps_cons ?_ ?_
            · rintro b a w' ⟨v324, ha, Q_HO_5, Q_HO_6, Q_HB, Q_HO325⟩ hb_ hon hoff
              refine ⟨_, rfl, fun K hK => ?_⟩
              have e50 : a.tmps[50]? = some (v317) := by rw [ha]; exact (putSel_off rfl).trans rfl
              replace ha := Aside0.mk ha
              have HO_5 := Aside0.mk Q_HO_5
              have HO_6 := Aside0.mk Q_HO_6
              have HB := Aside0.mk Q_HB
              have hcvi1_ := own_string (P := Try.prog) Try.underlying24 Try.underlying5 Try.underlying9 (Kd.own_of_R HO_5.out)
              refine value_ (w1 := w') (v := .string (strOfNums t316)) (by rfl) rfl ?_ ?_
              · go_simp
                (try simp only [i64_w])
                try rfl
              refine hK.out _ _ ⟨v324, (by rw [ha.out]; exact putSel_upk 0 hb_ rfl rfl rfl), Q_HO_5, Q_HO_6, Q_HB, Q_HO325⟩
            refine steps_cons ?_ ?_
            · rintro b a w' ⟨v324, ha, Q_HO_5, Q_HO_6, Q_HB, Q_HO325⟩ hb_ hon hoff
              refine ⟨_, rfl, fun K hK => ?_⟩
              have e52 : a.tmps[52]? = some (.slice A0 l0.length c0) := by rw [ha]; exact (putSel_off rfl).trans rfl
              replace ha := Aside0.mk ha
              have HO_5 := Aside0.mk Q_HO_5
              have HO_6 := Aside0.mk Q_HO_6
              have HB := Aside0.mk Q_HB
              refine goes_ Try.func14 (by kernel_rfl) rfl #[.slice A0 l0.length c0, .int .i64 100] (by rfl) rfl rfl (by first | (simp only [List.map_toArray, List.map_cons, List.map_nil, Act.eval, Array.getD_eq_getD_getElem?, Option.getD_some, e52]; done) | (simp only [List.map_toArray, List.map_cons, List.map_nil, Act.eval, Array.getD_eq_getD_getElem?, Option.getD_some, e52]; rfl)) ?_
              with_reducible refine (truchmanref01_Few.calls _ _ l0 100 t323 _ ?side1 ?side2 A21.out).mono ?_
              (case side1 => repeat (first | exact (Kd.C_below HR0.out HB.out) | (with_reducible refine Kd.C_alloc ?_ _) | (with_reducible refine Kd.C_drewN ?_ _) | (with_reducible refine Kd.C_drew ?_)))
              (case side2 => exact HC0.out)
              rintro e w25 ⟨v324, rfl, ho0, hb⟩
              refine ⟨_, rfl, ?_⟩
              have n0_ := Aside0.mk (Kd.R_elder' (by (with_reducible repeat (first | apply Kd.R_alloc | apply Kd.R_drewN | apply Kd.R_drew)); exact HO_5.out) (Kd.R_base ho0) hb)
              have n1_ := Aside0.mk (Kd.R_below (by (with_reducible repeat (first | apply Kd.R_alloc | apply Kd.R_drewN | apply Kd.R_drew)); exact HO_6.out) hb)
              have n2_ := Aside0.mk (Kd.R_lower (Kd.R_new' ho0 (Kd.R_lt (by (with_reducible repeat (first | apply Kd.R_alloc | apply Kd.R_drewN | apply Kd.R_drew)); exact HO_5.out))) (below_size (by repeat (first | (with_reducible first | exact HB.out | apply below_alloc | apply pw_below_drewN | apply below_drew1) | exact HB.out))))
              have n3_ := Aside0.mk (below_step (by repeat (first | (with_reducible first | exact HB.out | apply below_alloc | apply pw_below_drewN | apply below_drew1) | exact HB.out)) hb)
              clear HO_5
              clear HO_6
              clear HB
              have HO_5 := n0_
              have HO_6 := n1_
              have HO325 := n2_
              have HB := n3_
              clear n0_ n1_ n2_ n3_
              (try clear hb)
              (try clear hb2)
              (try clear hk)
              (try clear hi)
              (try clear ho0)
              refine hK.out _ _ ⟨v324, (by rw [ha.out]; exact putSel_upk 1 hb_ rfl rfl rfl), (by first | exact (by (with_reducible repeat (first | apply Kd.R_alloc | apply Kd.R_drewN | apply Kd.R_drew)); exact Kd.R_mono HO_5.out (fun _ hk => hk.2)) | exact (Kd.R_mono (ok := (fun k_ => some k_ ≠ (v324 : Value).ownBlock)) (by (with_reducible repeat (first | apply Kd.R_alloc | apply Kd.R_drewN | apply Kd.R_drew)); exact Kd.R_mono HO_5.out (fun _ hk => hk.2)) (fun _ h_ => by (repeat' apply And.intro) <;> first | trivial | exact h_ | exact h_.1 | exact h_.2 | exact h_.2.1 | exact h_.2.2 | exact h_.2.2.1 | exact h_.2.2.2 | exact h_.2.2.2.1 | exact h_.2.2.2.2 | exact h_.2.2.2.2.1 | exact h_.2.2.2.2.2 | exact h_.2.2.2.2.2.1 | exact h_.2.2.2.2.2.2))), (by (with_reducible repeat (first | apply Kd.R_alloc | apply Kd.R_drewN | apply Kd.R_drew)); exact HO_6.out), (by repeat (first | (with_reducible first | exact HB.out | apply below_alloc | apply pw_below_drewN | apply below_drew1) | exact HB.out)), fun _ => (by (with_reducible repeat (first | apply Kd.R_alloc | apply Kd.R_drewN | apply Kd.R_drew)); exact Kd.R_mono HO325.out (fun _ hk => hk.2))⟩
            refine steps_cons ?_ ?_
            · rintro b a w' ⟨v324, ha, Q_HO_5, Q_HO_6, Q_HB, Q_HO325⟩ hb_ hon hoff
              refine ⟨_, rfl, fun K hK => ?_⟩
              have e53 : a.tmps[53]? = some (v324) := by rw [ha]; exact putSel_on (e := (3, 53, v324)) 1 rfl rfl (hon 3 (by kernel_rfl)) rfl
              replace ha := Aside0.mk ha
              have HO_5 := Aside0.mk Q_HO_5
              have HO_6 := Aside0.mk Q_HO_6
              have HB := Aside0.mk Q_HB
              have HO325 := Aside0.mk (Q_HO325 (hon 3 (by kernel_rfl)))
              obtain ⟨Ao4_0, co4_0, eo_⟩ := Kd.R_slice HO325.out
              subst eo_
              have hcvi4_ := own_string (P := Try.prog) Try.underlying24 Try.underlying5 Try.underlying9 (Kd.own_of_R HO325.out)
              refine value_ (w1 := w') (v := .string (strOfNums t323)) (by rfl) rfl ?_ ?_
              · go_simp
                (try simp only [i64_w])
                try rfl
              refine hK.out _ _ ⟨.slice Ao4_0 t323.length co4_0, (by rw [ha.out]; exact putSel_upk 2 hb_ rfl rfl rfl), Q_HO_5, Q_HO_6, Q_HB, Q_HO325⟩
            refine steps_cons ?_ ?_
            · rintro b a w' ⟨v324, ha, Q_HO_5, Q_HO_6, Q_HB, Q_HO325⟩ hb_ hon hoff
              refine ⟨_, rfl, fun K hK => ?_⟩
              have e51 : a.tmps[51]? = some (.string (strOfNums t316)) := by rw [ha]; exact putSel_on (e := (1, 51, .string (strOfNums t316))) 0 rfl rfl (hon 1 (by kernel_rfl)) rfl
              have e54 : a.tmps[54]? = some (.string (strOfNums t323)) := by rw [ha]; exact putSel_on (e := (4, 54, .string (strOfNums t323))) 2 rfl rfl (hon 4 (by kernel_rfl)) rfl
              replace ha := Aside0.mk ha
              have HO_5 := Aside0.mk Q_HO_5
              have HO_6 := Aside0.mk Q_HO_6
              have HB := Aside0.mk Q_HB
              have HO325 := Aside0.mk (Q_HO325 (hon 3 (by kernel_rfl)))
              refine value_ (w1 := w') (v := .bool ((strOfNums t316).toList == (strOfNums t323).toList)) (by rfl) rfl ?_ ?_
              · go_simp
                (try simp only [i64_w])
                try rfl
              refine hK.out _ _ ⟨v324, (by rw [ha.out]; exact putSel_upk 3 hb_ rfl rfl rfl), Q_HO_5, Q_HO_6, Q_HB, Q_HO325⟩
            refine steps_cons ?_ ?_
            · rintro b a w' ⟨v324, ha, Q_HO_5, Q_HO_6, Q_HB, Q_HO325⟩ hb_ hon hoff
              refine ⟨_, rfl, fun K hK => ?_⟩
              have e55 : a.tmps[55]? = some (.bool ((strOfNums t316).toList == (strOfNums t323).toList)) := by rw [ha]; exact putSel_on (e := (5, 55, .bool ((strOfNums t316).toList == (strOfNums t323).toList))) 3 rfl rfl (hon 5 (by kernel_rfl)) rfl
              replace ha := Aside0.mk ha
              have HO_5 := Aside0.mk Q_HO_5
              have HO_6 := Aside0.mk Q_HO_6
              have HB := Aside0.mk Q_HB
              have HO325 := Aside0.mk (Q_HO325 (hon 3 (by kernel_rfl)))
              refine value_ (w1 := w') (v := .bool ((strOfNums t316).toList == (strOfNums t323).toList)) (by rfl) rfl ?_ ?_
              · go_simp
                (try simp only [i64_w])
                try rfl
              refine hK.out _ _ ⟨v324, (by rw [ha.out]; exact putSel_upk 4 hb_ rfl rfl rfl), Q_HO_5, Q_HO_6, Q_HB, Q_HO325⟩
            refine steps_cons ?_ ?_
            · rintro b a w' ⟨v324, ha, Q_HO_5, Q_HO_6, Q_HB, Q_HO325⟩ hb_ hon hoff
              refine ⟨_, rfl, fun K hK => ?_⟩
              have e56 : a.tmps[56]? = some (.bool ((strOfNums t316).toList == (strOfNums t323).toList)) := by rw [ha]; exact putSel_on (e := (6, 56, .bool ((strOfNums t316).toList == (strOfNums t323).toList))) 4 rfl rfl (hon 6 (by kernel_rfl)) rfl
              replace ha := Aside0.mk ha
              have HO_5 := Aside0.mk Q_HO_5
              have HO_6 := Aside0.mk Q_HO_6
              have HB := Aside0.mk Q_HB
              have HO325 := Aside0.mk (Q_HO325 (hon 3 (by kernel_rfl)))
              refine goes_ Try.func27 (by kernel_rfl) rfl #[] (wanted_on rfl rfl rfl (e56.trans (by first | rfl | (simp [*]; done)))) rfl rfl (by first | (simp only [List.map_toArray, List.map_cons, List.map_nil, Act.eval, Array.getD_eq_getD_getElem?, Option.getD_some, e56]; done) | (simp only [List.map_toArray, List.map_cons, List.map_nil, Act.eval, Array.getD_eq_getD_getElem?, Option.getD_some, e56]; rfl)) ?_
              with_reducible refine (truchmanlaw03_lives.calls k1  t326 _ A23.out).mono ?_
              rintro e w27 ⟨rfl, hb⟩
              refine ⟨_, rfl, ?_⟩
              have n0_ := Aside0.mk (Kd.R_below (by (with_reducible repeat (first | apply Kd.R_alloc | apply Kd.R_drewN | apply Kd.R_drew)); exact HO_5.out) hb)
              have n1_ := Aside0.mk (Kd.R_below (by (with_reducible repeat (first | apply Kd.R_alloc | apply Kd.R_drewN | apply Kd.R_drew)); exact HO_6.out) hb)
              have n2_ := Aside0.mk (Kd.R_below (by (with_reducible repeat (first | apply Kd.R_alloc | apply Kd.R_drewN | apply Kd.R_drew)); exact HO325.out) hb)
              have n3_ := Aside0.mk (below_step (by repeat (first | (with_reducible first | exact HB.out | apply below_alloc | apply pw_below_drewN | apply below_drew1) | exact HB.out)) hb)
              clear HO_5
              clear HO_6
              clear HO325
              clear HB
              have HO_5 := n0_
              have HO_6 := n1_
              have HO325 := n2_
              have HB := n3_
              clear n0_ n1_ n2_ n3_
              (try clear hb)
              (try clear hb2)
              (try clear hk)
              (try clear hi)
              refine hK.out _ _ ⟨v324, (by rw [ha.out]; exact putSel_upk 5 hb_ rfl rfl rfl), (by first | exact (by (with_reducible repeat (first | apply Kd.R_alloc | apply Kd.R_drewN | apply Kd.R_drew)); exact HO_5.out) | exact (Kd.R_mono (ok := (fun k_ => some k_ ≠ (v324 : Value).ownBlock)) (by (with_reducible repeat (first | apply Kd.R_alloc | apply Kd.R_drewN | apply Kd.R_drew)); exact HO_5.out) (fun _ h_ => by (repeat' apply And.intro) <;> first | trivial | exact h_ | exact h_.1 | exact h_.2 | exact h_.2.1 | exact h_.2.2 | exact h_.2.2.1 | exact h_.2.2.2 | exact h_.2.2.2.1 | exact h_.2.2.2.2 | exact h_.2.2.2.2.1 | exact h_.2.2.2.2.2 | exact h_.2.2.2.2.2.1 | exact h_.2.2.2.2.2.2))), (by (with_reducible repeat (first | apply Kd.R_alloc | apply Kd.R_drewN | apply Kd.R_drew)); exact HO_6.out), (by repeat (first | (with_reducible first | exact HB.out | apply below_alloc | apply pw_below_drewN | apply below_drew1) | exact HB.out)), fun _ => (by (with_reducible repeat (first | apply Kd.R_alloc | apply Kd.R_drewN | apply Kd.R_drew)); exact HO325.out)⟩
            refine steps_cons ?_ ?_
            · rintro b a w' ⟨v324, ha, Q_HO_5, Q_HO_6, Q_HB, Q_HO325⟩ hb_ hon hoff
              refine ⟨_, rfl, fun K hK => ?_⟩
              have e56 : a.tmps[56]? = some (.bool ((strOfNums t316).toList == (strOfNums t323).toList)) := by rw [ha]; exact putSel_on (e := (6, 56, .bool ((strOfNums t316).toList == (strOfNums t323).toList))) 4 rfl rfl (hon 6 (by kernel_rfl)) rfl
              have e57 : a.tmps[57]? = some (.bool t326) := by rw [ha]; exact putSel_on (e := (7, 57, .bool t326)) 5 rfl rfl (hon 7 (by kernel_rfl)) rfl
              replace ha := Aside0.mk ha
              have HO_5 := Aside0.mk Q_HO_5
              have HO_6 := Aside0.mk Q_HO_6
              have HB := Aside0.mk Q_HB
              have HO325 := Aside0.mk (Q_HO325 (hon 3 (by kernel_rfl)))
              refine value_ (w1 := w') (v := .bool t326) (by rfl) rfl ?_ ?_
              · go_simp
                (try simp only [i64_w])
                try rfl
              refine hK.out _ _ ⟨v324, (by rw [ha.out]; exact putSel_upk 6 hb_ rfl rfl rfl), Q_HO_5, Q_HO_6, Q_HB, Q_HO325⟩
            refine steps_cons ?_ ?_
            · rintro b a w' ⟨v324, ha, Q_HO_5, Q_HO_6, Q_HB, Q_HO325⟩ hb_ hon hoff
              refine ⟨_, rfl, fun K hK => ?_⟩
              have e58 : a.tmps[58]? = some (.bool t326) := by rw [ha]; exact putSel_on (e := (8, 58, .bool t326)) 6 rfl rfl (hon 8 (by kernel_rfl)) rfl
              replace ha := Aside0.mk ha
              have HO_5 := Aside0.mk Q_HO_5
              have HO_6 := Aside0.mk Q_HO_6
              have HB := Aside0.mk Q_HB
              have HO325 := Aside0.mk (Q_HO325 (hon 3 (by kernel_rfl)))
              refine value_ (w1 := w') (v := .bool t326) (by rfl) rfl ?_ ?_
              · go_simp
                (try simp only [i64_w])
                try rfl
              refine hK.out _ _ ⟨v324, (by rw [ha.out]; exact putSel_upk 7 hb_ rfl rfl rfl), Q_HO_5, Q_HO_6, Q_HB, Q_HO325⟩
            exact steps_nil
          rintro b a w27 hall ⟨v324, ha, Q_HO_5, Q_HO_6, Q_HB, Q_HO325⟩
          clear HB HO_5 HO_6
          have hb1_ := hall 1 (by kernel_rfl)
          have hb3_ := hall 3 (by kernel_rfl)
          have hb4_ := hall 4 (by kernel_rfl)
          have hb5_ := hall 5 (by kernel_rfl)
          have hb6_ := hall 6 (by kernel_rfl)
          have hb7_ := hall 7 (by kernel_rfl)
          have hb8_ := hall 8 (by kernel_rfl)
          have hb9_ := hall 9 (by kernel_rfl)
          subst ha
          simp only [putSel, hb1_, hb3_, hb4_, hb5_, hb6_, hb7_, hb8_, hb9_, if_true, Act.put, List.setIfInBounds_toArray, List.set_cons_zero, List.set_cons_succ]
          have HO_5 := Aside0.mk Q_HO_5
          clear Q_HO_5
          have HO_6 := Aside0.mk Q_HO_6
          clear Q_HO_6
          have HB := Aside0.mk Q_HB
          clear Q_HB
          have HO325 := Aside0.mk (Q_HO325 hb3_)
          clear Q_HO325
          clear hall hb1_ hb3_ hb4_ hb5_ hb6_ hb7_ hb8_ hb9_
          try go_wp2
          go_ret
          exact ⟨by first | rfl | (simp [errW_none, errW_some] <;> rfl) | (simp [*, errW_none, errW_some] <;> rfl), by repeat (first | (with_reducible first | exact HB.out | apply below_alloc | apply pw_below_drewN | apply below_drew1) | exact HB.out)⟩
        · rw [if_neg c22] at H
          have c22b0 : ((strOfNums t316).toList == (strOfNums t323).toList) = false := beq_eq_false_iff_ne.mpr c22
          have c22b1 : ((strOfNums t316).toList != (strOfNums t323).toList) = true := bne_iff_ne.mpr c22
          obtain rfl := Option.some.inj H
          exact absurd hrt.out (by decide)

/-- THE ONE PURE STATEMENT of truchmanlaw03_MarkMarks: yours. -/
def truchmanlaw03_MarkMarks.Pure : Prop := ∀ (l0 : List Int) (a1 : Int), l0.length ≤ maxLen → l0.length * 1 ≤ 140737488351232 → (∀ x ∈ l0, (Lit.int .u8 x).wf = true) → (Lit.int .i64 a1).wf = true → ∃ k, truchmanlaw03_MarkMarks.f k l0 a1 = some true
theorem truchmanlaw03_MarkMarks.walk (P : truchmanlaw03_MarkMarks.Pure) (a0 : Option Addr) (len0 cap0 : Nat) (z0 : List Int) (a1 : Int) (w : World) (w0 : (a0 = none ∧ len0 = 0 ∧ cap0 = 0 ∧ z0 = []) ∨ ∃ x, a0 = some x ∧ len0 ≤ cap0 ∧ cap0 ≤ maxLen ∧ z0.length = cap0 ∧ (∀ i, i < z0.length → w.cell? (x.add i) = some (.int .u8 (z0.getD i 0))) ∧ ∀ n ∈ z0, (Lit.int .u8 n).wf = true) (y0 : len0 * 1 ≤ 140737488351232) (w1 : (Lit.int .i64 a1).wf = true) :
    Calls Try.prog 6 #[.slice a0 len0 cap0, .int .i64 a1] w fun e w' => e = .returned (.bool true) ∧ Below w.heap.size w w' := by
  obtain ⟨l0, rfl, hr0, hm0, hw0, hc0⟩ := ReadsInt.ofRowC w0
  obtain ⟨k, h⟩ := P l0 a1 hm0 y0 hw0 w1
  refine (truchmanlaw03_MarkMarks.calls k _ _ l0 a1 true w (Kd.C_of_reads (d := (0 : Int)) (h1 := fun _ => rfl) hr0) hc0 ⟨rfl⟩ h).mono ?_
  rintro e w' ⟨rfl, hd⟩
  exact ⟨rfl, hd⟩

/-! ### truchmanlaw03_MarkBounds: function 7 -/
def truchmanlaw03_MarkBounds.f (k : Nat) (a0 : Int) (a1 : Int) : Option (Bool) := (truchmanref01_Around.f a0 12).bind fun t337 => ((truchmanref01_Around.f a1 11).bind fun t338 => (if 0 ≤ (wrap64 (4090 + t337)) then (if (wrap64 (4090 + t337) : Int).toNat ≤ 281474976710656 then ((some (List.replicate (wrap64 (4090 + t337) : Int).toNat 0 : List Int)).bind fun y339 => ((mark_Mark.f k y339 (wrap64 (60 + t338))).bind fun bt342 => ((truchmanref03_Mark.f k y339 (wrap64 (60 + t338))).bind fun bt346 => ((mark_Mark.f k y339 4096).bind fun bt350 => (if bt342.2 = bt346.2 then (if (strOfNums bt342.1).toList = (strOfNums bt346.1).toList then (if ((bt350.2 == 0) == (decide ((wrap64 (4090 + t337)) ≤ 4096))) = true then (if bt350.2 = 0 then ((truchmanlaw03_lives.f k).bind fun t354 => (some t354)) else (if bt350.2 = 4 then ((truchmanlaw03_lives.f k).bind fun t355 => (some t355)) else (some false))) else (some false)) else (some false)) else (some false)))))) else (none)) else (none)))
theorem truchmanlaw03_MarkBounds.mono : ∀ a0 a1 k, LeO (truchmanlaw03_MarkBounds.f k a0 a1) (truchmanlaw03_MarkBounds.f (k + 1) a0 a1) := by
  intro a0 a1 k
  unfold truchmanlaw03_MarkBounds.f
  repeat' first
      | (with_reducible exact mark_Mark.mono _ _ _)
      | (with_reducible exact truchmanlaw03_lives.mono _)
      | (with_reducible exact truchmanref03_Mark.mono _ _ _)
      | (with_reducible exact LeO.refl _)
      | (with_reducible exact LeO.none _)
      | (with_reducible refine LeO.ite ?_ ?_)
      | (with_reducible refine LeO.bind ?_ (fun _ => ?_))
      | exact mark_Mark.mono _ _ _
      | exact truchmanlaw03_lives.mono _
      | exact truchmanref03_Mark.mono _ _ _
      | exact LeO.none _
      | refine LeO.ite ?_ ?_
      | refine LeO.bind ?_ (fun _ => ?_)
set_option maxHeartbeats 8000000 in
set_option maxRecDepth 100000 in
theorem truchmanlaw03_MarkBounds.calls (k : Nat) (a0 : Int) (a1 : Int) (r : Bool) (w : World) (hrt : Aside0 (r = true)) (h : truchmanlaw03_MarkBounds.f k a0 a1 = some r) :
    Calls Try.prog 7 #[.int .i64 a0, .int .i64 a1] w fun e w' => e = .returned (.bool r) ∧ Below w.heap.size w w' := by
  have HB := Aside0.mk (Below.refl w.heap.size w)
  have H : ((truchmanref01_Around.f a0 12).bind fun t337 => ((truchmanref01_Around.f a1 11).bind fun t338 => (if 0 ≤ (wrap64 (4090 + t337)) then (if (wrap64 (4090 + t337) : Int).toNat ≤ 281474976710656 then ((some (List.replicate (wrap64 (4090 + t337) : Int).toNat 0 : List Int)).bind fun y339 => ((mark_Mark.f k y339 (wrap64 (60 + t338))).bind fun bt342 => ((truchmanref03_Mark.f k y339 (wrap64 (60 + t338))).bind fun bt346 => ((mark_Mark.f k y339 4096).bind fun bt350 => (if bt342.2 = bt346.2 then (if (strOfNums bt342.1).toList = (strOfNums bt346.1).toList then (if ((bt350.2 == 0) == (decide ((wrap64 (4090 + t337)) ≤ 4096))) = true then (if bt350.2 = 0 then ((truchmanlaw03_lives.f k).bind fun t354 => (some t354)) else (if bt350.2 = 4 then ((truchmanlaw03_lives.f k).bind fun t355 => (some t355)) else (some false))) else (some false)) else (some false)) else (some false)))))) else (none)) else (none)))) = some r := h
  clear h
  replace H := Option.bind_eq_some_iff.mp H
  obtain ⟨t337, A30, H⟩ := H
  replace H : ((truchmanref01_Around.f a1 11).bind fun t338 => (if 0 ≤ (wrap64 (4090 + t337)) then (if (wrap64 (4090 + t337) : Int).toNat ≤ 281474976710656 then ((some (List.replicate (wrap64 (4090 + t337) : Int).toNat 0 : List Int)).bind fun y339 => ((mark_Mark.f k y339 (wrap64 (60 + t338))).bind fun bt342 => ((truchmanref03_Mark.f k y339 (wrap64 (60 + t338))).bind fun bt346 => ((mark_Mark.f k y339 4096).bind fun bt350 => (if bt342.2 = bt346.2 then (if (strOfNums bt342.1).toList = (strOfNums bt346.1).toList then (if ((bt350.2 == 0) == (decide ((wrap64 (4090 + t337)) ≤ 4096))) = true then (if bt350.2 = 0 then ((truchmanlaw03_lives.f k).bind fun t354 => (some t354)) else (if bt350.2 = 4 then ((truchmanlaw03_lives.f k).bind fun t355 => (some t355)) else (some false))) else (some false)) else (some false)) else (some false)))))) else (none)) else (none))) = some r := H
  have A3 := Aside0.mk A30
  clear A30
  replace H := Option.bind_eq_some_iff.mp H
  obtain ⟨t338, A40, H⟩ := H
  replace H : (if 0 ≤ (wrap64 (4090 + t337)) then (if (wrap64 (4090 + t337) : Int).toNat ≤ 281474976710656 then ((some (List.replicate (wrap64 (4090 + t337) : Int).toNat 0 : List Int)).bind fun y339 => ((mark_Mark.f k y339 (wrap64 (60 + t338))).bind fun bt342 => ((truchmanref03_Mark.f k y339 (wrap64 (60 + t338))).bind fun bt346 => ((mark_Mark.f k y339 4096).bind fun bt350 => (if bt342.2 = bt346.2 then (if (strOfNums bt342.1).toList = (strOfNums bt346.1).toList then (if ((bt350.2 == 0) == (decide ((wrap64 (4090 + t337)) ≤ 4096))) = true then (if bt350.2 = 0 then ((truchmanlaw03_lives.f k).bind fun t354 => (some t354)) else (if bt350.2 = 4 then ((truchmanlaw03_lives.f k).bind fun t355 => (some t355)) else (some false))) else (some false)) else (some false)) else (some false)))))) else (none)) else (none)) = some r := H
  have A4 := Aside0.mk A40
  clear A40
  obtain ⟨ji5, hji5⟩ : ∃ j_ : Int, (wrap64 (4090 + t337)) = j_ := ⟨_, rfl⟩
  replace H : (if 0 ≤ (ji5) then (if (ji5 : Int).toNat ≤ 281474976710656 then ((some (List.replicate (ji5 : Int).toNat 0 : List Int)).bind fun y339 => ((mark_Mark.f k y339 (wrap64 (60 + t338))).bind fun bt342 => ((truchmanref03_Mark.f k y339 (wrap64 (60 + t338))).bind fun bt346 => ((mark_Mark.f k y339 4096).bind fun bt350 => (if bt342.2 = bt346.2 then (if (strOfNums bt342.1).toList = (strOfNums bt346.1).toList then (if ((bt350.2 == 0) == (decide ((ji5) ≤ 4096))) = true then (if bt350.2 = 0 then ((truchmanlaw03_lives.f k).bind fun t354 => (some t354)) else (if bt350.2 = 4 then ((truchmanlaw03_lives.f k).bind fun t355 => (some t355)) else (some false))) else (some false)) else (some false)) else (some false)))))) else (none)) else (none)) = some r := by first | (rw [hji5] at H; exact H) | (simp only [hji5] at H ⊢; exact H)
  (try rw [hji5] at A3)
  (try rw [hji5] at A4)
  have hji5w : (IntKind.i64.wrap (4090 + t337)) = ji5 := (i64_w _).trans hji5
  by_cases c6 : 0 ≤ (ji5)
  · rw [if_pos c6] at H
    have c6b0 := eq_true c6
    have c6b1 : decide (0 ≤ (ji5)) = true := decide_eq_true c6
    clear c6
    by_cases c7 : (ji5 : Int).toNat ≤ 281474976710656
    · rw [if_pos c7] at H
      have c7b0 := eq_true c7
      have c7b1 : decide ((ji5 : Int).toNat ≤ 281474976710656) = true := decide_eq_true c7
      clear c7
      obtain ⟨y339, hy339⟩ : ∃ y_ : List Int, y_ = (List.replicate (ji5 : Int).toNat 0) := ⟨_, rfl⟩
      replace H : ((mark_Mark.f k y339 (wrap64 (60 + t338))).bind fun bt342 => ((truchmanref03_Mark.f k y339 (wrap64 (60 + t338))).bind fun bt346 => ((mark_Mark.f k y339 4096).bind fun bt350 => (if bt342.2 = bt346.2 then (if (strOfNums bt342.1).toList = (strOfNums bt346.1).toList then (if ((bt350.2 == 0) == (decide ((ji5) ≤ 4096))) = true then (if bt350.2 = 0 then ((truchmanlaw03_lives.f k).bind fun t354 => (some t354)) else (if bt350.2 = 4 then ((truchmanlaw03_lives.f k).bind fun t355 => (some t355)) else (some false))) else (some false)) else (some false)) else (some false))))) = some r := by first | (rw [hy339]; with_reducible exact H) | (have H2_ := (Option.bind_some _ _).symm.trans H; rw [hy339]; with_reducible exact H2_) | (have H2_ := (Option.bind_some _ _).symm.trans H; with_reducible exact H2_) | with_reducible exact H | (rw [hy339]; exact H) | exact H
      have Ny339 := Aside0.mk hy339
      clear hy339
      replace H := Option.bind_eq_some_iff.mp H
      obtain ⟨⟨t342, t345⟩, A80, H⟩ := H
      replace H : ((truchmanref03_Mark.f k y339 (wrap64 (60 + t338))).bind fun bt346 => ((mark_Mark.f k y339 4096).bind fun bt350 => (if t345 = bt346.2 then (if (strOfNums t342).toList = (strOfNums bt346.1).toList then (if ((bt350.2 == 0) == (decide ((ji5) ≤ 4096))) = true then (if bt350.2 = 0 then ((truchmanlaw03_lives.f k).bind fun t354 => (some t354)) else (if bt350.2 = 4 then ((truchmanlaw03_lives.f k).bind fun t355 => (some t355)) else (some false))) else (some false)) else (some false)) else (some false)))) = some r := H
      have A8 := Aside0.mk A80
      clear A80
      replace H := Option.bind_eq_some_iff.mp H
      obtain ⟨⟨t346, t347⟩, A90, H⟩ := H
      replace H : ((mark_Mark.f k y339 4096).bind fun bt350 => (if t345 = t347 then (if (strOfNums t342).toList = (strOfNums t346).toList then (if ((bt350.2 == 0) == (decide ((ji5) ≤ 4096))) = true then (if bt350.2 = 0 then ((truchmanlaw03_lives.f k).bind fun t354 => (some t354)) else (if bt350.2 = 4 then ((truchmanlaw03_lives.f k).bind fun t355 => (some t355)) else (some false))) else (some false)) else (some false)) else (some false))) = some r := H
      have A9 := Aside0.mk A90
      clear A90
      replace H := Option.bind_eq_some_iff.mp H
      obtain ⟨⟨t350, t353⟩, A100, H⟩ := H
      replace H : (if t345 = t347 then (if (strOfNums t342).toList = (strOfNums t346).toList then (if ((t353 == 0) == (decide ((ji5) ≤ 4096))) = true then (if t353 = 0 then ((truchmanlaw03_lives.f k).bind fun t354 => (some t354)) else (if t353 = 4 then ((truchmanlaw03_lives.f k).bind fun t355 => (some t355)) else (some false))) else (some false)) else (some false)) else (some false)) = some r := H
      have A10 := Aside0.mk A100
      clear A100
      by_cases c11 : t345 = t347
      · rw [if_pos c11] at H
        have c11b0 : (t345 == t347) = true := beq_iff_eq.mpr c11
        have c11b1 : (t345 != t347) = false := bne_eq_false_iff_eq.mpr c11
        clear c11
        by_cases c12 : (strOfNums t342).toList = (strOfNums t346).toList
        · rw [if_pos c12] at H
          have c12b0 : ((strOfNums t342).toList == (strOfNums t346).toList) = true := beq_iff_eq.mpr c12
          have c12b1 : ((strOfNums t342).toList != (strOfNums t346).toList) = false := bne_eq_false_iff_eq.mpr c12
          clear c12
          by_cases c13 : ((t353 == 0) == (decide ((ji5) ≤ 4096))) = true
          · rw [if_pos c13] at H
            have c13b0 : ((t353 == 0) == (decide ((ji5) ≤ 4096))) = true := c13
            (try (have c13b1 : decide ((t353 == 0) = (decide ((ji5) ≤ 4096))) = true := by simpa using c13))
            (try (have c13b2 : ((t353 == 0) == (decide ((ji5) ≤ 4096))) = true := by simpa using c13))
            clear c13
            by_cases c14 : t353 = 0
            · rw [if_pos c14] at H
              have c14b0 : (t353 == 0) = true := beq_iff_eq.mpr c14
              have c14b1 : (t353 != 0) = false := bne_eq_false_iff_eq.mpr c14
              clear c14
              replace H := Option.bind_eq_some_iff.mp H
              obtain ⟨t354, A150, H⟩ := H
              replace H : (some t354) = some r := H
              have A15 := Aside0.mk A150
              clear A150
              obtain rfl := Option.some.inj H
              try first | (have c13b0_0 : (t353 == 0) = true := by (have h_ := c13b0; simp only [c14b0] at h_; simpa using h_)) | (have c13b0_0 : (t353 == 0) = false := by (have h_ := c13b0; simp only [c14b0] at h_; simpa using h_))
              try first | (have c13b0_1 : (decide ((ji5) ≤ 4096)) = true := by (have h_ := c13b0; simp only [c14b0] at h_; simpa using h_)) | (have c13b0_1 : (decide ((ji5) ≤ 4096)) = false := by (have h_ := c13b0; simp only [c14b0] at h_; simpa using h_))
              go_enter Try.func7, Try.ntmps7
              go_wp2_with (first | ((with_reducible refine gate_callee (f := 23) rfl ?_); refine goesL_ (some 15) rfl rfl Try.func23 (by kernel_rfl) rfl #[.int .i64 a0, .int .i64 12] rfl (by (try simp only [List.map_toArray, List.map_cons, List.map_nil]); first | done | rfl | (simp only [List.length_drop, List.length_take]; rfl)) ?_; (with_reducible refine (truchmanref01_Around.calls a0 12 t337 _ A3.out).mono ?_); rintro e w' ⟨rfl, ⟨nd, rfl⟩⟩; refine ⟨_, rfl, ?_⟩) | ((with_reducible refine gate_callee (f := 23) rfl ?_); refine goesL_ (some 18) rfl rfl Try.func23 (by kernel_rfl) rfl #[.int .i64 a1, .int .i64 11] rfl (by (try simp only [List.map_toArray, List.map_cons, List.map_nil]); first | done | rfl | (simp only [List.length_drop, List.length_take]; rfl)) ?_; (with_reducible refine (truchmanref01_Around.calls a1 11 t338 _ A4.out).mono ?_); rintro e w' ⟨rfl, ⟨nd, rfl⟩⟩; refine ⟨_, rfl, ?_⟩) | ((with_reducible refine gate_dst (N := 21) rfl ?_); refine Kd.R_make (Kd.int .u8) _ 5 rfl (N := 21) rfl 24 _ _ rfl ji5 rfl rfl Try.underlying24 (.int .u8 0) 1 info5 rfl (by decide) (by omega) 0 (ok := fun _ => True) (okp := fun _ => True) rfl (fun _ hk => hk) trivial (of_decide_eq_true (by first | (with_reducible assumption) | assumption)) (Nat.le_trans (Nat.mul_le_mul_right _ (of_decide_eq_true (by first | (with_reducible assumption) | assumption) : ji5.toNat ≤ 281474976710656)) (by omega)) (Below.refl _ _) (Nat.le_refl _) ?_; intro v340 w16 ho17 hb hg_ hnew_; clear hg_ hnew_; (first | rw [← Ny339.out] at ho17 | (simp only [Int.reduceToNat] at ho17; rw [← Ny339.out] at ho17)); have n0_ := Aside0.mk (Kd.R_lower ho17 (below_size (by repeat (first | (with_reducible first | exact HB.out | apply below_alloc | apply pw_below_drewN | apply below_drew1) | exact HB.out)))); have n1_ := Aside0.mk (below_step (by repeat (first | (with_reducible first | exact HB.out | apply below_alloc | apply pw_below_drewN | apply below_drew1) | exact HB.out)) hb); clear HB; have HO341 := n0_; have HB := n1_; clear n0_ n1_; clear hb ho17; obtain ⟨Ao18, co18, eo18⟩ := Kd.R_slice HO341.out; subst eo18) | ((with_reducible refine gate_callee (f := 28) rfl ?_); refine goesL_ (some 25) rfl rfl Try.func28 (by kernel_rfl) rfl #[.slice Ao18 y339.length co18, .int .i64 (wrap64 (60 + t338))] rfl (by (try simp only [List.map_toArray, List.map_cons, List.map_nil]); first | done | rfl | (simp only [List.length_drop, List.length_take]; rfl)) ?_; (with_reducible refine (mark_Mark.calls k (fun k_ => some k_ = (.slice Ao18 y339.length co18 : Value).ownBlock) _ _ y339 (wrap64 (60 + t338)) t342 t345 _ ?side1 A8.out).mono ?_); (case side1 => exact Kd.R_V (Kd.R_tight rfl (HO341.out))); rintro e w19 ⟨v343, rfl, ho0, hb⟩; refine ⟨_, rfl, ?_⟩; have n0_ := Aside0.mk (Kd.R_elder' (by (with_reducible repeat (first | apply Kd.R_alloc | apply Kd.R_drewN | apply Kd.R_drew)); exact HO341.out) (Kd.R_base ho0) hb); have n1_ := Aside0.mk (Kd.R_lower (Kd.R_new' (Kd.R_mono (ok' := fun k_ => True) ho0 (fun _ hk_ => trivial)) (Kd.R_lt (by (with_reducible repeat (first | apply Kd.R_alloc | apply Kd.R_drewN | apply Kd.R_drew)); exact HO341.out))) (below_size (by repeat (first | (with_reducible first | exact HB.out | apply below_alloc | apply pw_below_drewN | apply below_drew1) | exact HB.out)))); have n2_ := Aside0.mk (below_step (by repeat (first | (with_reducible first | exact HB.out | apply below_alloc | apply pw_below_drewN | apply below_drew1) | exact HB.out)) hb); clear HO341; clear HB; have HO341 := n0_; have HO344 := n1_; have HB := n2_; clear n0_ n1_ n2_; (try clear hb); (try clear hb2); (try clear hk); (try clear hi); (try clear ho0)) | ((with_reducible refine gate_callee (f := 29) rfl ?_); refine goesL_ (some 31) rfl rfl Try.func29 (by kernel_rfl) rfl #[.slice Ao18 y339.length co18, .int .i64 (wrap64 (60 + t338))] rfl (by (try simp only [List.map_toArray, List.map_cons, List.map_nil]); first | done | rfl | (simp only [List.length_drop, List.length_take]; rfl)) ?_; (with_reducible refine (truchmanref03_Mark.calls k _ _ y339 (wrap64 (60 + t338)) t346 t347 _ ?side1 ?side2 A9.out).mono ?_); (case side1 => repeat (first | exact (Kd.R_reads' HO341.out).2.2 | (with_reducible refine Kd.C_alloc ?_ _) | (with_reducible refine Kd.C_drewN ?_ _) | (with_reducible refine Kd.C_drew ?_))); (case side2 => exact (Kd.R_reads' HO341.out).2.1); rintro e w20 ⟨v348, rfl, ho0, hb⟩; refine ⟨_, rfl, ?_⟩; have n0_ := Aside0.mk (Kd.R_elder' (by (with_reducible repeat (first | apply Kd.R_alloc | apply Kd.R_drewN | apply Kd.R_drew)); exact HO341.out) (Kd.R_base ho0) hb); have n1_ := Aside0.mk (Kd.R_elder' (by (with_reducible repeat (first | apply Kd.R_alloc | apply Kd.R_drewN | apply Kd.R_drew)); exact HO344.out) (Kd.R_base ho0) hb); have n2_ := Aside0.mk (Kd.R_lower (Kd.R_new' (Kd.R_new' ho0 (Kd.R_lt (by (with_reducible repeat (first | apply Kd.R_alloc | apply Kd.R_drewN | apply Kd.R_drew)); exact HO341.out))) (Kd.R_lt (by (with_reducible repeat (first | apply Kd.R_alloc | apply Kd.R_drewN | apply Kd.R_drew)); exact HO344.out))) (below_size (by repeat (first | (with_reducible first | exact HB.out | apply below_alloc | apply pw_below_drewN | apply below_drew1) | exact HB.out)))); have n3_ := Aside0.mk (below_step (by repeat (first | (with_reducible first | exact HB.out | apply below_alloc | apply pw_below_drewN | apply below_drew1) | exact HB.out)) hb); clear HO341; clear HO344; clear HB; have HO341 := n0_; have HO344 := n1_; have HO349 := n2_; have HB := n3_; clear n0_ n1_ n2_ n3_; (try clear hb); (try clear hb2); (try clear hk); (try clear hi); (try clear ho0)) | ((with_reducible refine gate_callee (f := 28) rfl ?_); refine goesL_ (some 36) rfl rfl Try.func28 (by kernel_rfl) rfl #[.slice Ao18 y339.length co18, .int .i64 4096] rfl (by (try simp only [List.map_toArray, List.map_cons, List.map_nil]); first | done | rfl | (simp only [List.length_drop, List.length_take]; rfl)) ?_; (with_reducible refine (mark_Mark.calls k (fun k_ => some k_ = (.slice Ao18 y339.length co18 : Value).ownBlock) _ _ y339 4096 t350 t353 _ ?side1 A10.out).mono ?_); (case side1 => exact Kd.R_V (Kd.R_tight rfl (HO341.out))); rintro e w21 ⟨v351, rfl, ho0, hb⟩; refine ⟨_, rfl, ?_⟩; have n0_ := Aside0.mk (Kd.R_elder' (by (with_reducible repeat (first | apply Kd.R_alloc | apply Kd.R_drewN | apply Kd.R_drew)); exact HO341.out) (Kd.R_base ho0) hb); have n1_ := Aside0.mk (Kd.R_elder' (by (with_reducible repeat (first | apply Kd.R_alloc | apply Kd.R_drewN | apply Kd.R_drew)); exact HO344.out) (Kd.R_base ho0) hb); have n2_ := Aside0.mk (Kd.R_elder' (by (with_reducible repeat (first | apply Kd.R_alloc | apply Kd.R_drewN | apply Kd.R_drew)); exact HO349.out) (Kd.R_base ho0) hb); have n3_ := Aside0.mk (Kd.R_lower (Kd.R_new' (Kd.R_new' (Kd.R_new' (Kd.R_mono (ok' := fun k_ => True) ho0 (fun _ hk_ => trivial)) (Kd.R_lt (by (with_reducible repeat (first | apply Kd.R_alloc | apply Kd.R_drewN | apply Kd.R_drew)); exact HO341.out))) (Kd.R_lt (by (with_reducible repeat (first | apply Kd.R_alloc | apply Kd.R_drewN | apply Kd.R_drew)); exact HO344.out))) (Kd.R_lt (by (with_reducible repeat (first | apply Kd.R_alloc | apply Kd.R_drewN | apply Kd.R_drew)); exact HO349.out))) (below_size (by repeat (first | (with_reducible first | exact HB.out | apply below_alloc | apply pw_below_drewN | apply below_drew1) | exact HB.out)))); have n4_ := Aside0.mk (below_step (by repeat (first | (with_reducible first | exact HB.out | apply below_alloc | apply pw_below_drewN | apply below_drew1) | exact HB.out)) hb); clear HO341; clear HO344; clear HO349; clear HB; have HO341 := n0_; have HO344 := n1_; have HO349 := n2_; have HO352 := n3_; have HB := n4_; clear n0_ n1_ n2_ n3_ n4_; (try clear hb); (try clear hb2); (try clear hk); (try clear hi); (try clear ho0); have hcv22 := own_string (P := Try.prog) Try.underlying24 Try.underlying5 Try.underlying9 (Kd.own_of_R HO344.out); have hcv23 := own_string (P := Try.prog) Try.underlying24 Try.underlying5 Try.underlying9 (Kd.own_of_R HO349.out)) | (go_at_call 27; (with_reducible refine (truchmanlaw03_lives.calls k  t354 _ A15.out).mono ?_); rintro e w24 ⟨rfl, hb⟩; have n0_ := Aside0.mk (Kd.R_below (by (with_reducible repeat (first | apply Kd.R_alloc | apply Kd.R_drewN | apply Kd.R_drew)); exact HO341.out) hb); have n1_ := Aside0.mk (Kd.R_below (by (with_reducible repeat (first | apply Kd.R_alloc | apply Kd.R_drewN | apply Kd.R_drew)); exact HO344.out) hb); have n2_ := Aside0.mk (Kd.R_below (by (with_reducible repeat (first | apply Kd.R_alloc | apply Kd.R_drewN | apply Kd.R_drew)); exact HO349.out) hb); have n3_ := Aside0.mk (Kd.R_below (by (with_reducible repeat (first | apply Kd.R_alloc | apply Kd.R_drewN | apply Kd.R_drew)); exact HO352.out) hb); have n4_ := Aside0.mk (below_step (by repeat (first | (with_reducible first | exact HB.out | apply below_alloc | apply pw_below_drewN | apply below_drew1) | exact HB.out)) hb); clear HO341; clear HO344; clear HO349; clear HO352; clear HB; have HO341 := n0_; have HO344 := n1_; have HO349 := n2_; have HO352 := n3_; have HB := n4_; clear n0_ n1_ n2_ n3_ n4_; (try clear hb); (try clear hb2); (try clear hk); (try clear hi)))
              go_ret
              exact ⟨by first | rfl | (simp [errW_none, errW_some] <;> rfl) | (simp only [← hji5]; first | rfl | (simp [errW_none, errW_some] <;> rfl)) | (simp [*, errW_none, errW_some] <;> rfl), by repeat (first | (with_reducible first | exact HB.out | apply below_alloc | apply pw_below_drewN | apply below_drew1) | exact HB.out)⟩
            · rw [if_neg c14] at H
              have c14b0 : (t353 == 0) = false := beq_eq_false_iff_ne.mpr c14
              have c14b1 : (t353 != 0) = true := bne_iff_ne.mpr c14
              by_cases c25 : t353 = 4
              · rw [if_pos c25] at H
                have c25b0 : (t353 == 4) = true := beq_iff_eq.mpr c25
                have c25b1 : (t353 != 4) = false := bne_eq_false_iff_eq.mpr c25
                clear c25
                replace H := Option.bind_eq_some_iff.mp H
                obtain ⟨t355, A260, H⟩ := H
                replace H : (some t355) = some r := H
                have A26 := Aside0.mk A260
                clear A260
                obtain rfl := Option.some.inj H
                try first | (have c13b0_0 : (t353 == 0) = true := by (have h_ := c13b0; simp only [c14b0, c25b0] at h_; simpa using h_)) | (have c13b0_0 : (t353 == 0) = false := by (have h_ := c13b0; simp only [c14b0, c25b0] at h_; simpa using h_))
                try first | (have c13b0_1 : (decide ((ji5) ≤ 4096)) = true := by (have h_ := c13b0; simp only [c14b0, c25b0] at h_; simpa using h_)) | (have c13b0_1 : (decide ((ji5) ≤ 4096)) = false := by (have h_ := c13b0; simp only [c14b0, c25b0] at h_; simpa using h_))
                go_enter Try.func7, Try.ntmps7
                go_wp2_with (first | ((with_reducible refine gate_callee (f := 23) rfl ?_); refine goesL_ (some 15) rfl rfl Try.func23 (by kernel_rfl) rfl #[.int .i64 a0, .int .i64 12] rfl (by (try simp only [List.map_toArray, List.map_cons, List.map_nil]); first | done | rfl | (simp only [List.length_drop, List.length_take]; rfl)) ?_; (with_reducible refine (truchmanref01_Around.calls a0 12 t337 _ A3.out).mono ?_); rintro e w' ⟨rfl, ⟨nd, rfl⟩⟩; refine ⟨_, rfl, ?_⟩) | ((with_reducible refine gate_callee (f := 23) rfl ?_); refine goesL_ (some 18) rfl rfl Try.func23 (by kernel_rfl) rfl #[.int .i64 a1, .int .i64 11] rfl (by (try simp only [List.map_toArray, List.map_cons, List.map_nil]); first | done | rfl | (simp only [List.length_drop, List.length_take]; rfl)) ?_; (with_reducible refine (truchmanref01_Around.calls a1 11 t338 _ A4.out).mono ?_); rintro e w' ⟨rfl, ⟨nd, rfl⟩⟩; refine ⟨_, rfl, ?_⟩) | ((with_reducible refine gate_dst (N := 21) rfl ?_); refine Kd.R_make (Kd.int .u8) _ 5 rfl (N := 21) rfl 24 _ _ rfl ji5 rfl rfl Try.underlying24 (.int .u8 0) 1 info5 rfl (by decide) (by omega) 0 (ok := fun _ => True) (okp := fun _ => True) rfl (fun _ hk => hk) trivial (of_decide_eq_true (by first | (with_reducible assumption) | assumption)) (Nat.le_trans (Nat.mul_le_mul_right _ (of_decide_eq_true (by first | (with_reducible assumption) | assumption) : ji5.toNat ≤ 281474976710656)) (by omega)) (Below.refl _ _) (Nat.le_refl _) ?_; intro v340 w27 ho28 hb hg_ hnew_; clear hg_ hnew_; (first | rw [← Ny339.out] at ho28 | (simp only [Int.reduceToNat] at ho28; rw [← Ny339.out] at ho28)); have n0_ := Aside0.mk (Kd.R_lower ho28 (below_size (by repeat (first | (with_reducible first | exact HB.out | apply below_alloc | apply pw_below_drewN | apply below_drew1) | exact HB.out)))); have n1_ := Aside0.mk (below_step (by repeat (first | (with_reducible first | exact HB.out | apply below_alloc | apply pw_below_drewN | apply below_drew1) | exact HB.out)) hb); clear HB; have HO341 := n0_; have HB := n1_; clear n0_ n1_; clear hb ho28; obtain ⟨Ao29, co29, eo29⟩ := Kd.R_slice HO341.out; subst eo29) | ((with_reducible refine gate_callee (f := 28) rfl ?_); refine goesL_ (some 25) rfl rfl Try.func28 (by kernel_rfl) rfl #[.slice Ao29 y339.length co29, .int .i64 (wrap64 (60 + t338))] rfl (by (try simp only [List.map_toArray, List.map_cons, List.map_nil]); first | done | rfl | (simp only [List.length_drop, List.length_take]; rfl)) ?_; (with_reducible refine (mark_Mark.calls k (fun k_ => some k_ = (.slice Ao29 y339.length co29 : Value).ownBlock) _ _ y339 (wrap64 (60 + t338)) t342 t345 _ ?side1 A8.out).mono ?_); (case side1 => exact Kd.R_V (Kd.R_tight rfl (HO341.out))); rintro e w30 ⟨v343, rfl, ho0, hb⟩; refine ⟨_, rfl, ?_⟩; have n0_ := Aside0.mk (Kd.R_elder' (by (with_reducible repeat (first | apply Kd.R_alloc | apply Kd.R_drewN | apply Kd.R_drew)); exact HO341.out) (Kd.R_base ho0) hb); have n1_ := Aside0.mk (Kd.R_lower (Kd.R_new' (Kd.R_mono (ok' := fun k_ => True) ho0 (fun _ hk_ => trivial)) (Kd.R_lt (by (with_reducible repeat (first | apply Kd.R_alloc | apply Kd.R_drewN | apply Kd.R_drew)); exact HO341.out))) (below_size (by repeat (first | (with_reducible first | exact HB.out | apply below_alloc | apply pw_below_drewN | apply below_drew1) | exact HB.out)))); have n2_ := Aside0.mk (below_step (by repeat (first | (with_reducible first | exact HB.out | apply below_alloc | apply pw_below_drewN | apply below_drew1) | exact HB.out)) hb); clear HO341; clear HB; have HO341 := n0_; have HO344 := n1_; have HB := n2_; clear n0_ n1_ n2_; (try clear hb); (try clear hb2); (try clear hk); (try clear hi); (try clear ho0)) | ((with_reducible refine gate_callee (f := 29) rfl ?_); refine goesL_ (some 31) rfl rfl Try.func29 (by kernel_rfl) rfl #[.slice Ao29 y339.length co29, .int .i64 (wrap64 (60 + t338))] rfl (by (try simp only [List.map_toArray, List.map_cons, List.map_nil]); first | done | rfl | (simp only [List.length_drop, List.length_take]; rfl)) ?_; (with_reducible refine (truchmanref03_Mark.calls k _ _ y339 (wrap64 (60 + t338)) t346 t347 _ ?side1 ?side2 A9.out).mono ?_); (case side1 => repeat (first | exact (Kd.R_reads' HO341.out).2.2 | (with_reducible refine Kd.C_alloc ?_ _) | (with_reducible refine Kd.C_drewN ?_ _) | (with_reducible refine Kd.C_drew ?_))); (case side2 => exact (Kd.R_reads' HO341.out).2.1); rintro e w31 ⟨v348, rfl, ho0, hb⟩; refine ⟨_, rfl, ?_⟩; have n0_ := Aside0.mk (Kd.R_elder' (by (with_reducible repeat (first | apply Kd.R_alloc | apply Kd.R_drewN | apply Kd.R_drew)); exact HO341.out) (Kd.R_base ho0) hb); have n1_ := Aside0.mk (Kd.R_elder' (by (with_reducible repeat (first | apply Kd.R_alloc | apply Kd.R_drewN | apply Kd.R_drew)); exact HO344.out) (Kd.R_base ho0) hb); have n2_ := Aside0.mk (Kd.R_lower (Kd.R_new' (Kd.R_new' ho0 (Kd.R_lt (by (with_reducible repeat (first | apply Kd.R_alloc | apply Kd.R_drewN | apply Kd.R_drew)); exact HO341.out))) (Kd.R_lt (by (with_reducible repeat (first | apply Kd.R_alloc | apply Kd.R_drewN | apply Kd.R_drew)); exact HO344.out))) (below_size (by repeat (first | (with_reducible first | exact HB.out | apply below_alloc | apply pw_below_drewN | apply below_drew1) | exact HB.out)))); have n3_ := Aside0.mk (below_step (by repeat (first | (with_reducible first | exact HB.out | apply below_alloc | apply pw_below_drewN | apply below_drew1) | exact HB.out)) hb); clear HO341; clear HO344; clear HB; have HO341 := n0_; have HO344 := n1_; have HO349 := n2_; have HB := n3_; clear n0_ n1_ n2_ n3_; (try clear hb); (try clear hb2); (try clear hk); (try clear hi); (try clear ho0)) | ((with_reducible refine gate_callee (f := 28) rfl ?_); refine goesL_ (some 36) rfl rfl Try.func28 (by kernel_rfl) rfl #[.slice Ao29 y339.length co29, .int .i64 4096] rfl (by (try simp only [List.map_toArray, List.map_cons, List.map_nil]); first | done | rfl | (simp only [List.length_drop, List.length_take]; rfl)) ?_; (with_reducible refine (mark_Mark.calls k (fun k_ => some k_ = (.slice Ao29 y339.length co29 : Value).ownBlock) _ _ y339 4096 t350 t353 _ ?side1 A10.out).mono ?_); (case side1 => exact Kd.R_V (Kd.R_tight rfl (HO341.out))); rintro e w32 ⟨v351, rfl, ho0, hb⟩; refine ⟨_, rfl, ?_⟩; have n0_ := Aside0.mk (Kd.R_elder' (by (with_reducible repeat (first | apply Kd.R_alloc | apply Kd.R_drewN | apply Kd.R_drew)); exact HO341.out) (Kd.R_base ho0) hb); have n1_ := Aside0.mk (Kd.R_elder' (by (with_reducible repeat (first | apply Kd.R_alloc | apply Kd.R_drewN | apply Kd.R_drew)); exact HO344.out) (Kd.R_base ho0) hb); have n2_ := Aside0.mk (Kd.R_elder' (by (with_reducible repeat (first | apply Kd.R_alloc | apply Kd.R_drewN | apply Kd.R_drew)); exact HO349.out) (Kd.R_base ho0) hb); have n3_ := Aside0.mk (Kd.R_lower (Kd.R_new' (Kd.R_new' (Kd.R_new' (Kd.R_mono (ok' := fun k_ => True) ho0 (fun _ hk_ => trivial)) (Kd.R_lt (by (with_reducible repeat (first | apply Kd.R_alloc | apply Kd.R_drewN | apply Kd.R_drew)); exact HO341.out))) (Kd.R_lt (by (with_reducible repeat (first | apply Kd.R_alloc | apply Kd.R_drewN | apply Kd.R_drew)); exact HO344.out))) (Kd.R_lt (by (with_reducible repeat (first | apply Kd.R_alloc | apply Kd.R_drewN | apply Kd.R_drew)); exact HO349.out))) (below_size (by repeat (first | (with_reducible first | exact HB.out | apply below_alloc | apply pw_below_drewN | apply below_drew1) | exact HB.out)))); have n4_ := Aside0.mk (below_step (by repeat (first | (with_reducible first | exact HB.out | apply below_alloc | apply pw_below_drewN | apply below_drew1) | exact HB.out)) hb); clear HO341; clear HO344; clear HO349; clear HB; have HO341 := n0_; have HO344 := n1_; have HO349 := n2_; have HO352 := n3_; have HB := n4_; clear n0_ n1_ n2_ n3_ n4_; (try clear hb); (try clear hb2); (try clear hk); (try clear hi); (try clear ho0); have hcv33 := own_string (P := Try.prog) Try.underlying24 Try.underlying5 Try.underlying9 (Kd.own_of_R HO344.out); have hcv34 := own_string (P := Try.prog) Try.underlying24 Try.underlying5 Try.underlying9 (Kd.own_of_R HO349.out)) | (go_at_call 27; (with_reducible refine (truchmanlaw03_lives.calls k  t355 _ A26.out).mono ?_); rintro e w35 ⟨rfl, hb⟩; have n0_ := Aside0.mk (Kd.R_below (by (with_reducible repeat (first | apply Kd.R_alloc | apply Kd.R_drewN | apply Kd.R_drew)); exact HO341.out) hb); have n1_ := Aside0.mk (Kd.R_below (by (with_reducible repeat (first | apply Kd.R_alloc | apply Kd.R_drewN | apply Kd.R_drew)); exact HO344.out) hb); have n2_ := Aside0.mk (Kd.R_below (by (with_reducible repeat (first | apply Kd.R_alloc | apply Kd.R_drewN | apply Kd.R_drew)); exact HO349.out) hb); have n3_ := Aside0.mk (Kd.R_below (by (with_reducible repeat (first | apply Kd.R_alloc | apply Kd.R_drewN | apply Kd.R_drew)); exact HO352.out) hb); have n4_ := Aside0.mk (below_step (by repeat (first | (with_reducible first | exact HB.out | apply below_alloc | apply pw_below_drewN | apply below_drew1) | exact HB.out)) hb); clear HO341; clear HO344; clear HO349; clear HO352; clear HB; have HO341 := n0_; have HO344 := n1_; have HO349 := n2_; have HO352 := n3_; have HB := n4_; clear n0_ n1_ n2_ n3_ n4_; (try clear hb); (try clear hb2); (try clear hk); (try clear hi)))
                go_ret
                exact ⟨by first | rfl | (simp [errW_none, errW_some] <;> rfl) | (simp only [← hji5]; first | rfl | (simp [errW_none, errW_some] <;> rfl)) | (simp [*, errW_none, errW_some] <;> rfl), by repeat (first | (with_reducible first | exact HB.out | apply below_alloc | apply pw_below_drewN | apply below_drew1) | exact HB.out)⟩
              · rw [if_neg c25] at H
                have c25b0 : (t353 == 4) = false := beq_eq_false_iff_ne.mpr c25
                have c25b1 : (t353 != 4) = true := bne_iff_ne.mpr c25
                obtain rfl := Option.some.inj H
                exact absurd hrt.out (by decide)
          · rw [if_neg c13] at H
            have c13b0 : ((t353 == 0) == (decide ((ji5) ≤ 4096))) = false := by simpa using c13
            (try (have c13b1 : decide ((t353 == 0) = (decide ((ji5) ≤ 4096))) = false := by simpa using c13))
            (try (have c13b2 : ((t353 == 0) == (decide ((ji5) ≤ 4096))) = false := by simpa using c13))
            (try (have c13b3 : ¬ ((t353 == 0) = (decide ((ji5) ≤ 4096))) := by simpa using c13))
            clear c13
            obtain rfl := Option.some.inj H
            exact absurd hrt.out (by decide)
        · rw [if_neg c12] at H
          have c12b0 : ((strOfNums t342).toList == (strOfNums t346).toList) = false := beq_eq_false_iff_ne.mpr c12
          have c12b1 : ((strOfNums t342).toList != (strOfNums t346).toList) = true := bne_iff_ne.mpr c12
          obtain rfl := Option.some.inj H
          exact absurd hrt.out (by decide)
      · rw [if_neg c11] at H
        have c11b0 : (t345 == t347) = false := beq_eq_false_iff_ne.mpr c11
        have c11b1 : (t345 != t347) = true := bne_iff_ne.mpr c11
        obtain rfl := Option.some.inj H
        exact absurd hrt.out (by decide)
    · rw [if_neg c7] at H
      exact absurd H (by simp)
  · rw [if_neg c6] at H
    exact absurd H (by simp)

/-- THE ONE PURE STATEMENT of truchmanlaw03_MarkBounds: yours. -/
def truchmanlaw03_MarkBounds.Pure : Prop := ∀ (a0 : Int) (a1 : Int), (Lit.int .i64 a0).wf = true → (Lit.int .i64 a1).wf = true → ∃ k, truchmanlaw03_MarkBounds.f k a0 a1 = some true
theorem truchmanlaw03_MarkBounds.walk (P : truchmanlaw03_MarkBounds.Pure) (a0 : Int) (a1 : Int) (w : World) (w0 : (Lit.int .i64 a0).wf = true) (w1 : (Lit.int .i64 a1).wf = true) :
    Calls Try.prog 7 #[.int .i64 a0, .int .i64 a1] w fun e w' => e = .returned (.bool true) ∧ Below w.heap.size w w' := by
  obtain ⟨k, h⟩ := P a0 a1 w0 w1
  refine (truchmanlaw03_MarkBounds.calls k a0 a1 true w ⟨rfl⟩ h).mono ?_
  rintro e w' ⟨rfl, hd⟩
  exact ⟨rfl, hd⟩

-- NOT PRINTED: function 30 (xdr_Read)

-- NOT PRINTED: function 50 (xdr_Reader_fail)

-- NOT PRINTED: function 51 (xdr_Reader_take)

-- NOT PRINTED: function 52 (xdr_Reader_number)

-- NOT PRINTED: function 33 (xdr_Reader_U32)

-- NOT PRINTED: function 31 (xdr_Reader_Text)

/-- A state of type 55 at block g of W; what its slices lead to came in by w0. -/
def IsS55 (w0 W : World) (g : Nat) (f0 : Int) (f1 : List Int) : Prop := ∃ A1 c1, W.heap[g]? = some (.cells #[.int .i64 f0, .slice A1 f1.length c1] 55 (0, 0)) ∧ w0.heap.size ≤ g ∧ Kd.C (Kd.int .u8) w0 A1 f1.length f1
theorem IsS55.grown {w0 W : World} {g : Nat} {f0 : Int} {f1 : List Int} {W1 : World} {row : Option Nat} (h : IsS55 w0 W g f0 f1) (hw : W.grownBy W1 row) (hne : some g ≠ row) : IsS55 w0 W1 g f0 f1 := by
  obtain ⟨A1, c1, hb, hg, hr1⟩ := h
  exact ⟨A1, c1, blk_grown hb hw hne, hg, hr1⟩
theorem IsS55.own_neN {w0 W : World} {g : Nat} {f0 : Int} {f1 : List Int} {α : Type} {d : Kd α} {e : Nat} {base : Nat} {ok : Nat → Prop} {v : Value} {xs : List α} (h : IsS55 w0 W g f0 f1) (ho : Kd.N d e W base ok v xs) (ht : e ≠ 55) : some g ≠ v.ownBlock := by
  obtain ⟨A1, c1, hb, hg, hr1⟩ := h
  exact Kd.N_ne ho hb ht
theorem IsS55.fresh {w0 W : World} {g : Nat} {f0 : Int} {f1 : List Int} (h : IsS55 w0 W g f0 f1) : ∀ k, W.heap.size ≤ k → k ≠ g := by
  obtain ⟨A1, c1, hb, hg, hr1⟩ := h
  exact Kd.freshB hb
theorem IsS55.kept {w0 W : World} {g : Nat} {f0 : Int} {f1 : List Int} {W1 : World} {S : Nat → Prop} (h : IsS55 w0 W g f0 f1) (hk : Kept W W1 S) (hne : ¬ S g) : IsS55 w0 W1 g f0 f1 := by
  obtain ⟨A1, c1, hb, hg, hr1⟩ := h
  exact ⟨A1, c1, blk_kept hb hk hne, hg, hr1⟩
theorem IsS55.below {w0 W : World} {g : Nat} {f0 : Int} {f1 : List Int} {W1 : World} (h : IsS55 w0 W g f0 f1) (hw : Below W.heap.size W W1) : IsS55 w0 W1 g f0 f1 := h.grown (grown_of_below hw none) (by simp)
theorem IsS55.alloc {w0 W : World} {g : Nat} {f0 : Int} {f1 : List Int} (h : IsS55 w0 W g f0 f1) (o : Obj) : IsS55 w0 (W.alloc o) g f0 f1 := h.below (below_alloc (Below.refl _ _) o)
theorem IsS55.drewN {w0 W : World} {g : Nat} {f0 : Int} {f1 : List Int} (h : IsS55 w0 W g f0 f1) (m : Nat) : IsS55 w0 (W.drewN m) g f0 f1 := h
theorem IsS55.drew {w0 W : World} {g : Nat} {f0 : Int} {f1 : List Int} (h : IsS55 w0 W g f0 f1) : IsS55 w0 W.drew g f0 f1 := h
theorem IsS55.at_ {w0 W : World} {g : Nat} {f0 : Int} {f1 : List Int} {w' : World} {m : Nat} (hq : W.drewN m = w') (h : IsS55 w0 W g f0 f1) : IsS55 w0 w' g f0 f1 := by subst hq; exact IsS55.drewN h m
theorem IsS55.apart {w0 W : World} {g : Nat} {f0 : Int} {f1 : List Int} {α : Type} {d : Kd α} {e : Nat} {base : Nat} {ok : Nat → Prop} {v : Value} {xs : List α} (h : IsS55 w0 W g f0 f1) (ho : d.R e W base ok v xs) (ht : ∀ q, q ∈ e :: d.E → q ≠ 55) : d.R e W base (fun k => ok k ∧ k ≠ g) v xs := by
  obtain ⟨A1, c1, hb, hg, hr1⟩ := h
  exact Kd.R_types ho hb ht
theorem IsS55.own_ne {w0 W : World} {g : Nat} {f0 : Int} {f1 : List Int} {α : Type} {d : Kd α} {e : Nat} {base : Nat} {ok : Nat → Prop} {v : Value} {xs : List α} (h : IsS55 w0 W g f0 f1) (ho : d.R e W base ok v xs) (ht : e ≠ 55) : some g ≠ v.ownBlock := by
  obtain ⟨A1, c1, hb, hg, hr1⟩ := h
  exact Kd.R_ne ho hb ht
theorem IsS55.apartQ {w0 W : World} {g : Nat} {f0 : Int} {f1 : List Int} {α : Type} {d : Kd α} {e : Nat} {base : Nat} {ok : Nat → Prop} {v : Value} {xs : List α} (h : IsS55 w0 W g f0 f1) (ho : d.Q e W base ok v xs) (ht : ∀ q, q ∈ e :: d.E → q ≠ 55) : d.Q e W base (fun k => ok k ∧ k ≠ g) v xs := by
  obtain ⟨A1, c1, hb, hg, hr1⟩ := h
  exact Kd.Q_types ho hb ht
theorem IsS55.own_neQ {w0 W : World} {g : Nat} {f0 : Int} {f1 : List Int} {α : Type} {d : Kd α} {e : Nat} {base : Nat} {ok : Nat → Prop} {v : Value} {xs : List α} (h : IsS55 w0 W g f0 f1) (ho : d.Q e W base ok v xs) (ht : e ≠ 55) : some g ≠ v.ownBlock := by
  obtain ⟨A1, c1, hb, hg, hr1⟩ := h
  exact Kd.Q_ne ho hb ht
theorem IsS55.apartS {w0 W : World} {g : Nat} {f0 : Int} {f1 : List Int} {α : Type} {d : Kd α} {e : Nat} {base : Nat} {ok : Nat → Prop} {v : Value} {xs : List α} (h : IsS55 w0 W g f0 f1) (ho : d.S e W base ok v xs) (ht : ∀ q, q ∈ e :: d.E → q ≠ 55) : d.S e W base (fun k => ok k ∧ k ≠ g) v xs := by
  obtain ⟨A1, c1, hb, hg, hr1⟩ := h
  exact Kd.S_types ho hb ht
theorem IsS55.own_neS {w0 W : World} {g : Nat} {f0 : Int} {f1 : List Int} {α : Type} {d : Kd α} {e : Nat} {base : Nat} {ok : Nat → Prop} {v : Value} {xs : List α} (h : IsS55 w0 W g f0 f1) (ho : d.S e W base ok v xs) (ht : e ≠ 55) : some g ≠ v.ownBlock := by
  obtain ⟨A1, c1, hb, hg, hr1⟩ := h
  exact Kd.S_ne ho hb ht
theorem IsS55.lt {w0 W : World} {g : Nat} {f0 : Int} {f1 : List Int} (h : IsS55 w0 W g f0 f1) : g < W.heap.size := by
  obtain ⟨A1, c1, hb, hg, hr1⟩ := h
  exact blk_lt hb
theorem IsS55.ge {w0 W : World} {g : Nat} {f0 : Int} {f1 : List Int} (h : IsS55 w0 W g f0 f1) : w0.heap.size ≤ g := by
  obtain ⟨A1, c1, hb, hg, hr1⟩ := h
  exact hg
theorem IsS55.ne_blk {w0 W : World} {g : Nat} {f0 : Int} {f1 : List Int} {a : Nat} {cs : Array Value} {t : TypeId} {fr : Nat × Nat} (h : IsS55 w0 W g f0 f1) (hb2 : W.heap[a]? = some (.cells cs t fr)) (ht : t ≠ 55) : g ≠ a := by
  obtain ⟨A1, c1, hb, hg, hr1⟩ := h
  rintro rfl
  rw [hb] at hb2
  injection hb2 with hb2
  injection hb2 with _ ht2
  exact ht ht2.symm
theorem IsS55.far {w0 W : World} {g : Nat} {f0 : Int} {f1 : List Int} {p : Addr} (h : IsS55 w0 W g f0 f1) (hne : g ≠ p.block) (u : Value) : IsS55 w0 (W.setCell p u) g f0 f1 := by
  obtain ⟨A1, c1, hb, hg, hr1⟩ := h
  exact ⟨A1, c1, blk_far hb hne u, hg, hr1⟩
theorem cellS55_0 {W : World} {g : Nat} {A1 : Option Addr} {c1 : Nat} {f0 : Int} {f1 : List Int} (h : W.heap[g]? = some (.cells #[.int .i64 f0, .slice A1 f1.length c1] 55 (0, 0))) : W.cell? ⟨g, 0, none⟩ = some (.int .i64 f0) := (blk_cell h 0).trans rfl
theorem IsS55.set_0 {w0 W : World} {g : Nat} {f0 : Int} {f1 : List Int} (h : IsS55 w0 W g f0 f1) (x : Int) : IsS55 w0 (W.setCell ⟨g, 0, none⟩ (.int .i64 x)) g x f1 := by
  obtain ⟨A1, c1, hb, hg, hr1⟩ := h
  exact ⟨A1, c1, by simpa using blk_set hb 0 (.int .i64 x), hg, hr1⟩
theorem cellS55_1 {W : World} {g : Nat} {A1 : Option Addr} {c1 : Nat} {f0 : Int} {f1 : List Int} (h : W.heap[g]? = some (.cells #[.int .i64 f0, .slice A1 f1.length c1] 55 (0, 0))) : W.cell? ⟨g, 1, none⟩ = some (.slice A1 f1.length c1) := (blk_cell h 1).trans rfl
theorem IsS55.new (w0 W : World) (A1 : Option Addr) (c1 : Nat) (f0 : Int) (f1 : List Int) (hB : Below w0.heap.size w0 W) (hr1 : Kd.C (Kd.int .u8) w0 A1 f1.length f1) : IsS55 w0 (W.alloc (.cells #[.int .i64 f0, .slice A1 f1.length c1] 55)) W.heap.size f0 f1 := ⟨A1, c1, by simpa using heap_alloc_new W _, hB.size, hr1⟩

/-! ### xdr_Reader_Left: function 34 -/
def xdr_Reader_Left.f (s0_0 : Int) (s0_1 : List Int) : Option (Int × Int) := some ((s0_1.length : Int), s0_0)
set_option maxHeartbeats 8000000 in
set_option maxRecDepth 100000 in
theorem xdr_Reader_Left.calls (g : Nat) (s0_0 : Int) (s0_1 : List Int) (r1 : Int) (r2 : Int) (w0 w : World) (hI : IsS55 w0 w g s0_0 s0_1) (hB : Below w0.heap.size w0 w) (h : xdr_Reader_Left.f s0_0 s0_1 = some (r1, r2)) :
    Calls Try.prog 34 #[.pointer (some ⟨g, 0, none⟩)] w fun e w' => e = .returned (.int .i64 r1) ∧ IsS55 w0 w' g r2 s0_1 ∧ Below w0.heap.size w0 w' ∧ KeepBut w w' g none := by
  have HI0 := Aside0.mk hI
  have HK := Aside0.mk (KeepBut.refl w g none)
  have HL := Aside0.mk hB.size
  clear hI
  have HW0 := Aside0.mk hB.size
  have HB := Aside0.mk hB
  clear hB
  have H : (some ((s0_1.length : Int), s0_0)) = some (r1, r2) := h
  clear h
  simp only [Option.some.injEq, Prod.mk.injEq] at H
  obtain ⟨rfl, rfl⟩ := H
  obtain ⟨ASz2_1, cSz2_1, HGz2, hgz2, HSz2_1⟩ := HI0.out
  have hcz2_0 := cellS55_0 HGz2
  have hcz2_1 := cellS55_1 HGz2
  have hfz2_0 := blk_frozen HGz2 0
  clear HGz2 hgz2
  go_enter Try.func34, Try.ntmps34
  go_wp2
  go_ret
  exact ⟨by first | rfl | (simp [errW_none, errW_some] <;> rfl) | (simp [*, errW_none, errW_some] <;> rfl), by repeat (first | (with_reducible first | exact HI0.out | apply IsS55.alloc | apply IsS55.drewN | apply IsS55.drew | apply IsS55.set_0) | exact HI0.out), by repeat (first | (with_reducible first | exact HB.out | apply below_alloc | apply pw_below_drewN | apply below_drew1 | refine below_set ?_ (IsS55.ge HI0.out)) | exact HB.out), by repeat (first | (with_reducible first | exact HK.out | apply KeepBut.set_ | apply keep_drewN | apply keep_drew | apply keep_alloc) | exact HK.out)⟩

-- NOT PRINTED: function 8 (truchmanlaw01_XdrPads)

end Go.Proofs.Ytdfnhmgopihfcaa.P
