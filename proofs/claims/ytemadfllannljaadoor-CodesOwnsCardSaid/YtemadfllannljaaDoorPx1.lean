-- Written by a program of this session (wip/tools), over the kit's printer; Lean checks it.
import Derived.Test.YtemadfllannljaaDoorPx0
namespace Go.Proofs.YtemadfllannljaaDoor.P
open Go.RowKit Go.Proofs.YtemadfllannljaaDoorW.PrintWords Go.Proofs.YtemadfllannljaaDoorW.PrintLast Go.Proofs.YtemadfllannljaaDoorW.PrintMore
attribute [local go_sem] max2_int min2_int max_two min_two max_three min_three max_four min_four   -- for this text's walks alone
set_option linter.unusedVariables false
set_option linter.unusedSimpArgs false

/-! ### truchmanref01_Around: function 8 -/
def truchmanref01_Around.f (a0 : Int) (a1 : Int) : Option (Int) := if a0 < 0 then (if a1 = 0 then (none) else (some (Int.tmod (wrap64 (-(wrap64 (a0 + 1)))) a1))) else (if a1 = 0 then (none) else (some (Int.tmod a0 a1)))
set_option maxHeartbeats 8000000 in
set_option maxRecDepth 100000 in
theorem truchmanref01_Around.calls (a0 : Int) (a1 : Int) (r : Int) (w : World) (h : truchmanref01_Around.f a0 a1 = some r) :
    Calls Tryd.prog 8 #[.int .i64 a0, .int .i64 a1] w fun e w' => e = .returned (.int .i64 r) ∧ Drawn0 w w' := by
  have H : (if a0 < 0 then (if a1 = 0 then (none) else (some (Int.tmod (wrap64 (-(wrap64 (a0 + 1)))) a1))) else (if a1 = 0 then (none) else (some (Int.tmod a0 a1)))) = some r := h
  clear h
  by_cases c3 : a0 < 0
  · rw [if_pos c3] at H
    have c3b0 : decide (a0 < 0) = true := decide_eq_true c3
    clear c3
    by_cases c4 : a1 = 0
    · rw [if_pos c4] at H
      exact absurd H (by simp)
    · rw [if_neg c4] at H
      have c4b0 : (a1 == 0) = false := beq_eq_false_iff_ne.mpr c4
      have c4b1 : (a1 != 0) = true := bne_iff_ne.mpr c4
      obtain rfl := Option.some.inj H
      go_enter Tryd.func8, Tryd.ntmps8
      go_wp2
      go_ret
      exact ⟨by first | rfl | (simp; done) | (simp [*]; done), by repeat (first | exact Drawn0.refl _ | apply Drawn0.step)⟩
  · rw [if_neg c3] at H
    have c3b0 : decide (a0 < 0) = false := decide_eq_false c3
    clear c3
    by_cases c5 : a1 = 0
    · rw [if_pos c5] at H
      exact absurd H (by simp)
    · rw [if_neg c5] at H
      have c5b0 : (a1 == 0) = false := beq_eq_false_iff_ne.mpr c5
      have c5b1 : (a1 != 0) = true := bne_iff_ne.mpr c5
      obtain rfl := Option.some.inj H
      go_enter Tryd.func8, Tryd.ntmps8
      go_wp2
      go_ret
      exact ⟨by first | rfl | (simp; done) | (simp [*]; done), by repeat (first | exact Drawn0.refl _ | apply Drawn0.step)⟩

-- NOT PRINTED: function 24 (codes_find)

-- NOT PRINTED: function 22 (codes_of)

/-! ### codes_Status: function 9 -/
def codes_Status.f (a0 : Int) : Option (Int) := some (G.sOf (G.codeOf a0))
theorem codes_Status.calls (a0 : Int) (r : Int) (w : World) (HT : Aside0 (G.Tab w)) (h : codes_Status.f a0 = some r) :
    Calls Tryd.prog 9 #[.int .i64 a0] w fun e w' => e = .returned (.int .u32 r) ∧ Below w.heap.size w w' := by
  obtain rfl := Option.some.inj h
  exact G.Status_calls a0 w HT.out

/-! ### truchmanref08_All: function 21 -/
def truchmanref08_All.f  : Option (List Int) := some (([0, 8, 9, 10, 11, 12, 13, 14, 15, 16, 20, 17, 18, 19, 22, 21, 7, 5, 2] : List Int))
set_option maxHeartbeats 8000000 in
set_option maxRecDepth 100000 in
theorem truchmanref08_All.calls  (r : List Int) (w : World) (h : truchmanref08_All.f  = some r) :
    Calls Tryd.prog 21 #[] w fun e w' => ∃ v0_ : Value, e = .returned (v0_) ∧ Kd.R (Kd.int .i64) 22 w' w.heap.size (fun _ => True) v0_ r ∧ Below w.heap.size w w' := by
  have HB := Aside0.mk (Below.refl w.heap.size w)
  have H : (some (([0, 8, 9, 10, 11, 12, 13, 14, 15, 16, 20, 17, 18, 19, 22, 21, 7, 5, 2] : List Int))) = some r := h
  clear h
  obtain ⟨y101, hy101⟩ : ∃ y_ : List Int, y_ = (([0, 8, 9, 10, 11, 12, 13, 14, 15, 16, 20, 17, 18, 19, 22, 21, 7, 5, 2] : List Int)) := ⟨_, rfl⟩
  replace H : (some y101) = some r := by first | (rw [hy101]; with_reducible exact H) | (have H2_ := (Option.bind_some _ _).symm.trans H; rw [hy101]; with_reducible exact H2_) | (have H2_ := (Option.bind_some _ _).symm.trans H; with_reducible exact H2_) | with_reducible exact H | (rw [hy101]; exact H) | exact H
  have Ny101 := Aside0.mk hy101
  clear hy101
  obtain rfl := Option.some.inj H
  go_enter Tryd.func21, Tryd.ntmps21
  go_wp2_with (first | ((with_reducible refine gate_dst (N := 1) rfl ?_); refine Kd.R_lit (Kd.int .i64) _ 22 ?hg (N := 1) ?hd (xs := ([0, 8, 9, 10, 11, 12, 13, 14, 15, 16, 20, 17, 18, 19, 22, 21, 7, 5, 2] : List Int)) (inner := [.int .i64 0, .int .i64 8, .int .i64 9, .int .i64 10, .int .i64 11, .int .i64 12, .int .i64 13, .int .i64 14, .int .i64 15, .int .i64 16, .int .i64 20, .int .i64 17, .int .i64 18, .int .i64 19, .int .i64 22, .int .i64 21, .int .i64 7, .int .i64 5, .int .i64 2]) (ok := fun _ => True) (okp := fun _ => True) ?hr ?hp (fun _ hk => hk) trivial (Below.refl _ _) (Nat.le_refl _) (by simp) ?_; (case hd => rfl); (case hg => rfl); (case hr => first | (go_simp; done) | (go_simp; rfl)); (case hp => exact (Reps.one (show Kd.M (Kd.int .i64) _ _ _ 0 [.int .i64 0] from rfl) (Reps.one (show Kd.M (Kd.int .i64) _ _ _ 8 [.int .i64 8] from rfl) (Reps.one (show Kd.M (Kd.int .i64) _ _ _ 9 [.int .i64 9] from rfl) (Reps.one (show Kd.M (Kd.int .i64) _ _ _ 10 [.int .i64 10] from rfl) (Reps.one (show Kd.M (Kd.int .i64) _ _ _ 11 [.int .i64 11] from rfl) (Reps.one (show Kd.M (Kd.int .i64) _ _ _ 12 [.int .i64 12] from rfl) (Reps.one (show Kd.M (Kd.int .i64) _ _ _ 13 [.int .i64 13] from rfl) (Reps.one (show Kd.M (Kd.int .i64) _ _ _ 14 [.int .i64 14] from rfl) (Reps.one (show Kd.M (Kd.int .i64) _ _ _ 15 [.int .i64 15] from rfl) (Reps.one (show Kd.M (Kd.int .i64) _ _ _ 16 [.int .i64 16] from rfl) (Reps.one (show Kd.M (Kd.int .i64) _ _ _ 20 [.int .i64 20] from rfl) (Reps.one (show Kd.M (Kd.int .i64) _ _ _ 17 [.int .i64 17] from rfl) (Reps.one (show Kd.M (Kd.int .i64) _ _ _ 18 [.int .i64 18] from rfl) (Reps.one (show Kd.M (Kd.int .i64) _ _ _ 19 [.int .i64 19] from rfl) (Reps.one (show Kd.M (Kd.int .i64) _ _ _ 22 [.int .i64 22] from rfl) (Reps.one (show Kd.M (Kd.int .i64) _ _ _ 21 [.int .i64 21] from rfl) (Reps.one (show Kd.M (Kd.int .i64) _ _ _ 7 [.int .i64 7] from rfl) (Reps.one (show Kd.M (Kd.int .i64) _ _ _ 5 [.int .i64 5] from rfl) (Reps.one (show Kd.M (Kd.int .i64) _ _ _ 2 [.int .i64 2] from rfl) (Reps.none _ _))))))))))))))))))))); intro v102 w1 ho2 hb hg_ hnew_; clear hg_ hnew_; (first | rw [← Ny101.out] at ho2 | (simp only [Int.reduceToNat] at ho2; rw [← Ny101.out] at ho2)); have n0_ := Aside0.mk (Kd.R_lower ho2 (below_size (by repeat (first | (with_reducible first | exact HB.out | apply below_alloc | apply pw_below_drewN | apply below_drew1) | exact HB.out)))); have n1_ := Aside0.mk (below_step (by repeat (first | (with_reducible first | exact HB.out | apply below_alloc | apply pw_below_drewN | apply below_drew1) | exact HB.out)) hb); clear HB; have HO103 := n0_; have HB := n1_; clear n0_ n1_; clear hb ho2))
  go_ret
  exact ⟨_, by first | rfl | (simp [errW_none, errW_some] <;> rfl) | (simp [*, errW_none, errW_some] <;> rfl), by (with_reducible repeat (first | apply Kd.R_alloc | apply Kd.R_drewN | apply Kd.R_drew)); exact HO103.out, by repeat (first | (with_reducible first | exact HB.out | apply below_alloc | apply pw_below_drewN | apply below_drew1) | exact HB.out)⟩

/-! ### truchmanref08_Code: function 12 -/
def truchmanref08_Code.l0 : Nat → Int → List Int → Int → Option (Int)
  | 0, _, _, _ => none
  | k + 1, x0, x3, x4 => if x4 < (x3.length : Int) then (if 0 ≤ x4 then (if (rd x3 x4) = x0 then (some x4) else (truchmanref08_Code.l0 k x0 x3 (wrap64 (x4 + 1)))) else (none)) else (some 15)
def truchmanref08_Code.f (k : Nat) (a0 : Int) : Option (Int) := (truchmanref08_All.f).bind fun t104 => (truchmanref08_Code.l0 k a0 t104 0)
theorem truchmanref08_Code.mono_l : ∀ k, (∀ y0 y1 y2, LeO (truchmanref08_Code.l0 k y0 y1 y2) (truchmanref08_Code.l0 (k + 1) y0 y1 y2))
  | 0 => fun _ _ _ r h => by simp [truchmanref08_Code.l0] at h
  | k + 1 => by
    have ih0 := truchmanref08_Code.mono_l k
    · intro y0 y1 y2
      unfold truchmanref08_Code.l0
      repeat' first
      | (with_reducible exact ih0 _ _ _)
      | (with_reducible exact LeO.refl _)
      | (with_reducible exact LeO.none _)
      | (with_reducible refine LeO.ite ?_ ?_)
      | (with_reducible refine LeO.bind ?_ (fun _ => ?_))
      | exact ih0 _ _ _
      | exact LeO.none _
      | refine LeO.ite ?_ ?_
      | refine LeO.bind ?_ (fun _ => ?_)
theorem truchmanref08_Code.mono : ∀ a0 k, LeO (truchmanref08_Code.f k a0) (truchmanref08_Code.f (k + 1) a0) := by
  intro a0 k
  have ih0 := truchmanref08_Code.mono_l k
  unfold truchmanref08_Code.f
  repeat' first
      | (with_reducible exact ih0 _ _ _)
      | (with_reducible exact LeO.refl _)
      | (with_reducible exact LeO.none _)
      | (with_reducible refine LeO.ite ?_ ?_)
      | (with_reducible refine LeO.bind ?_ (fun _ => ?_))
      | exact ih0 _ _ _
      | exact LeO.none _
      | refine LeO.ite ?_ ?_
      | refine LeO.bind ?_ (fun _ => ?_)
set_option maxHeartbeats 8000000 in
set_option maxRecDepth 100000 in
theorem truchmanref08_Code.calls (k : Nat) (a0 : Int) (r : Int) (w : World) (h : truchmanref08_Code.f k a0 = some r) :
    Calls Tryd.prog 12 #[.int .i64 a0] w fun e w' => e = .returned (.int .i64 r) ∧ Below w.heap.size w w' := by
  have HB := Aside0.mk (Below.refl w.heap.size w)
  have H : ((truchmanref08_All.f).bind fun t104 => (truchmanref08_Code.l0 k a0 t104 0)) = some r := h
  clear h
  replace H := Option.bind_eq_some_iff.mp H
  obtain ⟨t104, A20, H⟩ := H
  replace H : (truchmanref08_Code.l0 k a0 t104 0) = some r := H
  have A2 := Aside0.mk A20
  clear A20
  have H' := Aside0.mk H
  clear H
  go_enter Tryd.func12, Tryd.ntmps12
  go_wp2_with (first | ((with_reducible refine gate_callee (f := 21) rfl ?_); refine goesL_ (some 5) rfl rfl Tryd.func21 (by kernel_rfl) rfl #[] rfl (by (try simp only [List.map_toArray, List.map_cons, List.map_nil]); first | done | rfl | (simp only [List.length_drop, List.length_take]; rfl)) ?_; (with_reducible refine (truchmanref08_All.calls  t104 _ A2.out).mono ?_); rintro e w3 ⟨v105, rfl, ho0, hb⟩; refine ⟨_, rfl, ?_⟩; have n0_ := Aside0.mk (Kd.R_lower ho0 (below_size (by repeat (first | (with_reducible first | exact HB.out | apply below_alloc | apply pw_below_drewN | apply below_drew1) | exact HB.out)))); have n1_ := Aside0.mk (below_step (by repeat (first | (with_reducible first | exact HB.out | apply below_alloc | apply pw_below_drewN | apply below_drew1) | exact HB.out)) hb); clear HB; have HO106 := n0_; have HB := n1_; clear n0_ n1_; (try clear hb); (try clear hb2); (try clear hk); (try clear hi); (try clear ho0)))
  go_loopg [4] k (fun kq v4 w' => ∃ (x4_1 : Int), v4 = .int .i64 x4_1 ∧ Aside0 (truchmanref08_Code.l0 kq a0 t104 x4_1 = some r) ∧ Aside0 (kq ≤ k) ∧ Aside0 (Kd.R (Kd.int .i64) 22 w' w.heap.size (fun _ => True) v105 t104) ∧ Aside0 (Below w.heap.size w w'))
  case atStart => exact ⟨(0), (by first | rfl | (simp; done) | (simp [*]; done)), H', ⟨Nat.le_refl _⟩, ⟨by (with_reducible repeat (first | apply Kd.R_alloc | apply Kd.R_drewN | apply Kd.R_drew)); exact HO106.out⟩, ⟨by repeat (first | (with_reducible first | exact HB.out | apply below_alloc | apply pw_below_drewN | apply below_drew1) | exact HB.out)⟩⟩
  case round =>
    clear H'
    try clear c1
    try clear c2
    try clear p2
    obtain ⟨x4_1, rfl, HA, HK1, HO_3, HB⟩ := hrel
    cases gk with
    | zero => exact absurd HA.out (by simp [truchmanref08_Code.l0])
    | succ k1 =>
      have H := HA.out
      clear HA
      simp only [truchmanref08_Code.l0] at H
      by_cases c4 : x4_1 < (t104.length : Int)
      · rw [if_pos c4] at H
        have c4b0 : decide (x4_1 < (t104.length : Int)) = true := decide_eq_true c4
        clear c4
        by_cases c5 : 0 ≤ x4_1
        · rw [if_pos c5] at H
          have c5b0 : decide (0 ≤ x4_1) = true := decide_eq_true c5
          clear c5
          by_cases c6 : (rd t104 x4_1) = a0
          · rw [if_pos c6] at H
            have c6b0 : ((rd t104 x4_1) == a0) = true := beq_iff_eq.mpr c6
            have c6b1 : ((rd t104 x4_1) != a0) = false := bne_eq_false_iff_eq.mpr c6
            clear c6
            obtain rfl := Option.some.inj H
            obtain ⟨Ao7, co7, eo7⟩ := Kd.R_slice HO_3.out
            subst eo7
            have p107 : 0 ≤ (x4_1 : Int) := of_decide_eq_true (by first | (with_reducible assumption) | assumption)
            have q107 : x4_1 < (t104.length : Int) := of_decide_eq_true (by first | (with_reducible assumption) | assumption)
            obtain ⟨ad107, e107, hx107_0⟩ := Kd.at_int (Kd.R_reads' HO_3.out).2.2 x4_1 p107 q107
            cases e107
            replace p107 := eq_true p107
            replace q107 := eq_true q107
            go_wp2
            go_ret
            exact ⟨by first | rfl | (simp [errW_none, errW_some] <;> rfl) | (simp [*, errW_none, errW_some] <;> rfl), by repeat (first | (with_reducible first | exact HB.out | apply below_alloc | apply pw_below_drewN | apply below_drew1) | exact HB.out)⟩
          · rw [if_neg c6] at H
            have c6b0 : ((rd t104 x4_1) == a0) = false := beq_eq_false_iff_ne.mpr c6
            have c6b1 : ((rd t104 x4_1) != a0) = true := bne_iff_ne.mpr c6
            have H' := Aside0.mk H
            clear H
            obtain ⟨Ao8, co8, eo8⟩ := Kd.R_slice HO_3.out
            subst eo8
            have p107 : 0 ≤ (x4_1 : Int) := of_decide_eq_true (by first | (with_reducible assumption) | assumption)
            have q107 : x4_1 < (t104.length : Int) := of_decide_eq_true (by first | (with_reducible assumption) | assumption)
            obtain ⟨ad107, e107, hx107_0⟩ := Kd.at_int (Kd.R_reads' HO_3.out).2.2 x4_1 p107 q107
            cases e107
            replace p107 := eq_true p107
            replace q107 := eq_true q107
            go_wp2
            go_roundg k1
            case measure => have := HK1.out; omega
            case rel => exact ⟨(wrap64 (x4_1 + 1)), (by first | rfl | (simp; done) | (simp [*]; done)), H', ⟨by have := HK1.out; omega⟩, ⟨by (with_reducible repeat (first | apply Kd.R_alloc | apply Kd.R_drewN | apply Kd.R_drew)); exact HO_3.out⟩, ⟨by repeat (first | (with_reducible first | exact HB.out | apply below_alloc | apply pw_below_drewN | apply below_drew1) | exact HB.out)⟩⟩
        · rw [if_neg c5] at H
          exact absurd H (by simp)
      · rw [if_neg c4] at H
        have c4b0 : decide (x4_1 < (t104.length : Int)) = false := decide_eq_false c4
        clear c4
        obtain rfl := Option.some.inj H
        obtain ⟨Ao9, co9, eo9⟩ := Kd.R_slice HO_3.out
        subst eo9
        go_wp2
        go_ret
        exact ⟨by first | rfl | (simp [errW_none, errW_some] <;> rfl) | (simp [*, errW_none, errW_some] <;> rfl), by repeat (first | (with_reducible first | exact HB.out | apply below_alloc | apply pw_below_drewN | apply below_drew1) | exact HB.out)⟩

/-! ### truchmanref08_Statuses: function 23 -/
def truchmanref08_Statuses.f  : Option (List Int) := some (([0, 70, 2, 17, 20, 21, 66, 28, 27, 63, 10003, 10101, 10102, 10103, 10104, 5, 10105, 10106, 10107] : List Int))
set_option maxHeartbeats 8000000 in
set_option maxRecDepth 100000 in
theorem truchmanref08_Statuses.calls  (r : List Int) (w : World) (h : truchmanref08_Statuses.f  = some r) :
    Calls Tryd.prog 23 #[] w fun e w' => ∃ v0_ : Value, e = .returned (v0_) ∧ Kd.R (Kd.int .u32) 25 w' w.heap.size (fun _ => True) v0_ r ∧ Below w.heap.size w w' := by
  have HB := Aside0.mk (Below.refl w.heap.size w)
  have H : (some (([0, 70, 2, 17, 20, 21, 66, 28, 27, 63, 10003, 10101, 10102, 10103, 10104, 5, 10105, 10106, 10107] : List Int))) = some r := h
  clear h
  obtain ⟨y108, hy108⟩ : ∃ y_ : List Int, y_ = (([0, 70, 2, 17, 20, 21, 66, 28, 27, 63, 10003, 10101, 10102, 10103, 10104, 5, 10105, 10106, 10107] : List Int)) := ⟨_, rfl⟩
  replace H : (some y108) = some r := by first | (rw [hy108]; with_reducible exact H) | (have H2_ := (Option.bind_some _ _).symm.trans H; rw [hy108]; with_reducible exact H2_) | (have H2_ := (Option.bind_some _ _).symm.trans H; with_reducible exact H2_) | with_reducible exact H | (rw [hy108]; exact H) | exact H
  have Ny108 := Aside0.mk hy108
  clear hy108
  obtain rfl := Option.some.inj H
  go_enter Tryd.func23, Tryd.ntmps23
  go_wp2_with (first | ((with_reducible refine gate_dst (N := 1) rfl ?_); refine Kd.R_lit (Kd.int .u32) _ 25 ?hg (N := 1) ?hd (xs := ([0, 70, 2, 17, 20, 21, 66, 28, 27, 63, 10003, 10101, 10102, 10103, 10104, 5, 10105, 10106, 10107] : List Int)) (inner := [.int .u32 0, .int .u32 70, .int .u32 2, .int .u32 17, .int .u32 20, .int .u32 21, .int .u32 66, .int .u32 28, .int .u32 27, .int .u32 63, .int .u32 10003, .int .u32 10101, .int .u32 10102, .int .u32 10103, .int .u32 10104, .int .u32 5, .int .u32 10105, .int .u32 10106, .int .u32 10107]) (ok := fun _ => True) (okp := fun _ => True) ?hr ?hp (fun _ hk => hk) trivial (Below.refl _ _) (Nat.le_refl _) (by simp) ?_; (case hd => rfl); (case hg => rfl); (case hr => first | (go_simp; done) | (go_simp; rfl)); (case hp => exact (Reps.one (show Kd.M (Kd.int .u32) _ _ _ 0 [.int .u32 0] from rfl) (Reps.one (show Kd.M (Kd.int .u32) _ _ _ 70 [.int .u32 70] from rfl) (Reps.one (show Kd.M (Kd.int .u32) _ _ _ 2 [.int .u32 2] from rfl) (Reps.one (show Kd.M (Kd.int .u32) _ _ _ 17 [.int .u32 17] from rfl) (Reps.one (show Kd.M (Kd.int .u32) _ _ _ 20 [.int .u32 20] from rfl) (Reps.one (show Kd.M (Kd.int .u32) _ _ _ 21 [.int .u32 21] from rfl) (Reps.one (show Kd.M (Kd.int .u32) _ _ _ 66 [.int .u32 66] from rfl) (Reps.one (show Kd.M (Kd.int .u32) _ _ _ 28 [.int .u32 28] from rfl) (Reps.one (show Kd.M (Kd.int .u32) _ _ _ 27 [.int .u32 27] from rfl) (Reps.one (show Kd.M (Kd.int .u32) _ _ _ 63 [.int .u32 63] from rfl) (Reps.one (show Kd.M (Kd.int .u32) _ _ _ 10003 [.int .u32 10003] from rfl) (Reps.one (show Kd.M (Kd.int .u32) _ _ _ 10101 [.int .u32 10101] from rfl) (Reps.one (show Kd.M (Kd.int .u32) _ _ _ 10102 [.int .u32 10102] from rfl) (Reps.one (show Kd.M (Kd.int .u32) _ _ _ 10103 [.int .u32 10103] from rfl) (Reps.one (show Kd.M (Kd.int .u32) _ _ _ 10104 [.int .u32 10104] from rfl) (Reps.one (show Kd.M (Kd.int .u32) _ _ _ 5 [.int .u32 5] from rfl) (Reps.one (show Kd.M (Kd.int .u32) _ _ _ 10105 [.int .u32 10105] from rfl) (Reps.one (show Kd.M (Kd.int .u32) _ _ _ 10106 [.int .u32 10106] from rfl) (Reps.one (show Kd.M (Kd.int .u32) _ _ _ 10107 [.int .u32 10107] from rfl) (Reps.none _ _))))))))))))))))))))); intro v109 w1 ho2 hb hg_ hnew_; clear hg_ hnew_; (first | rw [← Ny108.out] at ho2 | (simp only [Int.reduceToNat] at ho2; rw [← Ny108.out] at ho2)); have n0_ := Aside0.mk (Kd.R_lower ho2 (below_size (by repeat (first | (with_reducible first | exact HB.out | apply below_alloc | apply pw_below_drewN | apply below_drew1) | exact HB.out)))); have n1_ := Aside0.mk (below_step (by repeat (first | (with_reducible first | exact HB.out | apply below_alloc | apply pw_below_drewN | apply below_drew1) | exact HB.out)) hb); clear HB; have HO110 := n0_; have HB := n1_; clear n0_ n1_; clear hb ho2))
  go_ret
  exact ⟨_, by first | rfl | (simp [errW_none, errW_some] <;> rfl) | (simp [*, errW_none, errW_some] <;> rfl), by (with_reducible repeat (first | apply Kd.R_alloc | apply Kd.R_drewN | apply Kd.R_drew)); exact HO110.out, by repeat (first | (with_reducible first | exact HB.out | apply below_alloc | apply pw_below_drewN | apply below_drew1) | exact HB.out)⟩

/-! ### truchmanref08_Status: function 10 -/
def truchmanref08_Status.f (k : Nat) (a0 : Int) : Option (Int) := (truchmanref08_Statuses.f).bind fun t111 => ((truchmanref08_Code.f k a0).bind fun t114 => (if 0 ≤ t114 then (if t114 < (t111.length : Int) then (some (rd t111 t114)) else (none)) else (none)))
theorem truchmanref08_Status.mono : ∀ a0 k, LeO (truchmanref08_Status.f k a0) (truchmanref08_Status.f (k + 1) a0) := by
  intro a0 k
  unfold truchmanref08_Status.f
  repeat' first
      | (with_reducible exact truchmanref08_Code.mono _ _)
      | (with_reducible exact LeO.refl _)
      | (with_reducible exact LeO.none _)
      | (with_reducible refine LeO.ite ?_ ?_)
      | (with_reducible refine LeO.bind ?_ (fun _ => ?_))
      | exact truchmanref08_Code.mono _ _
      | exact LeO.none _
      | refine LeO.ite ?_ ?_
      | refine LeO.bind ?_ (fun _ => ?_)
set_option maxHeartbeats 8000000 in
set_option maxRecDepth 100000 in
theorem truchmanref08_Status.calls (k : Nat) (a0 : Int) (r : Int) (w : World) (h : truchmanref08_Status.f k a0 = some r) :
    Calls Tryd.prog 10 #[.int .i64 a0] w fun e w' => e = .returned (.int .u32 r) ∧ Below w.heap.size w w' := by
  have HB := Aside0.mk (Below.refl w.heap.size w)
  have H : ((truchmanref08_Statuses.f).bind fun t111 => ((truchmanref08_Code.f k a0).bind fun t114 => (if 0 ≤ t114 then (if t114 < (t111.length : Int) then (some (rd t111 t114)) else (none)) else (none)))) = some r := h
  clear h
  replace H := Option.bind_eq_some_iff.mp H
  obtain ⟨t111, A20, H⟩ := H
  replace H : ((truchmanref08_Code.f k a0).bind fun t114 => (if 0 ≤ t114 then (if t114 < (t111.length : Int) then (some (rd t111 t114)) else (none)) else (none))) = some r := H
  have A2 := Aside0.mk A20
  clear A20
  replace H := Option.bind_eq_some_iff.mp H
  obtain ⟨t114, A30, H⟩ := H
  replace H : (if 0 ≤ t114 then (if t114 < (t111.length : Int) then (some (rd t111 t114)) else (none)) else (none)) = some r := H
  have A3 := Aside0.mk A30
  clear A30
  by_cases c4 : 0 ≤ t114
  · rw [if_pos c4] at H
    have c4b0 : decide (0 ≤ t114) = true := decide_eq_true c4
    clear c4
    by_cases c5 : t114 < (t111.length : Int)
    · rw [if_pos c5] at H
      have c5b0 : decide (t114 < (t111.length : Int)) = true := decide_eq_true c5
      clear c5
      obtain rfl := Option.some.inj H
      go_enter Tryd.func10, Tryd.ntmps10
      go_wp2_with (first | ((with_reducible refine gate_callee (f := 23) rfl ?_); refine goesL_ (some 3) rfl rfl Tryd.func23 (by kernel_rfl) rfl #[] rfl (by (try simp only [List.map_toArray, List.map_cons, List.map_nil]); first | done | rfl | (simp only [List.length_drop, List.length_take]; rfl)) ?_; (with_reducible refine (truchmanref08_Statuses.calls  t111 _ A2.out).mono ?_); rintro e w6 ⟨v112, rfl, ho0, hb⟩; refine ⟨_, rfl, ?_⟩; have n0_ := Aside0.mk (Kd.R_lower ho0 (below_size (by repeat (first | (with_reducible first | exact HB.out | apply below_alloc | apply pw_below_drewN | apply below_drew1) | exact HB.out)))); have n1_ := Aside0.mk (below_step (by repeat (first | (with_reducible first | exact HB.out | apply below_alloc | apply pw_below_drewN | apply below_drew1) | exact HB.out)) hb); clear HB; have HO113 := n0_; have HB := n1_; clear n0_ n1_; (try clear hb); (try clear hb2); (try clear hk); (try clear hi); (try clear ho0)) | ((with_reducible refine gate_callee (f := 12) rfl ?_); refine goesL_ (some 5) rfl rfl Tryd.func12 (by kernel_rfl) rfl #[.int .i64 a0] rfl (by (try simp only [List.map_toArray, List.map_cons, List.map_nil]); first | done | rfl | (simp only [List.length_drop, List.length_take]; rfl)) ?_; (with_reducible refine (truchmanref08_Code.calls k a0 t114 _ A3.out).mono ?_); rintro e w7 ⟨rfl, hb⟩; refine ⟨_, rfl, ?_⟩; have n0_ := Aside0.mk (Kd.R_below (by (with_reducible repeat (first | apply Kd.R_alloc | apply Kd.R_drewN | apply Kd.R_drew)); exact HO113.out) hb); have n1_ := Aside0.mk (below_step (by repeat (first | (with_reducible first | exact HB.out | apply below_alloc | apply pw_below_drewN | apply below_drew1) | exact HB.out)) hb); clear HO113; clear HB; have HO113 := n0_; have HB := n1_; clear n0_ n1_; (try clear hb); (try clear hb2); (try clear hk); (try clear hi); obtain ⟨Ao8, co8, eo8⟩ := Kd.R_slice HO113.out; subst eo8; have p115 : 0 ≤ (t114 : Int) := of_decide_eq_true (by first | (with_reducible assumption) | assumption); have q115 : t114 < (t111.length : Int) := of_decide_eq_true (by first | (with_reducible assumption) | assumption); obtain ⟨ad115, e115, hx115_0⟩ := Kd.at_int (Kd.R_reads' HO113.out).2.2 t114 p115 q115; cases e115; replace p115 := eq_true p115; replace q115 := eq_true q115))
      go_ret
      exact ⟨by first | rfl | (simp [errW_none, errW_some] <;> rfl) | (simp [*, errW_none, errW_some] <;> rfl), by repeat (first | (with_reducible first | exact HB.out | apply below_alloc | apply pw_below_drewN | apply below_drew1) | exact HB.out)⟩
    · rw [if_neg c5] at H
      exact absurd H (by simp)
  · rw [if_neg c4] at H
    exact absurd H (by simp)

/-! ### codes_Code: function 11 -/
def codes_Code.f (a0 : Int) : Option (Int) := some (((G.codeOf a0 : Nat) : Int))
theorem codes_Code.calls (a0 : Int) (r : Int) (w : World) (HT : Aside0 (G.Tab w)) (h : codes_Code.f a0 = some r) :
    Calls Tryd.prog 11 #[.int .i64 a0] w fun e w' => e = .returned (.int .i64 r) ∧ Below w.heap.size w w' := by
  obtain rfl := Option.some.inj h
  exact G.Code_calls a0 w HT.out

/-! ### codes_Text: function 13 -/
def codes_Text.f (a0 : Int) : Option (ByteArray) := some (G.tOf (G.codeOf a0))
theorem codes_Text.calls (a0 : Int) (r : ByteArray) (w : World) (HT : Aside0 (G.Tab w)) (h : codes_Text.f a0 = some r) :
    Calls Tryd.prog 13 #[.int .i64 a0] w fun e w' => e = .returned (.string r) ∧ Below w.heap.size w w' := by
  obtain rfl := Option.some.inj h
  exact G.Text_calls a0 w HT.out

/-! ### truchmanref08_Text: function 14 -/
def truchmanref08_Text.f (k : Nat) (a0 : Int) : Option (ByteArray) := (some (([(⟨#[111, 107]⟩ : ByteArray), (⟨#[115, 116, 97, 108, 101]⟩ : ByteArray), (⟨#[110, 111, 32, 115, 117, 99, 104, 32, 110, 97, 109, 101]⟩ : ByteArray), (⟨#[110, 97, 109, 101, 32, 101, 120, 105, 115, 116, 115]⟩ : ByteArray), (⟨#[110, 111, 116, 32, 97, 32, 100, 105, 114, 101, 99, 116, 111, 114, 121]⟩ : ByteArray), (⟨#[105, 115, 32, 97, 32, 100, 105, 114, 101, 99, 116, 111, 114, 121]⟩ : ByteArray), (⟨#[110, 111, 116, 32, 101, 109, 112, 116, 121]⟩ : ByteArray), (⟨#[110, 111, 32, 115, 112, 97, 99, 101]⟩ : ByteArray), (⟨#[116, 111, 111, 32, 98, 105, 103]⟩ : ByteArray), (⟨#[98, 97, 100, 32, 110, 97, 109, 101]⟩ : ByteArray), (⟨#[98, 97, 100, 32, 99, 111, 111, 107, 105, 101]⟩ : ByteArray), (⟨#[98, 97, 100, 32, 102, 105, 100]⟩ : ByteArray), (⟨#[102, 105, 100, 32, 105, 110, 32, 117, 115, 101]⟩ : ByteArray), (⟨#[98, 97, 100, 32, 109, 111, 100, 101]⟩ : ByteArray), (⟨#[102, 108, 117, 115, 104, 101, 100]⟩ : ByteArray), (⟨#[105, 47, 111, 32, 101, 114, 114, 111, 114]⟩ : ByteArray), (⟨#[116, 97, 103, 32, 105, 110, 32, 117, 115, 101]⟩ : ByteArray), (⟨#[116, 111, 111, 32, 109, 97, 110, 121, 32, 114, 101, 113, 117, 101, 115, 116, 115]⟩ : ByteArray), (⟨#[98, 97, 100, 32, 109, 101, 115, 115, 97, 103, 101]⟩ : ByteArray)] : List ByteArray) : List ByteArray)).bind fun y116 => ((truchmanref08_Code.f k a0).bind fun t119 => (if 0 ≤ t119 then (if t119 < (y116.length : Int) then (some (rdOf ByteArray.empty y116 t119)) else (none)) else (none)))
theorem truchmanref08_Text.mono : ∀ a0 k, LeO (truchmanref08_Text.f k a0) (truchmanref08_Text.f (k + 1) a0) := by
  intro a0 k
  unfold truchmanref08_Text.f
  repeat' first
      | (with_reducible exact truchmanref08_Code.mono _ _)
      | (with_reducible exact LeO.refl _)
      | (with_reducible exact LeO.none _)
      | (with_reducible refine LeO.ite ?_ ?_)
      | (with_reducible refine LeO.bind ?_ (fun _ => ?_))
      | exact truchmanref08_Code.mono _ _
      | exact LeO.none _
      | refine LeO.ite ?_ ?_
      | refine LeO.bind ?_ (fun _ => ?_)
set_option maxHeartbeats 8000000 in
set_option maxRecDepth 100000 in
theorem truchmanref08_Text.calls (k : Nat) (a0 : Int) (r : ByteArray) (w : World) (h : truchmanref08_Text.f k a0 = some r) :
    Calls Tryd.prog 14 #[.int .i64 a0] w fun e w' => e = .returned (.string r) ∧ Below w.heap.size w w' := by
  have HB := Aside0.mk (Below.refl w.heap.size w)
  have H : ((some (([(⟨#[111, 107]⟩ : ByteArray), (⟨#[115, 116, 97, 108, 101]⟩ : ByteArray), (⟨#[110, 111, 32, 115, 117, 99, 104, 32, 110, 97, 109, 101]⟩ : ByteArray), (⟨#[110, 97, 109, 101, 32, 101, 120, 105, 115, 116, 115]⟩ : ByteArray), (⟨#[110, 111, 116, 32, 97, 32, 100, 105, 114, 101, 99, 116, 111, 114, 121]⟩ : ByteArray), (⟨#[105, 115, 32, 97, 32, 100, 105, 114, 101, 99, 116, 111, 114, 121]⟩ : ByteArray), (⟨#[110, 111, 116, 32, 101, 109, 112, 116, 121]⟩ : ByteArray), (⟨#[110, 111, 32, 115, 112, 97, 99, 101]⟩ : ByteArray), (⟨#[116, 111, 111, 32, 98, 105, 103]⟩ : ByteArray), (⟨#[98, 97, 100, 32, 110, 97, 109, 101]⟩ : ByteArray), (⟨#[98, 97, 100, 32, 99, 111, 111, 107, 105, 101]⟩ : ByteArray), (⟨#[98, 97, 100, 32, 102, 105, 100]⟩ : ByteArray), (⟨#[102, 105, 100, 32, 105, 110, 32, 117, 115, 101]⟩ : ByteArray), (⟨#[98, 97, 100, 32, 109, 111, 100, 101]⟩ : ByteArray), (⟨#[102, 108, 117, 115, 104, 101, 100]⟩ : ByteArray), (⟨#[105, 47, 111, 32, 101, 114, 114, 111, 114]⟩ : ByteArray), (⟨#[116, 97, 103, 32, 105, 110, 32, 117, 115, 101]⟩ : ByteArray), (⟨#[116, 111, 111, 32, 109, 97, 110, 121, 32, 114, 101, 113, 117, 101, 115, 116, 115]⟩ : ByteArray), (⟨#[98, 97, 100, 32, 109, 101, 115, 115, 97, 103, 101]⟩ : ByteArray)] : List ByteArray) : List ByteArray)).bind fun y116 => ((truchmanref08_Code.f k a0).bind fun t119 => (if 0 ≤ t119 then (if t119 < (y116.length : Int) then (some (rdOf ByteArray.empty y116 t119)) else (none)) else (none)))) = some r := h
  clear h
  obtain ⟨y116, hy116⟩ : ∃ y_ : List ByteArray, y_ = (([(⟨#[111, 107]⟩ : ByteArray), (⟨#[115, 116, 97, 108, 101]⟩ : ByteArray), (⟨#[110, 111, 32, 115, 117, 99, 104, 32, 110, 97, 109, 101]⟩ : ByteArray), (⟨#[110, 97, 109, 101, 32, 101, 120, 105, 115, 116, 115]⟩ : ByteArray), (⟨#[110, 111, 116, 32, 97, 32, 100, 105, 114, 101, 99, 116, 111, 114, 121]⟩ : ByteArray), (⟨#[105, 115, 32, 97, 32, 100, 105, 114, 101, 99, 116, 111, 114, 121]⟩ : ByteArray), (⟨#[110, 111, 116, 32, 101, 109, 112, 116, 121]⟩ : ByteArray), (⟨#[110, 111, 32, 115, 112, 97, 99, 101]⟩ : ByteArray), (⟨#[116, 111, 111, 32, 98, 105, 103]⟩ : ByteArray), (⟨#[98, 97, 100, 32, 110, 97, 109, 101]⟩ : ByteArray), (⟨#[98, 97, 100, 32, 99, 111, 111, 107, 105, 101]⟩ : ByteArray), (⟨#[98, 97, 100, 32, 102, 105, 100]⟩ : ByteArray), (⟨#[102, 105, 100, 32, 105, 110, 32, 117, 115, 101]⟩ : ByteArray), (⟨#[98, 97, 100, 32, 109, 111, 100, 101]⟩ : ByteArray), (⟨#[102, 108, 117, 115, 104, 101, 100]⟩ : ByteArray), (⟨#[105, 47, 111, 32, 101, 114, 114, 111, 114]⟩ : ByteArray), (⟨#[116, 97, 103, 32, 105, 110, 32, 117, 115, 101]⟩ : ByteArray), (⟨#[116, 111, 111, 32, 109, 97, 110, 121, 32, 114, 101, 113, 117, 101, 115, 116, 115]⟩ : ByteArray), (⟨#[98, 97, 100, 32, 109, 101, 115, 115, 97, 103, 101]⟩ : ByteArray)] : List ByteArray)) := ⟨_, rfl⟩
  replace H : ((truchmanref08_Code.f k a0).bind fun t119 => (if 0 ≤ t119 then (if t119 < (y116.length : Int) then (some (rdOf ByteArray.empty y116 t119)) else (none)) else (none))) = some r := by first | (rw [hy116]; with_reducible exact H) | (have H2_ := (Option.bind_some _ _).symm.trans H; rw [hy116]; with_reducible exact H2_) | (have H2_ := (Option.bind_some _ _).symm.trans H; with_reducible exact H2_) | with_reducible exact H | (rw [hy116]; exact H) | exact H
  have Ny116 := Aside0.mk hy116
  clear hy116
  replace H := Option.bind_eq_some_iff.mp H
  obtain ⟨t119, A20, H⟩ := H
  replace H : (if 0 ≤ t119 then (if t119 < (y116.length : Int) then (some (rdOf ByteArray.empty y116 t119)) else (none)) else (none)) = some r := H
  have A2 := Aside0.mk A20
  clear A20
  by_cases c3 : 0 ≤ t119
  · rw [if_pos c3] at H
    have c3b0 : decide (0 ≤ t119) = true := decide_eq_true c3
    clear c3
    by_cases c4 : t119 < (y116.length : Int)
    · rw [if_pos c4] at H
      have c4b0 : decide (t119 < (y116.length : Int)) = true := decide_eq_true c4
      clear c4
      obtain rfl := Option.some.inj H
      go_enter Tryd.func14, Tryd.ntmps14
      go_wp2_with (first | ((with_reducible refine gate_dst (N := 3) rfl ?_); refine Kd.R_lit Kd.string _ 9 ?hg (N := 3) ?hd (xs := ([(⟨#[111, 107]⟩ : ByteArray), (⟨#[115, 116, 97, 108, 101]⟩ : ByteArray), (⟨#[110, 111, 32, 115, 117, 99, 104, 32, 110, 97, 109, 101]⟩ : ByteArray), (⟨#[110, 97, 109, 101, 32, 101, 120, 105, 115, 116, 115]⟩ : ByteArray), (⟨#[110, 111, 116, 32, 97, 32, 100, 105, 114, 101, 99, 116, 111, 114, 121]⟩ : ByteArray), (⟨#[105, 115, 32, 97, 32, 100, 105, 114, 101, 99, 116, 111, 114, 121]⟩ : ByteArray), (⟨#[110, 111, 116, 32, 101, 109, 112, 116, 121]⟩ : ByteArray), (⟨#[110, 111, 32, 115, 112, 97, 99, 101]⟩ : ByteArray), (⟨#[116, 111, 111, 32, 98, 105, 103]⟩ : ByteArray), (⟨#[98, 97, 100, 32, 110, 97, 109, 101]⟩ : ByteArray), (⟨#[98, 97, 100, 32, 99, 111, 111, 107, 105, 101]⟩ : ByteArray), (⟨#[98, 97, 100, 32, 102, 105, 100]⟩ : ByteArray), (⟨#[102, 105, 100, 32, 105, 110, 32, 117, 115, 101]⟩ : ByteArray), (⟨#[98, 97, 100, 32, 109, 111, 100, 101]⟩ : ByteArray), (⟨#[102, 108, 117, 115, 104, 101, 100]⟩ : ByteArray), (⟨#[105, 47, 111, 32, 101, 114, 114, 111, 114]⟩ : ByteArray), (⟨#[116, 97, 103, 32, 105, 110, 32, 117, 115, 101]⟩ : ByteArray), (⟨#[116, 111, 111, 32, 109, 97, 110, 121, 32, 114, 101, 113, 117, 101, 115, 116, 115]⟩ : ByteArray), (⟨#[98, 97, 100, 32, 109, 101, 115, 115, 97, 103, 101]⟩ : ByteArray)] : List ByteArray)) (inner := [.string (⟨#[111, 107]⟩ : ByteArray), .string (⟨#[115, 116, 97, 108, 101]⟩ : ByteArray), .string (⟨#[110, 111, 32, 115, 117, 99, 104, 32, 110, 97, 109, 101]⟩ : ByteArray), .string (⟨#[110, 97, 109, 101, 32, 101, 120, 105, 115, 116, 115]⟩ : ByteArray), .string (⟨#[110, 111, 116, 32, 97, 32, 100, 105, 114, 101, 99, 116, 111, 114, 121]⟩ : ByteArray), .string (⟨#[105, 115, 32, 97, 32, 100, 105, 114, 101, 99, 116, 111, 114, 121]⟩ : ByteArray), .string (⟨#[110, 111, 116, 32, 101, 109, 112, 116, 121]⟩ : ByteArray), .string (⟨#[110, 111, 32, 115, 112, 97, 99, 101]⟩ : ByteArray), .string (⟨#[116, 111, 111, 32, 98, 105, 103]⟩ : ByteArray), .string (⟨#[98, 97, 100, 32, 110, 97, 109, 101]⟩ : ByteArray), .string (⟨#[98, 97, 100, 32, 99, 111, 111, 107, 105, 101]⟩ : ByteArray), .string (⟨#[98, 97, 100, 32, 102, 105, 100]⟩ : ByteArray), .string (⟨#[102, 105, 100, 32, 105, 110, 32, 117, 115, 101]⟩ : ByteArray), .string (⟨#[98, 97, 100, 32, 109, 111, 100, 101]⟩ : ByteArray), .string (⟨#[102, 108, 117, 115, 104, 101, 100]⟩ : ByteArray), .string (⟨#[105, 47, 111, 32, 101, 114, 114, 111, 114]⟩ : ByteArray), .string (⟨#[116, 97, 103, 32, 105, 110, 32, 117, 115, 101]⟩ : ByteArray), .string (⟨#[116, 111, 111, 32, 109, 97, 110, 121, 32, 114, 101, 113, 117, 101, 115, 116, 115]⟩ : ByteArray), .string (⟨#[98, 97, 100, 32, 109, 101, 115, 115, 97, 103, 101]⟩ : ByteArray)]) (ok := fun _ => True) (okp := fun _ => True) ?hr ?hp (fun _ hk => hk) trivial (Below.refl _ _) (Nat.le_refl _) (by simp) ?_; (case hd => rfl); (case hg => rfl); (case hr => first | (go_simp; done) | (go_simp; rfl)); (case hp => exact (Reps.one (show Kd.M Kd.string _ _ _ (⟨#[111, 107]⟩ : ByteArray) [.string (⟨#[111, 107]⟩ : ByteArray)] from rfl) (Reps.one (show Kd.M Kd.string _ _ _ (⟨#[115, 116, 97, 108, 101]⟩ : ByteArray) [.string (⟨#[115, 116, 97, 108, 101]⟩ : ByteArray)] from rfl) (Reps.one (show Kd.M Kd.string _ _ _ (⟨#[110, 111, 32, 115, 117, 99, 104, 32, 110, 97, 109, 101]⟩ : ByteArray) [.string (⟨#[110, 111, 32, 115, 117, 99, 104, 32, 110, 97, 109, 101]⟩ : ByteArray)] from rfl) (Reps.one (show Kd.M Kd.string _ _ _ (⟨#[110, 97, 109, 101, 32, 101, 120, 105, 115, 116, 115]⟩ : ByteArray) [.string (⟨#[110, 97, 109, 101, 32, 101, 120, 105, 115, 116, 115]⟩ : ByteArray)] from rfl) (Reps.one (show Kd.M Kd.string _ _ _ (⟨#[110, 111, 116, 32, 97, 32, 100, 105, 114, 101, 99, 116, 111, 114, 121]⟩ : ByteArray) [.string (⟨#[110, 111, 116, 32, 97, 32, 100, 105, 114, 101, 99, 116, 111, 114, 121]⟩ : ByteArray)] from rfl) (Reps.one (show Kd.M Kd.string _ _ _ (⟨#[105, 115, 32, 97, 32, 100, 105, 114, 101, 99, 116, 111, 114, 121]⟩ : ByteArray) [.string (⟨#[105, 115, 32, 97, 32, 100, 105, 114, 101, 99, 116, 111, 114, 121]⟩ : ByteArray)] from rfl) (Reps.one (show Kd.M Kd.string _ _ _ (⟨#[110, 111, 116, 32, 101, 109, 112, 116, 121]⟩ : ByteArray) [.string (⟨#[110, 111, 116, 32, 101, 109, 112, 116, 121]⟩ : ByteArray)] from rfl) (Reps.one (show Kd.M Kd.string _ _ _ (⟨#[110, 111, 32, 115, 112, 97, 99, 101]⟩ : ByteArray) [.string (⟨#[110, 111, 32, 115, 112, 97, 99, 101]⟩ : ByteArray)] from rfl) (Reps.one (show Kd.M Kd.string _ _ _ (⟨#[116, 111, 111, 32, 98, 105, 103]⟩ : ByteArray) [.string (⟨#[116, 111, 111, 32, 98, 105, 103]⟩ : ByteArray)] from rfl) (Reps.one (show Kd.M Kd.string _ _ _ (⟨#[98, 97, 100, 32, 110, 97, 109, 101]⟩ : ByteArray) [.string (⟨#[98, 97, 100, 32, 110, 97, 109, 101]⟩ : ByteArray)] from rfl) (Reps.one (show Kd.M Kd.string _ _ _ (⟨#[98, 97, 100, 32, 99, 111, 111, 107, 105, 101]⟩ : ByteArray) [.string (⟨#[98, 97, 100, 32, 99, 111, 111, 107, 105, 101]⟩ : ByteArray)] from rfl) (Reps.one (show Kd.M Kd.string _ _ _ (⟨#[98, 97, 100, 32, 102, 105, 100]⟩ : ByteArray) [.string (⟨#[98, 97, 100, 32, 102, 105, 100]⟩ : ByteArray)] from rfl) (Reps.one (show Kd.M Kd.string _ _ _ (⟨#[102, 105, 100, 32, 105, 110, 32, 117, 115, 101]⟩ : ByteArray) [.string (⟨#[102, 105, 100, 32, 105, 110, 32, 117, 115, 101]⟩ : ByteArray)] from rfl) (Reps.one (show Kd.M Kd.string _ _ _ (⟨#[98, 97, 100, 32, 109, 111, 100, 101]⟩ : ByteArray) [.string (⟨#[98, 97, 100, 32, 109, 111, 100, 101]⟩ : ByteArray)] from rfl) (Reps.one (show Kd.M Kd.string _ _ _ (⟨#[102, 108, 117, 115, 104, 101, 100]⟩ : ByteArray) [.string (⟨#[102, 108, 117, 115, 104, 101, 100]⟩ : ByteArray)] from rfl) (Reps.one (show Kd.M Kd.string _ _ _ (⟨#[105, 47, 111, 32, 101, 114, 114, 111, 114]⟩ : ByteArray) [.string (⟨#[105, 47, 111, 32, 101, 114, 114, 111, 114]⟩ : ByteArray)] from rfl) (Reps.one (show Kd.M Kd.string _ _ _ (⟨#[116, 97, 103, 32, 105, 110, 32, 117, 115, 101]⟩ : ByteArray) [.string (⟨#[116, 97, 103, 32, 105, 110, 32, 117, 115, 101]⟩ : ByteArray)] from rfl) (Reps.one (show Kd.M Kd.string _ _ _ (⟨#[116, 111, 111, 32, 109, 97, 110, 121, 32, 114, 101, 113, 117, 101, 115, 116, 115]⟩ : ByteArray) [.string (⟨#[116, 111, 111, 32, 109, 97, 110, 121, 32, 114, 101, 113, 117, 101, 115, 116, 115]⟩ : ByteArray)] from rfl) (Reps.one (show Kd.M Kd.string _ _ _ (⟨#[98, 97, 100, 32, 109, 101, 115, 115, 97, 103, 101]⟩ : ByteArray) [.string (⟨#[98, 97, 100, 32, 109, 101, 115, 115, 97, 103, 101]⟩ : ByteArray)] from rfl) (Reps.none _ _))))))))))))))))))))); intro v117 w5 ho6 hb hg_ hnew_; clear hg_ hnew_; (first | rw [← Ny116.out] at ho6 | (simp only [Int.reduceToNat] at ho6; rw [← Ny116.out] at ho6)); have n0_ := Aside0.mk (Kd.R_lower ho6 (below_size (by repeat (first | (with_reducible first | exact HB.out | apply below_alloc | apply pw_below_drewN | apply below_drew1) | exact HB.out)))); have n1_ := Aside0.mk (below_step (by repeat (first | (with_reducible first | exact HB.out | apply below_alloc | apply pw_below_drewN | apply below_drew1) | exact HB.out)) hb); clear HB; have HO118 := n0_; have HB := n1_; clear n0_ n1_; clear hb ho6) | ((with_reducible refine gate_callee (f := 12) rfl ?_); refine goesL_ (some 5) rfl rfl Tryd.func12 (by kernel_rfl) rfl #[.int .i64 a0] rfl (by (try simp only [List.map_toArray, List.map_cons, List.map_nil]); first | done | rfl | (simp only [List.length_drop, List.length_take]; rfl)) ?_; (with_reducible refine (truchmanref08_Code.calls k a0 t119 _ A2.out).mono ?_); rintro e w7 ⟨rfl, hb⟩; refine ⟨_, rfl, ?_⟩; have n0_ := Aside0.mk (Kd.R_below (by (with_reducible repeat (first | apply Kd.R_alloc | apply Kd.R_drewN | apply Kd.R_drew)); exact HO118.out) hb); have n1_ := Aside0.mk (below_step (by repeat (first | (with_reducible first | exact HB.out | apply below_alloc | apply pw_below_drewN | apply below_drew1) | exact HB.out)) hb); clear HO118; clear HB; have HO118 := n0_; have HB := n1_; clear n0_ n1_; (try clear hb); (try clear hb2); (try clear hk); (try clear hi); obtain ⟨Ao8, co8, eo8⟩ := Kd.R_slice HO118.out; subst eo8; have p120 : 0 ≤ (t119 : Int) := of_decide_eq_true (by first | (with_reducible assumption) | assumption); have q120 : t119 < (y116.length : Int) := of_decide_eq_true (by first | (with_reducible assumption) | assumption); obtain ⟨ad120, e120, hx120_0⟩ := Kd.at_string (Kd.R_reads' HO118.out).2.2 t119 p120 q120; cases e120; replace p120 := eq_true p120; replace q120 := eq_true q120))
      go_ret
      exact ⟨by first | rfl | (simp [errW_none, errW_some] <;> rfl) | (simp [*, errW_none, errW_some] <;> rfl), by repeat (first | (with_reducible first | exact HB.out | apply below_alloc | apply pw_below_drewN | apply below_drew1) | exact HB.out)⟩
    · rw [if_neg c4] at H
      exact absurd H (by simp)
  · rw [if_neg c3] at H
    exact absurd H (by simp)

/-! ### codes_FromStatus: function 16 -/
def codes_FromStatus.f (a0 : Int) : Option (Int) := some (G.eOf (G.placeOf a0))
theorem codes_FromStatus.calls (a0 : Int) (r : Int) (w : World) (HT : Aside0 (G.Tab w)) (h : codes_FromStatus.f a0 = some r) :
    Calls Tryd.prog 16 #[.int .u32 a0] w fun e w' => e = .returned (.int .i64 r) ∧ Below w.heap.size w w' := by
  obtain rfl := Option.some.inj h
  exact G.FromStatus_calls a0 w HT.out

/-! ### truchmanlaw08_lives: function 15 -/
def truchmanlaw08_lives.f  : Option (Bool) := (codes_Status.f 9).bind fun t121 => (if t121 = 2 then ((codes_Code.f 9).bind fun t122 => (if t122 = 2 then ((codes_Text.f 9).bind fun t123 => (if t123.toList = ([110, 111, 32, 115, 117, 99, 104, 32, 110, 97, 109, 101] : List UInt8) then ((codes_FromStatus.f 99).bind fun t124 => (some (t124 == 21))) else (some false))) else (some false))) else (some false))
set_option maxHeartbeats 8000000 in
set_option maxRecDepth 100000 in
theorem truchmanlaw08_lives.calls  (r : Bool) (w : World) (HT : Aside0 (G.Tab w)) (h : truchmanlaw08_lives.f  = some r) :
    Calls Tryd.prog 15 #[] w fun e w' => e = .returned (.bool r) ∧ Below w.heap.size w w' := by
  have HB := Aside0.mk (Below.refl w.heap.size w)
  have H : ((codes_Status.f 9).bind fun t121 => (if t121 = 2 then ((codes_Code.f 9).bind fun t122 => (if t122 = 2 then ((codes_Text.f 9).bind fun t123 => (if t123.toList = ([110, 111, 32, 115, 117, 99, 104, 32, 110, 97, 109, 101] : List UInt8) then ((codes_FromStatus.f 99).bind fun t124 => (some (t124 == 21))) else (some false))) else (some false))) else (some false))) = some r := h
  clear h
  replace H := Option.bind_eq_some_iff.mp H
  obtain ⟨t121, A10, H⟩ := H
  replace H : (if t121 = 2 then ((codes_Code.f 9).bind fun t122 => (if t122 = 2 then ((codes_Text.f 9).bind fun t123 => (if t123.toList = ([110, 111, 32, 115, 117, 99, 104, 32, 110, 97, 109, 101] : List UInt8) then ((codes_FromStatus.f 99).bind fun t124 => (some (t124 == 21))) else (some false))) else (some false))) else (some false)) = some r := H
  have A1 := Aside0.mk A10
  clear A10
  by_cases c2 : t121 = 2
  · rw [if_pos c2] at H
    have c2b0 : (t121 == 2) = true := beq_iff_eq.mpr c2
    have c2b1 : (t121 != 2) = false := bne_eq_false_iff_eq.mpr c2
    clear c2
    replace H := Option.bind_eq_some_iff.mp H
    obtain ⟨t122, A30, H⟩ := H
    replace H : (if t122 = 2 then ((codes_Text.f 9).bind fun t123 => (if t123.toList = ([110, 111, 32, 115, 117, 99, 104, 32, 110, 97, 109, 101] : List UInt8) then ((codes_FromStatus.f 99).bind fun t124 => (some (t124 == 21))) else (some false))) else (some false)) = some r := H
    have A3 := Aside0.mk A30
    clear A30
    by_cases c4 : t122 = 2
    · rw [if_pos c4] at H
      have c4b0 : (t122 == 2) = true := beq_iff_eq.mpr c4
      have c4b1 : (t122 != 2) = false := bne_eq_false_iff_eq.mpr c4
      clear c4
      replace H := Option.bind_eq_some_iff.mp H
      obtain ⟨t123, A50, H⟩ := H
      replace H : (if t123.toList = ([110, 111, 32, 115, 117, 99, 104, 32, 110, 97, 109, 101] : List UInt8) then ((codes_FromStatus.f 99).bind fun t124 => (some (t124 == 21))) else (some false)) = some r := H
      have A5 := Aside0.mk A50
      clear A50
      by_cases c6 : t123.toList = ([110, 111, 32, 115, 117, 99, 104, 32, 110, 97, 109, 101] : List UInt8)
      · rw [if_pos c6] at H
        have c6b0 : (t123.toList == ([110, 111, 32, 115, 117, 99, 104, 32, 110, 97, 109, 101] : List UInt8)) = true := beq_iff_eq.mpr c6
        have c6b1 : (t123.toList != ([110, 111, 32, 115, 117, 99, 104, 32, 110, 97, 109, 101] : List UInt8)) = false := bne_eq_false_iff_eq.mpr c6
        clear c6
        replace H := Option.bind_eq_some_iff.mp H
        obtain ⟨t124, A70, H⟩ := H
        replace H : (some (t124 == 21)) = some r := H
        have A7 := Aside0.mk A70
        clear A70
        obtain rfl := Option.some.inj H
        go_enter Tryd.func15, Tryd.ntmps15
        go_wp2_with (first | ((with_reducible refine gate_callee (f := 9) rfl ?_); refine goesL_ (some 1) rfl rfl Tryd.func9 (by kernel_rfl) rfl #[.int .i64 9] rfl (by (try simp only [List.map_toArray, List.map_cons, List.map_nil]); first | done | rfl | (simp only [List.length_drop, List.length_take]; rfl)) ?_; (with_reducible refine (codes_Status.calls 9 t121 _ ⟨G.Tab_at HT.out (by repeat (first | (with_reducible first | exact HB.out | apply below_alloc | apply pw_below_drewN | apply below_drew1) | exact HB.out))⟩ A1.out).mono ?_); rintro e w8 ⟨rfl, hb⟩; refine ⟨_, rfl, ?_⟩; have n0_ := Aside0.mk (below_step (by repeat (first | (with_reducible first | exact HB.out | apply below_alloc | apply pw_below_drewN | apply below_drew1) | exact HB.out)) hb); clear HB; have HB := n0_; clear n0_; (try clear hb); (try clear hb2); (try clear hk); (try clear hi)) | (go_at_call 11; (with_reducible refine (codes_Code.calls 9 t122 _ ⟨G.Tab_at HT.out (by repeat (first | (with_reducible first | exact HB.out | apply below_alloc | apply pw_below_drewN | apply below_drew1) | exact HB.out))⟩ A3.out).mono ?_); rintro e w9 ⟨rfl, hb⟩; have n0_ := Aside0.mk (below_step (by repeat (first | (with_reducible first | exact HB.out | apply below_alloc | apply pw_below_drewN | apply below_drew1) | exact HB.out)) hb); clear HB; have HB := n0_; clear n0_; (try clear hb); (try clear hb2); (try clear hk); (try clear hi)) | (go_at_call 13; (with_reducible refine (codes_Text.calls 9 t123 _ ⟨G.Tab_at HT.out (by repeat (first | (with_reducible first | exact HB.out | apply below_alloc | apply pw_below_drewN | apply below_drew1) | exact HB.out))⟩ A5.out).mono ?_); rintro e w10 ⟨rfl, hb⟩; have n0_ := Aside0.mk (below_step (by repeat (first | (with_reducible first | exact HB.out | apply below_alloc | apply pw_below_drewN | apply below_drew1) | exact HB.out)) hb); clear HB; have HB := n0_; clear n0_; (try clear hb); (try clear hb2); (try clear hk); (try clear hi)) | (go_at_call 16; (with_reducible refine (codes_FromStatus.calls 99 t124 _ ⟨G.Tab_at HT.out (by repeat (first | (with_reducible first | exact HB.out | apply below_alloc | apply pw_below_drewN | apply below_drew1) | exact HB.out))⟩ A7.out).mono ?_); rintro e w11 ⟨rfl, hb⟩; have n0_ := Aside0.mk (below_step (by repeat (first | (with_reducible first | exact HB.out | apply below_alloc | apply pw_below_drewN | apply below_drew1) | exact HB.out)) hb); clear HB; have HB := n0_; clear n0_; (try clear hb); (try clear hb2); (try clear hk); (try clear hi)))
        go_ret
        exact ⟨by first | rfl | (simp [errW_none, errW_some] <;> rfl) | (simp [*, errW_none, errW_some] <;> rfl), by repeat (first | (with_reducible first | exact HB.out | apply below_alloc | apply pw_below_drewN | apply below_drew1) | exact HB.out)⟩
      · rw [if_neg c6] at H
        have c6b0 : (t123.toList == ([110, 111, 32, 115, 117, 99, 104, 32, 110, 97, 109, 101] : List UInt8)) = false := beq_eq_false_iff_ne.mpr c6
        have c6b1 : (t123.toList != ([110, 111, 32, 115, 117, 99, 104, 32, 110, 97, 109, 101] : List UInt8)) = true := bne_iff_ne.mpr c6
        obtain rfl := Option.some.inj H
        go_enter Tryd.func15, Tryd.ntmps15
        go_wp2_with (first | ((with_reducible refine gate_callee (f := 9) rfl ?_); refine goesL_ (some 1) rfl rfl Tryd.func9 (by kernel_rfl) rfl #[.int .i64 9] rfl (by (try simp only [List.map_toArray, List.map_cons, List.map_nil]); first | done | rfl | (simp only [List.length_drop, List.length_take]; rfl)) ?_; (with_reducible refine (codes_Status.calls 9 t121 _ ⟨G.Tab_at HT.out (by repeat (first | (with_reducible first | exact HB.out | apply below_alloc | apply pw_below_drewN | apply below_drew1) | exact HB.out))⟩ A1.out).mono ?_); rintro e w12 ⟨rfl, hb⟩; refine ⟨_, rfl, ?_⟩; have n0_ := Aside0.mk (below_step (by repeat (first | (with_reducible first | exact HB.out | apply below_alloc | apply pw_below_drewN | apply below_drew1) | exact HB.out)) hb); clear HB; have HB := n0_; clear n0_; (try clear hb); (try clear hb2); (try clear hk); (try clear hi)) | (go_at_call 11; (with_reducible refine (codes_Code.calls 9 t122 _ ⟨G.Tab_at HT.out (by repeat (first | (with_reducible first | exact HB.out | apply below_alloc | apply pw_below_drewN | apply below_drew1) | exact HB.out))⟩ A3.out).mono ?_); rintro e w13 ⟨rfl, hb⟩; have n0_ := Aside0.mk (below_step (by repeat (first | (with_reducible first | exact HB.out | apply below_alloc | apply pw_below_drewN | apply below_drew1) | exact HB.out)) hb); clear HB; have HB := n0_; clear n0_; (try clear hb); (try clear hb2); (try clear hk); (try clear hi)) | (go_at_call 13; (with_reducible refine (codes_Text.calls 9 t123 _ ⟨G.Tab_at HT.out (by repeat (first | (with_reducible first | exact HB.out | apply below_alloc | apply pw_below_drewN | apply below_drew1) | exact HB.out))⟩ A5.out).mono ?_); rintro e w14 ⟨rfl, hb⟩; have n0_ := Aside0.mk (below_step (by repeat (first | (with_reducible first | exact HB.out | apply below_alloc | apply pw_below_drewN | apply below_drew1) | exact HB.out)) hb); clear HB; have HB := n0_; clear n0_; (try clear hb); (try clear hb2); (try clear hk); (try clear hi)))
        go_ret
        exact ⟨by first | rfl | (simp [errW_none, errW_some] <;> rfl) | (simp [*, errW_none, errW_some] <;> rfl), by repeat (first | (with_reducible first | exact HB.out | apply below_alloc | apply pw_below_drewN | apply below_drew1) | exact HB.out)⟩
    · rw [if_neg c4] at H
      have c4b0 : (t122 == 2) = false := beq_eq_false_iff_ne.mpr c4
      have c4b1 : (t122 != 2) = true := bne_iff_ne.mpr c4
      obtain rfl := Option.some.inj H
      go_enter Tryd.func15, Tryd.ntmps15
      go_wp2_with (first | ((with_reducible refine gate_callee (f := 9) rfl ?_); refine goesL_ (some 1) rfl rfl Tryd.func9 (by kernel_rfl) rfl #[.int .i64 9] rfl (by (try simp only [List.map_toArray, List.map_cons, List.map_nil]); first | done | rfl | (simp only [List.length_drop, List.length_take]; rfl)) ?_; (with_reducible refine (codes_Status.calls 9 t121 _ ⟨G.Tab_at HT.out (by repeat (first | (with_reducible first | exact HB.out | apply below_alloc | apply pw_below_drewN | apply below_drew1) | exact HB.out))⟩ A1.out).mono ?_); rintro e w15 ⟨rfl, hb⟩; refine ⟨_, rfl, ?_⟩; have n0_ := Aside0.mk (below_step (by repeat (first | (with_reducible first | exact HB.out | apply below_alloc | apply pw_below_drewN | apply below_drew1) | exact HB.out)) hb); clear HB; have HB := n0_; clear n0_; (try clear hb); (try clear hb2); (try clear hk); (try clear hi)) | (go_at_call 11; (with_reducible refine (codes_Code.calls 9 t122 _ ⟨G.Tab_at HT.out (by repeat (first | (with_reducible first | exact HB.out | apply below_alloc | apply pw_below_drewN | apply below_drew1) | exact HB.out))⟩ A3.out).mono ?_); rintro e w16 ⟨rfl, hb⟩; have n0_ := Aside0.mk (below_step (by repeat (first | (with_reducible first | exact HB.out | apply below_alloc | apply pw_below_drewN | apply below_drew1) | exact HB.out)) hb); clear HB; have HB := n0_; clear n0_; (try clear hb); (try clear hb2); (try clear hk); (try clear hi)))
      go_ret
      exact ⟨by first | rfl | (simp [errW_none, errW_some] <;> rfl) | (simp [*, errW_none, errW_some] <;> rfl), by repeat (first | (with_reducible first | exact HB.out | apply below_alloc | apply pw_below_drewN | apply below_drew1) | exact HB.out)⟩
  · rw [if_neg c2] at H
    have c2b0 : (t121 == 2) = false := beq_eq_false_iff_ne.mpr c2
    have c2b1 : (t121 != 2) = true := bne_iff_ne.mpr c2
    obtain rfl := Option.some.inj H
    go_enter Tryd.func15, Tryd.ntmps15
    go_wp2_with (first | ((with_reducible refine gate_callee (f := 9) rfl ?_); refine goesL_ (some 1) rfl rfl Tryd.func9 (by kernel_rfl) rfl #[.int .i64 9] rfl (by (try simp only [List.map_toArray, List.map_cons, List.map_nil]); first | done | rfl | (simp only [List.length_drop, List.length_take]; rfl)) ?_; (with_reducible refine (codes_Status.calls 9 t121 _ ⟨G.Tab_at HT.out (by repeat (first | (with_reducible first | exact HB.out | apply below_alloc | apply pw_below_drewN | apply below_drew1) | exact HB.out))⟩ A1.out).mono ?_); rintro e w17 ⟨rfl, hb⟩; refine ⟨_, rfl, ?_⟩; have n0_ := Aside0.mk (below_step (by repeat (first | (with_reducible first | exact HB.out | apply below_alloc | apply pw_below_drewN | apply below_drew1) | exact HB.out)) hb); clear HB; have HB := n0_; clear n0_; (try clear hb); (try clear hb2); (try clear hk); (try clear hi)))
    go_ret
    exact ⟨by first | rfl | (simp [errW_none, errW_some] <;> rfl) | (simp [*, errW_none, errW_some] <;> rfl), by repeat (first | (with_reducible first | exact HB.out | apply below_alloc | apply pw_below_drewN | apply below_drew1) | exact HB.out)⟩

/-! ### truchmanlaw08_CodesOf: function 3 -/
def truchmanlaw08_CodesOf.l0 : Nat → List Int → Int → Option (Bool)
  | 0, _, _ => none
  | k + 1, x3, x4 => if x4 < 2 then (if 0 ≤ x4 then (if x4 < (x3.length : Int) then ((codes_Status.f (rd x3 x4)).bind fun t131 => ((truchmanref08_Status.f k (rd x3 x4)).bind fun t132 => (if t131 = t132 then ((codes_Code.f (rd x3 x4)).bind fun t133 => ((truchmanref08_Code.f k (rd x3 x4)).bind fun t134 => (if t133 = t134 then ((codes_Text.f (rd x3 x4)).bind fun t135 => ((truchmanref08_Text.f k (rd x3 x4)).bind fun t136 => (if t135.toList = t136.toList then (truchmanlaw08_CodesOf.l0 k x3 (wrap64 (x4 + 1))) else (some false)))) else (some false)))) else (some false)))) else (none)) else (none)) else ((truchmanlaw08_lives.f).bind fun t129 => (some t129))
def truchmanlaw08_CodesOf.f (k : Nat) (a0 : Int) : Option (Bool) := (truchmanref01_Around.f a0 26).bind fun t125 => (truchmanlaw08_CodesOf.l0 k (([a0, wrap64 (t125 - 1)] : List Int)) 0)
theorem truchmanlaw08_CodesOf.mono_l : ∀ k, (∀ y0 y1, LeO (truchmanlaw08_CodesOf.l0 k y0 y1) (truchmanlaw08_CodesOf.l0 (k + 1) y0 y1))
  | 0 => fun _ _ r h => by simp [truchmanlaw08_CodesOf.l0] at h
  | k + 1 => by
    have ih0 := truchmanlaw08_CodesOf.mono_l k
    · intro y0 y1
      unfold truchmanlaw08_CodesOf.l0
      repeat' first
      | (with_reducible exact ih0 _ _)
      | (with_reducible exact truchmanref08_Code.mono _ _)
      | (with_reducible exact truchmanref08_Status.mono _ _)
      | (with_reducible exact truchmanref08_Text.mono _ _)
      | (with_reducible exact LeO.refl _)
      | (with_reducible exact LeO.none _)
      | (with_reducible refine LeO.ite ?_ ?_)
      | (with_reducible refine LeO.bind ?_ (fun _ => ?_))
      | exact ih0 _ _
      | exact truchmanref08_Code.mono _ _
      | exact truchmanref08_Status.mono _ _
      | exact truchmanref08_Text.mono _ _
      | exact LeO.none _
      | refine LeO.ite ?_ ?_
      | refine LeO.bind ?_ (fun _ => ?_)
theorem truchmanlaw08_CodesOf.mono : ∀ a0 k, LeO (truchmanlaw08_CodesOf.f k a0) (truchmanlaw08_CodesOf.f (k + 1) a0) := by
  intro a0 k
  have ih0 := truchmanlaw08_CodesOf.mono_l k
  unfold truchmanlaw08_CodesOf.f
  repeat' first
      | (with_reducible exact ih0 _ _)
      | (with_reducible exact truchmanref08_Code.mono _ _)
      | (with_reducible exact truchmanref08_Status.mono _ _)
      | (with_reducible exact truchmanref08_Text.mono _ _)
      | (with_reducible exact LeO.refl _)
      | (with_reducible exact LeO.none _)
      | (with_reducible refine LeO.ite ?_ ?_)
      | (with_reducible refine LeO.bind ?_ (fun _ => ?_))
      | exact ih0 _ _
      | exact truchmanref08_Code.mono _ _
      | exact truchmanref08_Status.mono _ _
      | exact truchmanref08_Text.mono _ _
      | exact LeO.none _
      | refine LeO.ite ?_ ?_
      | refine LeO.bind ?_ (fun _ => ?_)
set_option maxHeartbeats 8000000 in
set_option maxRecDepth 100000 in
theorem truchmanlaw08_CodesOf.calls (k : Nat) (a0 : Int) (r : Bool) (w : World) (HT : Aside0 (G.Tab w)) (hrt : Aside0 (r = true)) (h : truchmanlaw08_CodesOf.f k a0 = some r) :
    Calls Tryd.prog 3 #[.int .i64 a0] w fun e w' => e = .returned (.bool r) ∧ Below w.heap.size w w' := by
  have HB := Aside0.mk (Below.refl w.heap.size w)
  have H : ((truchmanref01_Around.f a0 26).bind fun t125 => (truchmanlaw08_CodesOf.l0 k (([a0, wrap64 (t125 - 1)] : List Int)) 0)) = some r := h
  clear h
  replace H := Option.bind_eq_some_iff.mp H
  obtain ⟨t125, A20, H⟩ := H
  replace H : (truchmanlaw08_CodesOf.l0 k (([a0, wrap64 (t125 - 1)] : List Int)) 0) = some r := H
  have A2 := Aside0.mk A20
  clear A20
  obtain ⟨y126, hy126⟩ : ∃ y_ : List Int, y_ = (([a0, wrap64 (t125 - 1)] : List Int)) := ⟨_, rfl⟩
  replace H : (truchmanlaw08_CodesOf.l0 k y126 0) = some r := by first | (rw [hy126]; with_reducible exact H) | (have H2_ := (Option.bind_some _ _).symm.trans H; rw [hy126]; with_reducible exact H2_) | (have H2_ := (Option.bind_some _ _).symm.trans H; with_reducible exact H2_) | with_reducible exact H | (rw [hy126]; exact H) | exact H
  have Ny126 := Aside0.mk hy126
  clear hy126
  have H' := Aside0.mk H
  clear H
  go_enter Tryd.func3, Tryd.ntmps3
  go_wp2_with (first | ((with_reducible refine gate_callee (f := 8) rfl ?_); refine goesL_ (some 8) rfl rfl Tryd.func8 (by kernel_rfl) rfl #[.int .i64 a0, .int .i64 26] rfl (by (try simp only [List.map_toArray, List.map_cons, List.map_nil]); first | done | rfl | (simp only [List.length_drop, List.length_take]; rfl)) ?_; (with_reducible refine (truchmanref01_Around.calls a0 26 t125 _ A2.out).mono ?_); rintro e w' ⟨rfl, ⟨nd, rfl⟩⟩; refine ⟨_, rfl, ?_⟩) | ((with_reducible refine gate_dst (N := 10) rfl ?_); refine Kd.R_lit (Kd.int .i64) _ 22 ?hg (N := 10) ?hd (xs := ([a0, wrap64 (t125 - 1)] : List Int)) (inner := [.int .i64 a0, .int .i64 (wrap64 (t125 - 1))]) (ok := fun _ => True) (okp := fun _ => True) ?hr ?hp (fun _ hk => hk) trivial (Below.refl _ _) (Nat.le_refl _) (by simp) ?_; (case hd => rfl); (case hg => rfl); (case hr => first | (go_simp; done) | (go_simp; rfl)); (case hp => exact (Reps.one (show Kd.M (Kd.int .i64) _ _ _ a0 [.int .i64 a0] from rfl) (Reps.one (show Kd.M (Kd.int .i64) _ _ _ (wrap64 (t125 - 1)) [.int .i64 (wrap64 (t125 - 1))] from rfl) (Reps.none _ _)))); intro v127 w3 ho4 hb hg_ hnew_; clear hg_ hnew_; (first | rw [← Ny126.out] at ho4 | (simp only [Int.reduceToNat] at ho4; rw [← Ny126.out] at ho4)); have n0_ := Aside0.mk (Kd.R_lower ho4 (below_size (by repeat (first | (with_reducible first | exact HB.out | apply below_alloc | apply pw_below_drewN | apply below_drew1) | exact HB.out)))); have n1_ := Aside0.mk (below_step (by repeat (first | (with_reducible first | exact HB.out | apply below_alloc | apply pw_below_drewN | apply below_drew1) | exact HB.out)) hb); clear HB; have HO128 := n0_; have HB := n1_; clear n0_ n1_; clear hb ho4))
  go_loopg [4] k (fun kq v4 w' => ∃ (x4_1 : Int), v4 = .int .i64 x4_1 ∧ Aside0 (truchmanlaw08_CodesOf.l0 kq y126 x4_1 = some r) ∧ Aside0 (kq ≤ k) ∧ Aside0 (Kd.R (Kd.int .i64) 22 w' w.heap.size (fun _ => True) v127 y126) ∧ Aside0 (Below w.heap.size w w'))
  case atStart => exact ⟨(0), (by first | rfl | (simp; done) | (simp [*]; done)), H', ⟨Nat.le_refl _⟩, ⟨by (with_reducible repeat (first | apply Kd.R_alloc | apply Kd.R_drewN | apply Kd.R_drew)); exact HO128.out⟩, ⟨by repeat (first | (with_reducible first | exact HB.out | apply below_alloc | apply pw_below_drewN | apply below_drew1) | exact HB.out)⟩⟩
  case round =>
    clear H'
    try clear p2
    try clear c3
    obtain ⟨x4_1, rfl, HA, HK1, HO_3, HB⟩ := hrel
    cases gk with
    | zero => exact absurd HA.out (by simp [truchmanlaw08_CodesOf.l0])
    | succ k1 =>
      have H := HA.out
      clear HA
      simp only [truchmanlaw08_CodesOf.l0] at H
      by_cases c5 : x4_1 < 2
      · rw [if_pos c5] at H
        have c5b0 : decide (x4_1 < 2) = true := decide_eq_true c5
        clear c5
        by_cases c6 : 0 ≤ x4_1
        · rw [if_pos c6] at H
          have c6b0 : decide (0 ≤ x4_1) = true := decide_eq_true c6
          clear c6
          by_cases c7 : x4_1 < (y126.length : Int)
          · rw [if_pos c7] at H
            have c7b0 : decide (x4_1 < (y126.length : Int)) = true := decide_eq_true c7
            clear c7
            replace H := Option.bind_eq_some_iff.mp H
            obtain ⟨t131, A80, H⟩ := H
            replace H : ((truchmanref08_Status.f k1 (rd y126 x4_1)).bind fun t132 => (if t131 = t132 then ((codes_Code.f (rd y126 x4_1)).bind fun t133 => ((truchmanref08_Code.f k1 (rd y126 x4_1)).bind fun t134 => (if t133 = t134 then ((codes_Text.f (rd y126 x4_1)).bind fun t135 => ((truchmanref08_Text.f k1 (rd y126 x4_1)).bind fun t136 => (if t135.toList = t136.toList then (truchmanlaw08_CodesOf.l0 k1 y126 (wrap64 (x4_1 + 1))) else (some false)))) else (some false)))) else (some false))) = some r := H
            have A8 := Aside0.mk A80
            clear A80
            replace H := Option.bind_eq_some_iff.mp H
            obtain ⟨t132, A90, H⟩ := H
            replace H : (if t131 = t132 then ((codes_Code.f (rd y126 x4_1)).bind fun t133 => ((truchmanref08_Code.f k1 (rd y126 x4_1)).bind fun t134 => (if t133 = t134 then ((codes_Text.f (rd y126 x4_1)).bind fun t135 => ((truchmanref08_Text.f k1 (rd y126 x4_1)).bind fun t136 => (if t135.toList = t136.toList then (truchmanlaw08_CodesOf.l0 k1 y126 (wrap64 (x4_1 + 1))) else (some false)))) else (some false)))) else (some false)) = some r := H
            have A9 := Aside0.mk A90
            clear A90
            by_cases c10 : t131 = t132
            · rw [if_pos c10] at H
              have c10b0 : (t131 == t132) = true := beq_iff_eq.mpr c10
              have c10b1 : (t131 != t132) = false := bne_eq_false_iff_eq.mpr c10
              clear c10
              replace H := Option.bind_eq_some_iff.mp H
              obtain ⟨t133, A110, H⟩ := H
              replace H : ((truchmanref08_Code.f k1 (rd y126 x4_1)).bind fun t134 => (if t133 = t134 then ((codes_Text.f (rd y126 x4_1)).bind fun t135 => ((truchmanref08_Text.f k1 (rd y126 x4_1)).bind fun t136 => (if t135.toList = t136.toList then (truchmanlaw08_CodesOf.l0 k1 y126 (wrap64 (x4_1 + 1))) else (some false)))) else (some false))) = some r := H
              have A11 := Aside0.mk A110
              clear A110
              replace H := Option.bind_eq_some_iff.mp H
              obtain ⟨t134, A120, H⟩ := H
              replace H : (if t133 = t134 then ((codes_Text.f (rd y126 x4_1)).bind fun t135 => ((truchmanref08_Text.f k1 (rd y126 x4_1)).bind fun t136 => (if t135.toList = t136.toList then (truchmanlaw08_CodesOf.l0 k1 y126 (wrap64 (x4_1 + 1))) else (some false)))) else (some false)) = some r := H
              have A12 := Aside0.mk A120
              clear A120
              by_cases c13 : t133 = t134
              · rw [if_pos c13] at H
                have c13b0 : (t133 == t134) = true := beq_iff_eq.mpr c13
                have c13b1 : (t133 != t134) = false := bne_eq_false_iff_eq.mpr c13
                clear c13
                replace H := Option.bind_eq_some_iff.mp H
                obtain ⟨t135, A140, H⟩ := H
                replace H : ((truchmanref08_Text.f k1 (rd y126 x4_1)).bind fun t136 => (if t135.toList = t136.toList then (truchmanlaw08_CodesOf.l0 k1 y126 (wrap64 (x4_1 + 1))) else (some false))) = some r := H
                have A14 := Aside0.mk A140
                clear A140
                replace H := Option.bind_eq_some_iff.mp H
                obtain ⟨t136, A150, H⟩ := H
                replace H : (if t135.toList = t136.toList then (truchmanlaw08_CodesOf.l0 k1 y126 (wrap64 (x4_1 + 1))) else (some false)) = some r := H
                have A15 := Aside0.mk A150
                clear A150
                by_cases c16 : t135.toList = t136.toList
                · rw [if_pos c16] at H
                  have c16b0 : (t135.toList == t136.toList) = true := beq_iff_eq.mpr c16
                  have c16b1 : (t135.toList != t136.toList) = false := bne_eq_false_iff_eq.mpr c16
                  clear c16
                  have H' := Aside0.mk H
                  clear H
                  obtain ⟨Ao17, co17, eo17⟩ := Kd.R_slice HO_3.out
                  subst eo17
                  have p130 : 0 ≤ (x4_1 : Int) := of_decide_eq_true (by first | (with_reducible assumption) | assumption)
                  have q130 : x4_1 < (y126.length : Int) := of_decide_eq_true (by first | (with_reducible assumption) | assumption)
                  obtain ⟨ad130, e130, hx130_0⟩ := Kd.at_int (Kd.R_reads' HO_3.out).2.2 x4_1 p130 q130
                  cases e130
                  replace p130 := eq_true p130
                  replace q130 := eq_true q130
                  go_wp2_with (first | ((with_reducible refine gate_callee (f := 9) rfl ?_); refine goesL_ (some 20) rfl rfl Tryd.func9 (by kernel_rfl) rfl #[.int .i64 (rd y126 x4_1)] rfl (by (try simp only [List.map_toArray, List.map_cons, List.map_nil]); first | done | rfl | (simp only [List.length_drop, List.length_take]; rfl)) ?_; (with_reducible refine (codes_Status.calls (rd y126 x4_1) t131 _ ⟨G.Tab_at HT.out (by repeat (first | (with_reducible first | exact HB.out | apply below_alloc | apply pw_below_drewN | apply below_drew1) | exact HB.out))⟩ A8.out).mono ?_); rintro e w18 ⟨rfl, hb⟩; refine ⟨_, rfl, ?_⟩; have n0_ := Aside0.mk (Kd.R_below (by (with_reducible repeat (first | apply Kd.R_alloc | apply Kd.R_drewN | apply Kd.R_drew)); exact HO_3.out) hb); have n1_ := Aside0.mk (below_step (by repeat (first | (with_reducible first | exact HB.out | apply below_alloc | apply pw_below_drewN | apply below_drew1) | exact HB.out)) hb); clear HO_3; clear HB; have HO_3 := n0_; have HB := n1_; clear n0_ n1_; (try clear hb); (try clear hb2); (try clear hk); (try clear hi)) | ((with_reducible refine gate_callee (f := 10) rfl ?_); refine goesL_ (some 22) rfl rfl Tryd.func10 (by kernel_rfl) rfl #[.int .i64 (rd y126 x4_1)] rfl (by (try simp only [List.map_toArray, List.map_cons, List.map_nil]); first | done | rfl | (simp only [List.length_drop, List.length_take]; rfl)) ?_; (with_reducible refine (truchmanref08_Status.calls k1 (rd y126 x4_1) t132 _ A9.out).mono ?_); rintro e w19 ⟨rfl, hb⟩; refine ⟨_, rfl, ?_⟩; have n0_ := Aside0.mk (Kd.R_below (by (with_reducible repeat (first | apply Kd.R_alloc | apply Kd.R_drewN | apply Kd.R_drew)); exact HO_3.out) hb); have n1_ := Aside0.mk (below_step (by repeat (first | (with_reducible first | exact HB.out | apply below_alloc | apply pw_below_drewN | apply below_drew1) | exact HB.out)) hb); clear HO_3; clear HB; have HO_3 := n0_; have HB := n1_; clear n0_ n1_; (try clear hb); (try clear hb2); (try clear hk); (try clear hi)) | (go_at_call 11; (with_reducible refine (codes_Code.calls (rd y126 x4_1) t133 _ ⟨G.Tab_at HT.out (by repeat (first | (with_reducible first | exact HB.out | apply below_alloc | apply pw_below_drewN | apply below_drew1) | exact HB.out))⟩ A11.out).mono ?_); rintro e w20 ⟨rfl, hb⟩; have n0_ := Aside0.mk (Kd.R_below (by (with_reducible repeat (first | apply Kd.R_alloc | apply Kd.R_drewN | apply Kd.R_drew)); exact HO_3.out) hb); have n1_ := Aside0.mk (below_step (by repeat (first | (with_reducible first | exact HB.out | apply below_alloc | apply pw_below_drewN | apply below_drew1) | exact HB.out)) hb); clear HO_3; clear HB; have HO_3 := n0_; have HB := n1_; clear n0_ n1_; (try clear hb); (try clear hb2); (try clear hk); (try clear hi)) | (go_at_call 12; (with_reducible refine (truchmanref08_Code.calls k1 (rd y126 x4_1) t134 _ A12.out).mono ?_); rintro e w21 ⟨rfl, hb⟩; have n0_ := Aside0.mk (Kd.R_below (by (with_reducible repeat (first | apply Kd.R_alloc | apply Kd.R_drewN | apply Kd.R_drew)); exact HO_3.out) hb); have n1_ := Aside0.mk (below_step (by repeat (first | (with_reducible first | exact HB.out | apply below_alloc | apply pw_below_drewN | apply below_drew1) | exact HB.out)) hb); clear HO_3; clear HB; have HO_3 := n0_; have HB := n1_; clear n0_ n1_; (try clear hb); (try clear hb2); (try clear hk); (try clear hi)) | (go_at_call 13; (with_reducible refine (codes_Text.calls (rd y126 x4_1) t135 _ ⟨G.Tab_at HT.out (by repeat (first | (with_reducible first | exact HB.out | apply below_alloc | apply pw_below_drewN | apply below_drew1) | exact HB.out))⟩ A14.out).mono ?_); rintro e w22 ⟨rfl, hb⟩; have n0_ := Aside0.mk (Kd.R_below (by (with_reducible repeat (first | apply Kd.R_alloc | apply Kd.R_drewN | apply Kd.R_drew)); exact HO_3.out) hb); have n1_ := Aside0.mk (below_step (by repeat (first | (with_reducible first | exact HB.out | apply below_alloc | apply pw_below_drewN | apply below_drew1) | exact HB.out)) hb); clear HO_3; clear HB; have HO_3 := n0_; have HB := n1_; clear n0_ n1_; (try clear hb); (try clear hb2); (try clear hk); (try clear hi)) | (go_at_call 14; (with_reducible refine (truchmanref08_Text.calls k1 (rd y126 x4_1) t136 _ A15.out).mono ?_); rintro e w23 ⟨rfl, hb⟩; have n0_ := Aside0.mk (Kd.R_below (by (with_reducible repeat (first | apply Kd.R_alloc | apply Kd.R_drewN | apply Kd.R_drew)); exact HO_3.out) hb); have n1_ := Aside0.mk (below_step (by repeat (first | (with_reducible first | exact HB.out | apply below_alloc | apply pw_below_drewN | apply below_drew1) | exact HB.out)) hb); clear HO_3; clear HB; have HO_3 := n0_; have HB := n1_; clear n0_ n1_; (try clear hb); (try clear hb2); (try clear hk); (try clear hi)))
                  go_roundg k1
                  case measure => have := HK1.out; omega
                  case rel => exact ⟨(wrap64 (x4_1 + 1)), (by first | rfl | (simp; done) | (simp [*]; done)), H', ⟨by have := HK1.out; omega⟩, ⟨by (with_reducible repeat (first | apply Kd.R_alloc | apply Kd.R_drewN | apply Kd.R_drew)); exact HO_3.out⟩, ⟨by repeat (first | (with_reducible first | exact HB.out | apply below_alloc | apply pw_below_drewN | apply below_drew1) | exact HB.out)⟩⟩
                · rw [if_neg c16] at H
                  have c16b0 : (t135.toList == t136.toList) = false := beq_eq_false_iff_ne.mpr c16
                  have c16b1 : (t135.toList != t136.toList) = true := bne_iff_ne.mpr c16
                  obtain rfl := Option.some.inj H
                  exact absurd hrt.out (by decide)
              · rw [if_neg c13] at H
                have c13b0 : (t133 == t134) = false := beq_eq_false_iff_ne.mpr c13
                have c13b1 : (t133 != t134) = true := bne_iff_ne.mpr c13
                obtain rfl := Option.some.inj H
                exact absurd hrt.out (by decide)
            · rw [if_neg c10] at H
              have c10b0 : (t131 == t132) = false := beq_eq_false_iff_ne.mpr c10
              have c10b1 : (t131 != t132) = true := bne_iff_ne.mpr c10
              obtain rfl := Option.some.inj H
              exact absurd hrt.out (by decide)
          · rw [if_neg c7] at H
            exact absurd H (by simp)
        · rw [if_neg c6] at H
          exact absurd H (by simp)
      · rw [if_neg c5] at H
        have c5b0 : decide (x4_1 < 2) = false := decide_eq_false c5
        clear c5
        replace H := Option.bind_eq_some_iff.mp H
        obtain ⟨t129, A240, H⟩ := H
        replace H : (some t129) = some r := H
        have A24 := Aside0.mk A240
        clear A240
        obtain rfl := Option.some.inj H
        go_wp2_with (first | ((with_reducible refine gate_callee (f := 15) rfl ?_); refine goesL_ (some 38) rfl rfl Tryd.func15 (by kernel_rfl) rfl #[] rfl (by (try simp only [List.map_toArray, List.map_cons, List.map_nil]); first | done | rfl | (simp only [List.length_drop, List.length_take]; rfl)) ?_; (with_reducible refine (truchmanlaw08_lives.calls  t129 _ ⟨G.Tab_at HT.out (by repeat (first | (with_reducible first | exact HB.out | apply below_alloc | apply pw_below_drewN | apply below_drew1) | exact HB.out))⟩ A24.out).mono ?_); rintro e w25 ⟨rfl, hb⟩; refine ⟨_, rfl, ?_⟩; have n0_ := Aside0.mk (Kd.R_below (by (with_reducible repeat (first | apply Kd.R_alloc | apply Kd.R_drewN | apply Kd.R_drew)); exact HO_3.out) hb); have n1_ := Aside0.mk (below_step (by repeat (first | (with_reducible first | exact HB.out | apply below_alloc | apply pw_below_drewN | apply below_drew1) | exact HB.out)) hb); clear HO_3; clear HB; have HO_3 := n0_; have HB := n1_; clear n0_ n1_; (try clear hb); (try clear hb2); (try clear hk); (try clear hi)))
        go_ret
        exact ⟨by first | rfl | (simp [errW_none, errW_some] <;> rfl) | (simp [*, errW_none, errW_some] <;> rfl), by repeat (first | (with_reducible first | exact HB.out | apply below_alloc | apply pw_below_drewN | apply below_drew1) | exact HB.out)⟩

/-- THE ONE PURE STATEMENT of truchmanlaw08_CodesOf: yours. -/
def truchmanlaw08_CodesOf.Pure : Prop := ∀ (a0 : Int), (Lit.int .i64 a0).wf = true → ∃ k, truchmanlaw08_CodesOf.f k a0 = some true
theorem truchmanlaw08_CodesOf.walk (P : truchmanlaw08_CodesOf.Pure) (a0 : Int) (w : World) (HT : Aside0 (G.Tab w)) (w0 : (Lit.int .i64 a0).wf = true) :
    Calls Tryd.prog 3 #[.int .i64 a0] w fun e w' => e = .returned (.bool true) ∧ Below w.heap.size w w' := by
  obtain ⟨k, h⟩ := P a0 w0
  refine (truchmanlaw08_CodesOf.calls k a0 true w HT ⟨rfl⟩ h).mono ?_
  rintro e w' ⟨rfl, hd⟩
  exact ⟨rfl, hd⟩

/-! ### truchmanref08_FromStatus: function 17 -/
def truchmanref08_FromStatus.l0 : Nat → Int → List Int → Int → Option (Int)
  | 0, _, _, _ => none
  | k + 1, x0, x3, x4 => if x4 < (x3.length : Int) then (if 0 ≤ x4 then (if (rd x3 x4) = x0 then ((truchmanref08_All.f).bind fun t141 => (if x4 < (t141.length : Int) then (some (rd t141 x4)) else (none))) else (truchmanref08_FromStatus.l0 k x0 x3 (wrap64 (x4 + 1)))) else (none)) else (some 21)
def truchmanref08_FromStatus.f (k : Nat) (a0 : Int) : Option (Int) := (truchmanref08_Statuses.f).bind fun t137 => (truchmanref08_FromStatus.l0 k a0 t137 0)
theorem truchmanref08_FromStatus.mono_l : ∀ k, (∀ y0 y1 y2, LeO (truchmanref08_FromStatus.l0 k y0 y1 y2) (truchmanref08_FromStatus.l0 (k + 1) y0 y1 y2))
  | 0 => fun _ _ _ r h => by simp [truchmanref08_FromStatus.l0] at h
  | k + 1 => by
    have ih0 := truchmanref08_FromStatus.mono_l k
    · intro y0 y1 y2
      unfold truchmanref08_FromStatus.l0
      repeat' first
      | (with_reducible exact ih0 _ _ _)
      | (with_reducible exact LeO.refl _)
      | (with_reducible exact LeO.none _)
      | (with_reducible refine LeO.ite ?_ ?_)
      | (with_reducible refine LeO.bind ?_ (fun _ => ?_))
      | exact ih0 _ _ _
      | exact LeO.none _
      | refine LeO.ite ?_ ?_
      | refine LeO.bind ?_ (fun _ => ?_)
theorem truchmanref08_FromStatus.mono : ∀ a0 k, LeO (truchmanref08_FromStatus.f k a0) (truchmanref08_FromStatus.f (k + 1) a0) := by
  intro a0 k
  have ih0 := truchmanref08_FromStatus.mono_l k
  unfold truchmanref08_FromStatus.f
  repeat' first
      | (with_reducible exact ih0 _ _ _)
      | (with_reducible exact LeO.refl _)
      | (with_reducible exact LeO.none _)
      | (with_reducible refine LeO.ite ?_ ?_)
      | (with_reducible refine LeO.bind ?_ (fun _ => ?_))
      | exact ih0 _ _ _
      | exact LeO.none _
      | refine LeO.ite ?_ ?_
      | refine LeO.bind ?_ (fun _ => ?_)
set_option maxHeartbeats 8000000 in
set_option maxRecDepth 100000 in
theorem truchmanref08_FromStatus.calls (k : Nat) (a0 : Int) (r : Int) (w : World) (h : truchmanref08_FromStatus.f k a0 = some r) :
    Calls Tryd.prog 17 #[.int .u32 a0] w fun e w' => e = .returned (.int .i64 r) ∧ Below w.heap.size w w' := by
  have HB := Aside0.mk (Below.refl w.heap.size w)
  have H : ((truchmanref08_Statuses.f).bind fun t137 => (truchmanref08_FromStatus.l0 k a0 t137 0)) = some r := h
  clear h
  replace H := Option.bind_eq_some_iff.mp H
  obtain ⟨t137, A20, H⟩ := H
  replace H : (truchmanref08_FromStatus.l0 k a0 t137 0) = some r := H
  have A2 := Aside0.mk A20
  clear A20
  have H' := Aside0.mk H
  clear H
  go_enter Tryd.func17, Tryd.ntmps17
  go_wp2_with (first | ((with_reducible refine gate_callee (f := 23) rfl ?_); refine goesL_ (some 5) rfl rfl Tryd.func23 (by kernel_rfl) rfl #[] rfl (by (try simp only [List.map_toArray, List.map_cons, List.map_nil]); first | done | rfl | (simp only [List.length_drop, List.length_take]; rfl)) ?_; (with_reducible refine (truchmanref08_Statuses.calls  t137 _ A2.out).mono ?_); rintro e w3 ⟨v138, rfl, ho0, hb⟩; refine ⟨_, rfl, ?_⟩; have n0_ := Aside0.mk (Kd.R_lower ho0 (below_size (by repeat (first | (with_reducible first | exact HB.out | apply below_alloc | apply pw_below_drewN | apply below_drew1) | exact HB.out)))); have n1_ := Aside0.mk (below_step (by repeat (first | (with_reducible first | exact HB.out | apply below_alloc | apply pw_below_drewN | apply below_drew1) | exact HB.out)) hb); clear HB; have HO139 := n0_; have HB := n1_; clear n0_ n1_; (try clear hb); (try clear hb2); (try clear hk); (try clear hi); (try clear ho0)))
  go_loopg [4] k (fun kq v4 w' => ∃ (x4_1 : Int), v4 = .int .i64 x4_1 ∧ Aside0 (truchmanref08_FromStatus.l0 kq a0 t137 x4_1 = some r) ∧ Aside0 (kq ≤ k) ∧ Aside0 (Kd.R (Kd.int .u32) 25 w' w.heap.size (fun _ => True) v138 t137) ∧ Aside0 (Below w.heap.size w w'))
  case atStart => exact ⟨(0), (by first | rfl | (simp; done) | (simp [*]; done)), H', ⟨Nat.le_refl _⟩, ⟨by (with_reducible repeat (first | apply Kd.R_alloc | apply Kd.R_drewN | apply Kd.R_drew)); exact HO139.out⟩, ⟨by repeat (first | (with_reducible first | exact HB.out | apply below_alloc | apply pw_below_drewN | apply below_drew1) | exact HB.out)⟩⟩
  case round =>
    clear H'
    try clear c1
    try clear c2
    try clear p2
    obtain ⟨x4_1, rfl, HA, HK1, HO_3, HB⟩ := hrel
    cases gk with
    | zero => exact absurd HA.out (by simp [truchmanref08_FromStatus.l0])
    | succ k1 =>
      have H := HA.out
      clear HA
      simp only [truchmanref08_FromStatus.l0] at H
      by_cases c4 : x4_1 < (t137.length : Int)
      · rw [if_pos c4] at H
        have c4b0 : decide (x4_1 < (t137.length : Int)) = true := decide_eq_true c4
        clear c4
        by_cases c5 : 0 ≤ x4_1
        · rw [if_pos c5] at H
          have c5b0 : decide (0 ≤ x4_1) = true := decide_eq_true c5
          clear c5
          by_cases c6 : (rd t137 x4_1) = a0
          · rw [if_pos c6] at H
            have c6b0 : ((rd t137 x4_1) == a0) = true := beq_iff_eq.mpr c6
            have c6b1 : ((rd t137 x4_1) != a0) = false := bne_eq_false_iff_eq.mpr c6
            clear c6
            replace H := Option.bind_eq_some_iff.mp H
            obtain ⟨t141, A70, H⟩ := H
            replace H : (if x4_1 < (t141.length : Int) then (some (rd t141 x4_1)) else (none)) = some r := H
            have A7 := Aside0.mk A70
            clear A70
            by_cases c8 : x4_1 < (t141.length : Int)
            · rw [if_pos c8] at H
              have c8b0 : decide (x4_1 < (t141.length : Int)) = true := decide_eq_true c8
              clear c8
              obtain rfl := Option.some.inj H
              obtain ⟨Ao9, co9, eo9⟩ := Kd.R_slice HO_3.out
              subst eo9
              have p140 : 0 ≤ (x4_1 : Int) := of_decide_eq_true (by first | (with_reducible assumption) | assumption)
              have q140 : x4_1 < (t137.length : Int) := of_decide_eq_true (by first | (with_reducible assumption) | assumption)
              obtain ⟨ad140, e140, hx140_0⟩ := Kd.at_int (Kd.R_reads' HO_3.out).2.2 x4_1 p140 q140
              cases e140
              replace p140 := eq_true p140
              replace q140 := eq_true q140
              go_wp2_with (first | ((with_reducible refine gate_callee (f := 21) rfl ?_); refine goesL_ (some 18) rfl rfl Tryd.func21 (by kernel_rfl) rfl #[] rfl (by (try simp only [List.map_toArray, List.map_cons, List.map_nil]); first | done | rfl | (simp only [List.length_drop, List.length_take]; rfl)) ?_; (with_reducible refine (truchmanref08_All.calls  t141 _ A7.out).mono ?_); rintro e w10 ⟨v142, rfl, ho0, hb⟩; refine ⟨_, rfl, ?_⟩; have n0_ := Aside0.mk (Kd.R_below (by (with_reducible repeat (first | apply Kd.R_alloc | apply Kd.R_drewN | apply Kd.R_drew)); exact HO_3.out) hb); have n1_ := Aside0.mk (Kd.R_lower ho0 (below_size (by repeat (first | (with_reducible first | exact HB.out | apply below_alloc | apply pw_below_drewN | apply below_drew1) | exact HB.out)))); have n2_ := Aside0.mk (below_step (by repeat (first | (with_reducible first | exact HB.out | apply below_alloc | apply pw_below_drewN | apply below_drew1) | exact HB.out)) hb); clear HO_3; clear HB; have HO_3 := n0_; have HO143 := n1_; have HB := n2_; clear n0_ n1_ n2_; (try clear hb); (try clear hb2); (try clear hk); (try clear hi); (try clear ho0); obtain ⟨Ao11, co11, eo11⟩ := Kd.R_slice HO143.out; subst eo11; have p144 : 0 ≤ (x4_1 : Int) := of_decide_eq_true (by first | (with_reducible assumption) | assumption); have q144 : x4_1 < (t141.length : Int) := of_decide_eq_true (by first | (with_reducible assumption) | assumption); obtain ⟨ad144, e144, hx144_0⟩ := Kd.at_int (Kd.R_reads' HO143.out).2.2 x4_1 p144 q144; cases e144; replace p144 := eq_true p144; replace q144 := eq_true q144))
              go_ret
              exact ⟨by first | rfl | (simp [errW_none, errW_some] <;> rfl) | (simp [*, errW_none, errW_some] <;> rfl), by repeat (first | (with_reducible first | exact HB.out | apply below_alloc | apply pw_below_drewN | apply below_drew1) | exact HB.out)⟩
            · rw [if_neg c8] at H
              exact absurd H (by simp)
          · rw [if_neg c6] at H
            have c6b0 : ((rd t137 x4_1) == a0) = false := beq_eq_false_iff_ne.mpr c6
            have c6b1 : ((rd t137 x4_1) != a0) = true := bne_iff_ne.mpr c6
            have H' := Aside0.mk H
            clear H
            obtain ⟨Ao12, co12, eo12⟩ := Kd.R_slice HO_3.out
            subst eo12
            have p140 : 0 ≤ (x4_1 : Int) := of_decide_eq_true (by first | (with_reducible assumption) | assumption)
            have q140 : x4_1 < (t137.length : Int) := of_decide_eq_true (by first | (with_reducible assumption) | assumption)
            obtain ⟨ad140, e140, hx140_0⟩ := Kd.at_int (Kd.R_reads' HO_3.out).2.2 x4_1 p140 q140
            cases e140
            replace p140 := eq_true p140
            replace q140 := eq_true q140
            go_wp2
            go_roundg k1
            case measure => have := HK1.out; omega
            case rel => exact ⟨(wrap64 (x4_1 + 1)), (by first | rfl | (simp; done) | (simp [*]; done)), H', ⟨by have := HK1.out; omega⟩, ⟨by (with_reducible repeat (first | apply Kd.R_alloc | apply Kd.R_drewN | apply Kd.R_drew)); exact HO_3.out⟩, ⟨by repeat (first | (with_reducible first | exact HB.out | apply below_alloc | apply pw_below_drewN | apply below_drew1) | exact HB.out)⟩⟩
        · rw [if_neg c5] at H
          exact absurd H (by simp)
      · rw [if_neg c4] at H
        have c4b0 : decide (x4_1 < (t137.length : Int)) = false := decide_eq_false c4
        clear c4
        obtain rfl := Option.some.inj H
        obtain ⟨Ao13, co13, eo13⟩ := Kd.R_slice HO_3.out
        subst eo13
        go_wp2
        go_ret
        exact ⟨by first | rfl | (simp [errW_none, errW_some] <;> rfl) | (simp [*, errW_none, errW_some] <;> rfl), by repeat (first | (with_reducible first | exact HB.out | apply below_alloc | apply pw_below_drewN | apply below_drew1) | exact HB.out)⟩

/-! ### codes_FromCode: function 18 -/
def codes_FromCode.f (a0 : Int) : Option (Int) := some (G.fromCode a0)
theorem codes_FromCode.calls (a0 : Int) (r : Int) (w : World) (HT : Aside0 (G.Tab w)) (h : codes_FromCode.f a0 = some r) :
    Calls Tryd.prog 18 #[.int .i64 a0] w fun e w' => e = .returned (.int .i64 r) ∧ Below w.heap.size w w' := by
  obtain rfl := Option.some.inj h
  exact G.FromCode_calls a0 w HT.out

/-! ### truchmanref08_FromCode: function 19 -/
def truchmanref08_FromCode.f (a0 : Int) : Option (Int) := if a0 < 0 then (some 21) else (if a0 > 18 then (some 21) else ((truchmanref08_All.f).bind fun t145 => (if 0 ≤ a0 then (if a0 < (t145.length : Int) then (some (rd t145 a0)) else (none)) else (none))))
set_option maxHeartbeats 8000000 in
set_option maxRecDepth 100000 in
theorem truchmanref08_FromCode.calls (a0 : Int) (r : Int) (w : World) (h : truchmanref08_FromCode.f a0 = some r) :
    Calls Tryd.prog 19 #[.int .i64 a0] w fun e w' => e = .returned (.int .i64 r) ∧ Below w.heap.size w w' := by
  have HB := Aside0.mk (Below.refl w.heap.size w)
  have H : (if a0 < 0 then (some 21) else (if a0 > 18 then (some 21) else ((truchmanref08_All.f).bind fun t145 => (if 0 ≤ a0 then (if a0 < (t145.length : Int) then (some (rd t145 a0)) else (none)) else (none))))) = some r := h
  clear h
  by_cases c2 : a0 < 0
  · rw [if_pos c2] at H
    have c2b0 : decide (a0 < 0) = true := decide_eq_true c2
    clear c2
    obtain rfl := Option.some.inj H
    go_enter Tryd.func19, Tryd.ntmps19
    go_wp2
    go_ret
    exact ⟨by first | rfl | (simp [errW_none, errW_some] <;> rfl) | (simp [*, errW_none, errW_some] <;> rfl), by repeat (first | (with_reducible first | exact HB.out | apply below_alloc | apply pw_below_drewN | apply below_drew1) | exact HB.out)⟩
  · rw [if_neg c2] at H
    have c2b0 : decide (a0 < 0) = false := decide_eq_false c2
    clear c2
    by_cases c3 : a0 > 18
    · rw [if_pos c3] at H
      have c3b0 : decide (18 < a0) = true := decide_eq_true c3
      clear c3
      obtain rfl := Option.some.inj H
      go_enter Tryd.func19, Tryd.ntmps19
      go_wp2
      go_ret
      exact ⟨by first | rfl | (simp [errW_none, errW_some] <;> rfl) | (simp [*, errW_none, errW_some] <;> rfl), by repeat (first | (with_reducible first | exact HB.out | apply below_alloc | apply pw_below_drewN | apply below_drew1) | exact HB.out)⟩
    · rw [if_neg c3] at H
      have c3b0 : decide (18 < a0) = false := decide_eq_false c3
      clear c3
      replace H := Option.bind_eq_some_iff.mp H
      obtain ⟨t145, A40, H⟩ := H
      replace H : (if 0 ≤ a0 then (if a0 < (t145.length : Int) then (some (rd t145 a0)) else (none)) else (none)) = some r := H
      have A4 := Aside0.mk A40
      clear A40
      by_cases c5 : 0 ≤ a0
      · rw [if_pos c5] at H
        have c5b0 : decide (0 ≤ a0) = true := decide_eq_true c5
        clear c5
        by_cases c6 : a0 < (t145.length : Int)
        · rw [if_pos c6] at H
          have c6b0 : decide (a0 < (t145.length : Int)) = true := decide_eq_true c6
          clear c6
          obtain rfl := Option.some.inj H
          go_enter Tryd.func19, Tryd.ntmps19
          go_wp2_with (first | ((with_reducible refine gate_callee (f := 21) rfl ?_); refine goesL_ (some 9) rfl rfl Tryd.func21 (by kernel_rfl) rfl #[] rfl (by (try simp only [List.map_toArray, List.map_cons, List.map_nil]); first | done | rfl | (simp only [List.length_drop, List.length_take]; rfl)) ?_; (with_reducible refine (truchmanref08_All.calls  t145 _ A4.out).mono ?_); rintro e w7 ⟨v146, rfl, ho0, hb⟩; refine ⟨_, rfl, ?_⟩; have n0_ := Aside0.mk (Kd.R_lower ho0 (below_size (by repeat (first | (with_reducible first | exact HB.out | apply below_alloc | apply pw_below_drewN | apply below_drew1) | exact HB.out)))); have n1_ := Aside0.mk (below_step (by repeat (first | (with_reducible first | exact HB.out | apply below_alloc | apply pw_below_drewN | apply below_drew1) | exact HB.out)) hb); clear HB; have HO147 := n0_; have HB := n1_; clear n0_ n1_; (try clear hb); (try clear hb2); (try clear hk); (try clear hi); (try clear ho0); obtain ⟨Ao8, co8, eo8⟩ := Kd.R_slice HO147.out; subst eo8; have p148 : 0 ≤ (a0 : Int) := of_decide_eq_true (by first | (with_reducible assumption) | assumption); have q148 : a0 < (t145.length : Int) := of_decide_eq_true (by first | (with_reducible assumption) | assumption); obtain ⟨ad148, e148, hx148_0⟩ := Kd.at_int (Kd.R_reads' HO147.out).2.2 a0 p148 q148; cases e148; replace p148 := eq_true p148; replace q148 := eq_true q148))
          go_ret
          exact ⟨by first | rfl | (simp [errW_none, errW_some] <;> rfl) | (simp [*, errW_none, errW_some] <;> rfl), by repeat (first | (with_reducible first | exact HB.out | apply below_alloc | apply pw_below_drewN | apply below_drew1) | exact HB.out)⟩
        · rw [if_neg c6] at H
          exact absurd H (by simp)
      · rw [if_neg c5] at H
        exact absurd H (by simp)

end Go.Proofs.YtemadfllannljaaDoor.P
