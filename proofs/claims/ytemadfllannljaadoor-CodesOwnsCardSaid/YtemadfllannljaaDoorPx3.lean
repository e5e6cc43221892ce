-- Written by a program of this session (wip/tools), over the kit's printer; Lean checks it.
import Derived.Test.YtemadfllannljaaDoorPx0
import Derived.Test.YtemadfllannljaaDoorPx1
import Derived.Test.YtemadfllannljaaDoorPx2
namespace Go.Proofs.YtemadfllannljaaDoor.P
open Go.RowKit Go.Proofs.YtemadfllannljaaDoorW.PrintWords Go.Proofs.YtemadfllannljaaDoorW.PrintLast Go.Proofs.YtemadfllannljaaDoorW.PrintMore
attribute [local go_sem] max2_int min2_int max_two min_two max_three min_three max_four min_four   -- for this text's walks alone
set_option linter.unusedVariables false
set_option linter.unusedSimpArgs false

/-! ### truchmanlaw08_CodesRound: function 7 -/
def truchmanlaw08_CodesRound.l0 : Nat → Int → Int → List Int → List Int → Int → Option (Bool)
  | 0, _, _, _, _, _ => none
  | k + 1, x0, x1, x5, x6, x7 => if x7 < (x6.length : Int) then (if 0 ≤ x7 then (if x7 < (x5.length : Int) then (if (rd x5 x7) = (rd x6 x7) then ((codes_Code.f (rd x5 x7)).bind fun t177 => (if t177 = x7 then (truchmanlaw08_CodesRound.l0 k x0 x1 x5 x6 (wrap64 (x7 + 1))) else (some false))) else (some false)) else (none)) else (none)) else ((truchmanref01_Around.f x0 (x5.length : Int)).bind fun t178 => (if 0 ≤ t178 then (if t178 < (x5.length : Int) then ((truchmanref01_Around.f x1 (x5.length : Int)).bind fun t180 => (if 0 ≤ t180 then (if t180 < (x5.length : Int) then ((codes_Status.f (rd x5 t178)).bind fun t182 => ((codes_FromStatus.f t182).bind fun t183 => (if t183 = (rd x5 t178) then ((codes_Code.f (rd x5 t178)).bind fun t184 => ((codes_FromCode.f t184).bind fun t185 => (if t185 = (rd x5 t178) then ((codes_Text.f (rd x5 t178)).bind fun t186 => ((codes_Text.f (rd x5 t180)).bind fun t187 => (if ((t186.toList == t187.toList) == ((rd x5 t178) == (rd x5 t180))) = true then ((codes_Status.f (rd x5 t178)).bind fun t188 => ((codes_Status.f (rd x5 t180)).bind fun t189 => (if ((t188 == t189) == ((rd x5 t178) == (rd x5 t180))) = true then ((truchmanlaw08_lives.f).bind fun t190 => (some t190)) else (some false)))) else (some false)))) else (some false)))) else (some false)))) else (none)) else (none))) else (none)) else (none)))
def truchmanlaw08_CodesRound.f (k : Nat) (a0 : Int) (a1 : Int) : Option (Bool) := (codes_All.f).bind fun t168 => ((truchmanref08_All.f).bind fun t171 => (if (t168.length : Int) = (t171.length : Int) then (truchmanlaw08_CodesRound.l0 k a0 a1 t168 t171 0) else (some false)))
theorem truchmanlaw08_CodesRound.mono_l : ∀ k, (∀ y0 y1 y2 y3 y4, LeO (truchmanlaw08_CodesRound.l0 k y0 y1 y2 y3 y4) (truchmanlaw08_CodesRound.l0 (k + 1) y0 y1 y2 y3 y4))
  | 0 => fun _ _ _ _ _ r h => by simp [truchmanlaw08_CodesRound.l0] at h
  | k + 1 => by
    have ih0 := truchmanlaw08_CodesRound.mono_l k
    · intro y0 y1 y2 y3 y4
      unfold truchmanlaw08_CodesRound.l0
      repeat' first
      | (with_reducible exact ih0 _ _ _ _ _)
      | (with_reducible exact LeO.refl _)
      | (with_reducible exact LeO.none _)
      | (with_reducible refine LeO.ite ?_ ?_)
      | (with_reducible refine LeO.bind ?_ (fun _ => ?_))
      | exact ih0 _ _ _ _ _
      | exact LeO.none _
      | refine LeO.ite ?_ ?_
      | refine LeO.bind ?_ (fun _ => ?_)
theorem truchmanlaw08_CodesRound.mono : ∀ a0 a1 k, LeO (truchmanlaw08_CodesRound.f k a0 a1) (truchmanlaw08_CodesRound.f (k + 1) a0 a1) := by
  intro a0 a1 k
  have ih0 := truchmanlaw08_CodesRound.mono_l k
  unfold truchmanlaw08_CodesRound.f
  repeat' first
      | (with_reducible exact ih0 _ _ _ _ _)
      | (with_reducible exact LeO.refl _)
      | (with_reducible exact LeO.none _)
      | (with_reducible refine LeO.ite ?_ ?_)
      | (with_reducible refine LeO.bind ?_ (fun _ => ?_))
      | exact ih0 _ _ _ _ _
      | exact LeO.none _
      | refine LeO.ite ?_ ?_
      | refine LeO.bind ?_ (fun _ => ?_)
def truchmanlaw08_CodesRound.T8 : Bool × List (List Nat × List Nat) := (true, [([], []), ([], []), ([0, 1], [0, 1]), ([2], [2]), ([], []), ([], []), ([4, 5], [4, 5]), ([6], [6]), ([3, 7], [3, 7]), ([8], [8]), ([9], [9]), ([9], [9]), ([10, 11, 9], [9, 10, 11]), ([12, 9], [9, 12]), ([13, 9, 9], [9, 13]), ([9], [9]), ([14, 15, 9], [9, 14, 15]), ([9, 16], [9, 16])])
def truchmanlaw08_CodesRound.B8 : List Nat := [0, 0, 3, 7, 0, 0, 48, 112, 255, 511, 1023, 1023, 4095, 8191, 16383, 1023, 65535, 131071]
theorem truchmanlaw08_CodesRound.tab8 : rtab .any (opsOf Tryd.f7 8) = truchmanlaw08_CodesRound.T8 := by kernel_rfl
theorem truchmanlaw08_CodesRound.bits8 : waitsOk truchmanlaw08_CodesRound.T8.2 truchmanlaw08_CodesRound.B8 = true := by kernel_rfl
set_option maxHeartbeats 8000000 in
set_option maxRecDepth 100000 in
theorem truchmanlaw08_CodesRound.calls (k : Nat) (a0 : Int) (a1 : Int) (r : Bool) (w : World) (HT : Aside0 (G.Tab w)) (hrt : Aside0 (r = true)) (h : truchmanlaw08_CodesRound.f k a0 a1 = some r) :
    Calls Tryd.prog 7 #[.int .i64 a0, .int .i64 a1] w fun e w' => e = .returned (.bool r) ∧ Below w.heap.size w w' := by
  have HB := Aside0.mk (Below.refl w.heap.size w)
  have H : ((codes_All.f).bind fun t168 => ((truchmanref08_All.f).bind fun t171 => (if (t168.length : Int) = (t171.length : Int) then (truchmanlaw08_CodesRound.l0 k a0 a1 t168 t171 0) else (some false)))) = some r := h
  clear h
  replace H := Option.bind_eq_some_iff.mp H
  obtain ⟨t168, A30, H⟩ := H
  replace H : ((truchmanref08_All.f).bind fun t171 => (if (t168.length : Int) = (t171.length : Int) then (truchmanlaw08_CodesRound.l0 k a0 a1 t168 t171 0) else (some false))) = some r := H
  have A3 := Aside0.mk A30
  clear A30
  replace H := Option.bind_eq_some_iff.mp H
  obtain ⟨t171, A40, H⟩ := H
  replace H : (if (t168.length : Int) = (t171.length : Int) then (truchmanlaw08_CodesRound.l0 k a0 a1 t168 t171 0) else (some false)) = some r := H
  have A4 := Aside0.mk A40
  clear A40
  by_cases c5 : (t168.length : Int) = (t171.length : Int)
  · rw [if_pos c5] at H
    have c5b0 : ((t168.length : Int) == (t171.length : Int)) = true := beq_iff_eq.mpr c5
    have c5b1 : ((t168.length : Int) != (t171.length : Int)) = false := bne_eq_false_iff_eq.mpr c5
    have c5b2 : (t168.length == t171.length) = true := by first | simpa using c5 | (simp at c5 ⊢; omega)
    clear c5
    have H' := Aside0.mk H
    clear H
    go_enter Tryd.func7, Tryd.ntmps7
    go_wp2_with (first | ((with_reducible refine gate_callee (f := 20) rfl ?_); refine goesL_ (some 10) rfl rfl Tryd.func20 (by kernel_rfl) rfl #[] rfl (by (try simp only [List.map_toArray, List.map_cons, List.map_nil]); first | done | rfl | (simp only [List.length_drop, List.length_take]; rfl)) ?_; (with_reducible refine (codes_All.calls  t168 _ ⟨G.Tab_at HT.out (by repeat (first | (with_reducible first | exact HB.out | apply below_alloc | apply pw_below_drewN | apply below_drew1) | exact HB.out))⟩ A3.out).mono ?_); rintro e w6 ⟨v169, rfl, ho0, hb⟩; refine ⟨_, rfl, ?_⟩; have n0_ := Aside0.mk (Kd.V_lower (Kd.V_mono (ok' := fun k_ => True) ho0 (fun k_ hk_ => trivial)) (below_size (by repeat (first | (with_reducible first | exact HB.out | apply below_alloc | apply pw_below_drewN | apply below_drew1) | exact HB.out)))); have n1_ := Aside0.mk (below_step (by repeat (first | (with_reducible first | exact HB.out | apply below_alloc | apply pw_below_drewN | apply below_drew1) | exact HB.out)) hb); clear HB; have HO170 := n0_; have HB := n1_; clear n0_ n1_; (try clear hb); (try clear hb2); (try clear hk); (try clear hi); (try clear ho0)) | ((with_reducible refine gate_callee (f := 21) rfl ?_); refine goesL_ (some 11) rfl rfl Tryd.func21 (by kernel_rfl) rfl #[] rfl (by (try simp only [List.map_toArray, List.map_cons, List.map_nil]); first | done | rfl | (simp only [List.length_drop, List.length_take]; rfl)) ?_; (with_reducible refine (truchmanref08_All.calls  t171 _ A4.out).mono ?_); rintro e w7 ⟨v172, rfl, ho0, hb⟩; refine ⟨_, rfl, ?_⟩; have n0_ := Aside0.mk (Kd.V_elder' (by (with_reducible repeat (first | apply Kd.V_alloc | apply Kd.V_drewN | apply Kd.V_drew)); exact HO170.out) (Kd.R_base ho0) hb); have n1_ := Aside0.mk (Kd.R_lower ho0 (below_size (by repeat (first | (with_reducible first | exact HB.out | apply below_alloc | apply pw_below_drewN | apply below_drew1) | exact HB.out)))); have n2_ := Aside0.mk (below_step (by repeat (first | (with_reducible first | exact HB.out | apply below_alloc | apply pw_below_drewN | apply below_drew1) | exact HB.out)) hb); clear HO170; clear HB; have HO170 := n0_; have HO173 := n1_; have HB := n2_; clear n0_ n1_ n2_; (try clear hb); (try clear hb2); (try clear hk); (try clear hi); (try clear ho0); obtain ⟨Ao8, co8, eo8⟩ := Kd.V_slice HO170.out; subst eo8; obtain ⟨Ao9, co9, eo9⟩ := Kd.R_slice HO173.out; subst eo9))
    go_loopg [7] k (fun kq v7 w' => ∃ (x7_1 : Int), v7 = .int .i64 x7_1 ∧ Aside0 (truchmanlaw08_CodesRound.l0 kq a0 a1 t168 t171 x7_1 = some r) ∧ Aside0 (kq ≤ k) ∧ Aside0 (Kd.V (Kd.int .i64) 22 w' w.heap.size (fun k_ => some k_ ≠ ((.slice Ao9 t171.length co9) : Value).ownBlock) (.slice Ao8 t168.length co8) t168) ∧ Aside0 (Kd.R (Kd.int .i64) 22 w' w.heap.size (fun _ => True) (.slice Ao9 t171.length co9) t171) ∧ Aside0 (Below w.heap.size w w'))
    case atStart => exact ⟨(0), (by first | rfl | (simp; done) | (simp [*]; done)), H', ⟨Nat.le_refl _⟩, ⟨by (with_reducible repeat (first | apply Kd.V_alloc | apply Kd.V_drewN | apply Kd.V_drew)); exact Kd.V_mono HO170.out (fun _ hk => hk.2)⟩, ⟨by (with_reducible repeat (first | apply Kd.R_alloc | apply Kd.R_drewN | apply Kd.R_drew)); exact HO173.out⟩, ⟨by repeat (first | (with_reducible first | exact HB.out | apply below_alloc | apply pw_below_drewN | apply below_drew1) | exact HB.out)⟩⟩
    case round =>
      clear H'
      try clear c2
      try clear p2
      try clear c5
      try clear c5b0
      try clear c5b1
      try clear c5b2
      try clear c7
      obtain ⟨x7_1, rfl, HA, HK1, HO_5, HO_6, HB⟩ := hrel
      cases gk with
      | zero => exact absurd HA.out (by simp [truchmanlaw08_CodesRound.l0])
      | succ k1 =>
        have H := HA.out
        clear HA
        simp only [truchmanlaw08_CodesRound.l0] at H
        by_cases c10 : x7_1 < (t171.length : Int)
        · rw [if_pos c10] at H
          have c10b0 : decide (x7_1 < (t171.length : Int)) = true := decide_eq_true c10
          clear c10
          by_cases c11 : 0 ≤ x7_1
          · rw [if_pos c11] at H
            have c11b0 : decide (0 ≤ x7_1) = true := decide_eq_true c11
            clear c11
            by_cases c12 : x7_1 < (t168.length : Int)
            · rw [if_pos c12] at H
              have c12b0 : decide (x7_1 < (t168.length : Int)) = true := decide_eq_true c12
              clear c12
              by_cases c13 : (rd t168 x7_1) = (rd t171 x7_1)
              · rw [if_pos c13] at H
                have c13b0 : ((rd t168 x7_1) == (rd t171 x7_1)) = true := beq_iff_eq.mpr c13
                have c13b1 : ((rd t168 x7_1) != (rd t171 x7_1)) = false := bne_eq_false_iff_eq.mpr c13
                clear c13
                replace H := Option.bind_eq_some_iff.mp H
                obtain ⟨t177, A140, H⟩ := H
                replace H : (if t177 = x7_1 then (truchmanlaw08_CodesRound.l0 k1 a0 a1 t168 t171 (wrap64 (x7_1 + 1))) else (some false)) = some r := H
                have A14 := Aside0.mk A140
                clear A140
                by_cases c15 : t177 = x7_1
                · rw [if_pos c15] at H
                  have c15b0 : (t177 == x7_1) = true := beq_iff_eq.mpr c15
                  have c15b1 : (t177 != x7_1) = false := bne_eq_false_iff_eq.mpr c15
                  clear c15
                  have H' := Aside0.mk H
                  clear H
                  try go_wp2
                  have n0_ := Aside0.mk (Kd.V_drew HO_5.out)
                  have n1_ := Aside0.mk (Kd.R_drew HO_6.out)
                  have n2_ := Aside0.mk (below_drew1 HB.out)
                  clear HO_5
                  clear HO_6
                  clear HB
                  have HO_5 := n0_
                  have HO_6 := n1_
                  have HB := n2_
                  clear n0_ n1_ n2_
                  have p174 : 0 ≤ (x7_1 : Int) := of_decide_eq_true (by first | (with_reducible assumption) | assumption)
                  have q174 : x7_1 < (t168.length : Int) := of_decide_eq_true (by first | (with_reducible assumption) | assumption)
                  obtain ⟨ad174, e174, hx174_0⟩ := Kd.at_int (Kd.V_reads' HO_5.out).2.2 x7_1 p174 q174
                  cases e174
                  replace p174 := eq_true p174
                  replace q174 := eq_true q174
                  have p175 : 0 ≤ (x7_1 : Int) := of_decide_eq_true (by first | (with_reducible assumption) | assumption)
                  have q175 : x7_1 < (t171.length : Int) := of_decide_eq_true (by first | (with_reducible assumption) | assumption)
                  obtain ⟨ad175, e175, hx175_0⟩ := Kd.at_int (Kd.R_reads' HO_6.out).2.2 x7_1 p175 q175
                  cases e175
                  replace p175 := eq_true p175
                  replace q175 := eq_true q175
                  have p176 : 0 ≤ (x7_1 : Int) := of_decide_eq_true (by first | (with_reducible assumption) | assumption)
                  have q176 : x7_1 < (t168.length : Int) := of_decide_eq_true (by first | (with_reducible assumption) | assumption)
                  obtain ⟨ad176, e176, hx176_0⟩ := Kd.at_int (Kd.V_reads' HO_5.out).2.2 x7_1 p176 q176
                  obtain rfl : ad174 = ad176 := (by injection e176)
                  replace p176 := eq_true p176
                  replace q176 := eq_true q176
                  refine start_ (n := 18) (S := fun w' => w'.cell? (ad174.add (x7_1).toNat) = some (.int .i64 (rd t168 x7_1)) ∧ w'.cell? (ad175.add (x7_1).toNat) = some (.int .i64 (rd t171 x7_1)) ∧ w'.cell? (ad174.add (x7_1).toNat) = some (.int .i64 (rd t168 x7_1))) (ds := []) #[false, false, false, false, false, false, false, false, false, false, false, false, false, false, false, false, false, false] (by kernel_rfl) rfl rfl ⟨hx174_0, hx175_0, hx176_0⟩ (fun hHeld => ?_); refine with_tabW truchmanlaw08_CodesRound.tab8 truchmanlaw08_CodesRound.bits8 (fun HT_ HW_ => ?_)
                  generalize wr.drew = w16 at HO_5 HO_6 HB hx174_0 hx175_0 hx176_0 hHeld ⊢
                  refine pure_ (i := 0) (N := some 23) (v := ?_) (a' := ?_) #[true, false, false, false, false, false, false, false, false, false, false, false, false, false, false, false, false, false] rfl rfl (any_of HT_.out (by kernel_rfl)) (fun _ _ _ h => h) (Or.inl ⟨by rfl, ?_⟩) ?_ ?_
                  rotate_left
                  · intro w'
                    go_simp
                    with_reducible rfl
                  rotate_left
                  · simp only [Act.put, List.setIfInBounds_toArray, List.set_cons_zero, List.set_cons_succ, i64_w, i32_w]
                    rfl
                  refine pure_ (i := 1) (N := some 24) (v := ?_) (a' := ?_) #[true, true, false, false, false, false, false, false, false, false, false, false, false, false, false, false, false, false] rfl rfl (any_of HT_.out (by kernel_rfl)) (fun _ _ _ h => h) (Or.inl ⟨by rfl, ?_⟩) ?_ ?_
                  rotate_left
                  · intro w'
                    go_simp
                    with_reducible rfl
                  rotate_left
                  · simp only [Act.put, List.setIfInBounds_toArray, List.set_cons_zero, List.set_cons_succ, i64_w, i32_w]
                    rfl
                  refine pure_ (i := 2) (N := some 25) (v := ?_) (a' := ?_) #[true, true, true, false, false, false, false, false, false, false, false, false, false, false, false, false, false, false] rfl rfl (any_of HT_.out (by kernel_rfl)) (fun _ _ _ h => h) (Or.inl ⟨by rfl, ?_⟩) ?_ ?_
                  rotate_left
                  · intro w'
                    go_simp
                    with_reducible rfl
                  rotate_left
                  · simp only [Act.put, List.setIfInBounds_toArray, List.set_cons_zero, List.set_cons_succ, i64_w, i32_w]
                    rfl
                  refine pure_ (i := 4) (N := some 27) (v := ?_) (a' := ?_) #[true, true, true, false, true, false, false, false, false, false, false, false, false, false, false, false, false, false] rfl rfl (any_of HT_.out (by kernel_rfl)) (fun _ _ _ h => h) (Or.inl ⟨by rfl, ?_⟩) ?_ ?_
                  rotate_left
                  · intro w'
                    go_simp
                    with_reducible rfl
                  rotate_left
                  · simp only [Act.put, List.setIfInBounds_toArray, List.set_cons_zero, List.set_cons_succ, i64_w, i32_w]
                    rfl
                  refine pure_ (i := 5) (N := some 28) (v := ?_) (a' := ?_) #[true, true, true, false, true, true, false, false, false, false, false, false, false, false, false, false, false, false] rfl rfl (any_of HT_.out (by kernel_rfl)) (fun _ _ _ h => h) (Or.inl ⟨by rfl, ?_⟩) ?_ ?_
                  rotate_left
                  · intro w'
                    go_simp
                    with_reducible rfl
                  rotate_left
                  · simp only [Act.put, List.setIfInBounds_toArray, List.set_cons_zero, List.set_cons_succ, i64_w, i32_w]
                    rfl
                  refine pure_ (i := 6) (N := some 29) (v := ?_) (a' := ?_) #[true, true, true, false, true, true, true, false, false, false, false, false, false, false, false, false, false, false] rfl rfl (any_of HT_.out (by kernel_rfl)) (fun _ _ _ h => h) (Or.inl ⟨by rfl, ?_⟩) ?_ ?_
                  rotate_left
                  · intro w'
                    go_simp
                    with_reducible rfl
                  rotate_left
                  · simp only [Act.put, List.setIfInBounds_toArray, List.set_cons_zero, List.set_cons_succ, i64_w, i32_w]
                    rfl
                  refine take_ (i := 3) (N := some 26) (v := ?_) (a' := ?_) #[true, true, true, true, true, true, true, false, false, false, false, false, false, false, false, false, false, false] rfl rfl (take_ofW HT_.out HW_.out (by kernel_rfl)) (fun _ _ _ h => h) (Or.inl ⟨by rfl, ?_⟩) hHeld ?_ ?_
                  rotate_left
                  · rintro w' ⟨s0, s1, s2⟩
                    go_simp
                    with_reducible rfl
                  rotate_left
                  · simp only [Act.put, List.setIfInBounds_toArray, List.set_cons_zero, List.set_cons_succ, i64_w, i32_w]
                    rfl
                  refine take_ (i := 7) (N := some 30) (v := ?_) (a' := ?_) #[true, true, true, true, true, true, true, true, false, false, false, false, false, false, false, false, false, false] rfl rfl (take_ofW HT_.out HW_.out (by kernel_rfl)) (fun _ _ _ h => h) (Or.inl ⟨by rfl, ?_⟩) hHeld ?_ ?_
                  rotate_left
                  · rintro w' ⟨s0, s1, s2⟩
                    go_simp
                    with_reducible rfl
                  rotate_left
                  · simp only [Act.put, List.setIfInBounds_toArray, List.set_cons_zero, List.set_cons_succ, i64_w, i32_w]
                    rfl
                  refine pure_ (i := 8) (N := some 31) (v := ?_) (a' := ?_) #[true, true, true, true, true, true, true, true, true, false, false, false, false, false, false, false, false, false] rfl rfl (any_of HT_.out (by kernel_rfl)) (fun _ _ _ h => h) (Or.inl ⟨by rfl, ?_⟩) ?_ ?_
                  rotate_left
                  · intro w'
                    go_simp
                    with_reducible rfl
                  rotate_left
                  · simp only [Act.put, List.setIfInBounds_toArray, List.set_cons_zero, List.set_cons_succ, i64_w, i32_w]
                    rfl
                  refine pure_ (i := 9) (N := some 32) (v := ?_) (a' := ?_) #[true, true, true, true, true, true, true, true, true, true, false, false, false, false, false, false, false, false] rfl rfl (any_of HT_.out (by kernel_rfl)) (fun _ _ _ h => h) (Or.inl ⟨by rfl, ?_⟩) ?_ ?_
                  rotate_left
                  · intro w'
                    go_simp
                    with_reducible rfl
                  rotate_left
                  · simp only [Act.put, List.setIfInBounds_toArray, List.set_cons_zero, List.set_cons_succ, i64_w, i32_w]
                    rfl
                  refine pure_ (i := 10) (N := some 33) (v := ?_) (a' := ?_) #[true, true, true, true, true, true, true, true, true, true, true, false, false, false, false, false, false, false] rfl rfl (any_of HT_.out (by kernel_rfl)) (fun _ _ _ h => h) (Or.inl ⟨by rfl, ?_⟩) ?_ ?_
                  rotate_left
                  · intro w'
                    go_simp
                    with_reducible rfl
                  rotate_left
                  · simp only [Act.put, List.setIfInBounds_toArray, List.set_cons_zero, List.set_cons_succ, i64_w, i32_w]
                    rfl
                  refine pure_ (i := 11) (N := some 34) (v := ?_) (a' := ?_) #[true, true, true, true, true, true, true, true, true, true, true, true, false, false, false, false, false, false] rfl rfl (any_of HT_.out (by kernel_rfl)) (fun _ _ _ h => h) (Or.inl ⟨by rfl, ?_⟩) ?_ ?_
                  rotate_left
                  · intro w'
                    go_simp
                    with_reducible rfl
                  rotate_left
                  · simp only [Act.put, List.setIfInBounds_toArray, List.set_cons_zero, List.set_cons_succ, i64_w, i32_w]
                    rfl
                  refine pure_ (i := 12) (N := some 35) (v := ?_) (a' := ?_) #[true, true, true, true, true, true, true, true, true, true, true, true, true, false, false, false, false, false] rfl rfl (any_of HT_.out (by kernel_rfl)) (fun _ _ _ h => h) (Or.inl ⟨by rfl, ?_⟩) ?_ ?_
                  rotate_left
                  · intro w'
                    go_simp
                    with_reducible rfl
                  rotate_left
                  · simp only [Act.put, List.setIfInBounds_toArray, List.set_cons_zero, List.set_cons_succ, i64_w, i32_w]
                    rfl
                  refine pure_ (i := 15) (N := some 38) (v := ?_) (a' := ?_) #[true, true, true, true, true, true, true, true, true, true, true, true, true, false, false, true, false, false] rfl rfl (any_of HT_.out (by kernel_rfl)) (fun _ _ _ h => h) (Or.inl ⟨by rfl, ?_⟩) ?_ ?_
                  rotate_left
                  · intro w'
                    go_simp
                    with_reducible rfl
                  rotate_left
                  · simp only [Act.put, List.setIfInBounds_toArray, List.set_cons_zero, List.set_cons_succ, i64_w, i32_w]
                    rfl
                  refine take_ (i := 13) (N := some 36) (v := ?_) (a' := ?_) #[true, true, true, true, true, true, true, true, true, true, true, true, true, true, false, true, false, false] rfl rfl (take_ofW HT_.out HW_.out (by kernel_rfl)) (fun _ _ _ h => h) (Or.inl ⟨by rfl, ?_⟩) hHeld ?_ ?_
                  rotate_left
                  · rintro w' ⟨s0, s1, s2⟩
                    go_simp
                    with_reducible rfl
                  rotate_left
                  · simp only [Act.put, List.setIfInBounds_toArray, List.set_cons_zero, List.set_cons_succ, i64_w, i32_w]
                    rfl
                  refine one_ (i := 14) (N := some 37) #[true, true, true, true, true, true, true, true, true, true, true, true, true, true, true, true, false, false] rfl rfl (one_of HT_.out (by kernel_rfl)) (by decide) (fun K hK => ?_)
                  refine goes_ Tryd.func11 (by kernel_rfl) rfl #[.int .i64 (rd t168 x7_1)] (by rfl) rfl rfl (by (try simp only [List.map_toArray, List.map_cons, List.map_nil]); first | done | rfl | (simp only [List.length_drop, List.length_take]; rfl)) ?_
                  with_reducible refine (codes_Code.calls (rd t168 x7_1) t177 _ ⟨G.Tab_at HT.out (by repeat (first | (with_reducible first | exact HB.out | apply below_alloc | apply pw_below_drewN | apply below_drew1) | exact HB.out))⟩ A14.out).mono ?_
                  rintro e w17 ⟨rfl, hb⟩
                  have HS0_ := (hb.cell (World.block_lt_of_cell? _ _ (hHeld.1))).trans (hHeld.1)
                  have HS1_ := (hb.cell (World.block_lt_of_cell? _ _ (hHeld.2.1))).trans (hHeld.2.1)
                  have HS2_ := (hb.cell (World.block_lt_of_cell? _ _ (hHeld.2.2))).trans (hHeld.2.2)
                  refine ⟨_, rfl, ?_⟩
                  have n0_ := Aside0.mk (Kd.V_below (by (with_reducible repeat (first | apply Kd.V_alloc | apply Kd.V_drewN | apply Kd.V_drew)); exact HO_5.out) hb)
                  have n1_ := Aside0.mk (Kd.R_below (by (with_reducible repeat (first | apply Kd.R_alloc | apply Kd.R_drewN | apply Kd.R_drew)); exact HO_6.out) hb)
                  have n2_ := Aside0.mk (below_step (by repeat (first | (with_reducible first | exact HB.out | apply below_alloc | apply pw_below_drewN | apply below_drew1) | exact HB.out)) hb)
                  clear HO_5
                  clear HO_6
                  clear HB
                  have HO_5 := n0_
                  have HO_6 := n1_
                  have HB := n2_
                  clear n0_ n1_ n2_
                  (try clear hb)
                  (try clear hb2)
                  (try clear hk)
                  (try clear hi)
                  refine hK.out _ _ ⟨HS0_, HS1_, HS2_⟩ (fun hHeld => ?_)
                  clear hK K
                  refine norm_ (a' := ?_) ?_ ?_
                  rotate_left
                  · show Act.put _ (some 37) _ = _
                    simp only [Act.put, List.setIfInBounds_toArray, List.set_cons_zero, List.set_cons_succ, i64_w, i32_w]
                    rfl
                  refine pure_ (i := 16) (N := some 39) (v := ?_) (a' := ?_) #[true, true, true, true, true, true, true, true, true, true, true, true, true, true, true, true, true, false] rfl rfl (any_of HT_.out (by kernel_rfl)) (fun _ _ _ h => h) (Or.inl ⟨by rfl, ?_⟩) ?_ ?_
                  rotate_left
                  · intro w'
                    go_simp
                    with_reducible rfl
                  rotate_left
                  · simp only [Act.put, List.setIfInBounds_toArray, List.set_cons_zero, List.set_cons_succ, i64_w, i32_w]
                    rfl
                  refine pure_ (i := 17) (N := some 40) (v := ?_) (a' := ?_) #[true, true, true, true, true, true, true, true, true, true, true, true, true, true, true, true, true, true] rfl rfl (any_of HT_.out (by kernel_rfl)) (fun _ _ _ h => h) (Or.inl ⟨by rfl, ?_⟩) ?_ ?_
                  rotate_left
                  · intro w'
                    go_simp
                    with_reducible rfl
                  rotate_left
                  · simp only [Act.put, List.setIfInBounds_toArray, List.set_cons_zero, List.set_cons_succ, i64_w, i32_w]
                    rfl
                  refine done_ (done_of HT_.out (by kernel_rfl)) ?_
                  try go_wp2
                  go_roundg k1
                  case measure => have := HK1.out; omega
                  case rel => exact ⟨(wrap64 (x7_1 + 1)), (by first | rfl | (simp; done) | (simp [*]; done)), H', ⟨by have := HK1.out; omega⟩, ⟨by (with_reducible repeat (first | apply Kd.V_alloc | apply Kd.V_drewN | apply Kd.V_drew)); exact HO_5.out⟩, ⟨by (with_reducible repeat (first | apply Kd.R_alloc | apply Kd.R_drewN | apply Kd.R_drew)); exact HO_6.out⟩, ⟨by repeat (first | (with_reducible first | exact HB.out | apply below_alloc | apply pw_below_drewN | apply below_drew1) | exact HB.out)⟩⟩
                · rw [if_neg c15] at H
                  have c15b0 : (t177 == x7_1) = false := beq_eq_false_iff_ne.mpr c15
                  have c15b1 : (t177 != x7_1) = true := bne_iff_ne.mpr c15
                  obtain rfl := Option.some.inj H
                  exact absurd hrt.out (by decide)
              · rw [if_neg c13] at H
                have c13b0 : ((rd t168 x7_1) == (rd t171 x7_1)) = false := beq_eq_false_iff_ne.mpr c13
                have c13b1 : ((rd t168 x7_1) != (rd t171 x7_1)) = true := bne_iff_ne.mpr c13
                obtain rfl := Option.some.inj H
                exact absurd hrt.out (by decide)
            · rw [if_neg c12] at H
              exact absurd H (by simp)
          · rw [if_neg c11] at H
            exact absurd H (by simp)
        · rw [if_neg c10] at H
          have c10b0 : decide (x7_1 < (t171.length : Int)) = false := decide_eq_false c10
          clear c10
          replace H := Option.bind_eq_some_iff.mp H
          obtain ⟨t178, A180, H⟩ := H
          replace H : (if 0 ≤ t178 then (if t178 < (t168.length : Int) then ((truchmanref01_Around.f a1 (t168.length : Int)).bind fun t180 => (if 0 ≤ t180 then (if t180 < (t168.length : Int) then ((codes_Status.f (rd t168 t178)).bind fun t182 => ((codes_FromStatus.f t182).bind fun t183 => (if t183 = (rd t168 t178) then ((codes_Code.f (rd t168 t178)).bind fun t184 => ((codes_FromCode.f t184).bind fun t185 => (if t185 = (rd t168 t178) then ((codes_Text.f (rd t168 t178)).bind fun t186 => ((codes_Text.f (rd t168 t180)).bind fun t187 => (if ((t186.toList == t187.toList) == ((rd t168 t178) == (rd t168 t180))) = true then ((codes_Status.f (rd t168 t178)).bind fun t188 => ((codes_Status.f (rd t168 t180)).bind fun t189 => (if ((t188 == t189) == ((rd t168 t178) == (rd t168 t180))) = true then ((truchmanlaw08_lives.f).bind fun t190 => (some t190)) else (some false)))) else (some false)))) else (some false)))) else (some false)))) else (none)) else (none))) else (none)) else (none)) = some r := H
          have A18 := Aside0.mk A180
          clear A180
          by_cases c19 : 0 ≤ t178
          · rw [if_pos c19] at H
            have c19b0 : decide (0 ≤ t178) = true := decide_eq_true c19
            clear c19
            by_cases c20 : t178 < (t168.length : Int)
            · rw [if_pos c20] at H
              have c20b0 : decide (t178 < (t168.length : Int)) = true := decide_eq_true c20
              clear c20
              replace H := Option.bind_eq_some_iff.mp H
              obtain ⟨t180, A210, H⟩ := H
              replace H : (if 0 ≤ t180 then (if t180 < (t168.length : Int) then ((codes_Status.f (rd t168 t178)).bind fun t182 => ((codes_FromStatus.f t182).bind fun t183 => (if t183 = (rd t168 t178) then ((codes_Code.f (rd t168 t178)).bind fun t184 => ((codes_FromCode.f t184).bind fun t185 => (if t185 = (rd t168 t178) then ((codes_Text.f (rd t168 t178)).bind fun t186 => ((codes_Text.f (rd t168 t180)).bind fun t187 => (if ((t186.toList == t187.toList) == ((rd t168 t178) == (rd t168 t180))) = true then ((codes_Status.f (rd t168 t178)).bind fun t188 => ((codes_Status.f (rd t168 t180)).bind fun t189 => (if ((t188 == t189) == ((rd t168 t178) == (rd t168 t180))) = true then ((truchmanlaw08_lives.f).bind fun t190 => (some t190)) else (some false)))) else (some false)))) else (some false)))) else (some false)))) else (none)) else (none)) = some r := H
              have A21 := Aside0.mk A210
              clear A210
              by_cases c22 : 0 ≤ t180
              · rw [if_pos c22] at H
                have c22b0 : decide (0 ≤ t180) = true := decide_eq_true c22
                clear c22
                by_cases c23 : t180 < (t168.length : Int)
                · rw [if_pos c23] at H
                  have c23b0 : decide (t180 < (t168.length : Int)) = true := decide_eq_true c23
                  clear c23
                  replace H := Option.bind_eq_some_iff.mp H
                  obtain ⟨t182, A240, H⟩ := H
                  replace H : ((codes_FromStatus.f t182).bind fun t183 => (if t183 = (rd t168 t178) then ((codes_Code.f (rd t168 t178)).bind fun t184 => ((codes_FromCode.f t184).bind fun t185 => (if t185 = (rd t168 t178) then ((codes_Text.f (rd t168 t178)).bind fun t186 => ((codes_Text.f (rd t168 t180)).bind fun t187 => (if ((t186.toList == t187.toList) == ((rd t168 t178) == (rd t168 t180))) = true then ((codes_Status.f (rd t168 t178)).bind fun t188 => ((codes_Status.f (rd t168 t180)).bind fun t189 => (if ((t188 == t189) == ((rd t168 t178) == (rd t168 t180))) = true then ((truchmanlaw08_lives.f).bind fun t190 => (some t190)) else (some false)))) else (some false)))) else (some false)))) else (some false))) = some r := H
                  have A24 := Aside0.mk A240
                  clear A240
                  replace H := Option.bind_eq_some_iff.mp H
                  obtain ⟨t183, A250, H⟩ := H
                  replace H : (if t183 = (rd t168 t178) then ((codes_Code.f (rd t168 t178)).bind fun t184 => ((codes_FromCode.f t184).bind fun t185 => (if t185 = (rd t168 t178) then ((codes_Text.f (rd t168 t178)).bind fun t186 => ((codes_Text.f (rd t168 t180)).bind fun t187 => (if ((t186.toList == t187.toList) == ((rd t168 t178) == (rd t168 t180))) = true then ((codes_Status.f (rd t168 t178)).bind fun t188 => ((codes_Status.f (rd t168 t180)).bind fun t189 => (if ((t188 == t189) == ((rd t168 t178) == (rd t168 t180))) = true then ((truchmanlaw08_lives.f).bind fun t190 => (some t190)) else (some false)))) else (some false)))) else (some false)))) else (some false)) = some r := H
                  have A25 := Aside0.mk A250
                  clear A250
                  by_cases c26 : t183 = (rd t168 t178)
                  · rw [if_pos c26] at H
                    have c26b0 : (t183 == (rd t168 t178)) = true := beq_iff_eq.mpr c26
                    have c26b1 : (t183 != (rd t168 t178)) = false := bne_eq_false_iff_eq.mpr c26
                    clear c26
                    replace H := Option.bind_eq_some_iff.mp H
                    obtain ⟨t184, A270, H⟩ := H
                    replace H : ((codes_FromCode.f t184).bind fun t185 => (if t185 = (rd t168 t178) then ((codes_Text.f (rd t168 t178)).bind fun t186 => ((codes_Text.f (rd t168 t180)).bind fun t187 => (if ((t186.toList == t187.toList) == ((rd t168 t178) == (rd t168 t180))) = true then ((codes_Status.f (rd t168 t178)).bind fun t188 => ((codes_Status.f (rd t168 t180)).bind fun t189 => (if ((t188 == t189) == ((rd t168 t178) == (rd t168 t180))) = true then ((truchmanlaw08_lives.f).bind fun t190 => (some t190)) else (some false)))) else (some false)))) else (some false))) = some r := H
                    have A27 := Aside0.mk A270
                    clear A270
                    replace H := Option.bind_eq_some_iff.mp H
                    obtain ⟨t185, A280, H⟩ := H
                    replace H : (if t185 = (rd t168 t178) then ((codes_Text.f (rd t168 t178)).bind fun t186 => ((codes_Text.f (rd t168 t180)).bind fun t187 => (if ((t186.toList == t187.toList) == ((rd t168 t178) == (rd t168 t180))) = true then ((codes_Status.f (rd t168 t178)).bind fun t188 => ((codes_Status.f (rd t168 t180)).bind fun t189 => (if ((t188 == t189) == ((rd t168 t178) == (rd t168 t180))) = true then ((truchmanlaw08_lives.f).bind fun t190 => (some t190)) else (some false)))) else (some false)))) else (some false)) = some r := H
                    have A28 := Aside0.mk A280
                    clear A280
                    by_cases c29 : t185 = (rd t168 t178)
                    · rw [if_pos c29] at H
                      have c29b0 : (t185 == (rd t168 t178)) = true := beq_iff_eq.mpr c29
                      have c29b1 : (t185 != (rd t168 t178)) = false := bne_eq_false_iff_eq.mpr c29
                      clear c29
                      replace H := Option.bind_eq_some_iff.mp H
                      obtain ⟨t186, A300, H⟩ := H
                      replace H : ((codes_Text.f (rd t168 t180)).bind fun t187 => (if ((t186.toList == t187.toList) == ((rd t168 t178) == (rd t168 t180))) = true then ((codes_Status.f (rd t168 t178)).bind fun t188 => ((codes_Status.f (rd t168 t180)).bind fun t189 => (if ((t188 == t189) == ((rd t168 t178) == (rd t168 t180))) = true then ((truchmanlaw08_lives.f).bind fun t190 => (some t190)) else (some false)))) else (some false))) = some r := H
                      have A30 := Aside0.mk A300
                      clear A300
                      replace H := Option.bind_eq_some_iff.mp H
                      obtain ⟨t187, A310, H⟩ := H
                      replace H : (if ((t186.toList == t187.toList) == ((rd t168 t178) == (rd t168 t180))) = true then ((codes_Status.f (rd t168 t178)).bind fun t188 => ((codes_Status.f (rd t168 t180)).bind fun t189 => (if ((t188 == t189) == ((rd t168 t178) == (rd t168 t180))) = true then ((truchmanlaw08_lives.f).bind fun t190 => (some t190)) else (some false)))) else (some false)) = some r := H
                      have A31 := Aside0.mk A310
                      clear A310
                      by_cases c32 : ((t186.toList == t187.toList) == ((rd t168 t178) == (rd t168 t180))) = true
                      · rw [if_pos c32] at H
                        have c32b0 : ((t186.toList == t187.toList) == ((rd t168 t178) == (rd t168 t180))) = true := c32
                        (try (have c32b1 : decide ((t186.toList == t187.toList) = ((rd t168 t178) == (rd t168 t180))) = true := by simpa using c32))
                        (try (have c32b2 : ((t186.toList == t187.toList) == ((rd t168 t178) == (rd t168 t180))) = true := by simpa using c32))
                        clear c32
                        replace H := Option.bind_eq_some_iff.mp H
                        obtain ⟨t188, A330, H⟩ := H
                        replace H : ((codes_Status.f (rd t168 t180)).bind fun t189 => (if ((t188 == t189) == ((rd t168 t178) == (rd t168 t180))) = true then ((truchmanlaw08_lives.f).bind fun t190 => (some t190)) else (some false))) = some r := H
                        have A33 := Aside0.mk A330
                        clear A330
                        replace H := Option.bind_eq_some_iff.mp H
                        obtain ⟨t189, A340, H⟩ := H
                        replace H : (if ((t188 == t189) == ((rd t168 t178) == (rd t168 t180))) = true then ((truchmanlaw08_lives.f).bind fun t190 => (some t190)) else (some false)) = some r := H
                        have A34 := Aside0.mk A340
                        clear A340
                        by_cases c35 : ((t188 == t189) == ((rd t168 t178) == (rd t168 t180))) = true
                        · rw [if_pos c35] at H
                          have c35b0 : ((t188 == t189) == ((rd t168 t178) == (rd t168 t180))) = true := c35
                          (try (have c35b1 : decide ((t188 == t189) = ((rd t168 t178) == (rd t168 t180))) = true := by simpa using c35))
                          (try (have c35b2 : ((t188 == t189) == ((rd t168 t178) == (rd t168 t180))) = true := by simpa using c35))
                          clear c35
                          replace H := Option.bind_eq_some_iff.mp H
                          obtain ⟨t190, A360, H⟩ := H
                          replace H : (some t190) = some r := H
                          have A36 := Aside0.mk A360
                          clear A360
                          obtain rfl := Option.some.inj H
                          go_wp2_with (first | ((with_reducible refine gate_callee (f := 8) rfl ?_); refine goesL_ (some 45) rfl rfl Tryd.func8 (by kernel_rfl) rfl #[.int .i64 a0, .int .i64 (t168.length : Int)] rfl (by (try simp only [List.map_toArray, List.map_cons, List.map_nil]); first | done | rfl | (simp only [List.length_drop, List.length_take]; rfl)) ?_; (with_reducible refine (truchmanref01_Around.calls a0 (t168.length : Int) t178 _ A18.out).mono ?_); rintro e w' ⟨rfl, ⟨nd, rfl⟩⟩; refine ⟨_, rfl, ?_⟩; have p179 : 0 ≤ (t178 : Int) := of_decide_eq_true (by first | (with_reducible assumption) | assumption); have q179 : t178 < (t168.length : Int) := of_decide_eq_true (by first | (with_reducible assumption) | assumption); obtain ⟨ad179, e179, hx179_0⟩ := Kd.at_int (Kd.V_reads' HO_5.out).2.2 t178 p179 q179; cases e179; replace p179 := eq_true p179; replace q179 := eq_true q179) | ((with_reducible refine gate_callee (f := 8) rfl ?_); refine goesL_ (some 52) rfl rfl Tryd.func8 (by kernel_rfl) rfl #[.int .i64 a1, .int .i64 (t168.length : Int)] rfl (by (try simp only [List.map_toArray, List.map_cons, List.map_nil]); first | done | rfl | (simp only [List.length_drop, List.length_take]; rfl)) ?_; (with_reducible refine (truchmanref01_Around.calls a1 (t168.length : Int) t180 _ A21.out).mono ?_); rintro e w' ⟨rfl, ⟨nd, rfl⟩⟩; refine ⟨_, rfl, ?_⟩; have p181 : 0 ≤ (t180 : Int) := of_decide_eq_true (by first | (with_reducible assumption) | assumption); have q181 : t180 < (t168.length : Int) := of_decide_eq_true (by first | (with_reducible assumption) | assumption); obtain ⟨ad181, e181, hx181_0⟩ := Kd.at_int (Kd.V_reads' HO_5.out).2.2 t180 p181 q181; obtain rfl : ad179 = ad181 := (by injection e181); replace p181 := eq_true p181; replace q181 := eq_true q181) | ((with_reducible refine gate_callee (f := 9) rfl ?_); refine goesL_ (some 56) rfl rfl Tryd.func9 (by kernel_rfl) rfl #[.int .i64 (rd t168 t178)] rfl (by (try simp only [List.map_toArray, List.map_cons, List.map_nil]); first | done | rfl | (simp only [List.length_drop, List.length_take]; rfl)) ?_; (with_reducible refine (codes_Status.calls (rd t168 t178) t182 _ ⟨G.Tab_at HT.out (by repeat (first | (with_reducible first | exact HB.out | apply below_alloc | apply pw_below_drewN | apply below_drew1) | exact HB.out))⟩ A24.out).mono ?_); rintro e w37 ⟨rfl, hb⟩; refine ⟨_, rfl, ?_⟩; have n0_ := Aside0.mk (Kd.V_below (by (with_reducible repeat (first | apply Kd.V_alloc | apply Kd.V_drewN | apply Kd.V_drew)); exact HO_5.out) hb); have n1_ := Aside0.mk (Kd.R_below (by (with_reducible repeat (first | apply Kd.R_alloc | apply Kd.R_drewN | apply Kd.R_drew)); exact HO_6.out) hb); have n2_ := Aside0.mk (below_step (by repeat (first | (with_reducible first | exact HB.out | apply below_alloc | apply pw_below_drewN | apply below_drew1) | exact HB.out)) hb); clear HO_5; clear HO_6; clear HB; have HO_5 := n0_; have HO_6 := n1_; have HB := n2_; clear n0_ n1_ n2_; (try clear hb); (try clear hb2); (try clear hk); (try clear hi)) | ((with_reducible refine gate_callee (f := 16) rfl ?_); refine goesL_ (some 57) rfl rfl Tryd.func16 (by kernel_rfl) rfl #[.int .u32 t182] rfl (by (try simp only [List.map_toArray, List.map_cons, List.map_nil]); first | done | rfl | (simp only [List.length_drop, List.length_take]; rfl)) ?_; (with_reducible refine (codes_FromStatus.calls t182 t183 _ ⟨G.Tab_at HT.out (by repeat (first | (with_reducible first | exact HB.out | apply below_alloc | apply pw_below_drewN | apply below_drew1) | exact HB.out))⟩ A25.out).mono ?_); rintro e w38 ⟨rfl, hb⟩; refine ⟨_, rfl, ?_⟩; have n0_ := Aside0.mk (Kd.V_below (by (with_reducible repeat (first | apply Kd.V_alloc | apply Kd.V_drewN | apply Kd.V_drew)); exact HO_5.out) hb); have n1_ := Aside0.mk (Kd.R_below (by (with_reducible repeat (first | apply Kd.R_alloc | apply Kd.R_drewN | apply Kd.R_drew)); exact HO_6.out) hb); have n2_ := Aside0.mk (below_step (by repeat (first | (with_reducible first | exact HB.out | apply below_alloc | apply pw_below_drewN | apply below_drew1) | exact HB.out)) hb); clear HO_5; clear HO_6; clear HB; have HO_5 := n0_; have HO_6 := n1_; have HB := n2_; clear n0_ n1_ n2_; (try clear hb); (try clear hb2); (try clear hk); (try clear hi)) | (go_at_call 11; (with_reducible refine (codes_Code.calls (rd t168 t178) t184 _ ⟨G.Tab_at HT.out (by repeat (first | (with_reducible first | exact HB.out | apply below_alloc | apply pw_below_drewN | apply below_drew1) | exact HB.out))⟩ A27.out).mono ?_); rintro e w39 ⟨rfl, hb⟩; have n0_ := Aside0.mk (Kd.V_below (by (with_reducible repeat (first | apply Kd.V_alloc | apply Kd.V_drewN | apply Kd.V_drew)); exact HO_5.out) hb); have n1_ := Aside0.mk (Kd.R_below (by (with_reducible repeat (first | apply Kd.R_alloc | apply Kd.R_drewN | apply Kd.R_drew)); exact HO_6.out) hb); have n2_ := Aside0.mk (below_step (by repeat (first | (with_reducible first | exact HB.out | apply below_alloc | apply pw_below_drewN | apply below_drew1) | exact HB.out)) hb); clear HO_5; clear HO_6; clear HB; have HO_5 := n0_; have HO_6 := n1_; have HB := n2_; clear n0_ n1_ n2_; (try clear hb); (try clear hb2); (try clear hk); (try clear hi)) | (go_at_call 18; (with_reducible refine (codes_FromCode.calls t184 t185 _ ⟨G.Tab_at HT.out (by repeat (first | (with_reducible first | exact HB.out | apply below_alloc | apply pw_below_drewN | apply below_drew1) | exact HB.out))⟩ A28.out).mono ?_); rintro e w40 ⟨rfl, hb⟩; have n0_ := Aside0.mk (Kd.V_below (by (with_reducible repeat (first | apply Kd.V_alloc | apply Kd.V_drewN | apply Kd.V_drew)); exact HO_5.out) hb); have n1_ := Aside0.mk (Kd.R_below (by (with_reducible repeat (first | apply Kd.R_alloc | apply Kd.R_drewN | apply Kd.R_drew)); exact HO_6.out) hb); have n2_ := Aside0.mk (below_step (by repeat (first | (with_reducible first | exact HB.out | apply below_alloc | apply pw_below_drewN | apply below_drew1) | exact HB.out)) hb); clear HO_5; clear HO_6; clear HB; have HO_5 := n0_; have HO_6 := n1_; have HB := n2_; clear n0_ n1_ n2_; (try clear hb); (try clear hb2); (try clear hk); (try clear hi)) | (go_at_call 13; (with_reducible refine (codes_Text.calls (rd t168 t178) t186 _ ⟨G.Tab_at HT.out (by repeat (first | (with_reducible first | exact HB.out | apply below_alloc | apply pw_below_drewN | apply below_drew1) | exact HB.out))⟩ A30.out).mono ?_); rintro e w41 ⟨rfl, hb⟩; have n0_ := Aside0.mk (Kd.V_below (by (with_reducible repeat (first | apply Kd.V_alloc | apply Kd.V_drewN | apply Kd.V_drew)); exact HO_5.out) hb); have n1_ := Aside0.mk (Kd.R_below (by (with_reducible repeat (first | apply Kd.R_alloc | apply Kd.R_drewN | apply Kd.R_drew)); exact HO_6.out) hb); have n2_ := Aside0.mk (below_step (by repeat (first | (with_reducible first | exact HB.out | apply below_alloc | apply pw_below_drewN | apply below_drew1) | exact HB.out)) hb); clear HO_5; clear HO_6; clear HB; have HO_5 := n0_; have HO_6 := n1_; have HB := n2_; clear n0_ n1_ n2_; (try clear hb); (try clear hb2); (try clear hk); (try clear hi)) | (go_at_call 13; (with_reducible refine (codes_Text.calls (rd t168 t180) t187 _ ⟨G.Tab_at HT.out (by repeat (first | (with_reducible first | exact HB.out | apply below_alloc | apply pw_below_drewN | apply below_drew1) | exact HB.out))⟩ A31.out).mono ?_); rintro e w42 ⟨rfl, hb⟩; have n0_ := Aside0.mk (Kd.V_below (by (with_reducible repeat (first | apply Kd.V_alloc | apply Kd.V_drewN | apply Kd.V_drew)); exact HO_5.out) hb); have n1_ := Aside0.mk (Kd.R_below (by (with_reducible repeat (first | apply Kd.R_alloc | apply Kd.R_drewN | apply Kd.R_drew)); exact HO_6.out) hb); have n2_ := Aside0.mk (below_step (by repeat (first | (with_reducible first | exact HB.out | apply below_alloc | apply pw_below_drewN | apply below_drew1) | exact HB.out)) hb); clear HO_5; clear HO_6; clear HB; have HO_5 := n0_; have HO_6 := n1_; have HB := n2_; clear n0_ n1_ n2_; (try clear hb); (try clear hb2); (try clear hk); (try clear hi)) | (go_at_call 9; (with_reducible refine (codes_Status.calls (rd t168 t178) t188 _ ⟨G.Tab_at HT.out (by repeat (first | (with_reducible first | exact HB.out | apply below_alloc | apply pw_below_drewN | apply below_drew1) | exact HB.out))⟩ A33.out).mono ?_); rintro e w43 ⟨rfl, hb⟩; have n0_ := Aside0.mk (Kd.V_below (by (with_reducible repeat (first | apply Kd.V_alloc | apply Kd.V_drewN | apply Kd.V_drew)); exact HO_5.out) hb); have n1_ := Aside0.mk (Kd.R_below (by (with_reducible repeat (first | apply Kd.R_alloc | apply Kd.R_drewN | apply Kd.R_drew)); exact HO_6.out) hb); have n2_ := Aside0.mk (below_step (by repeat (first | (with_reducible first | exact HB.out | apply below_alloc | apply pw_below_drewN | apply below_drew1) | exact HB.out)) hb); clear HO_5; clear HO_6; clear HB; have HO_5 := n0_; have HO_6 := n1_; have HB := n2_; clear n0_ n1_ n2_; (try clear hb); (try clear hb2); (try clear hk); (try clear hi)) | (go_at_call 9; (with_reducible refine (codes_Status.calls (rd t168 t180) t189 _ ⟨G.Tab_at HT.out (by repeat (first | (with_reducible first | exact HB.out | apply below_alloc | apply pw_below_drewN | apply below_drew1) | exact HB.out))⟩ A34.out).mono ?_); rintro e w44 ⟨rfl, hb⟩; have n0_ := Aside0.mk (Kd.V_below (by (with_reducible repeat (first | apply Kd.V_alloc | apply Kd.V_drewN | apply Kd.V_drew)); exact HO_5.out) hb); have n1_ := Aside0.mk (Kd.R_below (by (with_reducible repeat (first | apply Kd.R_alloc | apply Kd.R_drewN | apply Kd.R_drew)); exact HO_6.out) hb); have n2_ := Aside0.mk (below_step (by repeat (first | (with_reducible first | exact HB.out | apply below_alloc | apply pw_below_drewN | apply below_drew1) | exact HB.out)) hb); clear HO_5; clear HO_6; clear HB; have HO_5 := n0_; have HO_6 := n1_; have HB := n2_; clear n0_ n1_ n2_; (try clear hb); (try clear hb2); (try clear hk); (try clear hi)) | (go_at_call 15; (with_reducible refine (truchmanlaw08_lives.calls  t190 _ ⟨G.Tab_at HT.out (by repeat (first | (with_reducible first | exact HB.out | apply below_alloc | apply pw_below_drewN | apply below_drew1) | exact HB.out))⟩ A36.out).mono ?_); rintro e w45 ⟨rfl, hb⟩; have n0_ := Aside0.mk (Kd.V_below (by (with_reducible repeat (first | apply Kd.V_alloc | apply Kd.V_drewN | apply Kd.V_drew)); exact HO_5.out) hb); have n1_ := Aside0.mk (Kd.R_below (by (with_reducible repeat (first | apply Kd.R_alloc | apply Kd.R_drewN | apply Kd.R_drew)); exact HO_6.out) hb); have n2_ := Aside0.mk (below_step (by repeat (first | (with_reducible first | exact HB.out | apply below_alloc | apply pw_below_drewN | apply below_drew1) | exact HB.out)) hb); clear HO_5; clear HO_6; clear HB; have HO_5 := n0_; have HO_6 := n1_; have HB := n2_; clear n0_ n1_ n2_; (try clear hb); (try clear hb2); (try clear hk); (try clear hi)))
                          go_ret
                          exact ⟨by first | rfl | (simp [errW_none, errW_some] <;> rfl) | (simp [*, errW_none, errW_some] <;> rfl), by repeat (first | (with_reducible first | exact HB.out | apply below_alloc | apply pw_below_drewN | apply below_drew1) | exact HB.out)⟩
                        · rw [if_neg c35] at H
                          have c35b0 : ((t188 == t189) == ((rd t168 t178) == (rd t168 t180))) = false := by simpa using c35
                          (try (have c35b1 : decide ((t188 == t189) = ((rd t168 t178) == (rd t168 t180))) = false := by simpa using c35))
                          (try (have c35b2 : ((t188 == t189) == ((rd t168 t178) == (rd t168 t180))) = false := by simpa using c35))
                          (try (have c35b3 : ¬ ((t188 == t189) = ((rd t168 t178) == (rd t168 t180))) := by simpa using c35))
                          clear c35
                          obtain rfl := Option.some.inj H
                          exact absurd hrt.out (by decide)
                      · rw [if_neg c32] at H
                        have c32b0 : ((t186.toList == t187.toList) == ((rd t168 t178) == (rd t168 t180))) = false := by simpa using c32
                        (try (have c32b1 : decide ((t186.toList == t187.toList) = ((rd t168 t178) == (rd t168 t180))) = false := by simpa using c32))
                        (try (have c32b2 : ((t186.toList == t187.toList) == ((rd t168 t178) == (rd t168 t180))) = false := by simpa using c32))
                        (try (have c32b3 : ¬ ((t186.toList == t187.toList) = ((rd t168 t178) == (rd t168 t180))) := by simpa using c32))
                        clear c32
                        obtain rfl := Option.some.inj H
                        exact absurd hrt.out (by decide)
                    · rw [if_neg c29] at H
                      have c29b0 : (t185 == (rd t168 t178)) = false := beq_eq_false_iff_ne.mpr c29
                      have c29b1 : (t185 != (rd t168 t178)) = true := bne_iff_ne.mpr c29
                      obtain rfl := Option.some.inj H
                      exact absurd hrt.out (by decide)
                  · rw [if_neg c26] at H
                    have c26b0 : (t183 == (rd t168 t178)) = false := beq_eq_false_iff_ne.mpr c26
                    have c26b1 : (t183 != (rd t168 t178)) = true := bne_iff_ne.mpr c26
                    obtain rfl := Option.some.inj H
                    exact absurd hrt.out (by decide)
                · rw [if_neg c23] at H
                  exact absurd H (by simp)
              · rw [if_neg c22] at H
                exact absurd H (by simp)
            · rw [if_neg c20] at H
              exact absurd H (by simp)
          · rw [if_neg c19] at H
            exact absurd H (by simp)
  · rw [if_neg c5] at H
    have c5b0 : ((t168.length : Int) == (t171.length : Int)) = false := beq_eq_false_iff_ne.mpr c5
    have c5b1 : ((t168.length : Int) != (t171.length : Int)) = true := bne_iff_ne.mpr c5
    have c5b2 : (t168.length == t171.length) = false := by first | simpa using c5 | (simp at c5 ⊢; omega)
    obtain rfl := Option.some.inj H
    exact absurd hrt.out (by decide)

/-- THE ONE PURE STATEMENT of truchmanlaw08_CodesRound: yours. -/
def truchmanlaw08_CodesRound.Pure : Prop := ∀ (a0 : Int) (a1 : Int), (Lit.int .i64 a0).wf = true → (Lit.int .i64 a1).wf = true → ∃ k, truchmanlaw08_CodesRound.f k a0 a1 = some true
theorem truchmanlaw08_CodesRound.walk (P : truchmanlaw08_CodesRound.Pure) (a0 : Int) (a1 : Int) (w : World) (HT : Aside0 (G.Tab w)) (w0 : (Lit.int .i64 a0).wf = true) (w1 : (Lit.int .i64 a1).wf = true) :
    Calls Tryd.prog 7 #[.int .i64 a0, .int .i64 a1] w fun e w' => e = .returned (.bool true) ∧ Below w.heap.size w w' := by
  obtain ⟨k, h⟩ := P a0 a1 w0 w1
  refine (truchmanlaw08_CodesRound.calls k a0 a1 true w HT ⟨rfl⟩ h).mono ?_
  rintro e w' ⟨rfl, hd⟩
  exact ⟨rfl, hd⟩

/-! ### truchmanlaw08_CodesOwns: function 6 -/
def truchmanlaw08_CodesOwns.f (a0 : Int) : Option (Bool) := (codes_All.f).bind fun t191 => (if (t191.length : Int) = 0 then (some false) else ((truchmanref01_Around.f a0 (t191.length : Int)).bind fun t194 => (if 0 ≤ t194 then (if t194 < (t191.length : Int) then ((codes_All.f).bind fun t196 => (if (t196.length : Int) = 19 then ((truchmanref01_Around.f a0 19).bind fun t199 => (if 0 ≤ t199 then (if t199 < (t196.length : Int) then ((truchmanref08_All.f).bind fun t201 => ((truchmanref01_Around.f a0 19).bind fun t204 => (if 0 ≤ t204 then (if t204 < (t201.length : Int) then (if (rd t196 t199) = (rd t201 t204) then ((truchmanlaw08_lives.f).bind fun t206 => (some t206)) else (some false)) else (none)) else (none)))) else (none)) else (none))) else (some false))) else (none)) else (none))))
def truchmanlaw08_CodesOwns.T6 : Bool × List (List Nat × List Nat) := (true, [([], []), ([0], [0]), ([1], [1]), ([2], [2]), ([3], [3]), ([3], [3]), ([5, 3, 3], [3, 5]), ([4, 6, 3], [3, 4, 6]), ([7, 3], [3, 7]), ([6, 3], [3]), ([3], [3]), ([10, 9, 3], [3, 10]), ([9, 11, 3], [3, 9, 11]), ([12, 3], [3, 12]), ([8, 13, 3], [3, 8, 13]), ([3, 14], [3, 14]), ([15, 11], [15]), ([16, 16], [16]), ([16, 17], [16, 17]), ([18, 17, 0, 1, 2, 3, 4, 5, 6, 7, 8, 9, 10, 11, 12, 13, 14, 15, 16, 17, 18], [18])])
def truchmanlaw08_CodesOwns.B6 : List Nat := [0, 1, 3, 7, 15, 15, 47, 127, 255, 111, 15, 1647, 3695, 7791, 16383, 32767, 65535, 131071, 262143, 524287]
theorem truchmanlaw08_CodesOwns.tab6 : rtab .any (opsOf Tryd.f6 6) = truchmanlaw08_CodesOwns.T6 := by kernel_rfl
theorem truchmanlaw08_CodesOwns.bits6 : waitsOk truchmanlaw08_CodesOwns.T6.2 truchmanlaw08_CodesOwns.B6 = true := by kernel_rfl
set_option maxHeartbeats 8000000 in
set_option maxRecDepth 100000 in
theorem truchmanlaw08_CodesOwns.calls (a0 : Int) (r : Bool) (w : World) (HT : Aside0 (G.Tab w)) (hrt : Aside0 (r = true)) (h : truchmanlaw08_CodesOwns.f a0 = some r) :
    Calls Tryd.prog 6 #[.int .i64 a0] w fun e w' => e = .returned (.bool r) ∧ Below w.heap.size w w' := by
  have HB := Aside0.mk (Below.refl w.heap.size w)
  have H : ((codes_All.f).bind fun t191 => (if (t191.length : Int) = 0 then (some false) else ((truchmanref01_Around.f a0 (t191.length : Int)).bind fun t194 => (if 0 ≤ t194 then (if t194 < (t191.length : Int) then ((codes_All.f).bind fun t196 => (if (t196.length : Int) = 19 then ((truchmanref01_Around.f a0 19).bind fun t199 => (if 0 ≤ t199 then (if t199 < (t196.length : Int) then ((truchmanref08_All.f).bind fun t201 => ((truchmanref01_Around.f a0 19).bind fun t204 => (if 0 ≤ t204 then (if t204 < (t201.length : Int) then (if (rd t196 t199) = (rd t201 t204) then ((truchmanlaw08_lives.f).bind fun t206 => (some t206)) else (some false)) else (none)) else (none)))) else (none)) else (none))) else (some false))) else (none)) else (none))))) = some r := h
  clear h
  replace H := Option.bind_eq_some_iff.mp H
  obtain ⟨t191, A20, H⟩ := H
  replace H : (if (t191.length : Int) = 0 then (some false) else ((truchmanref01_Around.f a0 (t191.length : Int)).bind fun t194 => (if 0 ≤ t194 then (if t194 < (t191.length : Int) then ((codes_All.f).bind fun t196 => (if (t196.length : Int) = 19 then ((truchmanref01_Around.f a0 19).bind fun t199 => (if 0 ≤ t199 then (if t199 < (t196.length : Int) then ((truchmanref08_All.f).bind fun t201 => ((truchmanref01_Around.f a0 19).bind fun t204 => (if 0 ≤ t204 then (if t204 < (t201.length : Int) then (if (rd t196 t199) = (rd t201 t204) then ((truchmanlaw08_lives.f).bind fun t206 => (some t206)) else (some false)) else (none)) else (none)))) else (none)) else (none))) else (some false))) else (none)) else (none)))) = some r := H
  have A2 := Aside0.mk A20
  clear A20
  by_cases c3 : (t191.length : Int) = 0
  · rw [if_pos c3] at H
    have c3b0 : ((t191.length : Int) == 0) = true := beq_iff_eq.mpr c3
    have c3b1 : ((t191.length : Int) != 0) = false := bne_eq_false_iff_eq.mpr c3
    clear c3
    obtain rfl := Option.some.inj H
    exact absurd hrt.out (by decide)
  · rw [if_neg c3] at H
    have c3b0 : ((t191.length : Int) == 0) = false := beq_eq_false_iff_ne.mpr c3
    have c3b1 : ((t191.length : Int) != 0) = true := bne_iff_ne.mpr c3
    have c3b2 : ¬ (t191 = []) := fun h_ => c3 (by rw [h_]; rfl)
    replace H := Option.bind_eq_some_iff.mp H
    obtain ⟨t194, A40, H⟩ := H
    replace H : (if 0 ≤ t194 then (if t194 < (t191.length : Int) then ((codes_All.f).bind fun t196 => (if (t196.length : Int) = 19 then ((truchmanref01_Around.f a0 19).bind fun t199 => (if 0 ≤ t199 then (if t199 < (t196.length : Int) then ((truchmanref08_All.f).bind fun t201 => ((truchmanref01_Around.f a0 19).bind fun t204 => (if 0 ≤ t204 then (if t204 < (t201.length : Int) then (if (rd t196 t199) = (rd t201 t204) then ((truchmanlaw08_lives.f).bind fun t206 => (some t206)) else (some false)) else (none)) else (none)))) else (none)) else (none))) else (some false))) else (none)) else (none)) = some r := H
    have A4 := Aside0.mk A40
    clear A40
    by_cases c5 : 0 ≤ t194
    · rw [if_pos c5] at H
      have c5b0 : decide (0 ≤ t194) = true := decide_eq_true c5
      clear c5
      by_cases c6 : t194 < (t191.length : Int)
      · rw [if_pos c6] at H
        have c6b0 : decide (t194 < (t191.length : Int)) = true := decide_eq_true c6
        clear c6
        replace H := Option.bind_eq_some_iff.mp H
        obtain ⟨t196, A70, H⟩ := H
        replace H : (if (t196.length : Int) = 19 then ((truchmanref01_Around.f a0 19).bind fun t199 => (if 0 ≤ t199 then (if t199 < (t196.length : Int) then ((truchmanref08_All.f).bind fun t201 => ((truchmanref01_Around.f a0 19).bind fun t204 => (if 0 ≤ t204 then (if t204 < (t201.length : Int) then (if (rd t196 t199) = (rd t201 t204) then ((truchmanlaw08_lives.f).bind fun t206 => (some t206)) else (some false)) else (none)) else (none)))) else (none)) else (none))) else (some false)) = some r := H
        have A7 := Aside0.mk A70
        clear A70
        by_cases c8 : (t196.length : Int) = 19
        · rw [if_pos c8] at H
          have c8b0 : ((t196.length : Int) == 19) = true := beq_iff_eq.mpr c8
          have c8b1 : ((t196.length : Int) != 19) = false := bne_eq_false_iff_eq.mpr c8
          clear c8
          replace H := Option.bind_eq_some_iff.mp H
          obtain ⟨t199, A90, H⟩ := H
          replace H : (if 0 ≤ t199 then (if t199 < (t196.length : Int) then ((truchmanref08_All.f).bind fun t201 => ((truchmanref01_Around.f a0 19).bind fun t204 => (if 0 ≤ t204 then (if t204 < (t201.length : Int) then (if (rd t196 t199) = (rd t201 t204) then ((truchmanlaw08_lives.f).bind fun t206 => (some t206)) else (some false)) else (none)) else (none)))) else (none)) else (none)) = some r := H
          have A9 := Aside0.mk A90
          clear A90
          by_cases c10 : 0 ≤ t199
          · rw [if_pos c10] at H
            have c10b0 : decide (0 ≤ t199) = true := decide_eq_true c10
            clear c10
            by_cases c11 : t199 < (t196.length : Int)
            · rw [if_pos c11] at H
              have c11b0 : decide (t199 < (t196.length : Int)) = true := decide_eq_true c11
              clear c11
              replace H := Option.bind_eq_some_iff.mp H
              obtain ⟨t201, A120, H⟩ := H
              replace H : ((truchmanref01_Around.f a0 19).bind fun t204 => (if 0 ≤ t204 then (if t204 < (t201.length : Int) then (if (rd t196 t199) = (rd t201 t204) then ((truchmanlaw08_lives.f).bind fun t206 => (some t206)) else (some false)) else (none)) else (none))) = some r := H
              have A12 := Aside0.mk A120
              clear A120
              replace H := Option.bind_eq_some_iff.mp H
              obtain ⟨t204, A130, H⟩ := H
              replace H : (if 0 ≤ t204 then (if t204 < (t201.length : Int) then (if (rd t196 t199) = (rd t201 t204) then ((truchmanlaw08_lives.f).bind fun t206 => (some t206)) else (some false)) else (none)) else (none)) = some r := H
              have A13 := Aside0.mk A130
              clear A130
              by_cases c14 : 0 ≤ t204
              · rw [if_pos c14] at H
                have c14b0 : decide (0 ≤ t204) = true := decide_eq_true c14
                clear c14
                by_cases c15 : t204 < (t201.length : Int)
                · rw [if_pos c15] at H
                  have c15b0 : decide (t204 < (t201.length : Int)) = true := decide_eq_true c15
                  clear c15
                  by_cases c16 : (rd t196 t199) = (rd t201 t204)
                  · rw [if_pos c16] at H
                    have c16b0 : ((rd t196 t199) == (rd t201 t204)) = true := beq_iff_eq.mpr c16
                    have c16b1 : ((rd t196 t199) != (rd t201 t204)) = false := bne_eq_false_iff_eq.mpr c16
                    clear c16
                    replace H := Option.bind_eq_some_iff.mp H
                    obtain ⟨t206, A170, H⟩ := H
                    replace H : (some t206) = some r := H
                    have A17 := Aside0.mk A170
                    clear A170
                    obtain rfl := Option.some.inj H
                    go_enter Tryd.func6, Tryd.ntmps6
                    try go_wp2_with (first | ((with_reducible refine gate_callee (f := 20) rfl ?_); refine goesL_ (some 5) rfl rfl Tryd.func20 (by kernel_rfl) rfl #[] rfl (by (try simp only [List.map_toArray, List.map_cons, List.map_nil]); first | done | rfl | (simp only [List.length_drop, List.length_take]; rfl)) ?_; (refine (G.All_clips t191 _ (G.Tab_at HT.out (by repeat (first | (with_reducible first | exact HB.out | apply below_alloc | apply pw_below_drewN | apply below_drew1) | exact HB.out))) (Option.some.inj A2.out)).mono ?_); rintro e w18 ⟨v192, rfl, ho0, hcl, hb⟩; have CL := Aside0.mk hcl; clear hcl; refine ⟨_, rfl, ?_⟩; have n0_ := Aside0.mk (Kd.V_lower (Kd.V_mono (ok' := fun k_ => True) ho0 (fun k_ hk_ => trivial)) (below_size (by repeat (first | (with_reducible first | exact HB.out | apply below_alloc | apply pw_below_drewN | apply below_drew1) | exact HB.out)))); have n1_ := Aside0.mk (below_step (by repeat (first | (with_reducible first | exact HB.out | apply below_alloc | apply pw_below_drewN | apply below_drew1) | exact HB.out)) hb); clear HB; have HO193 := n0_; have HB := n1_; clear n0_ n1_; (try clear hb); (try clear hb2); (try clear hk); (try clear hi); (try clear ho0); obtain ⟨Ao19, co19, eo19⟩ := Kd.V_slice HO193.out; subst eo19) | ((with_reducible refine gate_callee (f := 8) rfl ?_); refine goesL_ (some 13) rfl rfl Tryd.func8 (by kernel_rfl) rfl #[.int .i64 a0, .int .i64 (t191.length : Int)] rfl (by (try simp only [List.map_toArray, List.map_cons, List.map_nil]); first | done | rfl | (simp only [List.length_drop, List.length_take]; rfl)) ?_; (with_reducible refine (truchmanref01_Around.calls a0 (t191.length : Int) t194 _ A4.out).mono ?_); rintro e w' ⟨rfl, ⟨nd, rfl⟩⟩; refine ⟨_, rfl, ?_⟩; have p195 : 0 ≤ (t194 : Int) := of_decide_eq_true (by first | (with_reducible assumption) | assumption); have q195 : t194 < (t191.length : Int) := of_decide_eq_true (by first | (with_reducible assumption) | assumption); obtain ⟨ad195, e195, hx195_0⟩ := Kd.at_int (Kd.V_reads' HO193.out).2.2 t194 p195 q195; cases e195; replace p195 := eq_true p195; replace q195 := eq_true q195) | ((with_reducible refine gate_store (t := 22) (p := 14) rfl ?_); have hat := G.Clip_at CL.out; obtain ⟨gc, ec, hgc, hfz⟩ := hat t194.toNat; replace hfz := hfz _ rfl; clear hat; refine store_event (t := 22) (p := 14) (v := ?vo) (w1 := (w18.drewN nd).setCell (ad195.add t194.toNat) (.int .i64 99)) ?hg ?ho ?hn ?hr ?_; (case ho => rfl); (case hg => rfl); (case hn => rfl); (case hr => first | (go_simp; done) | (go_simp; rfl)); intro w3 hw; have n0_ : Aside0 (Below w.heap.size w w3) := ⟨by rw [hw]; exact Below.setCell (by repeat (first | (with_reducible first | exact HB.out | apply below_alloc | apply pw_below_drewN | apply below_drew1) | exact HB.out)) (G.Clip_base ec hgc (by first | exact Nat.le_refl _ | exact below_size HB.out)) _⟩; clear hw hfz hx195_0; clear HB; have HB := n0_; clear n0_; clear ec hgc; clear HO193; clear CL) | ((with_reducible refine gate_callee (f := 20) rfl ?_); refine goesL_ (some 15) rfl rfl Tryd.func20 (by kernel_rfl) rfl #[] rfl (by (try simp only [List.map_toArray, List.map_cons, List.map_nil]); first | done | rfl | (simp only [List.length_drop, List.length_take]; rfl)) ?_; (with_reducible refine (codes_All.calls  t196 _ ⟨G.Tab_at HT.out (by repeat (first | (with_reducible first | exact HB.out | apply below_alloc | apply pw_below_drewN | apply below_drew1) | exact HB.out))⟩ A7.out).mono ?_); rintro e w20 ⟨v197, rfl, ho0, hb⟩; refine ⟨_, rfl, ?_⟩; have n1_ := Aside0.mk (Kd.V_lower (Kd.V_mono (ok' := fun k_ => True) ho0 (fun k_ hk_ => trivial)) (below_size (by repeat (first | (with_reducible first | exact HB.out | apply below_alloc | apply pw_below_drewN | apply below_drew1) | exact HB.out)))); have n2_ := Aside0.mk (below_step (by repeat (first | (with_reducible first | exact HB.out | apply below_alloc | apply pw_below_drewN | apply below_drew1) | exact HB.out)) hb); clear HB; have HO198 := n1_; have HB := n2_; clear n1_ n2_; (try clear hb); (try clear hb2); (try clear hk); (try clear hi); (try clear ho0)))
                    have n1_ := Aside0.mk (Kd.V_drew HO198.out)
                    have n2_ := Aside0.mk (below_drew1 HB.out)
                    clear HO198
                    clear HB
                    have HO198 := n1_
                    have HB := n2_
                    clear n1_ n2_
                    obtain ⟨Ao22, co22, eo22⟩ := Kd.V_slice HO198.out
                    (first | subst eo22 | (injection eo22 with f1_ f2_ f3_; have f4_ := f1_.symm; have f5_ := f3_.symm; clear f1_ f2_ f3_; subst f4_; subst f5_))
                    have p200 : 0 ≤ (t199 : Int) := of_decide_eq_true (by first | (with_reducible assumption) | assumption)
                    have q200 : t199 < (t196.length : Int) := of_decide_eq_true (by first | (with_reducible assumption) | assumption)
                    obtain ⟨ad200, e200, hx200_0⟩ := Kd.at_int (Kd.V_reads' HO198.out).2.2 t199 p200 q200
                    cases e200
                    replace p200 := eq_true p200
                    replace q200 := eq_true q200
                    refine start_ (n := 20) (S := fun w' => w'.cell? (ad200.add (t199).toNat) = some (.int .i64 (rd t196 t199)) ∧ True) (ds := []) #[false, false, false, false, false, false, false, false, false, false, false, false, false, false, false, false, false, false, false, false] (by kernel_rfl) rfl rfl ⟨hx200_0, trivial⟩ (fun hHeld => ?_); refine with_tabW truchmanlaw08_CodesOwns.tab6 truchmanlaw08_CodesOwns.bits6 (fun HT_ HW_ => ?_)
                    generalize w20.drew = w21 at HO198 HB hx200_0 hHeld ⊢
                    refine pure_ (i := 0) (N := some 16) (v := ?_) (a' := ?_) #[true, false, false, false, false, false, false, false, false, false, false, false, false, false, false, false, false, false, false, false] rfl rfl (any_of HT_.out (by kernel_rfl)) (fun _ _ _ h => h) (Or.inl ⟨by rfl, ?_⟩) ?_ ?_
                    rotate_left
                    · intro w'
                      go_simp
                      with_reducible rfl
                    rotate_left
                    · simp only [Act.put, List.setIfInBounds_toArray, List.set_cons_zero, List.set_cons_succ, i64_w, i32_w]
                      rfl
                    refine pure_ (i := 1) (N := some 17) (v := ?_) (a' := ?_) #[true, true, false, false, false, false, false, false, false, false, false, false, false, false, false, false, false, false, false, false] rfl rfl (any_of HT_.out (by kernel_rfl)) (fun _ _ _ h => h) (Or.inl ⟨by rfl, ?_⟩) ?_ ?_
                    rotate_left
                    · intro w'
                      go_simp
                      with_reducible rfl
                    rotate_left
                    · simp only [Act.put, List.setIfInBounds_toArray, List.set_cons_zero, List.set_cons_succ, i64_w, i32_w]
                      rfl
                    refine pure_ (i := 2) (N := some 18) (v := ?_) (a' := ?_) #[true, true, true, false, false, false, false, false, false, false, false, false, false, false, false, false, false, false, false, false] rfl rfl (any_of HT_.out (by kernel_rfl)) (fun _ _ _ h => h) (Or.inl ⟨by rfl, ?_⟩) ?_ ?_
                    rotate_left
                    · intro w'
                      go_simp
                      with_reducible rfl
                    rotate_left
                    · simp only [Act.put, List.setIfInBounds_toArray, List.set_cons_zero, List.set_cons_succ, i64_w, i32_w]
                      rfl
                    refine pure_ (i := 3) (N := some 19) (v := ?_) (a' := ?_) #[true, true, true, true, false, false, false, false, false, false, false, false, false, false, false, false, false, false, false, false] rfl rfl (any_of HT_.out (by kernel_rfl)) (fun _ _ _ h => h) (Or.inl ⟨by rfl, ?_⟩) ?_ ?_
                    rotate_left
                    · intro w'
                      go_simp
                      with_reducible rfl
                    rotate_left
                    · simp only [Act.put, List.setIfInBounds_toArray, List.set_cons_zero, List.set_cons_succ, i64_w, i32_w]
                      rfl
                    refine pure_ (i := 4) (N := some 20) (v := ?_) (a' := ?_) #[true, true, true, true, true, false, false, false, false, false, false, false, false, false, false, false, false, false, false, false] rfl rfl (any_of HT_.out (by kernel_rfl)) (fun _ _ _ h => h) (Or.inl ⟨by rfl, ?_⟩) ?_ ?_
                    rotate_left
                    · intro w'
                      go_simp
                      with_reducible rfl
                    rotate_left
                    · simp only [Act.put, List.setIfInBounds_toArray, List.set_cons_zero, List.set_cons_succ, i64_w, i32_w]
                      rfl
                    refine pure_ (i := 5) (N := some 21) (v := ?_) (a' := ?_) #[true, true, true, true, true, true, false, false, false, false, false, false, false, false, false, false, false, false, false, false] rfl rfl (any_of HT_.out (by kernel_rfl)) (fun _ _ _ h => h) (Or.inl ⟨by rfl, ?_⟩) ?_ ?_
                    rotate_left
                    · intro w'
                      go_simp
                      with_reducible rfl
                    rotate_left
                    · simp only [Act.put, List.setIfInBounds_toArray, List.set_cons_zero, List.set_cons_succ, i64_w, i32_w]
                      rfl
                    refine pure_ (i := 10) (N := some 26) (v := ?_) (a' := ?_) #[true, true, true, true, true, true, false, false, false, false, true, false, false, false, false, false, false, false, false, false] rfl rfl (any_of HT_.out (by kernel_rfl)) (fun _ _ _ h => h) (Or.inl ⟨by rfl, ?_⟩) ?_ ?_
                    rotate_left
                    · intro w'
                      go_simp
                      with_reducible rfl
                    rotate_left
                    · simp only [Act.put, List.setIfInBounds_toArray, List.set_cons_zero, List.set_cons_succ, i64_w, i32_w]
                      rfl
                    refine one_ (i := 6) (N := some 22) #[true, true, true, true, true, true, true, false, false, false, true, false, false, false, false, false, false, false, false, false] rfl rfl (one_of HT_.out (by kernel_rfl)) (by decide) (fun K hK => ?_)
                    refine goes_ Tryd.func8 (by kernel_rfl) rfl #[.int .i64 a0, .int .i64 19] (by rfl) rfl rfl (by (try simp only [List.map_toArray, List.map_cons, List.map_nil]); first | done | rfl | (simp only [List.length_drop, List.length_take]; rfl)) ?_
                    with_reducible refine (truchmanref01_Around.calls a0 19 t199 _ A9.out).mono ?_
                    rintro e w' ⟨rfl, ⟨nd, rfl⟩⟩
                    refine ⟨_, rfl, ?_⟩
                    refine hK.out _ _ ⟨hHeld.1, hHeld.2⟩ (fun hHeld => ?_)
                    clear hK K
                    refine norm_ (a' := ?_) ?_ ?_
                    rotate_left
                    · show Act.put _ (some 22) _ = _
                      simp only [Act.put, List.setIfInBounds_toArray, List.set_cons_zero, List.set_cons_succ, i64_w, i32_w]
                      rfl
                    refine pure_ (i := 7) (N := some 23) (v := ?_) (a' := ?_) #[true, true, true, true, true, true, true, true, false, false, true, false, false, false, false, false, false, false, false, false] rfl rfl (any_of HT_.out (by kernel_rfl)) (fun _ _ _ h => h) (Or.inl ⟨by rfl, ?_⟩) ?_ ?_
                    rotate_left
                    · intro w'
                      go_simp
                      with_reducible rfl
                    rotate_left
                    · simp only [Act.put, List.setIfInBounds_toArray, List.set_cons_zero, List.set_cons_succ, i64_w, i32_w]
                      rfl
                    refine take_ (i := 8) (N := some 24) (v := ?_) (a' := ?_) #[true, true, true, true, true, true, true, true, true, false, true, false, false, false, false, false, false, false, false, false] rfl rfl (take_ofW HT_.out HW_.out (by kernel_rfl)) (fun _ _ _ h => h) (Or.inl ⟨by rfl, ?_⟩) hHeld ?_ ?_
                    rotate_left
                    · rintro w' ⟨s0, s1⟩
                      go_simp
                      with_reducible rfl
                    rotate_left
                    · simp only [Act.put, List.setIfInBounds_toArray, List.set_cons_zero, List.set_cons_succ, i64_w, i32_w]
                      rfl
                    refine one_ (i := 9) (N := some 25) #[true, true, true, true, true, true, true, true, true, true, true, false, false, false, false, false, false, false, false, false] rfl rfl (one_of HT_.out (by kernel_rfl)) (by decide) (fun K hK => ?_)
                    refine goes_ Tryd.func21 (by kernel_rfl) rfl #[] (by rfl) rfl rfl (by (try simp only [List.map_toArray, List.map_cons, List.map_nil]); first | done | rfl | (simp only [List.length_drop, List.length_take]; rfl)) ?_
                    with_reducible refine (truchmanref08_All.calls  t201 _ A12.out).mono ?_
                    rintro e w23 ⟨v202, rfl, ho0, hb⟩
                    have HS0_ := (hb.cell (World.block_lt_of_cell? _ _ (hHeld.1))).trans (hHeld.1)
                    have HS1_ := trivial
                    refine ⟨_, rfl, ?_⟩
                    have n1_ := Aside0.mk (Kd.V_elder' (by (with_reducible repeat (first | apply Kd.V_alloc | apply Kd.V_drewN | apply Kd.V_drew)); exact HO198.out) (Kd.R_base ho0) hb)
                    have n2_ := Aside0.mk (Kd.R_lower ho0 (below_size (by repeat (first | (with_reducible first | exact HB.out | apply below_alloc | apply pw_below_drewN | apply below_drew1) | exact HB.out))))
                    have n3_ := Aside0.mk (below_step (by repeat (first | (with_reducible first | exact HB.out | apply below_alloc | apply pw_below_drewN | apply below_drew1) | exact HB.out)) hb)
                    clear HO198
                    clear HB
                    have HO198 := n1_
                    have HO203 := n2_
                    have HB := n3_
                    clear n1_ n2_ n3_
                    (try clear hb)
                    (try clear hb2)
                    (try clear hk)
                    (try clear hi)
                    (try clear ho0)
                    refine hK.out _ _ ⟨HS0_, HS1_⟩ (fun hHeld => ?_)
                    clear hK K
                    refine norm_ (a' := ?_) ?_ ?_
                    rotate_left
                    · show Act.put _ (some 25) _ = _
                      simp only [Act.put, List.setIfInBounds_toArray, List.set_cons_zero, List.set_cons_succ, i64_w, i32_w]
                      rfl
                    refine one_ (i := 11) (N := some 27) #[true, true, true, true, true, true, true, true, true, true, true, true, false, false, false, false, false, false, false, false] rfl rfl (one_of HT_.out (by kernel_rfl)) (by decide) (fun K hK => ?_)
                    refine goes_ Tryd.func8 (by kernel_rfl) rfl #[.int .i64 a0, .int .i64 19] (by rfl) rfl rfl (by (try simp only [List.map_toArray, List.map_cons, List.map_nil]); first | done | rfl | (simp only [List.length_drop, List.length_take]; rfl)) ?_
                    with_reducible refine (truchmanref01_Around.calls a0 19 t204 _ A13.out).mono ?_
                    rintro e w' ⟨rfl, ⟨nd, rfl⟩⟩
                    refine ⟨_, rfl, ?_⟩
                    obtain ⟨Ao24, co24, eo24⟩ := Kd.R_slice HO203.out
                    (first | subst eo24 | (injection eo24 with f1_ f2_ f3_; have f4_ := f1_.symm; have f5_ := f3_.symm; clear f1_ f2_ f3_; subst f4_; subst f5_))
                    have p205 : 0 ≤ (t204 : Int) := of_decide_eq_true (by first | (with_reducible assumption) | assumption)
                    have q205 : t204 < (t201.length : Int) := of_decide_eq_true (by first | (with_reducible assumption) | assumption)
                    obtain ⟨ad205, e205, hx205_0⟩ := Kd.at_int (Kd.R_reads' HO203.out).2.2 t204 p205 q205
                    cases e205
                    replace p205 := eq_true p205
                    replace q205 := eq_true q205
                    refine hK.out _ _ ⟨hHeld.1, hHeld.2⟩ (fun hHeld => ?_)
                    clear hK K
                    refine norm_ (a' := ?_) ?_ ?_
                    rotate_left
                    · show Act.put _ (some 27) _ = _
                      simp only [Act.put, List.setIfInBounds_toArray, List.set_cons_zero, List.set_cons_succ, i64_w, i32_w]
                      rfl
                    refine pure_ (i := 12) (N := some 28) (v := ?_) (a' := ?_) #[true, true, true, true, true, true, true, true, true, true, true, true, true, false, false, false, false, false, false, false] rfl rfl (any_of HT_.out (by kernel_rfl)) (fun _ _ _ h => h) (Or.inl ⟨by rfl, ?_⟩) ?_ ?_
                    rotate_left
                    · intro w'
                      go_simp
                      with_reducible rfl
                    rotate_left
                    · simp only [Act.put, List.setIfInBounds_toArray, List.set_cons_zero, List.set_cons_succ, i64_w, i32_w]
                      rfl
                    refine one_ (i := 13) (N := some 29) #[true, true, true, true, true, true, true, true, true, true, true, true, true, true, false, false, false, false, false, false] rfl rfl (one_of HT_.out (by kernel_rfl)) (by decide) (fun K hK => ?_)
                    refine value_ (v := .int .i64 (rd t201 t204)) (by rfl) rfl (w1 := _) (by go_simp; rfl) ?_
                    refine hK.out _ _ ⟨hHeld.1, trivial⟩ (fun hHeld => ?_)
                    clear hK K
                    refine norm_ (a' := ?_) ?_ ?_
                    rotate_left
                    · show Act.put _ (some 29) _ = _
                      simp only [Act.put, List.setIfInBounds_toArray, List.set_cons_zero, List.set_cons_succ, i64_w, i32_w]
                      rfl
                    refine pure_ (i := 14) (N := some 30) (v := ?_) (a' := ?_) #[true, true, true, true, true, true, true, true, true, true, true, true, true, true, true, false, false, false, false, false] rfl rfl (any_of HT_.out (by kernel_rfl)) (fun _ _ _ h => h) (Or.inl ⟨by rfl, ?_⟩) ?_ ?_
                    rotate_left
                    · intro w'
                      go_simp
                      with_reducible rfl
                    rotate_left
                    · simp only [Act.put, List.setIfInBounds_toArray, List.set_cons_zero, List.set_cons_succ, i64_w, i32_w]
                      rfl
                    refine pure_ (i := 15) (N := some 31) (v := ?_) (a' := ?_) #[true, true, true, true, true, true, true, true, true, true, true, true, true, true, true, true, false, false, false, false] rfl rfl (any_of HT_.out (by kernel_rfl)) (fun _ _ _ h => h) (Or.inl ⟨by rfl, ?_⟩) ?_ ?_
                    rotate_left
                    · intro w'
                      go_simp
                      with_reducible rfl
                    rotate_left
                    · simp only [Act.put, List.setIfInBounds_toArray, List.set_cons_zero, List.set_cons_succ, i64_w, i32_w]
                      rfl
                    refine pure_ (i := 16) (N := some 32) (v := ?_) (a' := ?_) #[true, true, true, true, true, true, true, true, true, true, true, true, true, true, true, true, true, false, false, false] rfl rfl (any_of HT_.out (by kernel_rfl)) (fun _ _ _ h => h) (Or.inl ⟨by rfl, ?_⟩) ?_ ?_
                    rotate_left
                    · intro w'
                      go_simp
                      with_reducible rfl
                    rotate_left
                    · simp only [Act.put, List.setIfInBounds_toArray, List.set_cons_zero, List.set_cons_succ, i64_w, i32_w]
                      rfl
                    refine one_ (i := 17) (N := some 33) #[true, true, true, true, true, true, true, true, true, true, true, true, true, true, true, true, true, true, false, false] rfl rfl (one_of HT_.out (by kernel_rfl)) (by decide) (fun K hK => ?_)
                    refine goes_ Tryd.func15 (by kernel_rfl) rfl #[] (by rfl) rfl rfl (by (try simp only [List.map_toArray, List.map_cons, List.map_nil]); first | done | rfl | (simp only [List.length_drop, List.length_take]; rfl)) ?_
                    with_reducible refine (truchmanlaw08_lives.calls  t206 _ ⟨G.Tab_at HT.out (by repeat (first | (with_reducible first | exact HB.out | apply below_alloc | apply pw_below_drewN | apply below_drew1) | exact HB.out))⟩ A17.out).mono ?_
                    rintro e w25 ⟨rfl, hb⟩
                    have HS0_ := (hb.cell (World.block_lt_of_cell? _ _ (hHeld.1))).trans (hHeld.1)
                    have HS1_ := trivial
                    refine ⟨_, rfl, ?_⟩
                    have n1_ := Aside0.mk (Kd.V_below (by (with_reducible repeat (first | apply Kd.V_alloc | apply Kd.V_drewN | apply Kd.V_drew)); exact HO198.out) hb)
                    have n2_ := Aside0.mk (Kd.R_below (by (with_reducible repeat (first | apply Kd.R_alloc | apply Kd.R_drewN | apply Kd.R_drew)); exact HO203.out) hb)
                    have n3_ := Aside0.mk (below_step (by repeat (first | (with_reducible first | exact HB.out | apply below_alloc | apply pw_below_drewN | apply below_drew1) | exact HB.out)) hb)
                    clear HO198
                    clear HO203
                    clear HB
                    have HO198 := n1_
                    have HO203 := n2_
                    have HB := n3_
                    clear n1_ n2_ n3_
                    (try clear hb)
                    (try clear hb2)
                    (try clear hk)
                    (try clear hi)
                    refine hK.out _ _ ⟨HS0_, HS1_⟩ (fun hHeld => ?_)
                    clear hK K
                    refine norm_ (a' := ?_) ?_ ?_
                    rotate_left
                    · show Act.put _ (some 33) _ = _
                      simp only [Act.put, List.setIfInBounds_toArray, List.set_cons_zero, List.set_cons_succ, i64_w, i32_w]
                      rfl
                    refine pure_ (i := 18) (N := some 34) (v := ?_) (a' := ?_) #[true, true, true, true, true, true, true, true, true, true, true, true, true, true, true, true, true, true, true, false] rfl rfl (any_of HT_.out (by kernel_rfl)) (fun _ _ _ h => h) (Or.inl ⟨by rfl, ?_⟩) ?_ ?_
                    rotate_left
                    · intro w'
                      go_simp
                      with_reducible rfl
                    rotate_left
                    · simp only [Act.put, List.setIfInBounds_toArray, List.set_cons_zero, List.set_cons_succ, i64_w, i32_w]
                      rfl
                    refine pure_ (i := 19) (N := some 2) (v := ?_) (a' := ?_) #[true, true, true, true, true, true, true, true, true, true, true, true, true, true, true, true, true, true, true, true] rfl rfl (any_of HT_.out (by kernel_rfl)) (fun _ _ _ h => h) (Or.inl ⟨by rfl, ?_⟩) ?_ ?_
                    rotate_left
                    · intro w'
                      go_simp
                      with_reducible rfl
                    rotate_left
                    · simp only [Act.put, List.setIfInBounds_toArray, List.set_cons_zero, List.set_cons_succ, i64_w, i32_w]
                      rfl
                    refine done_ (done_of HT_.out (by kernel_rfl)) ?_
                    try go_wp2
                    go_ret
                    exact ⟨by first | rfl | (simp [errW_none, errW_some] <;> rfl) | (simp [*, errW_none, errW_some] <;> rfl), by repeat (first | (with_reducible first | exact HB.out | apply below_alloc | apply pw_below_drewN | apply below_drew1) | exact HB.out)⟩
                  · rw [if_neg c16] at H
                    have c16b0 : ((rd t196 t199) == (rd t201 t204)) = false := beq_eq_false_iff_ne.mpr c16
                    have c16b1 : ((rd t196 t199) != (rd t201 t204)) = true := bne_iff_ne.mpr c16
                    obtain rfl := Option.some.inj H
                    exact absurd hrt.out (by decide)
                · rw [if_neg c15] at H
                  exact absurd H (by simp)
              · rw [if_neg c14] at H
                exact absurd H (by simp)
            · rw [if_neg c11] at H
              exact absurd H (by simp)
          · rw [if_neg c10] at H
            exact absurd H (by simp)
        · rw [if_neg c8] at H
          have c8b0 : ((t196.length : Int) == 19) = false := beq_eq_false_iff_ne.mpr c8
          have c8b1 : ((t196.length : Int) != 19) = true := bne_iff_ne.mpr c8
          obtain rfl := Option.some.inj H
          exact absurd hrt.out (by decide)
      · rw [if_neg c6] at H
        exact absurd H (by simp)
    · rw [if_neg c5] at H
      exact absurd H (by simp)

/-- THE ONE PURE STATEMENT of truchmanlaw08_CodesOwns: yours. -/
def truchmanlaw08_CodesOwns.Pure : Prop := ∀ (a0 : Int), (Lit.int .i64 a0).wf = true → truchmanlaw08_CodesOwns.f a0 = some true
theorem truchmanlaw08_CodesOwns.walk (P : truchmanlaw08_CodesOwns.Pure) (a0 : Int) (w : World) (HT : Aside0 (G.Tab w)) (w0 : (Lit.int .i64 a0).wf = true) :
    Calls Tryd.prog 6 #[.int .i64 a0] w fun e w' => e = .returned (.bool true) ∧ Below w.heap.size w w' := by
  have h := P a0 w0
  refine (truchmanlaw08_CodesOwns.calls a0 true w HT ⟨rfl⟩ h).mono ?_
  rintro e w' ⟨rfl, hd⟩
  exact ⟨rfl, hd⟩

end Go.Proofs.YtemadfllannljaaDoor.P
