-- Written by a program of this session (wip/tools), over the kit's printer; Lean checks it.
import Derived.Test.YtfoifcilacbipaaPx0
import Derived.Test.YtfoifcilacbipaaPx1
namespace Go.Proofs.Ytfoifcilacbipaa.P
open Go.RowKit Go.Proofs.YtfoifcilacbipaaW.PrintWords Go.Proofs.YtfoifcilacbipaaW.PrintLast Go.Proofs.YtfoifcilacbipaaW.PrintMore
attribute [local go_sem] max2_int min2_int max_two min_two max_three min_three max_four min_four   -- for this text's walks alone
set_option linter.unusedVariables false
set_option linter.unusedSimpArgs false

/-! ### truchmanref03_Mark: function 40 -/
def truchmanref03_Mark.l0 : Nat → List Int → List Int → List Int → Int → Int → Option (List Int × Int)
  | 0, _, _, _, _, _ => none
  | k + 1, x0, x6, x7, x8, x9 => if x9 < (x6.length : Int) then (if 0 ≤ x9 then (if x9 = (wrap64 ((x6.length : Int) - 1)) then ((truchmanref01_U32.f ((((rd x6 x9) % 4294967296) + 2147483648) % 4294967296)).bind fun t172 => (if x7.length + t172.length < 140737488355328 then ((some (x7 ++ t172 : List Int)).bind fun y175 => (if 0 ≤ x8 then (if x8 ≤ (wrap64 (x8 + (rd x6 x9))) then (if (wrap64 (x8 + (rd x6 x9))) ≤ (x0.length : Int) then (if y175.length + ((x0.take ((wrap64 (x8 + (rd x6 x9))) : Int).toNat).drop (x8 : Int).toNat).length < 140737488355328 then (truchmanref03_Mark.l0 k x0 x6 (y175 ++ ((x0.take ((wrap64 (x8 + (rd x6 x9))) : Int).toNat).drop (x8 : Int).toNat)) (wrap64 (x8 + (rd x6 x9))) (wrap64 (x9 + 1))) else (none)) else (none)) else (none)) else (none))) else (none))) else ((truchmanref01_U32.f ((rd x6 x9) % 4294967296)).bind fun t184 => (if x7.length + t184.length < 140737488355328 then ((some (x7 ++ t184 : List Int)).bind fun y187 => (if 0 ≤ x8 then (if x8 ≤ (wrap64 (x8 + (rd x6 x9))) then (if (wrap64 (x8 + (rd x6 x9))) ≤ (x0.length : Int) then (if y187.length + ((x0.take ((wrap64 (x8 + (rd x6 x9))) : Int).toNat).drop (x8 : Int).toNat).length < 140737488355328 then (truchmanref03_Mark.l0 k x0 x6 (y187 ++ ((x0.take ((wrap64 (x8 + (rd x6 x9))) : Int).toNat).drop (x8 : Int).toNat)) (wrap64 (x8 + (rd x6 x9))) (wrap64 (x9 + 1))) else (none)) else (none)) else (none)) else (none))) else (none)))) else (none)) else (some (x7, 0))
def truchmanref03_Mark.f (k : Nat) (l0 : List Int) (a1 : Int) : Option (List Int × Int) := if a1 < 1 then (some (([] : List Int), 1)) else (if (l0.length : Int) > 4096 then (some (([] : List Int), 4)) else ((truchmanref03_Sizes.f k (l0.length : Int) a1).bind fun t168 => (if (t168.length : Int) > 64 then (some (([] : List Int), 5)) else (truchmanref03_Mark.l0 k l0 t168 ([] : List Int) 0 0))))
theorem truchmanref03_Mark.mono_l : ∀ k, (∀ y0 y1 y2 y3 y4, LeO (truchmanref03_Mark.l0 k y0 y1 y2 y3 y4) (truchmanref03_Mark.l0 (k + 1) y0 y1 y2 y3 y4))
  | 0 => fun _ _ _ _ _ r h => by simp [truchmanref03_Mark.l0] at h
  | k + 1 => by
    have ih0 := truchmanref03_Mark.mono_l k
    · intro y0 y1 y2 y3 y4
      unfold truchmanref03_Mark.l0
      repeat' first
      | (with_reducible exact ih0 _ _ _ _ _)
      | (with_reducible exact truchmanref03_Sizes.mono _ _ _)
      | (with_reducible exact LeO.refl _)
      | (with_reducible exact LeO.none _)
      | (with_reducible refine LeO.ite ?_ ?_)
      | (with_reducible refine LeO.bind ?_ (fun _ => ?_))
      | exact ih0 _ _ _ _ _
      | exact truchmanref03_Sizes.mono _ _ _
      | exact LeO.none _
      | refine LeO.ite ?_ ?_
      | refine LeO.bind ?_ (fun _ => ?_)
theorem truchmanref03_Mark.mono : ∀ a0 a1 k, LeO (truchmanref03_Mark.f k a0 a1) (truchmanref03_Mark.f (k + 1) a0 a1) := by
  intro a0 a1 k
  have ih0 := truchmanref03_Mark.mono_l k
  unfold truchmanref03_Mark.f
  repeat' first
      | (with_reducible exact ih0 _ _ _ _ _)
      | (with_reducible exact truchmanref03_Sizes.mono _ _ _)
      | (with_reducible exact LeO.refl _)
      | (with_reducible exact LeO.none _)
      | (with_reducible refine LeO.ite ?_ ?_)
      | (with_reducible refine LeO.bind ?_ (fun _ => ?_))
      | exact ih0 _ _ _ _ _
      | exact truchmanref03_Sizes.mono _ _ _
      | exact LeO.none _
      | refine LeO.ite ?_ ?_
      | refine LeO.bind ?_ (fun _ => ?_)
set_option maxHeartbeats 8000000 in
set_option maxRecDepth 100000 in
theorem truchmanref03_Mark.calls (k : Nat) (A0 : Option Addr) (c0 : Nat) (l0 : List Int) (a1 : Int) (r1 : List Int) (r2 : Int) (w : World) (hr0 : Kd.C (Kd.int .u8) w A0 l0.length l0) (hc0 : l0.length ≤ c0) (h : truchmanref03_Mark.f k l0 a1 = some (r1, r2)) :
    Calls Try.prog 40 #[.slice A0 l0.length c0, .int .i64 a1] w fun e w' => ∃ v0_ : Value, e = .returned (.tuple #[v0_, .int .i64 r2]) ∧ Kd.R (Kd.int .u8) 5 w' w.heap.size (fun _ => True) v0_ r1 ∧ Below w.heap.size w w' := by
  have HR0 := Aside0.mk hr0
  have HC0 := Aside0.mk hc0
  clear hr0 hc0
  have HB := Aside0.mk (Below.refl w.heap.size w)
  have H : (if a1 < 1 then (some (([] : List Int), 1)) else (if (l0.length : Int) > 4096 then (some (([] : List Int), 4)) else ((truchmanref03_Sizes.f k (l0.length : Int) a1).bind fun t168 => (if (t168.length : Int) > 64 then (some (([] : List Int), 5)) else (truchmanref03_Mark.l0 k l0 t168 ([] : List Int) 0 0))))) = some (r1, r2) := h
  clear h
  by_cases c3 : a1 < 1
  · rw [if_pos c3] at H
    have c3b0 : decide (a1 < 1) = true := decide_eq_true c3
    clear c3
    simp only [Option.some.injEq, Prod.mk.injEq] at H
    obtain ⟨rfl, rfl⟩ := H
    go_enter Try.func40, Try.ntmps40
    go_wp2
    go_ret2
    exact ⟨_, by first | rfl | (simp [errW_none, errW_some] <;> rfl) | (simp [*, errW_none, errW_some] <;> rfl), by first | exact Kd.R_nil _ _ _ _ _ | exact Kd.N_nil _ _ _ _ _ | exact Kd.V_nil _ _ _ _ _ | exact Kd.Q_nil _ _ _ _ _ | exact Kd.S_nil _ _ _ _ _, by repeat (first | (with_reducible first | exact HB.out | apply below_alloc | apply pw_below_drewN | apply below_drew1) | exact HB.out)⟩
  · rw [if_neg c3] at H
    have c3b0 : decide (a1 < 1) = false := decide_eq_false c3
    clear c3
    by_cases c4 : (l0.length : Int) > 4096
    · rw [if_pos c4] at H
      have c4b0 : decide (4096 < (l0.length : Int)) = true := decide_eq_true c4
      have c4b1 : decide (4096 < l0.length) = true := decide_eq_true (by omega)
      clear c4
      simp only [Option.some.injEq, Prod.mk.injEq] at H
      obtain ⟨rfl, rfl⟩ := H
      go_enter Try.func40, Try.ntmps40
      go_wp2
      go_ret2
      exact ⟨_, by first | rfl | (simp [errW_none, errW_some] <;> rfl) | (simp [*, errW_none, errW_some] <;> rfl), by first | exact Kd.R_nil _ _ _ _ _ | exact Kd.N_nil _ _ _ _ _ | exact Kd.V_nil _ _ _ _ _ | exact Kd.Q_nil _ _ _ _ _ | exact Kd.S_nil _ _ _ _ _, by repeat (first | (with_reducible first | exact HB.out | apply below_alloc | apply pw_below_drewN | apply below_drew1) | exact HB.out)⟩
    · rw [if_neg c4] at H
      have c4b0 : decide (4096 < (l0.length : Int)) = false := decide_eq_false c4
      have c4b1 : decide (4096 < l0.length) = false := decide_eq_false (by omega)
      clear c4
      replace H := Option.bind_eq_some_iff.mp H
      obtain ⟨t168, A50, H⟩ := H
      replace H : (if (t168.length : Int) > 64 then (some (([] : List Int), 5)) else (truchmanref03_Mark.l0 k l0 t168 ([] : List Int) 0 0)) = some (r1, r2) := H
      have A5 := Aside0.mk A50
      clear A50
      by_cases c6 : (t168.length : Int) > 64
      · rw [if_pos c6] at H
        have c6b0 : decide (64 < (t168.length : Int)) = true := decide_eq_true c6
        have c6b1 : decide (64 < t168.length) = true := decide_eq_true (by omega)
        clear c6
        simp only [Option.some.injEq, Prod.mk.injEq] at H
        obtain ⟨rfl, rfl⟩ := H
        go_enter Try.func40, Try.ntmps40
        go_wp2_with (first | ((with_reducible refine gate_callee (f := 45) rfl ?_); refine goesL_ (some 19) rfl rfl Try.func45 (by kernel_rfl) rfl #[.int .i64 (l0.length : Int), .int .i64 a1] rfl (by (try simp only [List.map_toArray, List.map_cons, List.map_nil]); first | done | rfl | (simp only [List.length_drop, List.length_take]; rfl)) ?_; (with_reducible refine (truchmanref03_Sizes.calls k (l0.length : Int) a1 t168 _ A5.out).mono ?_); rintro e w7 ⟨v169, rfl, ho0, hb⟩; refine ⟨_, rfl, ?_⟩; have n0_ := Aside0.mk (Kd.R_lower ho0 (below_size (by repeat (first | (with_reducible first | exact HB.out | apply below_alloc | apply pw_below_drewN | apply below_drew1) | exact HB.out)))); have n1_ := Aside0.mk (below_step (by repeat (first | (with_reducible first | exact HB.out | apply below_alloc | apply pw_below_drewN | apply below_drew1) | exact HB.out)) hb); clear HB; have HO170 := n0_; have HB := n1_; clear n0_ n1_; (try clear hb); (try clear hb2); (try clear hk); (try clear hi); (try clear ho0); obtain ⟨Ao8, co8, eo8⟩ := Kd.R_slice HO170.out; subst eo8))
        go_ret2
        exact ⟨_, by first | rfl | (simp [errW_none, errW_some] <;> rfl) | (simp [*, errW_none, errW_some] <;> rfl), by first | exact Kd.R_nil _ _ _ _ _ | exact Kd.N_nil _ _ _ _ _ | exact Kd.V_nil _ _ _ _ _ | exact Kd.Q_nil _ _ _ _ _ | exact Kd.S_nil _ _ _ _ _, by repeat (first | (with_reducible first | exact HB.out | apply below_alloc | apply pw_below_drewN | apply below_drew1) | exact HB.out)⟩
      · rw [if_neg c6] at H
        have c6b0 : decide (64 < (t168.length : Int)) = false := decide_eq_false c6
        have c6b1 : decide (64 < t168.length) = false := decide_eq_false (by omega)
        clear c6
        have H' := Aside0.mk H
        clear H
        go_enter Try.func40, Try.ntmps40
        go_wp2_with (first | ((with_reducible refine gate_callee (f := 45) rfl ?_); refine goesL_ (some 19) rfl rfl Try.func45 (by kernel_rfl) rfl #[.int .i64 (l0.length : Int), .int .i64 a1] rfl (by (try simp only [List.map_toArray, List.map_cons, List.map_nil]); first | done | rfl | (simp only [List.length_drop, List.length_take]; rfl)) ?_; (with_reducible refine (truchmanref03_Sizes.calls k (l0.length : Int) a1 t168 _ A5.out).mono ?_); rintro e w9 ⟨v169, rfl, ho0, hb⟩; refine ⟨_, rfl, ?_⟩; have n0_ := Aside0.mk (Kd.R_lower ho0 (below_size (by repeat (first | (with_reducible first | exact HB.out | apply below_alloc | apply pw_below_drewN | apply below_drew1) | exact HB.out)))); have n1_ := Aside0.mk (below_step (by repeat (first | (with_reducible first | exact HB.out | apply below_alloc | apply pw_below_drewN | apply below_drew1) | exact HB.out)) hb); clear HB; have HO170 := n0_; have HB := n1_; clear n0_ n1_; (try clear hb); (try clear hb2); (try clear hk); (try clear hi); (try clear ho0); obtain ⟨Ao10, co10, eo10⟩ := Kd.R_slice HO170.out; subst eo10))
        go_loopg [7, 8, 9] k (fun kq v7 v8 v9 w' => ∃ (x7_1 : List Int) (x8_1 : Int) (x9_1 : Int), v8 = .int .i64 x8_1 ∧ v9 = .int .i64 x9_1 ∧ Aside0 (truchmanref03_Mark.l0 kq l0 t168 x7_1 x8_1 x9_1 = some (r1, r2)) ∧ Aside0 (kq ≤ k) ∧ Aside0 (Kd.R (Kd.int .i64) 3 w' w.heap.size (fun _ => True) (.slice Ao10 t168.length co10) t168) ∧ Aside0 (Kd.R (Kd.int .u8) 5 w' w.heap.size (fun _ => True) v7 x7_1) ∧ Aside0 (Below w.heap.size w w'))
        case atStart => exact ⟨(([] : List Int)), (0), (0), (by first | rfl | (simp; done) | (simp [*]; done)), (by first | rfl | (simp; done) | (simp [*]; done)), H', ⟨Nat.le_refl _⟩, ⟨by (with_reducible repeat (first | apply Kd.R_alloc | apply Kd.R_drewN | apply Kd.R_drew)); exact HO170.out⟩, ⟨by first | exact Kd.R_nil _ _ _ _ _ | exact Kd.N_nil _ _ _ _ _ | exact Kd.V_nil _ _ _ _ _ | exact Kd.Q_nil _ _ _ _ _ | exact Kd.S_nil _ _ _ _ _⟩, ⟨by repeat (first | (with_reducible first | exact HB.out | apply below_alloc | apply pw_below_drewN | apply below_drew1) | exact HB.out)⟩⟩
        case round =>
          clear H'
          try clear p2
          try clear c3
          try clear c3b0
          try clear c4
          try clear c4b0
          try clear c4b1
          try clear c6
          try clear c6b0
          try clear c6b1
          obtain ⟨x7_1, x8_1, x9_1, rfl, rfl, HA, HK1, HO_6, HO_7, HB⟩ := hrel
          cases gk with
          | zero => exact absurd HA.out (by simp [truchmanref03_Mark.l0])
          | succ k1 =>
            have H := HA.out
            clear HA
            simp only [truchmanref03_Mark.l0] at H
            by_cases c11 : x9_1 < (t168.length : Int)
            · rw [if_pos c11] at H
              have c11b0 : decide (x9_1 < (t168.length : Int)) = true := decide_eq_true c11
              clear c11
              by_cases c12 : 0 ≤ x9_1
              · rw [if_pos c12] at H
                have c12b0 : decide (0 ≤ x9_1) = true := decide_eq_true c12
                clear c12
                by_cases c13 : x9_1 = (wrap64 ((t168.length : Int) - 1))
                · rw [if_pos c13] at H
                  have c13b0 : (x9_1 == (wrap64 ((t168.length : Int) - 1))) = true := beq_iff_eq.mpr c13
                  have c13b1 : (x9_1 != (wrap64 ((t168.length : Int) - 1))) = false := bne_eq_false_iff_eq.mpr c13
                  clear c13
                  replace H := Option.bind_eq_some_iff.mp H
                  obtain ⟨t172, A140, H⟩ := H
                  replace H : (if x7_1.length + t172.length < 140737488355328 then ((some (x7_1 ++ t172 : List Int)).bind fun y175 => (if 0 ≤ x8_1 then (if x8_1 ≤ (wrap64 (x8_1 + (rd t168 x9_1))) then (if (wrap64 (x8_1 + (rd t168 x9_1))) ≤ (l0.length : Int) then (if y175.length + ((l0.take ((wrap64 (x8_1 + (rd t168 x9_1))) : Int).toNat).drop (x8_1 : Int).toNat).length < 140737488355328 then (truchmanref03_Mark.l0 k1 l0 t168 (y175 ++ ((l0.take ((wrap64 (x8_1 + (rd t168 x9_1))) : Int).toNat).drop (x8_1 : Int).toNat)) (wrap64 (x8_1 + (rd t168 x9_1))) (wrap64 (x9_1 + 1))) else (none)) else (none)) else (none)) else (none))) else (none)) = some (r1, r2) := H
                  have A14 := Aside0.mk A140
                  clear A140
                  by_cases c15 : x7_1.length + t172.length < 140737488355328
                  · rw [if_pos c15] at H
                    have LMc15 := Aside0.mk c15
                    clear c15
                    obtain ⟨y175, hy175⟩ : ∃ y_ : List Int, y_ = (x7_1 ++ t172) := ⟨_, rfl⟩
                    replace H : (if 0 ≤ x8_1 then (if x8_1 ≤ (wrap64 (x8_1 + (rd t168 x9_1))) then (if (wrap64 (x8_1 + (rd t168 x9_1))) ≤ (l0.length : Int) then (if y175.length + ((l0.take ((wrap64 (x8_1 + (rd t168 x9_1))) : Int).toNat).drop (x8_1 : Int).toNat).length < 140737488355328 then (truchmanref03_Mark.l0 k1 l0 t168 (y175 ++ ((l0.take ((wrap64 (x8_1 + (rd t168 x9_1))) : Int).toNat).drop (x8_1 : Int).toNat)) (wrap64 (x8_1 + (rd t168 x9_1))) (wrap64 (x9_1 + 1))) else (none)) else (none)) else (none)) else (none)) = some (r1, r2) := by first | (rw [hy175]; with_reducible exact H) | (have H2_ := (Option.bind_some _ _).symm.trans H; rw [hy175]; with_reducible exact H2_) | (have H2_ := (Option.bind_some _ _).symm.trans H; with_reducible exact H2_) | with_reducible exact H | (rw [hy175]; exact H) | exact H
                    have Ny175 := Aside0.mk hy175
                    clear hy175
                    by_cases c16 : 0 ≤ x8_1
                    · rw [if_pos c16] at H
                      have c16b0 := eq_true c16
                      have c16b1 : decide (0 ≤ x8_1) = true := decide_eq_true c16
                      clear c16
                      by_cases c17 : x8_1 ≤ (wrap64 (x8_1 + (rd t168 x9_1)))
                      · rw [if_pos c17] at H
                        have c17b0 := eq_true c17
                        have c17b1 : decide (x8_1 ≤ (wrap64 (x8_1 + (rd t168 x9_1)))) = true := decide_eq_true c17
                        by_cases c18 : (wrap64 (x8_1 + (rd t168 x9_1))) ≤ (l0.length : Int)
                        · rw [if_pos c18] at H
                          have c18b0 := eq_true c18
                          have c18b1 : decide ((wrap64 (x8_1 + (rd t168 x9_1))) ≤ (l0.length : Int)) = true := decide_eq_true c18
                          by_cases c19 : y175.length + ((l0.take ((wrap64 (x8_1 + (rd t168 x9_1))) : Int).toNat).drop (x8_1 : Int).toNat).length < 140737488355328
                          · rw [if_pos c19] at H
                            have LMc19 := Aside0.mk c19
                            clear c19
                            obtain ⟨y180, hy180⟩ : ∃ y_ : List Int, y_ = (y175 ++ ((l0.take ((wrap64 (x8_1 + (rd t168 x9_1))) : Int).toNat).drop (x8_1 : Int).toNat)) := ⟨_, rfl⟩
                            replace H : (truchmanref03_Mark.l0 k1 l0 t168 y180 (wrap64 (x8_1 + (rd t168 x9_1))) (wrap64 (x9_1 + 1))) = some (r1, r2) := by first | (rw [hy180]; with_reducible exact H) | (have H2_ := (Option.bind_some _ _).symm.trans H; rw [hy180]; with_reducible exact H2_) | (have H2_ := (Option.bind_some _ _).symm.trans H; with_reducible exact H2_) | with_reducible exact H | (rw [hy180]; exact H) | exact H
                            have Ny180 := Aside0.mk hy180
                            clear hy180
                            have H' := Aside0.mk H
                            clear H
                            have p171 : 0 ≤ (x9_1 : Int) := of_decide_eq_true (by first | (with_reducible assumption) | assumption)
                            have q171 : x9_1 < (t168.length : Int) := of_decide_eq_true (by first | (with_reducible assumption) | assumption)
                            obtain ⟨ad171, e171, hx171_0⟩ := Kd.at_int (Kd.R_reads' HO_6.out).2.2 x9_1 p171 q171
                            cases e171
                            replace p171 := eq_true p171
                            replace q171 := eq_true q171
                            go_wp2_with (first | ((with_reducible refine gate_callee (f := 39) rfl ?_); refine goesL_ (some 43) rfl rfl Try.func39 (by kernel_rfl) rfl #[.int .u32 ((((rd t168 x9_1) % 4294967296) + 2147483648) % 4294967296)] rfl (by (try simp only [List.map_toArray, List.map_cons, List.map_nil]); first | done | rfl | (simp only [List.length_drop, List.length_take]; rfl)) ?_; (with_reducible refine (truchmanref01_U32.calls ((((rd t168 x9_1) % 4294967296) + 2147483648) % 4294967296) t172 _ A14.out).mono ?_); rintro e w20 ⟨v173, rfl, ho0, hb⟩; refine ⟨_, rfl, ?_⟩; have n0_ := Aside0.mk (Kd.R_below (by (with_reducible repeat (first | apply Kd.R_alloc | apply Kd.R_drewN | apply Kd.R_drew)); exact HO_6.out) hb); have n1_ := Aside0.mk (Kd.R_elder' (by (with_reducible repeat (first | apply Kd.R_alloc | apply Kd.R_drewN | apply Kd.R_drew)); exact HO_7.out) (Kd.R_base ho0) hb); have n2_ := Aside0.mk (Kd.R_lower (Kd.R_new' ho0 (Kd.R_lt (by (with_reducible repeat (first | apply Kd.R_alloc | apply Kd.R_drewN | apply Kd.R_drew)); exact HO_7.out))) (below_size (by repeat (first | (with_reducible first | exact HB.out | apply below_alloc | apply pw_below_drewN | apply below_drew1) | exact HB.out)))); have n3_ := Aside0.mk (below_step (by repeat (first | (with_reducible first | exact HB.out | apply below_alloc | apply pw_below_drewN | apply below_drew1) | exact HB.out)) hb); clear HO_6; clear HO_7; clear HB; have HO_6 := n0_; have HO_7 := n1_; have HO174 := n2_; have HB := n3_; clear n0_ n1_ n2_ n3_; (try clear hb); (try clear hb2); (try clear hk); (try clear hi); (try clear ho0); obtain ⟨Ao22, co22, eo22⟩ := Kd.R_slice HO174.out; subst eo22) | ((with_reducible refine gate_builtin (b := .append) (xs := #[.tmp 41, .tmp 43]) rfl ?_); at_builtin; refine Kd.R_append_rows (Kd.int .u8) (w0 := w) w.heap.size rfl (.tmp 41) (.tmp 43) 28 5 (.int .u8 0) 1 rfl Try.underlying28 info5 rfl (by decide) (by omega) u7 x7_1 t172 _ _ _ (fun k_ => some k_ ≠ (.slice Ao22 t172.length co22 : Value).ownBlock) (fun _ => False) rfl rfl ?aO ?aR (fun _ _ h => h) (fun _ h => h.elim) ?aF ?aB ?aS ?aL ?_; (case aR => repeat (first | exact (Kd.R_reads' HO174.out).2.2 | (with_reducible refine Kd.C_alloc ?_ _) | (with_reducible refine Kd.C_drewN ?_ _) | (with_reducible refine Kd.C_drew ?_))); (case aB => exact (by repeat (first | (with_reducible first | exact HB.out | apply below_alloc | apply pw_below_drewN | apply below_drew1) | exact HB.out))); (case aF => exact (fun k_ hk => Kd.fresh' (Kd.R_lt (by (with_reducible repeat (first | apply Kd.R_alloc | apply Kd.R_drewN | apply Kd.R_drew)); exact HO174.out)) k_ hk)); (case aO => exact (by (with_reducible repeat (first | apply Kd.R_alloc | apply Kd.R_drewN | apply Kd.R_drew)); exact Kd.R_mono HO_7.out (fun _ hk => hk.2))); (case aS => exact (below_size (by repeat (first | (with_reducible first | exact HB.out | apply below_alloc | apply pw_below_drewN | apply below_drew1) | exact HB.out)))); (case aL => have := LMc15.out; omega); intro v176 w21 ho hb hg hat; rw [← Ny175.out] at ho; have n0_ := Aside0.mk (Kd.R_over' (by (with_reducible repeat (first | apply Kd.R_alloc | apply Kd.R_drewN | apply Kd.R_drew)); exact HO_6.out) (Kd.R_typed (by (with_reducible repeat (first | apply Kd.R_alloc | apply Kd.R_drewN | apply Kd.R_drew)); exact HO_7.out)) (by decide) hg); have n1_ := Aside0.mk (Kd.R_after (ok := (fun _ => True)) (by (with_reducible repeat (first | apply Kd.R_alloc | apply Kd.R_drewN | apply Kd.R_drew)); exact HO174.out) hg hat); have n2_ := Aside0.mk (hb); have n3_ := Aside0.mk (ho); clear HO_6; clear HO174; clear HB; clear HO_7; have HO_6 := n0_; have HO174 := n1_; have HB := n2_; have HO177 := n3_; clear n0_ n1_ n2_ n3_; clear ho hb hg hat; have p178 : 0 ≤ (x9_1 : Int) := of_decide_eq_true (by first | (with_reducible assumption) | assumption); have q178 : x9_1 < (t168.length : Int) := of_decide_eq_true (by first | (with_reducible assumption) | assumption); obtain ⟨ad178, e178, hx178_0⟩ := Kd.at_int (Kd.R_reads' HO_6.out).2.2 x9_1 p178 q178; obtain rfl : ad171 = ad178 := (by injection e178); replace p178 := eq_true p178; replace q178 := eq_true q178; obtain ⟨i023, hi023, _, hsz23, _⟩ := info_parts info5; obtain ⟨A23, hcut23, hA23, hC23⟩ := print_mid_of (P := Try.prog) (Value.int .u8) 0 28 5 .i64 .i64 Try.underlying28 hi023 hsz23 A0 c0 l0 x8_1 (wrap64 (x8_1 + (rd t168 x9_1))) (of_decide_eq_true (by first | (with_reducible assumption) | assumption)) (by first | omega | exact of_decide_eq_true (by first | (with_reducible assumption) | assumption)) (of_decide_eq_true (by first | (with_reducible assumption) | assumption)) HC0.out; have HR179 := Aside0.mk (Kd.C_of_reads (h1 := fun _ => rfl) (hA23 _ (Kd.reads_of_C HR0.out))); have HC179 := Aside0.mk hC23; clear hA23 hC23 hi023 hsz23) | ((with_reducible refine gate_builtin (b := .append) (xs := #[.tmp 45, .tmp 54]) rfl ?_); at_builtin; refine Kd.R_append_rows (Kd.int .u8) (w0 := w) w.heap.size rfl (.tmp 45) (.tmp 54) 28 5 (.int .u8 0) 1 rfl Try.underlying28 info5 rfl (by decide) (by omega) v176 y175 ((l0.take ((wrap64 (x8_1 + (rd t168 x9_1))) : Int).toNat).drop (x8_1 : Int).toNat) _ _ _ (fun k_ => some k_ ≠ (.slice Ao22 t172.length co22 : Value).ownBlock) (fun _ => False) rfl rfl ?aO ?aR (fun _ _ h => h) (fun _ h => h.elim) ?aF ?aB ?aS ?aL ?_; (case aR => have hlx_ := (show ((l0.take ((wrap64 (x8_1 + (rd t168 x9_1))) : Int).toNat).drop (x8_1 : Int).toNat).length = ((wrap64 (x8_1 + (rd t168 x9_1))).toNat - x8_1.toNat) from (by rw [List.length_drop, List.length_take]; have h_ : ((wrap64 (x8_1 + (rd t168 x9_1))) : Int) ≤ (l0.length : Int) := of_decide_eq_true (by first | (with_reducible assumption) | assumption); omega)); have hr_ := HR179.out; first | (rw [hlx_] at hr_; repeat (first | exact (Kd.C_below hr_ HB.out) | (with_reducible refine Kd.C_alloc ?_ _) | (with_reducible refine Kd.C_drewN ?_ _) | (with_reducible refine Kd.C_drew ?_)); done) | (repeat (first | exact (Kd.C_below HR179.out HB.out) | (with_reducible refine Kd.C_alloc ?_ _) | (with_reducible refine Kd.C_drewN ?_ _) | (with_reducible refine Kd.C_drew ?_)); done) | (rw [← hlx_]; repeat (first | exact (Kd.C_below HR179.out HB.out) | (with_reducible refine Kd.C_alloc ?_ _) | (with_reducible refine Kd.C_drewN ?_ _) | (with_reducible refine Kd.C_drew ?_)); done)); (case aB => exact (by repeat (first | (with_reducible first | exact HB.out | apply below_alloc | apply pw_below_drewN | apply below_drew1) | exact HB.out))); (case aF => exact (fun k_ hk => Kd.fresh' (Kd.R_lt (by (with_reducible repeat (first | apply Kd.R_alloc | apply Kd.R_drewN | apply Kd.R_drew)); exact HO174.out)) k_ hk)); (case aO => exact (by (with_reducible repeat (first | apply Kd.R_alloc | apply Kd.R_drewN | apply Kd.R_drew)); exact HO177.out)); (case aS => exact (below_size (by repeat (first | (with_reducible first | exact HB.out | apply below_alloc | apply pw_below_drewN | apply below_drew1) | exact HB.out)))); (case aL => have := LMc19.out; have hlx_ := (show ((l0.take ((wrap64 (x8_1 + (rd t168 x9_1))) : Int).toNat).drop (x8_1 : Int).toNat).length = ((wrap64 (x8_1 + (rd t168 x9_1))).toNat - x8_1.toNat) from (by rw [List.length_drop, List.length_take]; have h_ : ((wrap64 (x8_1 + (rd t168 x9_1))) : Int) ≤ (l0.length : Int) := of_decide_eq_true (by first | (with_reducible assumption) | assumption); omega)); omega); intro v181 w24 ho hb hg hat; rw [← Ny180.out] at ho; have n0_ := Aside0.mk (Kd.R_over' (by (with_reducible repeat (first | apply Kd.R_alloc | apply Kd.R_drewN | apply Kd.R_drew)); exact HO_6.out) (Kd.R_typed (by (with_reducible repeat (first | apply Kd.R_alloc | apply Kd.R_drewN | apply Kd.R_drew)); exact HO177.out)) (by decide) hg); have n1_ := Aside0.mk (Kd.R_after (ok := (fun _ => True)) (by (with_reducible repeat (first | apply Kd.R_alloc | apply Kd.R_drewN | apply Kd.R_drew)); exact HO174.out) hg hat); have n2_ := Aside0.mk (hb); have n3_ := Aside0.mk (ho); clear HO_6; clear HO174; clear HB; clear HO177; have HO_6 := n0_; have HO174 := n1_; have HB := n2_; have HO182 := n3_; clear n0_ n1_ n2_ n3_; clear ho hb hg hat; have p183 : 0 ≤ (x9_1 : Int) := of_decide_eq_true (by first | (with_reducible assumption) | assumption); have q183 : x9_1 < (t168.length : Int) := of_decide_eq_true (by first | (with_reducible assumption) | assumption); obtain ⟨ad183, e183, hx183_0⟩ := Kd.at_int (Kd.R_reads' HO_6.out).2.2 x9_1 p183 q183; obtain rfl : ad171 = ad183 := (by injection e183); replace p183 := eq_true p183; replace q183 := eq_true q183))
                            go_roundg k1
                            case measure => have := HK1.out; omega
                            case rel => exact ⟨(y180), (wrap64 (x8_1 + (rd t168 x9_1))), (wrap64 (x9_1 + 1)), (by first | rfl | (simp; done) | (simp [*]; done)), (by first | rfl | (simp; done) | (simp [*]; done)), H', ⟨by have := HK1.out; omega⟩, ⟨by (with_reducible repeat (first | apply Kd.R_alloc | apply Kd.R_drewN | apply Kd.R_drew)); exact HO_6.out⟩, ⟨by (with_reducible repeat (first | apply Kd.R_alloc | apply Kd.R_drewN | apply Kd.R_drew)); exact Kd.R_mono HO182.out (fun _ hk => trivial)⟩, ⟨by repeat (first | (with_reducible first | exact HB.out | apply below_alloc | apply pw_below_drewN | apply below_drew1) | exact HB.out)⟩⟩
                          · rw [if_neg c19] at H
                            exact absurd H (by simp)
                        · rw [if_neg c18] at H
                          exact absurd H (by simp)
                      · rw [if_neg c17] at H
                        exact absurd H (by simp)
                    · rw [if_neg c16] at H
                      exact absurd H (by simp)
                  · rw [if_neg c15] at H
                    exact absurd H (by simp)
                · rw [if_neg c13] at H
                  have c13b0 : (x9_1 == (wrap64 ((t168.length : Int) - 1))) = false := beq_eq_false_iff_ne.mpr c13
                  have c13b1 : (x9_1 != (wrap64 ((t168.length : Int) - 1))) = true := bne_iff_ne.mpr c13
                  replace H := Option.bind_eq_some_iff.mp H
                  obtain ⟨t184, A250, H⟩ := H
                  replace H : (if x7_1.length + t184.length < 140737488355328 then ((some (x7_1 ++ t184 : List Int)).bind fun y187 => (if 0 ≤ x8_1 then (if x8_1 ≤ (wrap64 (x8_1 + (rd t168 x9_1))) then (if (wrap64 (x8_1 + (rd t168 x9_1))) ≤ (l0.length : Int) then (if y187.length + ((l0.take ((wrap64 (x8_1 + (rd t168 x9_1))) : Int).toNat).drop (x8_1 : Int).toNat).length < 140737488355328 then (truchmanref03_Mark.l0 k1 l0 t168 (y187 ++ ((l0.take ((wrap64 (x8_1 + (rd t168 x9_1))) : Int).toNat).drop (x8_1 : Int).toNat)) (wrap64 (x8_1 + (rd t168 x9_1))) (wrap64 (x9_1 + 1))) else (none)) else (none)) else (none)) else (none))) else (none)) = some (r1, r2) := H
                  have A25 := Aside0.mk A250
                  clear A250
                  by_cases c26 : x7_1.length + t184.length < 140737488355328
                  · rw [if_pos c26] at H
                    have LMc26 := Aside0.mk c26
                    clear c26
                    obtain ⟨y187, hy187⟩ : ∃ y_ : List Int, y_ = (x7_1 ++ t184) := ⟨_, rfl⟩
                    replace H : (if 0 ≤ x8_1 then (if x8_1 ≤ (wrap64 (x8_1 + (rd t168 x9_1))) then (if (wrap64 (x8_1 + (rd t168 x9_1))) ≤ (l0.length : Int) then (if y187.length + ((l0.take ((wrap64 (x8_1 + (rd t168 x9_1))) : Int).toNat).drop (x8_1 : Int).toNat).length < 140737488355328 then (truchmanref03_Mark.l0 k1 l0 t168 (y187 ++ ((l0.take ((wrap64 (x8_1 + (rd t168 x9_1))) : Int).toNat).drop (x8_1 : Int).toNat)) (wrap64 (x8_1 + (rd t168 x9_1))) (wrap64 (x9_1 + 1))) else (none)) else (none)) else (none)) else (none)) = some (r1, r2) := by first | (rw [hy187]; with_reducible exact H) | (have H2_ := (Option.bind_some _ _).symm.trans H; rw [hy187]; with_reducible exact H2_) | (have H2_ := (Option.bind_some _ _).symm.trans H; with_reducible exact H2_) | with_reducible exact H | (rw [hy187]; exact H) | exact H
                    have Ny187 := Aside0.mk hy187
                    clear hy187
                    by_cases c27 : 0 ≤ x8_1
                    · rw [if_pos c27] at H
                      have c27b0 := eq_true c27
                      have c27b1 : decide (0 ≤ x8_1) = true := decide_eq_true c27
                      clear c27
                      by_cases c28 : x8_1 ≤ (wrap64 (x8_1 + (rd t168 x9_1)))
                      · rw [if_pos c28] at H
                        have c28b0 := eq_true c28
                        have c28b1 : decide (x8_1 ≤ (wrap64 (x8_1 + (rd t168 x9_1)))) = true := decide_eq_true c28
                        by_cases c29 : (wrap64 (x8_1 + (rd t168 x9_1))) ≤ (l0.length : Int)
                        · rw [if_pos c29] at H
                          have c29b0 := eq_true c29
                          have c29b1 : decide ((wrap64 (x8_1 + (rd t168 x9_1))) ≤ (l0.length : Int)) = true := decide_eq_true c29
                          by_cases c30 : y187.length + ((l0.take ((wrap64 (x8_1 + (rd t168 x9_1))) : Int).toNat).drop (x8_1 : Int).toNat).length < 140737488355328
                          · rw [if_pos c30] at H
                            have LMc30 := Aside0.mk c30
                            clear c30
                            obtain ⟨y192, hy192⟩ : ∃ y_ : List Int, y_ = (y187 ++ ((l0.take ((wrap64 (x8_1 + (rd t168 x9_1))) : Int).toNat).drop (x8_1 : Int).toNat)) := ⟨_, rfl⟩
                            replace H : (truchmanref03_Mark.l0 k1 l0 t168 y192 (wrap64 (x8_1 + (rd t168 x9_1))) (wrap64 (x9_1 + 1))) = some (r1, r2) := by first | (rw [hy192]; with_reducible exact H) | (have H2_ := (Option.bind_some _ _).symm.trans H; rw [hy192]; with_reducible exact H2_) | (have H2_ := (Option.bind_some _ _).symm.trans H; with_reducible exact H2_) | with_reducible exact H | (rw [hy192]; exact H) | exact H
                            have Ny192 := Aside0.mk hy192
                            clear hy192
                            have H' := Aside0.mk H
                            clear H
                            have p171 : 0 ≤ (x9_1 : Int) := of_decide_eq_true (by first | (with_reducible assumption) | assumption)
                            have q171 : x9_1 < (t168.length : Int) := of_decide_eq_true (by first | (with_reducible assumption) | assumption)
                            obtain ⟨ad171, e171, hx171_0⟩ := Kd.at_int (Kd.R_reads' HO_6.out).2.2 x9_1 p171 q171
                            cases e171
                            replace p171 := eq_true p171
                            replace q171 := eq_true q171
                            go_wp2_with (first | ((with_reducible refine gate_callee (f := 39) rfl ?_); refine goesL_ (some 43) rfl rfl Try.func39 (by kernel_rfl) rfl #[.int .u32 ((rd t168 x9_1) % 4294967296)] rfl (by (try simp only [List.map_toArray, List.map_cons, List.map_nil]); first | done | rfl | (simp only [List.length_drop, List.length_take]; rfl)) ?_; (with_reducible refine (truchmanref01_U32.calls ((rd t168 x9_1) % 4294967296) t184 _ A25.out).mono ?_); rintro e w31 ⟨v185, rfl, ho0, hb⟩; refine ⟨_, rfl, ?_⟩; have n0_ := Aside0.mk (Kd.R_below (by (with_reducible repeat (first | apply Kd.R_alloc | apply Kd.R_drewN | apply Kd.R_drew)); exact HO_6.out) hb); have n1_ := Aside0.mk (Kd.R_elder' (by (with_reducible repeat (first | apply Kd.R_alloc | apply Kd.R_drewN | apply Kd.R_drew)); exact HO_7.out) (Kd.R_base ho0) hb); have n2_ := Aside0.mk (Kd.R_lower (Kd.R_new' ho0 (Kd.R_lt (by (with_reducible repeat (first | apply Kd.R_alloc | apply Kd.R_drewN | apply Kd.R_drew)); exact HO_7.out))) (below_size (by repeat (first | (with_reducible first | exact HB.out | apply below_alloc | apply pw_below_drewN | apply below_drew1) | exact HB.out)))); have n3_ := Aside0.mk (below_step (by repeat (first | (with_reducible first | exact HB.out | apply below_alloc | apply pw_below_drewN | apply below_drew1) | exact HB.out)) hb); clear HO_6; clear HO_7; clear HB; have HO_6 := n0_; have HO_7 := n1_; have HO186 := n2_; have HB := n3_; clear n0_ n1_ n2_ n3_; (try clear hb); (try clear hb2); (try clear hk); (try clear hi); (try clear ho0); obtain ⟨Ao33, co33, eo33⟩ := Kd.R_slice HO186.out; subst eo33) | ((with_reducible refine gate_builtin (b := .append) (xs := #[.tmp 41, .tmp 43]) rfl ?_); at_builtin; refine Kd.R_append_rows (Kd.int .u8) (w0 := w) w.heap.size rfl (.tmp 41) (.tmp 43) 28 5 (.int .u8 0) 1 rfl Try.underlying28 info5 rfl (by decide) (by omega) u7 x7_1 t184 _ _ _ (fun k_ => some k_ ≠ (.slice Ao33 t184.length co33 : Value).ownBlock) (fun _ => False) rfl rfl ?aO ?aR (fun _ _ h => h) (fun _ h => h.elim) ?aF ?aB ?aS ?aL ?_; (case aR => repeat (first | exact (Kd.R_reads' HO186.out).2.2 | (with_reducible refine Kd.C_alloc ?_ _) | (with_reducible refine Kd.C_drewN ?_ _) | (with_reducible refine Kd.C_drew ?_))); (case aB => exact (by repeat (first | (with_reducible first | exact HB.out | apply below_alloc | apply pw_below_drewN | apply below_drew1) | exact HB.out))); (case aF => exact (fun k_ hk => Kd.fresh' (Kd.R_lt (by (with_reducible repeat (first | apply Kd.R_alloc | apply Kd.R_drewN | apply Kd.R_drew)); exact HO186.out)) k_ hk)); (case aO => exact (by (with_reducible repeat (first | apply Kd.R_alloc | apply Kd.R_drewN | apply Kd.R_drew)); exact Kd.R_mono HO_7.out (fun _ hk => hk.2))); (case aS => exact (below_size (by repeat (first | (with_reducible first | exact HB.out | apply below_alloc | apply pw_below_drewN | apply below_drew1) | exact HB.out)))); (case aL => have := LMc26.out; omega); intro v188 w32 ho hb hg hat; rw [← Ny187.out] at ho; have n0_ := Aside0.mk (Kd.R_over' (by (with_reducible repeat (first | apply Kd.R_alloc | apply Kd.R_drewN | apply Kd.R_drew)); exact HO_6.out) (Kd.R_typed (by (with_reducible repeat (first | apply Kd.R_alloc | apply Kd.R_drewN | apply Kd.R_drew)); exact HO_7.out)) (by decide) hg); have n1_ := Aside0.mk (Kd.R_after (ok := (fun _ => True)) (by (with_reducible repeat (first | apply Kd.R_alloc | apply Kd.R_drewN | apply Kd.R_drew)); exact HO186.out) hg hat); have n2_ := Aside0.mk (hb); have n3_ := Aside0.mk (ho); clear HO_6; clear HO186; clear HB; clear HO_7; have HO_6 := n0_; have HO186 := n1_; have HB := n2_; have HO189 := n3_; clear n0_ n1_ n2_ n3_; clear ho hb hg hat; have p190 : 0 ≤ (x9_1 : Int) := of_decide_eq_true (by first | (with_reducible assumption) | assumption); have q190 : x9_1 < (t168.length : Int) := of_decide_eq_true (by first | (with_reducible assumption) | assumption); obtain ⟨ad190, e190, hx190_0⟩ := Kd.at_int (Kd.R_reads' HO_6.out).2.2 x9_1 p190 q190; obtain rfl : ad171 = ad190 := (by injection e190); replace p190 := eq_true p190; replace q190 := eq_true q190; obtain ⟨i034, hi034, _, hsz34, _⟩ := info_parts info5; obtain ⟨A34, hcut34, hA34, hC34⟩ := print_mid_of (P := Try.prog) (Value.int .u8) 0 28 5 .i64 .i64 Try.underlying28 hi034 hsz34 A0 c0 l0 x8_1 (wrap64 (x8_1 + (rd t168 x9_1))) (of_decide_eq_true (by first | (with_reducible assumption) | assumption)) (by first | omega | exact of_decide_eq_true (by first | (with_reducible assumption) | assumption)) (of_decide_eq_true (by first | (with_reducible assumption) | assumption)) HC0.out; have HR191 := Aside0.mk (Kd.C_of_reads (h1 := fun _ => rfl) (hA34 _ (Kd.reads_of_C HR0.out))); have HC191 := Aside0.mk hC34; clear hA34 hC34 hi034 hsz34) | ((with_reducible refine gate_builtin (b := .append) (xs := #[.tmp 45, .tmp 54]) rfl ?_); at_builtin; refine Kd.R_append_rows (Kd.int .u8) (w0 := w) w.heap.size rfl (.tmp 45) (.tmp 54) 28 5 (.int .u8 0) 1 rfl Try.underlying28 info5 rfl (by decide) (by omega) v188 y187 ((l0.take ((wrap64 (x8_1 + (rd t168 x9_1))) : Int).toNat).drop (x8_1 : Int).toNat) _ _ _ (fun k_ => some k_ ≠ (.slice Ao33 t184.length co33 : Value).ownBlock) (fun _ => False) rfl rfl ?aO ?aR (fun _ _ h => h) (fun _ h => h.elim) ?aF ?aB ?aS ?aL ?_; (case aR => have hlx_ := (show ((l0.take ((wrap64 (x8_1 + (rd t168 x9_1))) : Int).toNat).drop (x8_1 : Int).toNat).length = ((wrap64 (x8_1 + (rd t168 x9_1))).toNat - x8_1.toNat) from (by rw [List.length_drop, List.length_take]; have h_ : ((wrap64 (x8_1 + (rd t168 x9_1))) : Int) ≤ (l0.length : Int) := of_decide_eq_true (by first | (with_reducible assumption) | assumption); omega)); have hr_ := HR191.out; first | (rw [hlx_] at hr_; repeat (first | exact (Kd.C_below hr_ HB.out) | (with_reducible refine Kd.C_alloc ?_ _) | (with_reducible refine Kd.C_drewN ?_ _) | (with_reducible refine Kd.C_drew ?_)); done) | (repeat (first | exact (Kd.C_below HR191.out HB.out) | (with_reducible refine Kd.C_alloc ?_ _) | (with_reducible refine Kd.C_drewN ?_ _) | (with_reducible refine Kd.C_drew ?_)); done) | (rw [← hlx_]; repeat (first | exact (Kd.C_below HR191.out HB.out) | (with_reducible refine Kd.C_alloc ?_ _) | (with_reducible refine Kd.C_drewN ?_ _) | (with_reducible refine Kd.C_drew ?_)); done)); (case aB => exact (by repeat (first | (with_reducible first | exact HB.out | apply below_alloc | apply pw_below_drewN | apply below_drew1) | exact HB.out))); (case aF => exact (fun k_ hk => Kd.fresh' (Kd.R_lt (by (with_reducible repeat (first | apply Kd.R_alloc | apply Kd.R_drewN | apply Kd.R_drew)); exact HO186.out)) k_ hk)); (case aO => exact (by (with_reducible repeat (first | apply Kd.R_alloc | apply Kd.R_drewN | apply Kd.R_drew)); exact HO189.out)); (case aS => exact (below_size (by repeat (first | (with_reducible first | exact HB.out | apply below_alloc | apply pw_below_drewN | apply below_drew1) | exact HB.out)))); (case aL => have := LMc30.out; have hlx_ := (show ((l0.take ((wrap64 (x8_1 + (rd t168 x9_1))) : Int).toNat).drop (x8_1 : Int).toNat).length = ((wrap64 (x8_1 + (rd t168 x9_1))).toNat - x8_1.toNat) from (by rw [List.length_drop, List.length_take]; have h_ : ((wrap64 (x8_1 + (rd t168 x9_1))) : Int) ≤ (l0.length : Int) := of_decide_eq_true (by first | (with_reducible assumption) | assumption); omega)); omega); intro v193 w35 ho hb hg hat; rw [← Ny192.out] at ho; have n0_ := Aside0.mk (Kd.R_over' (by (with_reducible repeat (first | apply Kd.R_alloc | apply Kd.R_drewN | apply Kd.R_drew)); exact HO_6.out) (Kd.R_typed (by (with_reducible repeat (first | apply Kd.R_alloc | apply Kd.R_drewN | apply Kd.R_drew)); exact HO189.out)) (by decide) hg); have n1_ := Aside0.mk (Kd.R_after (ok := (fun _ => True)) (by (with_reducible repeat (first | apply Kd.R_alloc | apply Kd.R_drewN | apply Kd.R_drew)); exact HO186.out) hg hat); have n2_ := Aside0.mk (hb); have n3_ := Aside0.mk (ho); clear HO_6; clear HO186; clear HB; clear HO189; have HO_6 := n0_; have HO186 := n1_; have HB := n2_; have HO194 := n3_; clear n0_ n1_ n2_ n3_; clear ho hb hg hat; have p195 : 0 ≤ (x9_1 : Int) := of_decide_eq_true (by first | (with_reducible assumption) | assumption); have q195 : x9_1 < (t168.length : Int) := of_decide_eq_true (by first | (with_reducible assumption) | assumption); obtain ⟨ad195, e195, hx195_0⟩ := Kd.at_int (Kd.R_reads' HO_6.out).2.2 x9_1 p195 q195; obtain rfl : ad171 = ad195 := (by injection e195); replace p195 := eq_true p195; replace q195 := eq_true q195))
                            go_roundg k1
                            case measure => have := HK1.out; omega
                            case rel => exact ⟨(y192), (wrap64 (x8_1 + (rd t168 x9_1))), (wrap64 (x9_1 + 1)), (by first | rfl | (simp; done) | (simp [*]; done)), (by first | rfl | (simp; done) | (simp [*]; done)), H', ⟨by have := HK1.out; omega⟩, ⟨by (with_reducible repeat (first | apply Kd.R_alloc | apply Kd.R_drewN | apply Kd.R_drew)); exact HO_6.out⟩, ⟨by (with_reducible repeat (first | apply Kd.R_alloc | apply Kd.R_drewN | apply Kd.R_drew)); exact Kd.R_mono HO194.out (fun _ hk => trivial)⟩, ⟨by repeat (first | (with_reducible first | exact HB.out | apply below_alloc | apply pw_below_drewN | apply below_drew1) | exact HB.out)⟩⟩
                          · rw [if_neg c30] at H
                            exact absurd H (by simp)
                        · rw [if_neg c29] at H
                          exact absurd H (by simp)
                      · rw [if_neg c28] at H
                        exact absurd H (by simp)
                    · rw [if_neg c27] at H
                      exact absurd H (by simp)
                  · rw [if_neg c26] at H
                    exact absurd H (by simp)
              · rw [if_neg c12] at H
                exact absurd H (by simp)
            · rw [if_neg c11] at H
              have c11b0 : decide (x9_1 < (t168.length : Int)) = false := decide_eq_false c11
              clear c11
              simp only [Option.some.injEq, Prod.mk.injEq] at H
              obtain ⟨rfl, rfl⟩ := H
              go_wp2
              go_ret2
              exact ⟨_, by first | rfl | (simp [errW_none, errW_some] <;> rfl) | (simp [*, errW_none, errW_some] <;> rfl), by (with_reducible repeat (first | apply Kd.R_alloc | apply Kd.R_drewN | apply Kd.R_drew)); exact HO_7.out, by repeat (first | (with_reducible first | exact HB.out | apply below_alloc | apply pw_below_drewN | apply below_drew1) | exact HB.out)⟩

/-! ### truchmanref03_Size: function 41 -/
def truchmanref03_Size.f (l0 : List Int) (a1 : Int) : Option (Int) := if (l0.length : Int) = 0 then (some 4096) else (if 0 ≤ (Int.tmod a1 (l0.length : Int)) then (if (Int.tmod a1 (l0.length : Int)) < (l0.length : Int) then (some (rd l0 (Int.tmod a1 (l0.length : Int)))) else (none)) else (none))
set_option maxHeartbeats 8000000 in
set_option maxRecDepth 100000 in
theorem truchmanref03_Size.calls (A0 : Option Addr) (c0 : Nat) (l0 : List Int) (a1 : Int) (r : Int) (w : World) (hr0 : Kd.C (Kd.int .i64) w A0 l0.length l0) (hc0 : l0.length ≤ c0) (h : truchmanref03_Size.f l0 a1 = some r) :
    Calls Try.prog 41 #[.slice A0 l0.length c0, .int .i64 a1] w fun e w' => e = .returned (.int .i64 r) ∧ Drawn0 w w' := by
  have HR0 := Aside0.mk hr0
  have HC0 := Aside0.mk hc0
  clear hr0 hc0
  have H : (if (l0.length : Int) = 0 then (some 4096) else (if 0 ≤ (Int.tmod a1 (l0.length : Int)) then (if (Int.tmod a1 (l0.length : Int)) < (l0.length : Int) then (some (rd l0 (Int.tmod a1 (l0.length : Int)))) else (none)) else (none))) = some r := h
  clear h
  by_cases c3 : (l0.length : Int) = 0
  · rw [if_pos c3] at H
    have c3b0 : ((l0.length : Int) == 0) = true := beq_iff_eq.mpr c3
    have c3b1 : ((l0.length : Int) != 0) = false := bne_eq_false_iff_eq.mpr c3
    clear c3
    obtain rfl := Option.some.inj H
    go_enter Try.func41, Try.ntmps41
    go_wp2
    go_ret
    exact ⟨by first | rfl | (simp; done) | (simp [*]; done), by repeat (first | exact Drawn0.refl _ | apply Drawn0.step)⟩
  · rw [if_neg c3] at H
    have c3b0 : ((l0.length : Int) == 0) = false := beq_eq_false_iff_ne.mpr c3
    have c3b1 : ((l0.length : Int) != 0) = true := bne_iff_ne.mpr c3
    have c3b2 : ¬ (l0 = []) := fun h_ => c3 (by rw [h_]; rfl)
    obtain ⟨ji4, hji4⟩ : ∃ j_ : Int, (Int.tmod a1 (l0.length : Int)) = j_ := ⟨_, rfl⟩
    replace H : (if 0 ≤ (ji4) then (if (ji4) < (l0.length : Int) then (some (rd l0 (ji4))) else (none)) else (none)) = some r := by first | (rw [hji4] at H; exact H) | (simp only [hji4] at H ⊢; exact H)
    by_cases c5 : 0 ≤ (ji4)
    · rw [if_pos c5] at H
      have c5b0 : decide (0 ≤ (ji4)) = true := decide_eq_true c5
      clear c5
      by_cases c6 : (ji4) < (l0.length : Int)
      · rw [if_pos c6] at H
        have c6b0 : decide ((ji4) < (l0.length : Int)) = true := decide_eq_true c6
        clear c6
        obtain rfl := Option.some.inj H
        have p196 : 0 ≤ ((ji4) : Int) := of_decide_eq_true (by first | (with_reducible assumption) | assumption)
        have q196 : (ji4) < (l0.length : Int) := of_decide_eq_true (by first | (with_reducible assumption) | assumption)
        obtain ⟨ad196, e196, hx196_0⟩ := Kd.at_int HR0.out (ji4) p196 q196
        cases e196
        replace p196 := eq_true p196
        replace q196 := eq_true q196
        go_enter Try.func41, Try.ntmps41
        go_wp2
        go_ret
        exact ⟨by first | rfl | (simp; done) | (simp only [← hji4] <;> (first | rfl | simp)) | (simp [*]; done), by repeat (first | exact Drawn0.refl _ | apply Drawn0.step)⟩
      · rw [if_neg c6] at H
        exact absurd H (by simp)
    · rw [if_neg c5] at H
      exact absurd H (by simp)

/-! ### truchmanref03_All: function 19 -/
def truchmanref03_All.l0 : Nat → List Int → List (List Int) → List Int → Int → Option (List Int × Int)
  | 0, _, _, _, _ => none
  | k + 1, x0, x1, x6, x7 => if x7 < (x1.length : Int) then (if 0 ≤ x7 then ((truchmanref03_Size.f x0 x7).bind fun t198 => ((truchmanref03_Mark.f k (rd_L2 x1 x7) t198).bind fun bt199 => (if bt199.2 = 0 then (if x6.length + bt199.1.length < 140737488355328 then (truchmanref03_All.l0 k x0 x1 (x6 ++ bt199.1) (wrap64 (x7 + 1))) else (none)) else (some (([] : List Int), bt199.2))))) else (none)) else (some (x6, 0))
def truchmanref03_All.f (k : Nat) (l0 : List Int) (l1 : List (List Int)) : Option (List Int × Int) := truchmanref03_All.l0 k l0 l1 ([] : List Int) 0
theorem truchmanref03_All.mono_l : ∀ k, (∀ y0 y1 y2 y3, LeO (truchmanref03_All.l0 k y0 y1 y2 y3) (truchmanref03_All.l0 (k + 1) y0 y1 y2 y3))
  | 0 => fun _ _ _ _ r h => by simp [truchmanref03_All.l0] at h
  | k + 1 => by
    have ih0 := truchmanref03_All.mono_l k
    · intro y0 y1 y2 y3
      unfold truchmanref03_All.l0
      repeat' first
      | (with_reducible exact ih0 _ _ _ _)
      | (with_reducible exact truchmanref03_Mark.mono _ _ _)
      | (with_reducible exact LeO.refl _)
      | (with_reducible exact LeO.none _)
      | (with_reducible refine LeO.ite ?_ ?_)
      | (with_reducible refine LeO.bind ?_ (fun _ => ?_))
      | exact ih0 _ _ _ _
      | exact truchmanref03_Mark.mono _ _ _
      | exact LeO.none _
      | refine LeO.ite ?_ ?_
      | refine LeO.bind ?_ (fun _ => ?_)
theorem truchmanref03_All.mono : ∀ a0 a1 k, LeO (truchmanref03_All.f k a0 a1) (truchmanref03_All.f (k + 1) a0 a1) := by
  intro a0 a1 k
  have ih0 := truchmanref03_All.mono_l k
  unfold truchmanref03_All.f
  repeat' first
      | (with_reducible exact ih0 _ _ _ _)
      | (with_reducible exact truchmanref03_Mark.mono _ _ _)
      | (with_reducible exact LeO.refl _)
      | (with_reducible exact LeO.none _)
      | (with_reducible refine LeO.ite ?_ ?_)
      | (with_reducible refine LeO.bind ?_ (fun _ => ?_))
      | exact ih0 _ _ _ _
      | exact truchmanref03_Mark.mono _ _ _
      | exact LeO.none _
      | refine LeO.ite ?_ ?_
      | refine LeO.bind ?_ (fun _ => ?_)
def truchmanref03_All.T5 : Bool × List (List Nat × List Nat) := (true, [([], []), ([], []), ([0, 1], [0, 1]), ([2], [2]), ([], []), ([], []), ([4, 5], [4, 5]), ([3, 6, 6], [3, 6]), ([7], [7]), ([8], [8]), ([8], [8]), ([9, 7, 0, 1, 2, 3, 4, 5, 6, 7, 8, 9], [9]), ([10, 11, 0, 1, 2, 3, 4, 5, 6, 7, 8, 9, 10, 11], [10])])
def truchmanref03_All.B5 : List Nat := [0, 0, 3, 7, 0, 0, 48, 127, 255, 511, 511, 1023, 4095]
theorem truchmanref03_All.tab5 : rtab .any (opsOf Try.f19 5) = truchmanref03_All.T5 := by kernel_rfl
theorem truchmanref03_All.bits5 : waitsOk truchmanref03_All.T5.2 truchmanref03_All.B5 = true := by kernel_rfl
set_option maxHeartbeats 8000000 in
set_option maxRecDepth 100000 in
theorem truchmanref03_All.calls (k : Nat) (A0 : Option Addr) (c0 : Nat) (l0 : List Int) (A1 : Option Addr) (c1 : Nat) (l1 : List (List Int)) (r1 : List Int) (r2 : Int) (w : World) (hr0 : Kd.C (Kd.int .i64) w A0 l0.length l0) (hc0 : l0.length ≤ c0) (hr1 : Kd.C (Kd.slice 5 (Kd.int .u8)) w A1 l1.length l1) (hc1 : l1.length ≤ c1) (h : truchmanref03_All.f k l0 l1 = some (r1, r2)) :
    Calls Try.prog 19 #[.slice A0 l0.length c0, .slice A1 l1.length c1] w fun e w' => ∃ v0_ : Value, e = .returned (.tuple #[v0_, .int .i64 r2]) ∧ Kd.R (Kd.int .u8) 5 w' w.heap.size (fun _ => True) v0_ r1 ∧ Below w.heap.size w w' := by
  have HR0 := Aside0.mk hr0
  have HC0 := Aside0.mk hc0
  clear hr0 hc0
  have HR1 := Aside0.mk hr1
  have HC1 := Aside0.mk hc1
  clear hr1 hc1
  have HB := Aside0.mk (Below.refl w.heap.size w)
  have H : (truchmanref03_All.l0 k l0 l1 ([] : List Int) 0) = some (r1, r2) := h
  clear h
  have H' := Aside0.mk H
  clear H
  go_enter Try.func19, Try.ntmps19
  go_wp2
  go_loopg [6, 7] k (fun kq v6 v7 w' => ∃ (x6_1 : List Int) (x7_1 : Int), v7 = .int .i64 x7_1 ∧ Aside0 (truchmanref03_All.l0 kq l0 l1 x6_1 x7_1 = some (r1, r2)) ∧ Aside0 (kq ≤ k) ∧ Aside0 (Kd.R (Kd.int .u8) 5 w' w.heap.size (fun _ => True) v6 x6_1) ∧ Aside0 (Below w.heap.size w w'))
  case atStart => exact ⟨(([] : List Int)), (0), (by first | rfl | (simp; done) | (simp [*]; done)), H', ⟨Nat.le_refl _⟩, ⟨by first | exact Kd.R_nil _ _ _ _ _ | exact Kd.N_nil _ _ _ _ _ | exact Kd.V_nil _ _ _ _ _ | exact Kd.Q_nil _ _ _ _ _ | exact Kd.S_nil _ _ _ _ _⟩, ⟨by repeat (first | (with_reducible first | exact HB.out | apply below_alloc | apply pw_below_drewN | apply below_drew1) | exact HB.out)⟩⟩
  case round =>
    clear H'
    try clear c1
    try clear p2
    obtain ⟨x6_1, x7_1, rfl, HA, HK1, HO_6, HB⟩ := hrel
    cases gk with
    | zero => exact absurd HA.out (by simp [truchmanref03_All.l0])
    | succ k1 =>
      have H := HA.out
      clear HA
      simp only [truchmanref03_All.l0] at H
      by_cases c3 : x7_1 < (l1.length : Int)
      · rw [if_pos c3] at H
        have c3b0 : decide (x7_1 < (l1.length : Int)) = true := decide_eq_true c3
        clear c3
        by_cases c4 : 0 ≤ x7_1
        · rw [if_pos c4] at H
          have c4b0 : decide (0 ≤ x7_1) = true := decide_eq_true c4
          clear c4
          replace H := Option.bind_eq_some_iff.mp H
          obtain ⟨t198, A50, H⟩ := H
          replace H : ((truchmanref03_Mark.f k1 (rd_L2 l1 x7_1) t198).bind fun bt199 => (if bt199.2 = 0 then (if x6_1.length + bt199.1.length < 140737488355328 then (truchmanref03_All.l0 k1 l0 l1 (x6_1 ++ bt199.1) (wrap64 (x7_1 + 1))) else (none)) else (some (([] : List Int), bt199.2)))) = some (r1, r2) := H
          have A5 := Aside0.mk A50
          clear A50
          replace H := Option.bind_eq_some_iff.mp H
          obtain ⟨⟨t199, t200⟩, A60, H⟩ := H
          replace H : (if t200 = 0 then (if x6_1.length + t199.length < 140737488355328 then (truchmanref03_All.l0 k1 l0 l1 (x6_1 ++ t199) (wrap64 (x7_1 + 1))) else (none)) else (some (([] : List Int), t200))) = some (r1, r2) := H
          have A6 := Aside0.mk A60
          clear A60
          by_cases c7 : t200 = 0
          · rw [if_pos c7] at H
            have c7b0 : (t200 == 0) = true := beq_iff_eq.mpr c7
            have c7b1 : (t200 != 0) = false := bne_eq_false_iff_eq.mpr c7
            clear c7
            by_cases c8 : x6_1.length + t199.length < 140737488355328
            · rw [if_pos c8] at H
              have LMc8 := Aside0.mk c8
              clear c8
              obtain ⟨y203, hy203⟩ : ∃ y_ : List Int, y_ = (x6_1 ++ t199) := ⟨_, rfl⟩
              replace H : (truchmanref03_All.l0 k1 l0 l1 y203 (wrap64 (x7_1 + 1))) = some (r1, r2) := by first | (rw [hy203]; with_reducible exact H) | (have H2_ := (Option.bind_some _ _).symm.trans H; rw [hy203]; with_reducible exact H2_) | (have H2_ := (Option.bind_some _ _).symm.trans H; with_reducible exact H2_) | with_reducible exact H | (rw [hy203]; exact H) | exact H
              have Ny203 := Aside0.mk hy203
              clear hy203
              have H' := Aside0.mk H
              clear H
              try go_wp2
              have n0_ := Aside0.mk (Kd.R_drew HO_6.out)
              have n1_ := Aside0.mk (below_drew1 HB.out)
              clear HO_6
              clear HB
              have HO_6 := n0_
              have HB := n1_
              clear n0_ n1_
              have p197 : 0 ≤ (x7_1 : Int) := of_decide_eq_true (by first | (with_reducible assumption) | assumption)
              have q197 : x7_1 < (l1.length : Int) := of_decide_eq_true (by first | (with_reducible assumption) | assumption)
              obtain ⟨ad197, A197_0, c197_0, e197, hx197_0, hl197_0, hi197_0⟩ := at_L2 HR1.out x7_1 p197 q197
              have hw197_0 := hx197_0
              cases e197
              replace hx197_0 := (HB.out.cell (World.block_lt_of_cell? w _ hx197_0)).trans hx197_0
              have HR197_0 := Aside0.mk hi197_0
              have HC197_0 := Aside0.mk hl197_0
              clear hi197_0 hl197_0
              replace p197 := eq_true p197
              replace q197 := eq_true q197
              refine start_ (n := 13) (S := fun w' => w'.cell? (ad197.add (x7_1).toNat) = some (.slice A197_0 (rd_L2 l1 x7_1).length c197_0)) (ds := []) #[false, false, false, false, false, false, false, false, false, false, false, false, false] (by kernel_rfl) rfl rfl (((HB.out.cell (World.block_lt_of_cell? w _ hw197_0)).trans hw197_0)) (fun hHeld => ?_); refine with_tabW truchmanref03_All.tab5 truchmanref03_All.bits5 (fun HT_ HW_ => ?_)
              generalize wr.drew = w9 at HO_6 HB HR197_0 hx197_0 hHeld ⊢
              refine pure_ (i := 0) (N := some 17) (v := ?_) (a' := ?_) #[true, false, false, false, false, false, false, false, false, false, false, false, false] rfl rfl (any_of HT_.out (by kernel_rfl)) (fun _ _ _ h => h) (Or.inl ⟨by rfl, ?_⟩) ?_ ?_
              rotate_left
              · intro w'
                go_simp
                with_reducible rfl
              rotate_left
              · simp only [Act.put, List.setIfInBounds_toArray, List.set_cons_zero, List.set_cons_succ, i64_w, i32_w]
                rfl
              refine pure_ (i := 1) (N := some 18) (v := ?_) (a' := ?_) #[true, true, false, false, false, false, false, false, false, false, false, false, false] rfl rfl (any_of HT_.out (by kernel_rfl)) (fun _ _ _ h => h) (Or.inl ⟨by rfl, ?_⟩) ?_ ?_
              rotate_left
              · intro w'
                go_simp
                with_reducible rfl
              rotate_left
              · simp only [Act.put, List.setIfInBounds_toArray, List.set_cons_zero, List.set_cons_succ, i64_w, i32_w]
                rfl
              refine pure_ (i := 2) (N := some 19) (v := ?_) (a' := ?_) #[true, true, true, false, false, false, false, false, false, false, false, false, false] rfl rfl (any_of HT_.out (by kernel_rfl)) (fun _ _ _ h => h) (Or.inl ⟨by rfl, ?_⟩) ?_ ?_
              rotate_left
              · intro w'
                go_simp
                with_reducible rfl
              rotate_left
              · simp only [Act.put, List.setIfInBounds_toArray, List.set_cons_zero, List.set_cons_succ, i64_w, i32_w]
                rfl
              refine pure_ (i := 4) (N := some 21) (v := ?_) (a' := ?_) #[true, true, true, false, true, false, false, false, false, false, false, false, false] rfl rfl (any_of HT_.out (by kernel_rfl)) (fun _ _ _ h => h) (Or.inl ⟨by rfl, ?_⟩) ?_ ?_
              rotate_left
              · intro w'
                go_simp
                with_reducible rfl
              rotate_left
              · simp only [Act.put, List.setIfInBounds_toArray, List.set_cons_zero, List.set_cons_succ, i64_w, i32_w]
                rfl
              refine pure_ (i := 5) (N := some 22) (v := ?_) (a' := ?_) #[true, true, true, false, true, true, false, false, false, false, false, false, false] rfl rfl (any_of HT_.out (by kernel_rfl)) (fun _ _ _ h => h) (Or.inl ⟨by rfl, ?_⟩) ?_ ?_
              rotate_left
              · intro w'
                go_simp
                with_reducible rfl
              rotate_left
              · simp only [Act.put, List.setIfInBounds_toArray, List.set_cons_zero, List.set_cons_succ, i64_w, i32_w]
                rfl
              refine take_ (i := 3) (N := some 20) (v := ?_) (a' := ?_) #[true, true, true, true, true, true, false, false, false, false, false, false, false] rfl rfl (take_ofW HT_.out HW_.out (by kernel_rfl)) (fun _ _ _ h => h) (Or.inl ⟨by rfl, ?_⟩) hHeld ?_ ?_
              rotate_left
              · intro w' s0
                go_simp
                with_reducible rfl
              rotate_left
              · simp only [Act.put, List.setIfInBounds_toArray, List.set_cons_zero, List.set_cons_succ, i64_w, i32_w]
                rfl
              refine one_ (i := 6) (N := some 23) #[true, true, true, true, true, true, true, false, false, false, false, false, false] rfl rfl (one_of HT_.out (by kernel_rfl)) (by decide) (fun K hK => ?_)
              refine goes_ Try.func41 (by kernel_rfl) rfl #[.slice A0 l0.length c0, .int .i64 x7_1] (by rfl) rfl rfl (by (try simp only [List.map_toArray, List.map_cons, List.map_nil]); first | done | rfl | (simp only [List.length_drop, List.length_take]; rfl)) ?_
              with_reducible refine (truchmanref03_Size.calls _ _ l0 x7_1 t198 _ ?side1 ?side2 A5.out).mono ?_
              (case side1 => repeat (first | exact (Kd.C_below HR0.out HB.out) | (with_reducible refine Kd.C_alloc ?_ _) | (with_reducible refine Kd.C_drewN ?_ _) | (with_reducible refine Kd.C_drew ?_)))
              (case side2 => exact HC0.out)
              rintro e w' ⟨rfl, ⟨nd, rfl⟩⟩
              refine ⟨_, rfl, ?_⟩
              refine hK.out _ _ (((HB.out.cell (World.block_lt_of_cell? w _ hw197_0)).trans hw197_0)) (fun hHeld => ?_)
              clear hK K
              refine norm_ (a' := ?_) ?_ ?_
              rotate_left
              · show Act.put _ (some 23) _ = _
                simp only [Act.put, List.setIfInBounds_toArray, List.set_cons_zero, List.set_cons_succ, i64_w, i32_w]
                rfl
              refine one_ (i := 7) (N := some 24) #[true, true, true, true, true, true, true, true, false, false, false, false, false] rfl rfl (one_of HT_.out (by kernel_rfl)) (by decide) (fun K hK => ?_)
              refine goes_ Try.func40 (by kernel_rfl) rfl #[.slice A197_0 (rd_L2 l1 x7_1).length c197_0, .int .i64 t198] (by rfl) rfl rfl (by (try simp only [List.map_toArray, List.map_cons, List.map_nil]); first | done | rfl | (simp only [List.length_drop, List.length_take]; rfl)) ?_
              with_reducible refine (truchmanref03_Mark.calls k1 _ _ (rd_L2 l1 x7_1) t198 t199 t200 _ ?side1 ?side2 A6.out).mono ?_
              (case side1 => repeat (first | exact (Kd.C_below HR197_0.out (by repeat (first | (with_reducible first | exact HB.out | apply below_alloc | apply pw_below_drewN | apply below_drew1) | exact HB.out))) | (with_reducible refine Kd.C_alloc ?_ _) | (with_reducible refine Kd.C_drewN ?_ _) | (with_reducible refine Kd.C_drew ?_)))
              (case side2 => exact HC197_0.out)
              rintro e w10 ⟨v201, rfl, ho0, hb⟩
              refine ⟨_, rfl, ?_⟩
              have n0_ := Aside0.mk (Kd.R_elder' (by (with_reducible repeat (first | apply Kd.R_alloc | apply Kd.R_drewN | apply Kd.R_drew)); exact HO_6.out) (Kd.R_base ho0) hb)
              have n1_ := Aside0.mk (Kd.R_lower (Kd.R_new' ho0 (Kd.R_lt (by (with_reducible repeat (first | apply Kd.R_alloc | apply Kd.R_drewN | apply Kd.R_drew)); exact HO_6.out))) (below_size (by repeat (first | (with_reducible first | exact HB.out | apply below_alloc | apply pw_below_drewN | apply below_drew1) | exact HB.out))))
              have n2_ := Aside0.mk (below_step (by repeat (first | (with_reducible first | exact HB.out | apply below_alloc | apply pw_below_drewN | apply below_drew1) | exact HB.out)) hb)
              clear HO_6
              clear HB
              have HO_6 := n0_
              have HO202 := n1_
              have HB := n2_
              clear n0_ n1_ n2_
              (try clear hb)
              (try clear hb2)
              (try clear hk)
              (try clear hi)
              (try clear ho0)
              refine hK.out _ _ (((HB.out.cell (World.block_lt_of_cell? w _ hw197_0)).trans hw197_0)) (fun hHeld => ?_)
              clear hK K
              refine norm_ (a' := ?_) ?_ ?_
              rotate_left
              · show Act.put _ (some 24) _ = _
                simp only [Act.put, List.setIfInBounds_toArray, List.set_cons_zero, List.set_cons_succ, i64_w, i32_w]
                rfl
              refine pure_ (i := 8) (N := some 16) (v := ?_) (a' := ?_) #[true, true, true, true, true, true, true, true, true, false, false, false, false] rfl rfl (any_of HT_.out (by kernel_rfl)) (fun _ _ _ h => h) (Or.inl ⟨by rfl, ?_⟩) ?_ ?_
              rotate_left
              · intro w'
                go_simp
                with_reducible rfl
              rotate_left
              · simp only [Act.put, List.setIfInBounds_toArray, List.set_cons_zero, List.set_cons_succ, i64_w, i32_w]
                rfl
              refine pure_ (i := 9) (N := some 25) (v := ?_) (a' := ?_) #[true, true, true, true, true, true, true, true, true, true, false, false, false] rfl rfl (any_of HT_.out (by kernel_rfl)) (fun _ _ _ h => h) (Or.inl ⟨by rfl, ?_⟩) ?_ ?_
              rotate_left
              · intro w'
                go_simp
                with_reducible rfl
              rotate_left
              · simp only [Act.put, List.setIfInBounds_toArray, List.set_cons_zero, List.set_cons_succ, i64_w, i32_w]
                rfl
              refine pure_ (i := 10) (N := some 26) (v := ?_) (a' := ?_) #[true, true, true, true, true, true, true, true, true, true, true, false, false] rfl rfl (any_of HT_.out (by kernel_rfl)) (fun _ _ _ h => h) (Or.inl ⟨by rfl, ?_⟩) ?_ ?_
              rotate_left
              · intro w'
                go_simp
                with_reducible rfl
              rotate_left
              · simp only [Act.put, List.setIfInBounds_toArray, List.set_cons_zero, List.set_cons_succ, i64_w, i32_w]
                rfl
              refine pure_ (i := 11) (N := some 8) (v := ?_) (a' := ?_) #[true, true, true, true, true, true, true, true, true, true, true, true, false] rfl rfl (any_of HT_.out (by kernel_rfl)) (fun _ _ _ h => h) (Or.inl ⟨by rfl, ?_⟩) ?_ ?_
              rotate_left
              · intro w'
                go_simp
                with_reducible rfl
              rotate_left
              · simp only [Act.put, List.setIfInBounds_toArray, List.set_cons_zero, List.set_cons_succ, i64_w, i32_w]
                rfl
              refine pure_ (i := 12) (N := some 9) (v := ?_) (a' := ?_) #[true, true, true, true, true, true, true, true, true, true, true, true, true] rfl rfl (any_of HT_.out (by kernel_rfl)) (fun _ _ _ h => h) (Or.inl ⟨by rfl, ?_⟩) ?_ ?_
              rotate_left
              · intro w'
                go_simp
                with_reducible rfl
              rotate_left
              · simp only [Act.put, List.setIfInBounds_toArray, List.set_cons_zero, List.set_cons_succ, i64_w, i32_w]
                rfl
              refine done_ (done_of HT_.out (by kernel_rfl)) ?_
              obtain ⟨Ao12, co12, eo12⟩ := Kd.R_slice HO202.out
              subst eo12
              try go_wp2_with (first | ((with_reducible refine gate_builtin (b := .append) (xs := #[.tmp 30, .tmp 31]) rfl ?_); at_builtin; refine Kd.R_append_rows (Kd.int .u8) (w0 := w) w.heap.size rfl (.tmp 30) (.tmp 31) 28 5 (.int .u8 0) 1 rfl Try.underlying28 info5 rfl (by decide) (by omega) u6 x6_1 t199 _ _ _ (fun k_ => some k_ ≠ (.slice Ao12 t199.length co12 : Value).ownBlock) (fun _ => False) rfl rfl ?aO ?aR (fun _ _ h => h) (fun _ h => h.elim) ?aF ?aB ?aS ?aL ?_; (case aR => repeat (first | exact (Kd.R_reads' HO202.out).2.2 | (with_reducible refine Kd.C_alloc ?_ _) | (with_reducible refine Kd.C_drewN ?_ _) | (with_reducible refine Kd.C_drew ?_))); (case aB => exact (by repeat (first | (with_reducible first | exact HB.out | apply below_alloc | apply pw_below_drewN | apply below_drew1) | exact HB.out))); (case aF => exact (fun k_ hk => Kd.fresh' (Kd.R_lt (by (with_reducible repeat (first | apply Kd.R_alloc | apply Kd.R_drewN | apply Kd.R_drew)); exact HO202.out)) k_ hk)); (case aO => exact (by (with_reducible repeat (first | apply Kd.R_alloc | apply Kd.R_drewN | apply Kd.R_drew)); exact Kd.R_mono HO_6.out (fun _ hk => hk.2))); (case aS => exact (below_size (by repeat (first | (with_reducible first | exact HB.out | apply below_alloc | apply pw_below_drewN | apply below_drew1) | exact HB.out)))); (case aL => have := LMc8.out; omega); intro v204 w11 ho hb hg hat; rw [← Ny203.out] at ho; have n0_ := Aside0.mk (Kd.R_after (ok := (fun _ => True)) (by (with_reducible repeat (first | apply Kd.R_alloc | apply Kd.R_drewN | apply Kd.R_drew)); exact HO202.out) hg hat); have n1_ := Aside0.mk (hb); have n2_ := Aside0.mk (ho); clear HO202; clear HB; clear HO_6; have HO202 := n0_; have HB := n1_; have HO205 := n2_; clear n0_ n1_ n2_; clear ho hb hg hat))
              go_roundg k1
              case measure => have := HK1.out; omega
              case rel => exact ⟨(y203), (wrap64 (x7_1 + 1)), (by first | rfl | (simp; done) | (simp [*]; done)), H', ⟨by have := HK1.out; omega⟩, ⟨by (with_reducible repeat (first | apply Kd.R_alloc | apply Kd.R_drewN | apply Kd.R_drew)); exact Kd.R_mono HO205.out (fun _ hk => trivial)⟩, ⟨by repeat (first | (with_reducible first | exact HB.out | apply below_alloc | apply pw_below_drewN | apply below_drew1) | exact HB.out)⟩⟩
            · rw [if_neg c8] at H
              exact absurd H (by simp)
          · rw [if_neg c7] at H
            have c7b0 : (t200 == 0) = false := beq_eq_false_iff_ne.mpr c7
            have c7b1 : (t200 != 0) = true := bne_iff_ne.mpr c7
            simp only [Option.some.injEq, Prod.mk.injEq] at H
            obtain ⟨rfl, rfl⟩ := H
            try go_wp2
            have n0_ := Aside0.mk (Kd.R_drew HO_6.out)
            have n1_ := Aside0.mk (below_drew1 HB.out)
            clear HO_6
            clear HB
            have HO_6 := n0_
            have HB := n1_
            clear n0_ n1_
            have p197 : 0 ≤ (x7_1 : Int) := of_decide_eq_true (by first | (with_reducible assumption) | assumption)
            have q197 : x7_1 < (l1.length : Int) := of_decide_eq_true (by first | (with_reducible assumption) | assumption)
            obtain ⟨ad197, A197_0, c197_0, e197, hx197_0, hl197_0, hi197_0⟩ := at_L2 HR1.out x7_1 p197 q197
            have hw197_0 := hx197_0
            cases e197
            replace hx197_0 := (HB.out.cell (World.block_lt_of_cell? w _ hx197_0)).trans hx197_0
            have HR197_0 := Aside0.mk hi197_0
            have HC197_0 := Aside0.mk hl197_0
            clear hi197_0 hl197_0
            replace p197 := eq_true p197
            replace q197 := eq_true q197
            refine start_ (n := 13) (S := fun w' => w'.cell? (ad197.add (x7_1).toNat) = some (.slice A197_0 (rd_L2 l1 x7_1).length c197_0)) (ds := []) #[false, false, false, false, false, false, false, false, false, false, false, false, false] (by kernel_rfl) rfl rfl (((HB.out.cell (World.block_lt_of_cell? w _ hw197_0)).trans hw197_0)) (fun hHeld => ?_); refine with_tabW truchmanref03_All.tab5 truchmanref03_All.bits5 (fun HT_ HW_ => ?_)
            generalize wr.drew = w13 at HO_6 HB HR197_0 hx197_0 hHeld ⊢
            refine pure_ (i := 0) (N := some 17) (v := ?_) (a' := ?_) #[true, false, false, false, false, false, false, false, false, false, false, false, false] rfl rfl (any_of HT_.out (by kernel_rfl)) (fun _ _ _ h => h) (Or.inl ⟨by rfl, ?_⟩) ?_ ?_
            rotate_left
            · intro w'
              go_simp
              with_reducible rfl
            rotate_left
            · simp only [Act.put, List.setIfInBounds_toArray, List.set_cons_zero, List.set_cons_succ, i64_w, i32_w]
              rfl
            refine pure_ (i := 1) (N := some 18) (v := ?_) (a' := ?_) #[true, true, false, false, false, false, false, false, false, false, false, false, false] rfl rfl (any_of HT_.out (by kernel_rfl)) (fun _ _ _ h => h) (Or.inl ⟨by rfl, ?_⟩) ?_ ?_
            rotate_left
            · intro w'
              go_simp
              with_reducible rfl
            rotate_left
            · simp only [Act.put, List.setIfInBounds_toArray, List.set_cons_zero, List.set_cons_succ, i64_w, i32_w]
              rfl
            refine pure_ (i := 2) (N := some 19) (v := ?_) (a' := ?_) #[true, true, true, false, false, false, false, false, false, false, false, false, false] rfl rfl (any_of HT_.out (by kernel_rfl)) (fun _ _ _ h => h) (Or.inl ⟨by rfl, ?_⟩) ?_ ?_
            rotate_left
            · intro w'
              go_simp
              with_reducible rfl
            rotate_left
            · simp only [Act.put, List.setIfInBounds_toArray, List.set_cons_zero, List.set_cons_succ, i64_w, i32_w]
              rfl
            refine pure_ (i := 4) (N := some 21) (v := ?_) (a' := ?_) #[true, true, true, false, true, false, false, false, false, false, false, false, false] rfl rfl (any_of HT_.out (by kernel_rfl)) (fun _ _ _ h => h) (Or.inl ⟨by rfl, ?_⟩) ?_ ?_
            rotate_left
            · intro w'
              go_simp
              with_reducible rfl
            rotate_left
            · simp only [Act.put, List.setIfInBounds_toArray, List.set_cons_zero, List.set_cons_succ, i64_w, i32_w]
              rfl
            refine pure_ (i := 5) (N := some 22) (v := ?_) (a' := ?_) #[true, true, true, false, true, true, false, false, false, false, false, false, false] rfl rfl (any_of HT_.out (by kernel_rfl)) (fun _ _ _ h => h) (Or.inl ⟨by rfl, ?_⟩) ?_ ?_
            rotate_left
            · intro w'
              go_simp
              with_reducible rfl
            rotate_left
            · simp only [Act.put, List.setIfInBounds_toArray, List.set_cons_zero, List.set_cons_succ, i64_w, i32_w]
              rfl
            refine take_ (i := 3) (N := some 20) (v := ?_) (a' := ?_) #[true, true, true, true, true, true, false, false, false, false, false, false, false] rfl rfl (take_ofW HT_.out HW_.out (by kernel_rfl)) (fun _ _ _ h => h) (Or.inl ⟨by rfl, ?_⟩) hHeld ?_ ?_
            rotate_left
            · intro w' s0
              go_simp
              with_reducible rfl
            rotate_left
            · simp only [Act.put, List.setIfInBounds_toArray, List.set_cons_zero, List.set_cons_succ, i64_w, i32_w]
              rfl
            refine one_ (i := 6) (N := some 23) #[true, true, true, true, true, true, true, false, false, false, false, false, false] rfl rfl (one_of HT_.out (by kernel_rfl)) (by decide) (fun K hK => ?_)
            refine goes_ Try.func41 (by kernel_rfl) rfl #[.slice A0 l0.length c0, .int .i64 x7_1] (by rfl) rfl rfl (by (try simp only [List.map_toArray, List.map_cons, List.map_nil]); first | done | rfl | (simp only [List.length_drop, List.length_take]; rfl)) ?_
            with_reducible refine (truchmanref03_Size.calls _ _ l0 x7_1 t198 _ ?side1 ?side2 A5.out).mono ?_
            (case side1 => repeat (first | exact (Kd.C_below HR0.out HB.out) | (with_reducible refine Kd.C_alloc ?_ _) | (with_reducible refine Kd.C_drewN ?_ _) | (with_reducible refine Kd.C_drew ?_)))
            (case side2 => exact HC0.out)
            rintro e w' ⟨rfl, ⟨nd, rfl⟩⟩
            refine ⟨_, rfl, ?_⟩
            refine hK.out _ _ (((HB.out.cell (World.block_lt_of_cell? w _ hw197_0)).trans hw197_0)) (fun hHeld => ?_)
            clear hK K
            refine norm_ (a' := ?_) ?_ ?_
            rotate_left
            · show Act.put _ (some 23) _ = _
              simp only [Act.put, List.setIfInBounds_toArray, List.set_cons_zero, List.set_cons_succ, i64_w, i32_w]
              rfl
            refine one_ (i := 7) (N := some 24) #[true, true, true, true, true, true, true, true, false, false, false, false, false] rfl rfl (one_of HT_.out (by kernel_rfl)) (by decide) (fun K hK => ?_)
            refine goes_ Try.func40 (by kernel_rfl) rfl #[.slice A197_0 (rd_L2 l1 x7_1).length c197_0, .int .i64 t198] (by rfl) rfl rfl (by (try simp only [List.map_toArray, List.map_cons, List.map_nil]); first | done | rfl | (simp only [List.length_drop, List.length_take]; rfl)) ?_
            with_reducible refine (truchmanref03_Mark.calls k1 _ _ (rd_L2 l1 x7_1) t198 t199 t200 _ ?side1 ?side2 A6.out).mono ?_
            (case side1 => repeat (first | exact (Kd.C_below HR197_0.out (by repeat (first | (with_reducible first | exact HB.out | apply below_alloc | apply pw_below_drewN | apply below_drew1) | exact HB.out))) | (with_reducible refine Kd.C_alloc ?_ _) | (with_reducible refine Kd.C_drewN ?_ _) | (with_reducible refine Kd.C_drew ?_)))
            (case side2 => exact HC197_0.out)
            rintro e w14 ⟨v201, rfl, ho0, hb⟩
            refine ⟨_, rfl, ?_⟩
            have n0_ := Aside0.mk (Kd.R_elder' (by (with_reducible repeat (first | apply Kd.R_alloc | apply Kd.R_drewN | apply Kd.R_drew)); exact HO_6.out) (Kd.R_base ho0) hb)
            have n1_ := Aside0.mk (Kd.R_lower (Kd.R_new' ho0 (Kd.R_lt (by (with_reducible repeat (first | apply Kd.R_alloc | apply Kd.R_drewN | apply Kd.R_drew)); exact HO_6.out))) (below_size (by repeat (first | (with_reducible first | exact HB.out | apply below_alloc | apply pw_below_drewN | apply below_drew1) | exact HB.out))))
            have n2_ := Aside0.mk (below_step (by repeat (first | (with_reducible first | exact HB.out | apply below_alloc | apply pw_below_drewN | apply below_drew1) | exact HB.out)) hb)
            clear HO_6
            clear HB
            have HO_6 := n0_
            have HO202 := n1_
            have HB := n2_
            clear n0_ n1_ n2_
            (try clear hb)
            (try clear hb2)
            (try clear hk)
            (try clear hi)
            (try clear ho0)
            refine hK.out _ _ (((HB.out.cell (World.block_lt_of_cell? w _ hw197_0)).trans hw197_0)) (fun hHeld => ?_)
            clear hK K
            refine norm_ (a' := ?_) ?_ ?_
            rotate_left
            · show Act.put _ (some 24) _ = _
              simp only [Act.put, List.setIfInBounds_toArray, List.set_cons_zero, List.set_cons_succ, i64_w, i32_w]
              rfl
            refine pure_ (i := 8) (N := some 16) (v := ?_) (a' := ?_) #[true, true, true, true, true, true, true, true, true, false, false, false, false] rfl rfl (any_of HT_.out (by kernel_rfl)) (fun _ _ _ h => h) (Or.inl ⟨by rfl, ?_⟩) ?_ ?_
            rotate_left
            · intro w'
              go_simp
              with_reducible rfl
            rotate_left
            · simp only [Act.put, List.setIfInBounds_toArray, List.set_cons_zero, List.set_cons_succ, i64_w, i32_w]
              rfl
            refine pure_ (i := 9) (N := some 25) (v := ?_) (a' := ?_) #[true, true, true, true, true, true, true, true, true, true, false, false, false] rfl rfl (any_of HT_.out (by kernel_rfl)) (fun _ _ _ h => h) (Or.inl ⟨by rfl, ?_⟩) ?_ ?_
            rotate_left
            · intro w'
              go_simp
              with_reducible rfl
            rotate_left
            · simp only [Act.put, List.setIfInBounds_toArray, List.set_cons_zero, List.set_cons_succ, i64_w, i32_w]
              rfl
            refine pure_ (i := 10) (N := some 26) (v := ?_) (a' := ?_) #[true, true, true, true, true, true, true, true, true, true, true, false, false] rfl rfl (any_of HT_.out (by kernel_rfl)) (fun _ _ _ h => h) (Or.inl ⟨by rfl, ?_⟩) ?_ ?_
            rotate_left
            · intro w'
              go_simp
              with_reducible rfl
            rotate_left
            · simp only [Act.put, List.setIfInBounds_toArray, List.set_cons_zero, List.set_cons_succ, i64_w, i32_w]
              rfl
            refine pure_ (i := 11) (N := some 8) (v := ?_) (a' := ?_) #[true, true, true, true, true, true, true, true, true, true, true, true, false] rfl rfl (any_of HT_.out (by kernel_rfl)) (fun _ _ _ h => h) (Or.inl ⟨by rfl, ?_⟩) ?_ ?_
            rotate_left
            · intro w'
              go_simp
              with_reducible rfl
            rotate_left
            · simp only [Act.put, List.setIfInBounds_toArray, List.set_cons_zero, List.set_cons_succ, i64_w, i32_w]
              rfl
            refine pure_ (i := 12) (N := some 9) (v := ?_) (a' := ?_) #[true, true, true, true, true, true, true, true, true, true, true, true, true] rfl rfl (any_of HT_.out (by kernel_rfl)) (fun _ _ _ h => h) (Or.inl ⟨by rfl, ?_⟩) ?_ ?_
            rotate_left
            · intro w'
              go_simp
              with_reducible rfl
            rotate_left
            · simp only [Act.put, List.setIfInBounds_toArray, List.set_cons_zero, List.set_cons_succ, i64_w, i32_w]
              rfl
            refine done_ (done_of HT_.out (by kernel_rfl)) ?_
            try go_wp2
            go_ret2
            exact ⟨_, by first | rfl | (simp [errW_none, errW_some] <;> rfl) | (simp [*, errW_none, errW_some] <;> rfl), by first | exact Kd.R_nil _ _ _ _ _ | exact Kd.N_nil _ _ _ _ _ | exact Kd.V_nil _ _ _ _ _ | exact Kd.Q_nil _ _ _ _ _ | exact Kd.S_nil _ _ _ _ _, by repeat (first | (with_reducible first | exact HB.out | apply below_alloc | apply pw_below_drewN | apply below_drew1) | exact HB.out)⟩
        · rw [if_neg c4] at H
          exact absurd H (by simp)
      · rw [if_neg c3] at H
        have c3b0 : decide (x7_1 < (l1.length : Int)) = false := decide_eq_false c3
        clear c3
        simp only [Option.some.injEq, Prod.mk.injEq] at H
        obtain ⟨rfl, rfl⟩ := H
        go_wp2
        go_ret2
        exact ⟨_, by first | rfl | (simp [errW_none, errW_some] <;> rfl) | (simp [*, errW_none, errW_some] <;> rfl), by (with_reducible repeat (first | apply Kd.R_alloc | apply Kd.R_drewN | apply Kd.R_drew)); exact HO_6.out, by repeat (first | (with_reducible first | exact HB.out | apply below_alloc | apply pw_below_drewN | apply below_drew1) | exact HB.out)⟩

-- NOT PRINTED: function 22 (demark_New)

/-! ### truchmanlaw04_piece: function 23 -/
def truchmanlaw04_piece.f (l0 : List Int) (a1 : Int) : Option (Int) := if (l0.length : Int) > 0 then (if (l0.length : Int) = 0 then (none) else (if 0 ≤ (Int.tmod a1 (l0.length : Int)) then (if (Int.tmod a1 (l0.length : Int)) < (l0.length : Int) then ((truchmanref01_Around.f (rd l0 (Int.tmod a1 (l0.length : Int))) 12).bind fun t207 => (if (Int.tmod a1 9) = 8 then (some (mx t207 1)) else (some t207))) else (none)) else (none))) else (if (Int.tmod a1 9) = 8 then (some (mx 7 1)) else (some 7))
set_option maxHeartbeats 8000000 in
set_option maxRecDepth 100000 in
theorem truchmanlaw04_piece.calls (A0 : Option Addr) (c0 : Nat) (l0 : List Int) (a1 : Int) (r : Int) (w : World) (hr0 : Kd.C (Kd.int .i64) w A0 l0.length l0) (hc0 : l0.length ≤ c0) (h : truchmanlaw04_piece.f l0 a1 = some r) :
    Calls Try.prog 23 #[.slice A0 l0.length c0, .int .i64 a1] w fun e w' => e = .returned (.int .i64 r) ∧ Below w.heap.size w w' := by
  have HR0 := Aside0.mk hr0
  have HC0 := Aside0.mk hc0
  clear hr0 hc0
  have HB := Aside0.mk (Below.refl w.heap.size w)
  have H : (if (l0.length : Int) > 0 then (if (l0.length : Int) = 0 then (none) else (if 0 ≤ (Int.tmod a1 (l0.length : Int)) then (if (Int.tmod a1 (l0.length : Int)) < (l0.length : Int) then ((truchmanref01_Around.f (rd l0 (Int.tmod a1 (l0.length : Int))) 12).bind fun t207 => (if (Int.tmod a1 9) = 8 then (some (mx t207 1)) else (some t207))) else (none)) else (none))) else (if (Int.tmod a1 9) = 8 then (some (mx 7 1)) else (some 7))) = some r := h
  clear h
  by_cases c3 : (l0.length : Int) > 0
  · rw [if_pos c3] at H
    have c3b0 : decide (0 < (l0.length : Int)) = true := decide_eq_true c3
    have c3b1 : decide (0 < l0.length) = true := decide_eq_true (by omega)
    clear c3
    by_cases c4 : (l0.length : Int) = 0
    · rw [if_pos c4] at H
      exact absurd H (by simp)
    · rw [if_neg c4] at H
      have c4b0 : ((l0.length : Int) == 0) = false := beq_eq_false_iff_ne.mpr c4
      have c4b1 : ((l0.length : Int) != 0) = true := bne_iff_ne.mpr c4
      have c4b2 : ¬ (l0 = []) := fun h_ => c4 (by rw [h_]; rfl)
      obtain ⟨ji5, hji5⟩ : ∃ j_ : Int, (Int.tmod a1 (l0.length : Int)) = j_ := ⟨_, rfl⟩
      replace H : (if 0 ≤ (ji5) then (if (ji5) < (l0.length : Int) then ((truchmanref01_Around.f (rd l0 (ji5)) 12).bind fun t207 => (if (Int.tmod a1 9) = 8 then (some (mx t207 1)) else (some t207))) else (none)) else (none)) = some r := by first | (rw [hji5] at H; exact H) | (simp only [hji5] at H ⊢; exact H)
      by_cases c6 : 0 ≤ (ji5)
      · rw [if_pos c6] at H
        have c6b0 : decide (0 ≤ (ji5)) = true := decide_eq_true c6
        clear c6
        by_cases c7 : (ji5) < (l0.length : Int)
        · rw [if_pos c7] at H
          have c7b0 : decide ((ji5) < (l0.length : Int)) = true := decide_eq_true c7
          clear c7
          replace H := Option.bind_eq_some_iff.mp H
          obtain ⟨t207, A80, H⟩ := H
          replace H : (if (Int.tmod a1 9) = 8 then (some (mx t207 1)) else (some t207)) = some r := H
          have A8 := Aside0.mk A80
          clear A80
          by_cases c9 : (Int.tmod a1 9) = 8
          · rw [if_pos c9] at H
            have c9b0 : ((Int.tmod a1 9) == 8) = true := beq_iff_eq.mpr c9
            have c9b1 : ((Int.tmod a1 9) != 8) = false := bne_eq_false_iff_eq.mpr c9
            clear c9
            obtain ⟨ji10, hji10⟩ : ∃ j_ : Int, (mx t207 1) = j_ := ⟨_, rfl⟩
            replace H : (some ji10) = some r := by first | (rw [hji10] at H; exact H) | (simp only [hji10] at H ⊢; exact H)
            (try rw [hji10] at A8)
            (try (have hji10l : 1 ≤ ji10 := by (rw [← hji10]; unfold mx; (repeat' split) <;> omega)))
            (try (have hji10m : 0 ≤ ji10 := by omega))
            have hji10_ : (if t207 < 1 then 1 else t207) = ji10 := hji10
            obtain rfl := Option.some.inj H
            have p206 : 0 ≤ ((ji5) : Int) := of_decide_eq_true (by first | (with_reducible assumption) | assumption)
            have q206 : (ji5) < (l0.length : Int) := of_decide_eq_true (by first | (with_reducible assumption) | assumption)
            obtain ⟨ad206, e206, hx206_0⟩ := Kd.at_int HR0.out (ji5) p206 q206
            cases e206
            replace p206 := eq_true p206
            replace q206 := eq_true q206
            go_enter Try.func23, Try.ntmps23
            go_wp2_with (first | ((with_reducible refine gate_callee (f := 21) rfl ?_); refine goesL_ (some 16) rfl rfl Try.func21 (by kernel_rfl) rfl #[.int .i64 (rd l0 (ji5)), .int .i64 12] rfl (by (try simp only [List.map_toArray, List.map_cons, List.map_nil]); first | done | (simp only [hji5]; rfl) | rfl | (simp only [List.length_drop, List.length_take]; rfl)) ?_; (with_reducible refine (truchmanref01_Around.calls (rd l0 (ji5)) 12 t207 _ A8.out).mono ?_); rintro e w' ⟨rfl, ⟨nd, rfl⟩⟩; refine ⟨_, rfl, ?_⟩))
            go_ret
            exact ⟨by first | rfl | (simp [errW_none, errW_some] <;> rfl) | (simp only [← hji5, ← hji10]; first | rfl | (simp [errW_none, errW_some] <;> rfl)) | (simp [*, errW_none, errW_some] <;> rfl), by repeat (first | (with_reducible first | exact HB.out | apply below_alloc | apply pw_below_drewN | apply below_drew1) | exact HB.out)⟩
          · rw [if_neg c9] at H
            have c9b0 : ((Int.tmod a1 9) == 8) = false := beq_eq_false_iff_ne.mpr c9
            have c9b1 : ((Int.tmod a1 9) != 8) = true := bne_iff_ne.mpr c9
            obtain rfl := Option.some.inj H
            have p206 : 0 ≤ ((ji5) : Int) := of_decide_eq_true (by first | (with_reducible assumption) | assumption)
            have q206 : (ji5) < (l0.length : Int) := of_decide_eq_true (by first | (with_reducible assumption) | assumption)
            obtain ⟨ad206, e206, hx206_0⟩ := Kd.at_int HR0.out (ji5) p206 q206
            cases e206
            replace p206 := eq_true p206
            replace q206 := eq_true q206
            go_enter Try.func23, Try.ntmps23
            go_wp2_with (first | ((with_reducible refine gate_callee (f := 21) rfl ?_); refine goesL_ (some 16) rfl rfl Try.func21 (by kernel_rfl) rfl #[.int .i64 (rd l0 (ji5)), .int .i64 12] rfl (by (try simp only [List.map_toArray, List.map_cons, List.map_nil]); first | done | (simp only [hji5]; rfl) | rfl | (simp only [List.length_drop, List.length_take]; rfl)) ?_; (with_reducible refine (truchmanref01_Around.calls (rd l0 (ji5)) 12 t207 _ A8.out).mono ?_); rintro e w' ⟨rfl, ⟨nd, rfl⟩⟩; refine ⟨_, rfl, ?_⟩))
            go_ret
            exact ⟨by first | rfl | (simp [errW_none, errW_some] <;> rfl) | (simp only [← hji5]; first | rfl | (simp [errW_none, errW_some] <;> rfl)) | (simp [*, errW_none, errW_some] <;> rfl), by repeat (first | (with_reducible first | exact HB.out | apply below_alloc | apply pw_below_drewN | apply below_drew1) | exact HB.out)⟩
        · rw [if_neg c7] at H
          exact absurd H (by simp)
      · rw [if_neg c6] at H
        exact absurd H (by simp)
  · rw [if_neg c3] at H
    have c3b0 : decide (0 < (l0.length : Int)) = false := decide_eq_false c3
    have c3b1 : decide (0 < l0.length) = false := decide_eq_false (by omega)
    clear c3
    by_cases c11 : (Int.tmod a1 9) = 8
    · rw [if_pos c11] at H
      have c11b0 : ((Int.tmod a1 9) == 8) = true := beq_iff_eq.mpr c11
      have c11b1 : ((Int.tmod a1 9) != 8) = false := bne_eq_false_iff_eq.mpr c11
      clear c11
      obtain ⟨ji12, hji12⟩ : ∃ j_ : Int, (mx 7 1) = j_ := ⟨_, rfl⟩
      replace H : (some ji12) = some r := by first | (rw [hji12] at H; exact H) | (simp only [hji12] at H ⊢; exact H)
      (try (have hji12h : ji12 ≤ 7 := by (rw [← hji12]; unfold mx; (repeat' split) <;> omega)))
      (try (have hji12g : ji12 ≤ 64 := by omega))
      (try (have hji12l : 7 ≤ ji12 := by (rw [← hji12]; unfold mx; (repeat' split) <;> omega)))
      (try (have hji12m : 0 ≤ ji12 := by omega))
      have hji12_ : (if 7 < 1 then 1 else 7) = ji12 := hji12
      obtain rfl := Option.some.inj H
      go_enter Try.func23, Try.ntmps23
      go_wp2
      go_ret
      exact ⟨by first | rfl | (simp [errW_none, errW_some] <;> rfl) | (simp only [← hji12]; first | rfl | (simp [errW_none, errW_some] <;> rfl)) | (simp [*, errW_none, errW_some] <;> rfl), by repeat (first | (with_reducible first | exact HB.out | apply below_alloc | apply pw_below_drewN | apply below_drew1) | exact HB.out)⟩
    · rw [if_neg c11] at H
      have c11b0 : ((Int.tmod a1 9) == 8) = false := beq_eq_false_iff_ne.mpr c11
      have c11b1 : ((Int.tmod a1 9) != 8) = true := bne_iff_ne.mpr c11
      obtain rfl := Option.some.inj H
      go_enter Try.func23, Try.ntmps23
      go_wp2
      go_ret
      exact ⟨by first | rfl | (simp [errW_none, errW_some] <;> rfl) | (simp [*, errW_none, errW_some] <;> rfl), by repeat (first | (with_reducible first | exact HB.out | apply below_alloc | apply pw_below_drewN | apply below_drew1) | exact HB.out)⟩

-- NOT PRINTED: function 24 (demark_Deframer_Feed)

end Go.Proofs.Ytfoifcilacbipaa.P
