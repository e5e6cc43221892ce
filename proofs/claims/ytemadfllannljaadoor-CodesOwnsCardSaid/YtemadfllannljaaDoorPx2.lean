-- Written by a program of this session (wip/tools), over the kit's printer; Lean checks it.
import Derived.Test.YtemadfllannljaaDoorPx0
import Derived.Test.YtemadfllannljaaDoorPx1
namespace Go.Proofs.YtemadfllannljaaDoor.P
open Go.RowKit Go.Proofs.YtemadfllannljaaDoorW.PrintWords Go.Proofs.YtemadfllannljaaDoorW.PrintLast Go.Proofs.YtemadfllannljaaDoorW.PrintMore
attribute [local go_sem] max2_int min2_int max_two min_two max_three min_three max_four min_four   -- for this text's walks alone
set_option linter.unusedVariables false
set_option linter.unusedSimpArgs false

/-! ### truchmanlaw08_CodesFrom: function 4 -/
def truchmanlaw08_CodesFrom.l0 : Nat → Int → List Int → Int → Option (Bool)
  | 0, _, _, _ => none
  | k + 1, x1, x5, x6 => if x6 < 3 then (if 0 ≤ x6 then (if x6 < (x5.length : Int) then ((codes_FromStatus.f (rd x5 x6)).bind fun t153 => ((truchmanref08_FromStatus.f k (rd x5 x6)).bind fun t155 => (if t153 = t155 then (truchmanlaw08_CodesFrom.l0 k x1 x5 (wrap64 (x6 + 1))) else (some false)))) else (none)) else (none)) else ((truchmanref01_Around.f x1 22).bind fun t156 => ((codes_FromCode.f x1).bind fun t157 => ((truchmanref08_FromCode.f x1).bind fun t158 => (if t157 = t158 then ((codes_FromCode.f (wrap64 (t156 - 1))).bind fun t159 => ((truchmanref08_FromCode.f (wrap64 (t156 - 1))).bind fun t160 => (if t159 = t160 then ((truchmanlaw08_lives.f).bind fun t161 => (some t161)) else (some false)))) else (some false)))))
def truchmanlaw08_CodesFrom.f (k : Nat) (a0 : Int) (a1 : Int) : Option (Bool) := truchmanlaw08_CodesFrom.l0 k a1 (([a0, Int.tmod a0 80, (10000 + (Int.tmod a0 111)) % 4294967296] : List Int)) 0
theorem truchmanlaw08_CodesFrom.mono_l : ∀ k, (∀ y0 y1 y2, LeO (truchmanlaw08_CodesFrom.l0 k y0 y1 y2) (truchmanlaw08_CodesFrom.l0 (k + 1) y0 y1 y2))
  | 0 => fun _ _ _ r h => by simp [truchmanlaw08_CodesFrom.l0] at h
  | k + 1 => by
    have ih0 := truchmanlaw08_CodesFrom.mono_l k
    · intro y0 y1 y2
      unfold truchmanlaw08_CodesFrom.l0
      repeat' first
      | (with_reducible exact ih0 _ _ _)
      | (with_reducible exact truchmanref08_FromStatus.mono _ _)
      | (with_reducible exact LeO.refl _)
      | (with_reducible exact LeO.none _)
      | (with_reducible refine LeO.ite ?_ ?_)
      | (with_reducible refine LeO.bind ?_ (fun _ => ?_))
      | exact ih0 _ _ _
      | exact truchmanref08_FromStatus.mono _ _
      | exact LeO.none _
      | refine LeO.ite ?_ ?_
      | refine LeO.bind ?_ (fun _ => ?_)
theorem truchmanlaw08_CodesFrom.mono : ∀ a0 a1 k, LeO (truchmanlaw08_CodesFrom.f k a0 a1) (truchmanlaw08_CodesFrom.f (k + 1) a0 a1) := by
  intro a0 a1 k
  have ih0 := truchmanlaw08_CodesFrom.mono_l k
  unfold truchmanlaw08_CodesFrom.f
  repeat' first
      | (with_reducible exact ih0 _ _ _)
      | (with_reducible exact truchmanref08_FromStatus.mono _ _)
      | (with_reducible exact LeO.refl _)
      | (with_reducible exact LeO.none _)
      | (with_reducible refine LeO.ite ?_ ?_)
      | (with_reducible refine LeO.bind ?_ (fun _ => ?_))
      | exact ih0 _ _ _
      | exact truchmanref08_FromStatus.mono _ _
      | exact LeO.none _
      | refine LeO.ite ?_ ?_
      | refine LeO.bind ?_ (fun _ => ?_)
def truchmanlaw08_CodesFrom.T5 : Bool × List (List Nat × List Nat) := (true, [([], []), ([], []), ([0, 1], [0, 1]), ([2], [2]), ([3], [3]), ([], []), ([], []), ([5, 6], [5, 6]), ([7], [7]), ([8, 4], [8]), ([4, 9], [4, 9])])
def truchmanlaw08_CodesFrom.B5 : List Nat := [0, 0, 3, 7, 15, 0, 0, 96, 224, 511, 1023]
theorem truchmanlaw08_CodesFrom.tab5 : rtab .any (opsOf Tryd.f4 5) = truchmanlaw08_CodesFrom.T5 := by kernel_rfl
theorem truchmanlaw08_CodesFrom.bits5 : waitsOk truchmanlaw08_CodesFrom.T5.2 truchmanlaw08_CodesFrom.B5 = true := by kernel_rfl
set_option maxHeartbeats 8000000 in
set_option maxRecDepth 100000 in
theorem truchmanlaw08_CodesFrom.calls (k : Nat) (a0 : Int) (a1 : Int) (r : Bool) (w : World) (HT : Aside0 (G.Tab w)) (hrt : Aside0 (r = true)) (h : truchmanlaw08_CodesFrom.f k a0 a1 = some r) :
    Calls Tryd.prog 4 #[.int .u32 a0, .int .i64 a1] w fun e w' => e = .returned (.bool r) ∧ Below w.heap.size w w' := by
  have HB := Aside0.mk (Below.refl w.heap.size w)
  have H : (truchmanlaw08_CodesFrom.l0 k a1 (([a0, Int.tmod a0 80, (10000 + (Int.tmod a0 111)) % 4294967296] : List Int)) 0) = some r := h
  clear h
  obtain ⟨y149, hy149⟩ : ∃ y_ : List Int, y_ = (([a0, Int.tmod a0 80, (10000 + (Int.tmod a0 111)) % 4294967296] : List Int)) := ⟨_, rfl⟩
  replace H : (truchmanlaw08_CodesFrom.l0 k a1 y149 0) = some r := by first | (rw [hy149]; with_reducible exact H) | (have H2_ := (Option.bind_some _ _).symm.trans H; rw [hy149]; with_reducible exact H2_) | (have H2_ := (Option.bind_some _ _).symm.trans H; with_reducible exact H2_) | with_reducible exact H | (rw [hy149]; exact H) | exact H
  have Ny149 := Aside0.mk hy149
  clear hy149
  have H' := Aside0.mk H
  clear H
  go_enter Tryd.func4, Tryd.ntmps4
  go_wp2_with (first | ((with_reducible refine gate_dst (N := 14) rfl ?_); refine Kd.R_lit (Kd.int .u32) _ 25 ?hg (N := 14) ?hd (xs := ([a0, Int.tmod a0 80, (10000 + (Int.tmod a0 111)) % 4294967296] : List Int)) (inner := [.int .u32 a0, .int .u32 (Int.tmod a0 80), .int .u32 ((10000 + (Int.tmod a0 111)) % 4294967296)]) (ok := fun _ => True) (okp := fun _ => True) ?hr ?hp (fun _ hk => hk) trivial (Below.refl _ _) (Nat.le_refl _) (by simp) ?_; (case hd => rfl); (case hg => rfl); (case hr => first | (go_simp; done) | (go_simp; rfl)); (case hp => exact (Reps.one (show Kd.M (Kd.int .u32) _ _ _ a0 [.int .u32 a0] from rfl) (Reps.one (show Kd.M (Kd.int .u32) _ _ _ (Int.tmod a0 80) [.int .u32 (Int.tmod a0 80)] from rfl) (Reps.one (show Kd.M (Kd.int .u32) _ _ _ ((10000 + (Int.tmod a0 111)) % 4294967296) [.int .u32 ((10000 + (Int.tmod a0 111)) % 4294967296)] from rfl) (Reps.none _ _))))); intro v150 w3 ho4 hb hg_ hnew_; clear hg_ hnew_; (first | rw [← Ny149.out] at ho4 | (simp only [Int.reduceToNat] at ho4; rw [← Ny149.out] at ho4)); have n0_ := Aside0.mk (Kd.R_lower ho4 (below_size (by repeat (first | (with_reducible first | exact HB.out | apply below_alloc | apply pw_below_drewN | apply below_drew1) | exact HB.out)))); have n1_ := Aside0.mk (below_step (by repeat (first | (with_reducible first | exact HB.out | apply below_alloc | apply pw_below_drewN | apply below_drew1) | exact HB.out)) hb); clear HB; have HO151 := n0_; have HB := n1_; clear n0_ n1_; clear hb ho4))
  go_loopg [6] k (fun kq v6 w' => ∃ (x6_1 : Int), v6 = .int .i64 x6_1 ∧ Aside0 (truchmanlaw08_CodesFrom.l0 kq a1 y149 x6_1 = some r) ∧ Aside0 (kq ≤ k) ∧ Aside0 (Kd.R (Kd.int .u32) 25 w' w.heap.size (fun _ => True) v150 y149) ∧ Aside0 (Below w.heap.size w w'))
  case atStart => exact ⟨(0), (by first | rfl | (simp; done) | (simp [*]; done)), H', ⟨Nat.le_refl _⟩, ⟨by (with_reducible repeat (first | apply Kd.R_alloc | apply Kd.R_drewN | apply Kd.R_drew)); exact HO151.out⟩, ⟨by repeat (first | (with_reducible first | exact HB.out | apply below_alloc | apply pw_below_drewN | apply below_drew1) | exact HB.out)⟩⟩
  case round =>
    clear H'
    try clear p2
    try clear c4
    obtain ⟨x6_1, rfl, HA, HK1, HO_5, HB⟩ := hrel
    cases gk with
    | zero => exact absurd HA.out (by simp [truchmanlaw08_CodesFrom.l0])
    | succ k1 =>
      have H := HA.out
      clear HA
      simp only [truchmanlaw08_CodesFrom.l0] at H
      by_cases c5 : x6_1 < 3
      · rw [if_pos c5] at H
        have c5b0 : decide (x6_1 < 3) = true := decide_eq_true c5
        clear c5
        by_cases c6 : 0 ≤ x6_1
        · rw [if_pos c6] at H
          have c6b0 : decide (0 ≤ x6_1) = true := decide_eq_true c6
          clear c6
          by_cases c7 : x6_1 < (y149.length : Int)
          · rw [if_pos c7] at H
            have c7b0 : decide (x6_1 < (y149.length : Int)) = true := decide_eq_true c7
            clear c7
            replace H := Option.bind_eq_some_iff.mp H
            obtain ⟨t153, A80, H⟩ := H
            replace H : ((truchmanref08_FromStatus.f k1 (rd y149 x6_1)).bind fun t155 => (if t153 = t155 then (truchmanlaw08_CodesFrom.l0 k1 a1 y149 (wrap64 (x6_1 + 1))) else (some false))) = some r := H
            have A8 := Aside0.mk A80
            clear A80
            replace H := Option.bind_eq_some_iff.mp H
            obtain ⟨t155, A90, H⟩ := H
            replace H : (if t153 = t155 then (truchmanlaw08_CodesFrom.l0 k1 a1 y149 (wrap64 (x6_1 + 1))) else (some false)) = some r := H
            have A9 := Aside0.mk A90
            clear A90
            by_cases c10 : t153 = t155
            · rw [if_pos c10] at H
              have c10b0 : (t153 == t155) = true := beq_iff_eq.mpr c10
              have c10b1 : (t153 != t155) = false := bne_eq_false_iff_eq.mpr c10
              clear c10
              have H' := Aside0.mk H
              clear H
              try go_wp2
              have n0_ := Aside0.mk (Kd.R_drew HO_5.out)
              have n1_ := Aside0.mk (below_drew1 HB.out)
              clear HO_5
              clear HB
              have HO_5 := n0_
              have HB := n1_
              clear n0_ n1_
              obtain ⟨Ao12, co12, eo12⟩ := Kd.R_slice HO_5.out
              (first | subst eo12 | (injection eo12 with f1_ f2_ f3_; have f4_ := f1_.symm; have f5_ := f3_.symm; clear f1_ f2_ f3_; subst f4_; subst f5_))
              have p152 : 0 ≤ (x6_1 : Int) := of_decide_eq_true (by first | (with_reducible assumption) | assumption)
              have q152 : x6_1 < (y149.length : Int) := of_decide_eq_true (by first | (with_reducible assumption) | assumption)
              obtain ⟨ad152, e152, hx152_0⟩ := Kd.at_int (Kd.R_reads' HO_5.out).2.2 x6_1 p152 q152
              cases e152
              replace p152 := eq_true p152
              replace q152 := eq_true q152
              have p154 : 0 ≤ (x6_1 : Int) := of_decide_eq_true (by first | (with_reducible assumption) | assumption)
              have q154 : x6_1 < (y149.length : Int) := of_decide_eq_true (by first | (with_reducible assumption) | assumption)
              obtain ⟨ad154, e154, hx154_0⟩ := Kd.at_int (Kd.R_reads' HO_5.out).2.2 x6_1 p154 q154
              obtain rfl : ad152 = ad154 := (by injection e154)
              replace p154 := eq_true p154
              replace q154 := eq_true q154
              refine start_ (n := 11) (S := fun w' => w'.cell? (ad152.add (x6_1).toNat) = some (.int .u32 (rd y149 x6_1)) ∧ w'.cell? (ad152.add (x6_1).toNat) = some (.int .u32 (rd y149 x6_1))) (ds := []) #[false, false, false, false, false, false, false, false, false, false, false] (by kernel_rfl) rfl rfl ⟨hx152_0, hx154_0⟩ (fun hHeld => ?_); refine with_tabW truchmanlaw08_CodesFrom.tab5 truchmanlaw08_CodesFrom.bits5 (fun HT_ HW_ => ?_)
              generalize wr.drew = w11 at HO_5 HB hx152_0 hx154_0 hHeld ⊢
              refine pure_ (i := 0) (N := some 19) (v := ?_) (a' := ?_) #[true, false, false, false, false, false, false, false, false, false, false] rfl rfl (any_of HT_.out (by kernel_rfl)) (fun _ _ _ h => h) (Or.inl ⟨by rfl, ?_⟩) ?_ ?_
              rotate_left
              · intro w'
                go_simp
                with_reducible rfl
              rotate_left
              · simp only [Act.put, List.setIfInBounds_toArray, List.set_cons_zero, List.set_cons_succ, i64_w, i32_w]
                rfl
              refine pure_ (i := 1) (N := some 20) (v := ?_) (a' := ?_) #[true, true, false, false, false, false, false, false, false, false, false] rfl rfl (any_of HT_.out (by kernel_rfl)) (fun _ _ _ h => h) (Or.inl ⟨by rfl, ?_⟩) ?_ ?_
              rotate_left
              · intro w'
                go_simp
                with_reducible rfl
              rotate_left
              · simp only [Act.put, List.setIfInBounds_toArray, List.set_cons_zero, List.set_cons_succ, i64_w, i32_w]
                rfl
              refine pure_ (i := 2) (N := some 21) (v := ?_) (a' := ?_) #[true, true, true, false, false, false, false, false, false, false, false] rfl rfl (any_of HT_.out (by kernel_rfl)) (fun _ _ _ h => h) (Or.inl ⟨by rfl, ?_⟩) ?_ ?_
              rotate_left
              · intro w'
                go_simp
                with_reducible rfl
              rotate_left
              · simp only [Act.put, List.setIfInBounds_toArray, List.set_cons_zero, List.set_cons_succ, i64_w, i32_w]
                rfl
              refine pure_ (i := 5) (N := some 24) (v := ?_) (a' := ?_) #[true, true, true, false, false, true, false, false, false, false, false] rfl rfl (any_of HT_.out (by kernel_rfl)) (fun _ _ _ h => h) (Or.inl ⟨by rfl, ?_⟩) ?_ ?_
              rotate_left
              · intro w'
                go_simp
                with_reducible rfl
              rotate_left
              · simp only [Act.put, List.setIfInBounds_toArray, List.set_cons_zero, List.set_cons_succ, i64_w, i32_w]
                rfl
              refine pure_ (i := 6) (N := some 25) (v := ?_) (a' := ?_) #[true, true, true, false, false, true, true, false, false, false, false] rfl rfl (any_of HT_.out (by kernel_rfl)) (fun _ _ _ h => h) (Or.inl ⟨by rfl, ?_⟩) ?_ ?_
              rotate_left
              · intro w'
                go_simp
                with_reducible rfl
              rotate_left
              · simp only [Act.put, List.setIfInBounds_toArray, List.set_cons_zero, List.set_cons_succ, i64_w, i32_w]
                rfl
              refine pure_ (i := 7) (N := some 26) (v := ?_) (a' := ?_) #[true, true, true, false, false, true, true, true, false, false, false] rfl rfl (any_of HT_.out (by kernel_rfl)) (fun _ _ _ h => h) (Or.inl ⟨by rfl, ?_⟩) ?_ ?_
              rotate_left
              · intro w'
                go_simp
                with_reducible rfl
              rotate_left
              · simp only [Act.put, List.setIfInBounds_toArray, List.set_cons_zero, List.set_cons_succ, i64_w, i32_w]
                rfl
              refine take_ (i := 3) (N := some 22) (v := ?_) (a' := ?_) #[true, true, true, true, false, true, true, true, false, false, false] rfl rfl (take_ofW HT_.out HW_.out (by kernel_rfl)) (fun _ _ _ h => h) (Or.inl ⟨by rfl, ?_⟩) hHeld ?_ ?_
              rotate_left
              · rintro w' ⟨s0, s1⟩
                go_simp
                with_reducible rfl
              rotate_left
              · simp only [Act.put, List.setIfInBounds_toArray, List.set_cons_zero, List.set_cons_succ, i64_w, i32_w]
                rfl
              refine take_ (i := 8) (N := some 27) (v := ?_) (a' := ?_) #[true, true, true, true, false, true, true, true, true, false, false] rfl rfl (take_ofW HT_.out HW_.out (by kernel_rfl)) (fun _ _ _ h => h) (Or.inl ⟨by rfl, ?_⟩) hHeld ?_ ?_
              rotate_left
              · rintro w' ⟨s0, s1⟩
                go_simp
                with_reducible rfl
              rotate_left
              · simp only [Act.put, List.setIfInBounds_toArray, List.set_cons_zero, List.set_cons_succ, i64_w, i32_w]
                rfl
              refine one_ (i := 4) (N := some 23) #[true, true, true, true, true, true, true, true, true, false, false] rfl rfl (one_of HT_.out (by kernel_rfl)) (by decide) (fun K hK => ?_)
              refine goes_ Tryd.func16 (by kernel_rfl) rfl #[.int .u32 (rd y149 x6_1)] (by rfl) rfl rfl (by (try simp only [List.map_toArray, List.map_cons, List.map_nil]); first | done | rfl | (simp only [List.length_drop, List.length_take]; rfl)) ?_
              with_reducible refine (codes_FromStatus.calls (rd y149 x6_1) t153 _ ⟨G.Tab_at HT.out (by repeat (first | (with_reducible first | exact HB.out | apply below_alloc | apply pw_below_drewN | apply below_drew1) | exact HB.out))⟩ A8.out).mono ?_
              rintro e w13 ⟨rfl, hb⟩
              have HS0_ := (hb.cell (World.block_lt_of_cell? _ _ (hHeld.1))).trans (hHeld.1)
              have HS1_ := (hb.cell (World.block_lt_of_cell? _ _ (hHeld.2))).trans (hHeld.2)
              refine ⟨_, rfl, ?_⟩
              have n0_ := Aside0.mk (Kd.R_below (by (with_reducible repeat (first | apply Kd.R_alloc | apply Kd.R_drewN | apply Kd.R_drew)); exact HO_5.out) hb)
              have n1_ := Aside0.mk (below_step (by repeat (first | (with_reducible first | exact HB.out | apply below_alloc | apply pw_below_drewN | apply below_drew1) | exact HB.out)) hb)
              clear HO_5
              clear HB
              have HO_5 := n0_
              have HB := n1_
              clear n0_ n1_
              (try clear hb)
              (try clear hb2)
              (try clear hk)
              (try clear hi)
              refine hK.out _ _ ⟨HS0_, HS1_⟩ (fun hHeld => ?_)
              clear hK K
              refine norm_ (a' := ?_) ?_ ?_
              rotate_left
              · show Act.put _ (some 23) _ = _
                simp only [Act.put, List.setIfInBounds_toArray, List.set_cons_zero, List.set_cons_succ, i64_w, i32_w]
                rfl
              refine one_ (i := 9) (N := some 28) #[true, true, true, true, true, true, true, true, true, true, false] rfl rfl (one_of HT_.out (by kernel_rfl)) (by decide) (fun K hK => ?_)
              refine goes_ Tryd.func17 (by kernel_rfl) rfl #[.int .u32 (rd y149 x6_1)] (by rfl) rfl rfl (by (try simp only [List.map_toArray, List.map_cons, List.map_nil]); first | done | rfl | (simp only [List.length_drop, List.length_take]; rfl)) ?_
              with_reducible refine (truchmanref08_FromStatus.calls k1 (rd y149 x6_1) t155 _ A9.out).mono ?_
              rintro e w14 ⟨rfl, hb⟩
              have HS0_ := (hb.cell (World.block_lt_of_cell? _ _ (hHeld.1))).trans (hHeld.1)
              have HS1_ := (hb.cell (World.block_lt_of_cell? _ _ (hHeld.2))).trans (hHeld.2)
              refine ⟨_, rfl, ?_⟩
              have n0_ := Aside0.mk (Kd.R_below (by (with_reducible repeat (first | apply Kd.R_alloc | apply Kd.R_drewN | apply Kd.R_drew)); exact HO_5.out) hb)
              have n1_ := Aside0.mk (below_step (by repeat (first | (with_reducible first | exact HB.out | apply below_alloc | apply pw_below_drewN | apply below_drew1) | exact HB.out)) hb)
              clear HO_5
              clear HB
              have HO_5 := n0_
              have HB := n1_
              clear n0_ n1_
              (try clear hb)
              (try clear hb2)
              (try clear hk)
              (try clear hi)
              refine hK.out _ _ ⟨HS0_, HS1_⟩ (fun hHeld => ?_)
              clear hK K
              refine norm_ (a' := ?_) ?_ ?_
              rotate_left
              · show Act.put _ (some 28) _ = _
                simp only [Act.put, List.setIfInBounds_toArray, List.set_cons_zero, List.set_cons_succ, i64_w, i32_w]
                rfl
              refine pure_ (i := 10) (N := some 29) (v := ?_) (a' := ?_) #[true, true, true, true, true, true, true, true, true, true, true] rfl rfl (any_of HT_.out (by kernel_rfl)) (fun _ _ _ h => h) (Or.inl ⟨by rfl, ?_⟩) ?_ ?_
              rotate_left
              · intro w'
                go_simp
                with_reducible rfl
              rotate_left
              · simp only [Act.put, List.setIfInBounds_toArray, List.set_cons_zero, List.set_cons_succ, i64_w, i32_w]
                rfl
              refine done_ (done_of HT_.out (by kernel_rfl)) ?_
              try go_wp2
              go_roundg k1
              case measure => have := HK1.out; omega
              case rel => exact ⟨(wrap64 (x6_1 + 1)), (by first | rfl | (simp; done) | (simp [*]; done)), H', ⟨by have := HK1.out; omega⟩, ⟨by (with_reducible repeat (first | apply Kd.R_alloc | apply Kd.R_drewN | apply Kd.R_drew)); exact HO_5.out⟩, ⟨by repeat (first | (with_reducible first | exact HB.out | apply below_alloc | apply pw_below_drewN | apply below_drew1) | exact HB.out)⟩⟩
            · rw [if_neg c10] at H
              have c10b0 : (t153 == t155) = false := beq_eq_false_iff_ne.mpr c10
              have c10b1 : (t153 != t155) = true := bne_iff_ne.mpr c10
              obtain rfl := Option.some.inj H
              exact absurd hrt.out (by decide)
          · rw [if_neg c7] at H
            exact absurd H (by simp)
        · rw [if_neg c6] at H
          exact absurd H (by simp)
      · rw [if_neg c5] at H
        have c5b0 : decide (x6_1 < 3) = false := decide_eq_false c5
        clear c5
        replace H := Option.bind_eq_some_iff.mp H
        obtain ⟨t156, A150, H⟩ := H
        replace H : ((codes_FromCode.f a1).bind fun t157 => ((truchmanref08_FromCode.f a1).bind fun t158 => (if t157 = t158 then ((codes_FromCode.f (wrap64 (t156 - 1))).bind fun t159 => ((truchmanref08_FromCode.f (wrap64 (t156 - 1))).bind fun t160 => (if t159 = t160 then ((truchmanlaw08_lives.f).bind fun t161 => (some t161)) else (some false)))) else (some false)))) = some r := H
        have A15 := Aside0.mk A150
        clear A150
        replace H := Option.bind_eq_some_iff.mp H
        obtain ⟨t157, A160, H⟩ := H
        replace H : ((truchmanref08_FromCode.f a1).bind fun t158 => (if t157 = t158 then ((codes_FromCode.f (wrap64 (t156 - 1))).bind fun t159 => ((truchmanref08_FromCode.f (wrap64 (t156 - 1))).bind fun t160 => (if t159 = t160 then ((truchmanlaw08_lives.f).bind fun t161 => (some t161)) else (some false)))) else (some false))) = some r := H
        have A16 := Aside0.mk A160
        clear A160
        replace H := Option.bind_eq_some_iff.mp H
        obtain ⟨t158, A170, H⟩ := H
        replace H : (if t157 = t158 then ((codes_FromCode.f (wrap64 (t156 - 1))).bind fun t159 => ((truchmanref08_FromCode.f (wrap64 (t156 - 1))).bind fun t160 => (if t159 = t160 then ((truchmanlaw08_lives.f).bind fun t161 => (some t161)) else (some false)))) else (some false)) = some r := H
        have A17 := Aside0.mk A170
        clear A170
        by_cases c18 : t157 = t158
        · rw [if_pos c18] at H
          have c18b0 : (t157 == t158) = true := beq_iff_eq.mpr c18
          have c18b1 : (t157 != t158) = false := bne_eq_false_iff_eq.mpr c18
          clear c18
          replace H := Option.bind_eq_some_iff.mp H
          obtain ⟨t159, A190, H⟩ := H
          replace H : ((truchmanref08_FromCode.f (wrap64 (t156 - 1))).bind fun t160 => (if t159 = t160 then ((truchmanlaw08_lives.f).bind fun t161 => (some t161)) else (some false))) = some r := H
          have A19 := Aside0.mk A190
          clear A190
          replace H := Option.bind_eq_some_iff.mp H
          obtain ⟨t160, A200, H⟩ := H
          replace H : (if t159 = t160 then ((truchmanlaw08_lives.f).bind fun t161 => (some t161)) else (some false)) = some r := H
          have A20 := Aside0.mk A200
          clear A200
          by_cases c21 : t159 = t160
          · rw [if_pos c21] at H
            have c21b0 : (t159 == t160) = true := beq_iff_eq.mpr c21
            have c21b1 : (t159 != t160) = false := bne_eq_false_iff_eq.mpr c21
            clear c21
            replace H := Option.bind_eq_some_iff.mp H
            obtain ⟨t161, A220, H⟩ := H
            replace H : (some t161) = some r := H
            have A22 := Aside0.mk A220
            clear A220
            obtain rfl := Option.some.inj H
            go_wp2_with (first | ((with_reducible refine gate_callee (f := 8) rfl ?_); refine goesL_ (some 31) rfl rfl Tryd.func8 (by kernel_rfl) rfl #[.int .i64 a1, .int .i64 22] rfl (by (try simp only [List.map_toArray, List.map_cons, List.map_nil]); first | done | rfl | (simp only [List.length_drop, List.length_take]; rfl)) ?_; (with_reducible refine (truchmanref01_Around.calls a1 22 t156 _ A15.out).mono ?_); rintro e w' ⟨rfl, ⟨nd, rfl⟩⟩; refine ⟨_, rfl, ?_⟩) | ((with_reducible refine gate_callee (f := 18) rfl ?_); refine goesL_ (some 34) rfl rfl Tryd.func18 (by kernel_rfl) rfl #[.int .i64 a1] rfl (by (try simp only [List.map_toArray, List.map_cons, List.map_nil]); first | done | rfl | (simp only [List.length_drop, List.length_take]; rfl)) ?_; (with_reducible refine (codes_FromCode.calls a1 t157 _ ⟨G.Tab_at HT.out (by repeat (first | (with_reducible first | exact HB.out | apply below_alloc | apply pw_below_drewN | apply below_drew1) | exact HB.out))⟩ A16.out).mono ?_); rintro e w23 ⟨rfl, hb⟩; refine ⟨_, rfl, ?_⟩; have n0_ := Aside0.mk (Kd.R_below (by (with_reducible repeat (first | apply Kd.R_alloc | apply Kd.R_drewN | apply Kd.R_drew)); exact HO_5.out) hb); have n1_ := Aside0.mk (below_step (by repeat (first | (with_reducible first | exact HB.out | apply below_alloc | apply pw_below_drewN | apply below_drew1) | exact HB.out)) hb); clear HO_5; clear HB; have HO_5 := n0_; have HB := n1_; clear n0_ n1_; (try clear hb); (try clear hb2); (try clear hk); (try clear hi)) | ((with_reducible refine gate_callee (f := 19) rfl ?_); refine goesL_ (some 36) rfl rfl Tryd.func19 (by kernel_rfl) rfl #[.int .i64 a1] rfl (by (try simp only [List.map_toArray, List.map_cons, List.map_nil]); first | done | rfl | (simp only [List.length_drop, List.length_take]; rfl)) ?_; (with_reducible refine (truchmanref08_FromCode.calls a1 t158 _ A17.out).mono ?_); rintro e w24 ⟨rfl, hb⟩; refine ⟨_, rfl, ?_⟩; have n0_ := Aside0.mk (Kd.R_below (by (with_reducible repeat (first | apply Kd.R_alloc | apply Kd.R_drewN | apply Kd.R_drew)); exact HO_5.out) hb); have n1_ := Aside0.mk (below_step (by repeat (first | (with_reducible first | exact HB.out | apply below_alloc | apply pw_below_drewN | apply below_drew1) | exact HB.out)) hb); clear HO_5; clear HB; have HO_5 := n0_; have HB := n1_; clear n0_ n1_; (try clear hb); (try clear hb2); (try clear hk); (try clear hi)) | (go_at_call 18; (with_reducible refine (codes_FromCode.calls (wrap64 (t156 - 1)) t159 _ ⟨G.Tab_at HT.out (by repeat (first | (with_reducible first | exact HB.out | apply below_alloc | apply pw_below_drewN | apply below_drew1) | exact HB.out))⟩ A19.out).mono ?_); rintro e w25 ⟨rfl, hb⟩; have n0_ := Aside0.mk (Kd.R_below (by (with_reducible repeat (first | apply Kd.R_alloc | apply Kd.R_drewN | apply Kd.R_drew)); exact HO_5.out) hb); have n1_ := Aside0.mk (below_step (by repeat (first | (with_reducible first | exact HB.out | apply below_alloc | apply pw_below_drewN | apply below_drew1) | exact HB.out)) hb); clear HO_5; clear HB; have HO_5 := n0_; have HB := n1_; clear n0_ n1_; (try clear hb); (try clear hb2); (try clear hk); (try clear hi)) | (go_at_call 19; (with_reducible refine (truchmanref08_FromCode.calls (wrap64 (t156 - 1)) t160 _ A20.out).mono ?_); rintro e w26 ⟨rfl, hb⟩; have n0_ := Aside0.mk (Kd.R_below (by (with_reducible repeat (first | apply Kd.R_alloc | apply Kd.R_drewN | apply Kd.R_drew)); exact HO_5.out) hb); have n1_ := Aside0.mk (below_step (by repeat (first | (with_reducible first | exact HB.out | apply below_alloc | apply pw_below_drewN | apply below_drew1) | exact HB.out)) hb); clear HO_5; clear HB; have HO_5 := n0_; have HB := n1_; clear n0_ n1_; (try clear hb); (try clear hb2); (try clear hk); (try clear hi)) | (go_at_call 15; (with_reducible refine (truchmanlaw08_lives.calls  t161 _ ⟨G.Tab_at HT.out (by repeat (first | (with_reducible first | exact HB.out | apply below_alloc | apply pw_below_drewN | apply below_drew1) | exact HB.out))⟩ A22.out).mono ?_); rintro e w27 ⟨rfl, hb⟩; have n0_ := Aside0.mk (Kd.R_below (by (with_reducible repeat (first | apply Kd.R_alloc | apply Kd.R_drewN | apply Kd.R_drew)); exact HO_5.out) hb); have n1_ := Aside0.mk (below_step (by repeat (first | (with_reducible first | exact HB.out | apply below_alloc | apply pw_below_drewN | apply below_drew1) | exact HB.out)) hb); clear HO_5; clear HB; have HO_5 := n0_; have HB := n1_; clear n0_ n1_; (try clear hb); (try clear hb2); (try clear hk); (try clear hi)))
            go_ret
            exact ⟨by first | rfl | (simp [errW_none, errW_some] <;> rfl) | (simp [*, errW_none, errW_some] <;> rfl), by repeat (first | (with_reducible first | exact HB.out | apply below_alloc | apply pw_below_drewN | apply below_drew1) | exact HB.out)⟩
          · rw [if_neg c21] at H
            have c21b0 : (t159 == t160) = false := beq_eq_false_iff_ne.mpr c21
            have c21b1 : (t159 != t160) = true := bne_iff_ne.mpr c21
            obtain rfl := Option.some.inj H
            exact absurd hrt.out (by decide)
        · rw [if_neg c18] at H
          have c18b0 : (t157 == t158) = false := beq_eq_false_iff_ne.mpr c18
          have c18b1 : (t157 != t158) = true := bne_iff_ne.mpr c18
          obtain rfl := Option.some.inj H
          exact absurd hrt.out (by decide)

/-- THE ONE PURE STATEMENT of truchmanlaw08_CodesFrom: yours. -/
def truchmanlaw08_CodesFrom.Pure : Prop := ∀ (a0 : Int) (a1 : Int), (Lit.int .u32 a0).wf = true → (Lit.int .i64 a1).wf = true → ∃ k, truchmanlaw08_CodesFrom.f k a0 a1 = some true
theorem truchmanlaw08_CodesFrom.walk (P : truchmanlaw08_CodesFrom.Pure) (a0 : Int) (a1 : Int) (w : World) (HT : Aside0 (G.Tab w)) (w0 : (Lit.int .u32 a0).wf = true) (w1 : (Lit.int .i64 a1).wf = true) :
    Calls Tryd.prog 4 #[.int .u32 a0, .int .i64 a1] w fun e w' => e = .returned (.bool true) ∧ Below w.heap.size w w' := by
  obtain ⟨k, h⟩ := P a0 a1 w0 w1
  refine (truchmanlaw08_CodesFrom.calls k a0 a1 true w HT ⟨rfl⟩ h).mono ?_
  rintro e w' ⟨rfl, hd⟩
  exact ⟨rfl, hd⟩

/-! ### truchmanlaw08_CodesTotal: function 5 -/
def truchmanlaw08_CodesTotal.f (a0 : Int) : Option (Bool) := (codes_Status.f a0).bind fun t162 => ((codes_FromStatus.f t162).bind fun t163 => ((codes_Code.f t163).bind fun t164 => (if t164 ≥ 0 then (if t164 < 19 then ((codes_FromCode.f t164).bind fun t165 => (if t165 = t163 then ((codes_Code.f a0).bind fun t166 => (if t166 = t164 then ((truchmanlaw08_lives.f).bind fun t167 => (some t167)) else (some false))) else (some false))) else (some false)) else (some false))))
set_option maxHeartbeats 8000000 in
set_option maxRecDepth 100000 in
theorem truchmanlaw08_CodesTotal.calls (a0 : Int) (r : Bool) (w : World) (HT : Aside0 (G.Tab w)) (hrt : Aside0 (r = true)) (h : truchmanlaw08_CodesTotal.f a0 = some r) :
    Calls Tryd.prog 5 #[.int .i64 a0] w fun e w' => e = .returned (.bool r) ∧ Below w.heap.size w w' := by
  have HB := Aside0.mk (Below.refl w.heap.size w)
  have H : ((codes_Status.f a0).bind fun t162 => ((codes_FromStatus.f t162).bind fun t163 => ((codes_Code.f t163).bind fun t164 => (if t164 ≥ 0 then (if t164 < 19 then ((codes_FromCode.f t164).bind fun t165 => (if t165 = t163 then ((codes_Code.f a0).bind fun t166 => (if t166 = t164 then ((truchmanlaw08_lives.f).bind fun t167 => (some t167)) else (some false))) else (some false))) else (some false)) else (some false))))) = some r := h
  clear h
  replace H := Option.bind_eq_some_iff.mp H
  obtain ⟨t162, A20, H⟩ := H
  replace H : ((codes_FromStatus.f t162).bind fun t163 => ((codes_Code.f t163).bind fun t164 => (if t164 ≥ 0 then (if t164 < 19 then ((codes_FromCode.f t164).bind fun t165 => (if t165 = t163 then ((codes_Code.f a0).bind fun t166 => (if t166 = t164 then ((truchmanlaw08_lives.f).bind fun t167 => (some t167)) else (some false))) else (some false))) else (some false)) else (some false)))) = some r := H
  have A2 := Aside0.mk A20
  clear A20
  replace H := Option.bind_eq_some_iff.mp H
  obtain ⟨t163, A30, H⟩ := H
  replace H : ((codes_Code.f t163).bind fun t164 => (if t164 ≥ 0 then (if t164 < 19 then ((codes_FromCode.f t164).bind fun t165 => (if t165 = t163 then ((codes_Code.f a0).bind fun t166 => (if t166 = t164 then ((truchmanlaw08_lives.f).bind fun t167 => (some t167)) else (some false))) else (some false))) else (some false)) else (some false))) = some r := H
  have A3 := Aside0.mk A30
  clear A30
  replace H := Option.bind_eq_some_iff.mp H
  obtain ⟨t164, A40, H⟩ := H
  replace H : (if t164 ≥ 0 then (if t164 < 19 then ((codes_FromCode.f t164).bind fun t165 => (if t165 = t163 then ((codes_Code.f a0).bind fun t166 => (if t166 = t164 then ((truchmanlaw08_lives.f).bind fun t167 => (some t167)) else (some false))) else (some false))) else (some false)) else (some false)) = some r := H
  have A4 := Aside0.mk A40
  clear A40
  by_cases c5 : t164 ≥ 0
  · rw [if_pos c5] at H
    have c5b0 : decide (0 ≤ t164) = true := decide_eq_true c5
    clear c5
    by_cases c6 : t164 < 19
    · rw [if_pos c6] at H
      have c6b0 : decide (t164 < 19) = true := decide_eq_true c6
      clear c6
      replace H := Option.bind_eq_some_iff.mp H
      obtain ⟨t165, A70, H⟩ := H
      replace H : (if t165 = t163 then ((codes_Code.f a0).bind fun t166 => (if t166 = t164 then ((truchmanlaw08_lives.f).bind fun t167 => (some t167)) else (some false))) else (some false)) = some r := H
      have A7 := Aside0.mk A70
      clear A70
      by_cases c8 : t165 = t163
      · rw [if_pos c8] at H
        have c8b0 : (t165 == t163) = true := beq_iff_eq.mpr c8
        have c8b1 : (t165 != t163) = false := bne_eq_false_iff_eq.mpr c8
        clear c8
        replace H := Option.bind_eq_some_iff.mp H
        obtain ⟨t166, A90, H⟩ := H
        replace H : (if t166 = t164 then ((truchmanlaw08_lives.f).bind fun t167 => (some t167)) else (some false)) = some r := H
        have A9 := Aside0.mk A90
        clear A90
        by_cases c10 : t166 = t164
        · rw [if_pos c10] at H
          have c10b0 : (t166 == t164) = true := beq_iff_eq.mpr c10
          have c10b1 : (t166 != t164) = false := bne_eq_false_iff_eq.mpr c10
          clear c10
          replace H := Option.bind_eq_some_iff.mp H
          obtain ⟨t167, A110, H⟩ := H
          replace H : (some t167) = some r := H
          have A11 := Aside0.mk A110
          clear A110
          obtain rfl := Option.some.inj H
          go_enter Tryd.func5, Tryd.ntmps5
          go_wp2_with (first | ((with_reducible refine gate_callee (f := 9) rfl ?_); refine goesL_ (some 6) rfl rfl Tryd.func9 (by kernel_rfl) rfl #[.int .i64 a0] rfl (by (try simp only [List.map_toArray, List.map_cons, List.map_nil]); first | done | rfl | (simp only [List.length_drop, List.length_take]; rfl)) ?_; (with_reducible refine (codes_Status.calls a0 t162 _ ⟨G.Tab_at HT.out (by repeat (first | (with_reducible first | exact HB.out | apply below_alloc | apply pw_below_drewN | apply below_drew1) | exact HB.out))⟩ A2.out).mono ?_); rintro e w12 ⟨rfl, hb⟩; refine ⟨_, rfl, ?_⟩; have n0_ := Aside0.mk (below_step (by repeat (first | (with_reducible first | exact HB.out | apply below_alloc | apply pw_below_drewN | apply below_drew1) | exact HB.out)) hb); clear HB; have HB := n0_; clear n0_; (try clear hb); (try clear hb2); (try clear hk); (try clear hi)) | ((with_reducible refine gate_callee (f := 16) rfl ?_); refine goesL_ (some 7) rfl rfl Tryd.func16 (by kernel_rfl) rfl #[.int .u32 t162] rfl (by (try simp only [List.map_toArray, List.map_cons, List.map_nil]); first | done | rfl | (simp only [List.length_drop, List.length_take]; rfl)) ?_; (with_reducible refine (codes_FromStatus.calls t162 t163 _ ⟨G.Tab_at HT.out (by repeat (first | (with_reducible first | exact HB.out | apply below_alloc | apply pw_below_drewN | apply below_drew1) | exact HB.out))⟩ A3.out).mono ?_); rintro e w13 ⟨rfl, hb⟩; refine ⟨_, rfl, ?_⟩; have n0_ := Aside0.mk (below_step (by repeat (first | (with_reducible first | exact HB.out | apply below_alloc | apply pw_below_drewN | apply below_drew1) | exact HB.out)) hb); clear HB; have HB := n0_; clear n0_; (try clear hb); (try clear hb2); (try clear hk); (try clear hi)) | ((with_reducible refine gate_callee (f := 11) rfl ?_); refine goesL_ (some 9) rfl rfl Tryd.func11 (by kernel_rfl) rfl #[.int .i64 t163] rfl (by (try simp only [List.map_toArray, List.map_cons, List.map_nil]); first | done | rfl | (simp only [List.length_drop, List.length_take]; rfl)) ?_; (with_reducible refine (codes_Code.calls t163 t164 _ ⟨G.Tab_at HT.out (by repeat (first | (with_reducible first | exact HB.out | apply below_alloc | apply pw_below_drewN | apply below_drew1) | exact HB.out))⟩ A4.out).mono ?_); rintro e w14 ⟨rfl, hb⟩; refine ⟨_, rfl, ?_⟩; have n0_ := Aside0.mk (below_step (by repeat (first | (with_reducible first | exact HB.out | apply below_alloc | apply pw_below_drewN | apply below_drew1) | exact HB.out)) hb); clear HB; have HB := n0_; clear n0_; (try clear hb); (try clear hb2); (try clear hk); (try clear hi)) | (go_at_call 18; (with_reducible refine (codes_FromCode.calls t164 t165 _ ⟨G.Tab_at HT.out (by repeat (first | (with_reducible first | exact HB.out | apply below_alloc | apply pw_below_drewN | apply below_drew1) | exact HB.out))⟩ A7.out).mono ?_); rintro e w15 ⟨rfl, hb⟩; have n0_ := Aside0.mk (below_step (by repeat (first | (with_reducible first | exact HB.out | apply below_alloc | apply pw_below_drewN | apply below_drew1) | exact HB.out)) hb); clear HB; have HB := n0_; clear n0_; (try clear hb); (try clear hb2); (try clear hk); (try clear hi)) | (go_at_call 11; (with_reducible refine (codes_Code.calls a0 t166 _ ⟨G.Tab_at HT.out (by repeat (first | (with_reducible first | exact HB.out | apply below_alloc | apply pw_below_drewN | apply below_drew1) | exact HB.out))⟩ A9.out).mono ?_); rintro e w16 ⟨rfl, hb⟩; have n0_ := Aside0.mk (below_step (by repeat (first | (with_reducible first | exact HB.out | apply below_alloc | apply pw_below_drewN | apply below_drew1) | exact HB.out)) hb); clear HB; have HB := n0_; clear n0_; (try clear hb); (try clear hb2); (try clear hk); (try clear hi)) | (go_at_call 15; (with_reducible refine (truchmanlaw08_lives.calls  t167 _ ⟨G.Tab_at HT.out (by repeat (first | (with_reducible first | exact HB.out | apply below_alloc | apply pw_below_drewN | apply below_drew1) | exact HB.out))⟩ A11.out).mono ?_); rintro e w17 ⟨rfl, hb⟩; have n0_ := Aside0.mk (below_step (by repeat (first | (with_reducible first | exact HB.out | apply below_alloc | apply pw_below_drewN | apply below_drew1) | exact HB.out)) hb); clear HB; have HB := n0_; clear n0_; (try clear hb); (try clear hb2); (try clear hk); (try clear hi)))
          go_ret
          exact ⟨by first | rfl | (simp [errW_none, errW_some] <;> rfl) | (simp [*, errW_none, errW_some] <;> rfl), by repeat (first | (with_reducible first | exact HB.out | apply below_alloc | apply pw_below_drewN | apply below_drew1) | exact HB.out)⟩
        · rw [if_neg c10] at H
          have c10b0 : (t166 == t164) = false := beq_eq_false_iff_ne.mpr c10
          have c10b1 : (t166 != t164) = true := bne_iff_ne.mpr c10
          obtain rfl := Option.some.inj H
          exact absurd hrt.out (by decide)
      · rw [if_neg c8] at H
        have c8b0 : (t165 == t163) = false := beq_eq_false_iff_ne.mpr c8
        have c8b1 : (t165 != t163) = true := bne_iff_ne.mpr c8
        obtain rfl := Option.some.inj H
        exact absurd hrt.out (by decide)
    · rw [if_neg c6] at H
      have c6b0 : decide (t164 < 19) = false := decide_eq_false c6
      clear c6
      obtain rfl := Option.some.inj H
      exact absurd hrt.out (by decide)
  · rw [if_neg c5] at H
    have c5b0 : decide (0 ≤ t164) = false := decide_eq_false c5
    clear c5
    obtain rfl := Option.some.inj H
    exact absurd hrt.out (by decide)

/-- THE ONE PURE STATEMENT of truchmanlaw08_CodesTotal: yours. -/
def truchmanlaw08_CodesTotal.Pure : Prop := ∀ (a0 : Int), (Lit.int .i64 a0).wf = true → truchmanlaw08_CodesTotal.f a0 = some true
theorem truchmanlaw08_CodesTotal.walk (P : truchmanlaw08_CodesTotal.Pure) (a0 : Int) (w : World) (HT : Aside0 (G.Tab w)) (w0 : (Lit.int .i64 a0).wf = true) :
    Calls Tryd.prog 5 #[.int .i64 a0] w fun e w' => e = .returned (.bool true) ∧ Below w.heap.size w w' := by
  have h := P a0 w0
  refine (truchmanlaw08_CodesTotal.calls a0 true w HT ⟨rfl⟩ h).mono ?_
  rintro e w' ⟨rfl, hd⟩
  exact ⟨rfl, hd⟩

-- NOT PRINTED: function 26 (api_Errno)

/-! ### codes_All: function 20 -/
def codes_All.f  : Option (List Int) := some G.errs
theorem codes_All.calls  (r : List Int) (w : World) (HT : Aside0 (G.Tab w)) (h : codes_All.f  = some r) :
    Calls Tryd.prog 20 #[] w fun e w' => ∃ v0_ : Value, e = .returned (v0_) ∧ Kd.V (Kd.int .i64) 22 w' w.heap.size (fun k_ => (w.heap.size ≤ k_)) v0_ r ∧ Below w.heap.size w w' := by
  obtain rfl := Option.some.inj h
  exact G.All_reads w HT.out

end Go.Proofs.YtemadfllannljaaDoor.P
