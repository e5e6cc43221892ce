-- Written by a program of this session (wip/tools), over the kit's printer; Lean checks it.
import Derived.Test.YtemadfllannljaaPx0
import Derived.Test.YtemadfllannljaaPx3
namespace Go.Proofs.Ytemadfllannljaa.P
open Go.RowKit Go.Proofs.YtemadfllannljaaW.PrintWords Go.Proofs.YtemadfllannljaaW.PrintLast Go.Proofs.YtemadfllannljaaW.PrintMore
attribute [local go_sem] max2_int min2_int max_two min_two max_three min_three max_four min_four   -- for this text's walks alone
set_option linter.unusedVariables false
set_option linter.unusedSimpArgs false

/-! ### truchmanref19_Of: function 14 -/
def truchmanref19_Of.f (a0 : ByteArray) (a1_0 : Int) (a1_1 : Int) (a1_2 : Int) (a1_3 : Int) (a1_4 : Int) : Option (Bool × Int × Int × Int × Int × ByteArray) := if a1_2 = 1 then ((truchmanref19_Qid.f a1_0 a1_1 a1_2 a1_3 a1_4).bind fun bt148 => (some (bt148.1, bt148.2.1, bt148.2.2, wrap64 (a1_3 + 2147483648), 0, a0))) else ((truchmanref19_Qid.f a1_0 a1_1 a1_2 a1_3 a1_4).bind fun bt151 => (some (bt151.1, bt151.2.1, bt151.2.2, a1_3, a1_4, a0)))
def truchmanref19_Of.T2 : Bool × List (List Nat × List Nat) := (true, [([], []), ([0], [0]), ([], []), ([2], [2]), ([3], [3]), ([], []), ([1, 4, 5], [1, 4, 5]), ([6, 1, 0, 1, 2, 3, 4, 5, 6], [6])])
def truchmanref19_Of.B2 : List Nat := [0, 1, 0, 4, 12, 0, 63, 127]
theorem truchmanref19_Of.tab2 : rtab .any (opsOf Try.f14 2) = truchmanref19_Of.T2 := by kernel_rfl
theorem truchmanref19_Of.bits2 : waitsOk truchmanref19_Of.T2.2 truchmanref19_Of.B2 = true := by kernel_rfl
def truchmanref19_Of.T3 : Bool × List (List Nat × List Nat) := (true, [([], []), ([0], [0]), ([], []), ([2], [2]), ([], []), ([4], [4]), ([], []), ([1, 3, 5, 6], [1, 3, 5, 6]), ([7, 1, 0, 1, 2, 3, 4, 5, 6, 7], [7])])
def truchmanref19_Of.B3 : List Nat := [0, 1, 0, 4, 0, 16, 0, 127, 255]
theorem truchmanref19_Of.tab3 : rtab .any (opsOf Try.f14 3) = truchmanref19_Of.T3 := by kernel_rfl
theorem truchmanref19_Of.bits3 : waitsOk truchmanref19_Of.T3.2 truchmanref19_Of.B3 = true := by kernel_rfl
set_option maxHeartbeats 8000000 in
set_option maxRecDepth 100000 in
theorem truchmanref19_Of.calls (a0 : ByteArray) (a1_0 : Int) (a1_1 : Int) (a1_2 : Int) (a1_3 : Int) (a1_4 : Int) (r1 : Bool) (r2 : Int) (r3 : Int) (r4 : Int) (r5 : Int) (r6 : ByteArray) (w : World) (h : truchmanref19_Of.f a0 a1_0 a1_1 a1_2 a1_3 a1_4 = some (r1, r2, r3, r4, r5, r6)) :
    Calls Try.prog 14 #[.string a0, .agg #[.int .i64 a1_0, .int .i64 a1_1, .int .i64 a1_2, .int .i64 a1_3, .int .i64 a1_4]] w fun e w' => e = .returned (.agg #[.bool r1, .int .i64 r2, .int .i64 r3, .int .i64 r4, .int .i64 r5, .string r6]) ∧ Below w.heap.size w w' := by
  have hu34 := Try.underlying34
  have hu41 := Try.underlying41
  have HB := Aside0.mk (Below.refl w.heap.size w)
  have H : (if a1_2 = 1 then ((truchmanref19_Qid.f a1_0 a1_1 a1_2 a1_3 a1_4).bind fun bt148 => (some (bt148.1, bt148.2.1, bt148.2.2, wrap64 (a1_3 + 2147483648), 0, a0))) else ((truchmanref19_Qid.f a1_0 a1_1 a1_2 a1_3 a1_4).bind fun bt151 => (some (bt151.1, bt151.2.1, bt151.2.2, a1_3, a1_4, a0)))) = some (r1, r2, r3, r4, r5, r6) := h
  clear h
  by_cases c3 : a1_2 = 1
  · rw [if_pos c3] at H
    have c3b0 : (a1_2 == 1) = true := beq_iff_eq.mpr c3
    have c3b1 : (a1_2 != 1) = false := bne_eq_false_iff_eq.mpr c3
    clear c3
    replace H := Option.bind_eq_some_iff.mp H
    obtain ⟨⟨t148, t149, t150⟩, A40, H⟩ := H
    replace H : (some (t148, t149, t150, wrap64 (a1_3 + 2147483648), 0, a0)) = some (r1, r2, r3, r4, r5, r6) := H
    have A4 := Aside0.mk A40
    clear A40
    simp only [Option.some.injEq, Prod.mk.injEq] at H
    obtain ⟨rfl, rfl, rfl, rfl, rfl, rfl⟩ := H
    go_enter Try.func14, Try.ntmps14
    try go_wp2_with (first | ((with_reducible refine gate_dst (N := 3) rfl ?_); refine box_event ?hg (N := 3) ?hd (cs := #[.int .i64 a1_0, .int .i64 a1_1, .int .i64 a1_2, .int .i64 a1_3, .int .i64 a1_4]) (t := 34) ?hr ?_; (case hd => rfl); (case hg => rfl); (case hr => first | (go_simp; done) | (go_simp; rfl)); intro gb146 hg w5 hbox hb; have n0_ := Aside0.mk (below_step (by repeat (first | (with_reducible first | exact HB.out | apply below_alloc | apply pw_below_drewN | apply below_drew1) | exact HB.out)) hb); have n1_ := Aside0.mk (hbox); have n2_ := Aside0.mk ((by rw [hg]; exact (below_size (by repeat (first | (with_reducible first | exact HB.out | apply below_alloc | apply pw_below_drewN | apply below_drew1) | exact HB.out))) : w.heap.size ≤ gb146)); have n3_ := Aside0.mk ((by rw [hg]; exact (below_size (by repeat (first | (with_reducible first | exact HB.out | apply below_alloc | apply pw_below_drewN | apply below_drew1) | exact HB.out))) : w.heap.size ≤ gb146)); clear HB; have HB := n0_; have BK146 := n1_; have GW146 := n2_; have GE146 := n3_; clear n0_ n1_ n2_ n3_; clear hb hbox hg) | ((with_reducible refine gate_dst (N := 4) rfl ?_); refine box_event ?hg (N := 4) ?hd (cs := #[.bool false, .int .i64 0, .int .i64 0, .int .i64 0, .int .i64 0, .string (⟨#[]⟩ : ByteArray)]) (t := 41) ?hr ?_; (case hd => rfl); (case hg => rfl); (case hr => first | (go_simp; done) | (go_simp; rfl)); intro gb147 hg w6 hbox hb; have n0_ := Aside0.mk (blk_below (g := gb146) (o := .cells #[.int .i64 a1_0, .int .i64 a1_1, .int .i64 a1_2, .int .i64 a1_3, .int .i64 a1_4] 34 (0, 0)) (by (with_reducible repeat (first | refine blk_drewN ?_ _ | refine blk_drew ?_ | refine blk_alloc ?_ _)); exact BK146.out) hb); have n1_ := Aside0.mk (below_step (by repeat (first | (with_reducible first | exact HB.out | apply below_alloc | apply pw_below_drewN | apply below_drew1 | refine below_set ?_ GE146.out) | exact HB.out)) hb); have n2_ := Aside0.mk (hbox); have n3_ := Aside0.mk ((by rw [hg]; exact (below_size (by repeat (first | (with_reducible first | exact HB.out | apply below_alloc | apply pw_below_drewN | apply below_drew1 | refine below_set ?_ GE146.out) | exact HB.out))) : w.heap.size ≤ gb147)); have n4_ := Aside0.mk ((by rw [hg]; exact (below_size (by repeat (first | (with_reducible first | exact HB.out | apply below_alloc | apply pw_below_drewN | apply below_drew1 | refine below_set ?_ GE146.out) | exact HB.out))) : w.heap.size ≤ gb147)); have n5_ := Aside0.mk ((by rw [hg]; exact Nat.ne_of_lt (blk_lt (g := gb146) (o := .cells #[.int .i64 a1_0, .int .i64 a1_1, .int .i64 a1_2, .int .i64 a1_3, .int .i64 a1_4] 34 (0, 0)) (by (with_reducible repeat (first | refine blk_drewN ?_ _ | refine blk_drew ?_ | refine blk_alloc ?_ _)); exact BK146.out)) : gb146 ≠ gb147)); have n6_ := Aside0.mk ((by rw [hg]; exact Nat.ne_of_gt (blk_lt (g := gb146) (o := .cells #[.int .i64 a1_0, .int .i64 a1_1, .int .i64 a1_2, .int .i64 a1_3, .int .i64 a1_4] 34 (0, 0)) (by (with_reducible repeat (first | refine blk_drewN ?_ _ | refine blk_drew ?_ | refine blk_alloc ?_ _)); exact BK146.out)) : gb147 ≠ gb146)); clear BK146; clear HB; have BK146 := n0_; have HB := n1_; have BK147 := n2_; have GW147 := n3_; have GE147 := n4_; have NB146_147 := n5_; have NB147_146 := n6_; clear n0_ n1_ n2_ n3_ n4_ n5_ n6_; clear hb hbox hg; have hnb7 := NB146_147.out; have hnc7 := NB147_146.out; have hcz8_0 : w6.cell? ⟨gb146, 0, none⟩ = some (.int .i64 a1_0) := (blk_cell BK146.out 0).trans rfl; have hcz8_1 : w6.cell? ⟨gb146, 1, none⟩ = some (.int .i64 a1_1) := (blk_cell BK146.out 1).trans rfl; have hcz8_2 : w6.cell? ⟨gb146, 2, none⟩ = some (.int .i64 a1_2) := (blk_cell BK146.out 2).trans rfl; have hcz8_3 : w6.cell? ⟨gb146, 3, none⟩ = some (.int .i64 a1_3) := (blk_cell BK146.out 3).trans rfl; have hcz8_4 : w6.cell? ⟨gb146, 4, none⟩ = some (.int .i64 a1_4) := (blk_cell BK146.out 4).trans rfl; have hfz8_0 := blk_frozen BK146.out 0; have hfz8_1 := blk_frozen BK146.out 1; have hfz8_2 := blk_frozen BK146.out 2; have hfz8_3 := blk_frozen BK146.out 3; have hfz8_4 := blk_frozen BK146.out 4))
    have n0_ := Aside0.mk (blk_drew BK146.out)
    have n1_ := Aside0.mk (blk_drew BK147.out)
    have n2_ := Aside0.mk (below_drew1 HB.out)
    clear BK146
    clear BK147
    clear HB
    have BK146 := n0_
    have BK147 := n1_
    have HB := n2_
    clear n0_ n1_ n2_
    refine start_ (n := 8) (S := fun w' => w'.cell? ⟨gb146, 0, none⟩ = some (.int .i64 a1_0) ∧ w'.cell? ⟨gb146, 1, none⟩ = some (.int .i64 a1_1) ∧ w'.cell? ⟨gb146, 2, none⟩ = some (.int .i64 a1_2) ∧ w'.cell? ⟨gb146, 3, none⟩ = some (.int .i64 a1_3) ∧ w'.cell? ⟨gb146, 4, none⟩ = some (.int .i64 a1_4)) (ds := []) #[false, false, false, false, false, false, false, false] (by kernel_rfl) rfl rfl ⟨(blk_cell BK146.out 0).trans rfl, (blk_cell BK146.out 1).trans rfl, (blk_cell BK146.out 2).trans rfl, (blk_cell BK146.out 3).trans rfl, (blk_cell BK146.out 4).trans rfl⟩ (fun hHeld => ?_); refine with_tabW truchmanref19_Of.tab2 truchmanref19_Of.bits2 (fun HT_ HW_ => ?_)
    generalize w6.drew = w9 at BK146 BK147 HB hHeld ⊢
    refine pure_ (i := 2) (N := some 10) (v := ?_) (a' := ?_) #[false, false, true, false, false, false, false, false] rfl rfl (any_of HT_.out (by kernel_rfl)) (fun _ _ _ h => h) (Or.inl ⟨by rfl, ?_⟩) ?_ ?_
    rotate_left
    · intro w'
      go_simp
      with_reducible rfl
    rotate_left
    · simp only [Act.put, List.setIfInBounds_toArray, List.set_cons_zero, List.set_cons_succ, i64_w, i32_w]
      rfl
    refine pure_ (i := 5) (N := some 13) (v := ?_) (a' := ?_) #[false, false, true, false, false, true, false, false] rfl rfl (any_of HT_.out (by kernel_rfl)) (fun _ _ _ h => h) (Or.inl ⟨by rfl, ?_⟩) ?_ ?_
    rotate_left
    · intro w'
      go_simp
      with_reducible rfl
    rotate_left
    · simp only [Act.put, List.setIfInBounds_toArray, List.set_cons_zero, List.set_cons_succ, i64_w, i32_w]
      rfl
    refine take_ (i := 0) (N := some 8) (v := ?_) (a' := ?_) #[true, false, true, false, false, true, false, false] rfl rfl (take_ofW HT_.out HW_.out (by kernel_rfl)) (fun _ _ _ h => h) (Or.inl ⟨by rfl, ?_⟩) hHeld ?_ ?_
    rotate_left
    · rintro w' ⟨s0, s1, s2, s3, s4⟩
      go_simp
      with_reducible rfl
    rotate_left
    · simp only [Act.put, List.setIfInBounds_toArray, List.set_cons_zero, List.set_cons_succ, i64_w, i32_w]
      rfl
    refine take_ (i := 3) (N := some 11) (v := ?_) (a' := ?_) #[true, false, true, true, false, true, false, false] rfl rfl (take_ofW HT_.out HW_.out (by kernel_rfl)) (fun _ _ _ h => h) (Or.inl ⟨by rfl, ?_⟩) hHeld ?_ ?_
    rotate_left
    · rintro w' ⟨s0, s1, s2, s3, s4⟩
      go_simp
      with_reducible rfl
    rotate_left
    · simp only [Act.put, List.setIfInBounds_toArray, List.set_cons_zero, List.set_cons_succ, i64_w, i32_w]
      rfl
    refine pure_ (i := 4) (N := some 12) (v := ?_) (a' := ?_) #[true, false, true, true, true, true, false, false] rfl rfl (any_of HT_.out (by kernel_rfl)) (fun _ _ _ h => h) (Or.inl ⟨by rfl, ?_⟩) ?_ ?_
    rotate_left
    · intro w'
      go_simp
      with_reducible rfl
    rotate_left
    · simp only [Act.put, List.setIfInBounds_toArray, List.set_cons_zero, List.set_cons_succ, i64_w, i32_w]
      rfl
    refine one_ (i := 1) (N := some 9) #[true, true, true, true, true, true, false, false] rfl rfl (one_of HT_.out (by kernel_rfl)) (by decide) (fun K hK => ?_)
    refine goes_ Try.func12 (by kernel_rfl) rfl #[.agg #[.int .i64 a1_0, .int .i64 a1_1, .int .i64 a1_2, .int .i64 a1_3, .int .i64 a1_4]] (by rfl) rfl rfl (by (try simp only [List.map_toArray, List.map_cons, List.map_nil]); first | done | rfl | (simp only [List.length_drop, List.length_take]; rfl)) ?_
    with_reducible refine (truchmanref19_Qid.calls a1_0 a1_1 a1_2 a1_3 a1_4 t148 t149 t150 _ A4.out).mono ?_
    rintro e w10 ⟨rfl, hb⟩
    refine ⟨_, rfl, ?_⟩
    have n0_ := Aside0.mk (blk_below (g := gb146) (o := .cells #[.int .i64 a1_0, .int .i64 a1_1, .int .i64 a1_2, .int .i64 a1_3, .int .i64 a1_4] 34 (0, 0)) (by (with_reducible repeat (first | refine blk_drewN ?_ _ | refine blk_drew ?_ | refine blk_alloc ?_ _)); exact BK146.out) hb)
    have n1_ := Aside0.mk (blk_below (g := gb147) (o := .cells #[.bool false, .int .i64 0, .int .i64 0, .int .i64 0, .int .i64 0, .string (⟨#[]⟩ : ByteArray)] 41 (0, 0)) (by (with_reducible repeat (first | refine blk_drewN ?_ _ | refine blk_drew ?_ | refine blk_alloc ?_ _)); exact BK147.out) hb)
    have n2_ := Aside0.mk (below_step (by repeat (first | (with_reducible first | exact HB.out | apply below_alloc | apply pw_below_drewN | apply below_drew1 | refine below_set ?_ GE146.out | refine below_set ?_ GE147.out) | exact HB.out)) hb)
    clear BK146
    clear BK147
    clear HB
    have BK146 := n0_
    have BK147 := n1_
    have HB := n2_
    clear n0_ n1_ n2_
    (try clear hb)
    (try clear hb2)
    (try clear hk)
    (try clear hi)
    refine hK.out _ _ ⟨(blk_cell BK146.out 0).trans rfl, (blk_cell BK146.out 1).trans rfl, (blk_cell BK146.out 2).trans rfl, (blk_cell BK146.out 3).trans rfl, (blk_cell BK146.out 4).trans rfl⟩ (fun hHeld => ?_)
    clear hK K
    refine norm_ (a' := ?_) ?_ ?_
    rotate_left
    · show Act.put _ (some 9) _ = _
      simp only [Act.put, List.setIfInBounds_toArray, List.set_cons_zero, List.set_cons_succ, i64_w, i32_w]
      rfl
    refine pure_ (i := 6) (N := some 14) (v := ?_) (a' := ?_) #[true, true, true, true, true, true, true, false] rfl rfl (any_of HT_.out (by kernel_rfl)) (fun _ _ _ h => h) (Or.inl ⟨by rfl, ?_⟩) ?_ ?_
    rotate_left
    · intro w'
      go_simp
      with_reducible rfl
    rotate_left
    · simp only [Act.put, List.setIfInBounds_toArray, List.set_cons_zero, List.set_cons_succ, i64_w, i32_w]
      rfl
    refine one_ (i := 7) (N := none) #[true, true, true, true, true, true, true, true] rfl rfl (one_of HT_.out (by kernel_rfl)) (by decide) (fun K hK => ?_)
    have hs11 : w10.cell? ⟨gb147, 0, none⟩ = some (.bool false) := (blk_cell BK147.out 0).trans rfl
    have hfs11 := blk_frozen BK147.out 0
    have hns11_0 := NB146_147.out
    have hms11_0 := NB147_146.out
    have hs12 : w10.cell? ⟨gb147, 1, none⟩ = some (.int .i64 0) := (blk_cell BK147.out 1).trans rfl
    have hfs12 := blk_frozen BK147.out 1
    have hns12_0 := NB146_147.out
    have hms12_0 := NB147_146.out
    have hs13 : w10.cell? ⟨gb147, 2, none⟩ = some (.int .i64 0) := (blk_cell BK147.out 2).trans rfl
    have hfs13 := blk_frozen BK147.out 2
    have hns13_0 := NB146_147.out
    have hms13_0 := NB147_146.out
    have hs14 : w10.cell? ⟨gb147, 3, none⟩ = some (.int .i64 0) := (blk_cell BK147.out 3).trans rfl
    have hfs14 := blk_frozen BK147.out 3
    have hns14_0 := NB146_147.out
    have hms14_0 := NB147_146.out
    have hs15 : w10.cell? ⟨gb147, 4, none⟩ = some (.int .i64 0) := (blk_cell BK147.out 4).trans rfl
    have hfs15 := blk_frozen BK147.out 4
    have hns15_0 := NB146_147.out
    have hms15_0 := NB147_146.out
    have hs16 : w10.cell? ⟨gb147, 5, none⟩ = some (.string (⟨#[]⟩ : ByteArray)) := (blk_cell BK147.out 5).trans rfl
    have hfs16 := blk_frozen BK147.out 5
    have hns16_0 := NB146_147.out
    have hms16_0 := NB147_146.out
    refine skip_ (w1 := ?_) (by rfl) rfl ?_ ?_
    rotate_left
    · go_simp
      rfl
    refine hK.out _ _ ⟨((cell_far (p := ⟨gb147, _, none⟩) NB146_147.out _).trans (((cell_far (p := ⟨gb147, _, none⟩) NB146_147.out _).trans (((cell_far (p := ⟨gb147, _, none⟩) NB146_147.out _).trans (((cell_far (p := ⟨gb147, _, none⟩) NB146_147.out _).trans (((cell_far (p := ⟨gb147, _, none⟩) NB146_147.out _).trans (((cell_far (p := ⟨gb147, _, none⟩) NB146_147.out _).trans (hHeld.1)))))))))))), ((cell_far (p := ⟨gb147, _, none⟩) NB146_147.out _).trans (((cell_far (p := ⟨gb147, _, none⟩) NB146_147.out _).trans (((cell_far (p := ⟨gb147, _, none⟩) NB146_147.out _).trans (((cell_far (p := ⟨gb147, _, none⟩) NB146_147.out _).trans (((cell_far (p := ⟨gb147, _, none⟩) NB146_147.out _).trans (((cell_far (p := ⟨gb147, _, none⟩) NB146_147.out _).trans (hHeld.2.1)))))))))))), ((cell_far (p := ⟨gb147, _, none⟩) NB146_147.out _).trans (((cell_far (p := ⟨gb147, _, none⟩) NB146_147.out _).trans (((cell_far (p := ⟨gb147, _, none⟩) NB146_147.out _).trans (((cell_far (p := ⟨gb147, _, none⟩) NB146_147.out _).trans (((cell_far (p := ⟨gb147, _, none⟩) NB146_147.out _).trans (((cell_far (p := ⟨gb147, _, none⟩) NB146_147.out _).trans (hHeld.2.2.1)))))))))))), ((cell_far (p := ⟨gb147, _, none⟩) NB146_147.out _).trans (((cell_far (p := ⟨gb147, _, none⟩) NB146_147.out _).trans (((cell_far (p := ⟨gb147, _, none⟩) NB146_147.out _).trans (((cell_far (p := ⟨gb147, _, none⟩) NB146_147.out _).trans (((cell_far (p := ⟨gb147, _, none⟩) NB146_147.out _).trans (((cell_far (p := ⟨gb147, _, none⟩) NB146_147.out _).trans (hHeld.2.2.2.1)))))))))))), ((cell_far (p := ⟨gb147, _, none⟩) NB146_147.out _).trans (((cell_far (p := ⟨gb147, _, none⟩) NB146_147.out _).trans (((cell_far (p := ⟨gb147, _, none⟩) NB146_147.out _).trans (((cell_far (p := ⟨gb147, _, none⟩) NB146_147.out _).trans (((cell_far (p := ⟨gb147, _, none⟩) NB146_147.out _).trans (((cell_far (p := ⟨gb147, _, none⟩) NB146_147.out _).trans (hHeld.2.2.2.2))))))))))))⟩ (fun hHeld => ?_)
    clear hK K
    refine done_ (done_of HT_.out (by kernel_rfl)) ?_
    try go_wp2
    refine bodyPost_ret (results_cell_row rfl _ _ gb147 41 #[.bool t148, .int .i64 t149, .int .i64 t150, .int .i64 (wrap64 (a1_3 + 2147483648)), .int .i64 0, .string a0] (0, 0) _ rfl (by (with_reducible repeat (first | refine blk_drewN ?_ _ | refine blk_drew ?_ | refine blk_alloc ?_ _)); refine blk_put (cs := #[.bool t148, .int .i64 t149, .int .i64 t150, .int .i64 (wrap64 (a1_3 + 2147483648)), .int .i64 0, .string (⟨#[]⟩ : ByteArray)]) ?_ 5 _ rfl; (with_reducible repeat (first | refine blk_drewN ?_ _ | refine blk_drew ?_ | refine blk_alloc ?_ _)); refine blk_put (cs := #[.bool t148, .int .i64 t149, .int .i64 t150, .int .i64 (wrap64 (a1_3 + 2147483648)), .int .i64 0, .string (⟨#[]⟩ : ByteArray)]) ?_ 4 _ rfl; (with_reducible repeat (first | refine blk_drewN ?_ _ | refine blk_drew ?_ | refine blk_alloc ?_ _)); refine blk_put (cs := #[.bool t148, .int .i64 t149, .int .i64 t150, .int .i64 0, .int .i64 0, .string (⟨#[]⟩ : ByteArray)]) ?_ 3 _ rfl; (with_reducible repeat (first | refine blk_drewN ?_ _ | refine blk_drew ?_ | refine blk_alloc ?_ _)); refine blk_put (cs := #[.bool t148, .int .i64 t149, .int .i64 0, .int .i64 0, .int .i64 0, .string (⟨#[]⟩ : ByteArray)]) ?_ 2 _ rfl; (with_reducible repeat (first | refine blk_drewN ?_ _ | refine blk_drew ?_ | refine blk_alloc ?_ _)); refine blk_put (cs := #[.bool t148, .int .i64 0, .int .i64 0, .int .i64 0, .int .i64 0, .string (⟨#[]⟩ : ByteArray)]) ?_ 1 _ rfl; (with_reducible repeat (first | refine blk_drewN ?_ _ | refine blk_drew ?_ | refine blk_alloc ?_ _)); refine blk_put (cs := #[.bool false, .int .i64 0, .int .i64 0, .int .i64 0, .int .i64 0, .string (⟨#[]⟩ : ByteArray)]) ?_ 0 _ rfl; (with_reducible repeat (first | refine blk_drewN ?_ _ | refine blk_drew ?_ | refine blk_alloc ?_ _)); exact BK147.out) Try.underlying41 rfl (by kernel_rfl)) rfl ?_
    exact ⟨by first | rfl | (simp [errW_none, errW_some] <;> rfl) | (simp [*, errW_none, errW_some] <;> rfl), by repeat (first | (with_reducible first | exact HB.out | apply below_alloc | apply pw_below_drewN | apply below_drew1 | refine below_set ?_ GE146.out | refine below_set ?_ GE147.out) | exact HB.out)⟩
  · rw [if_neg c3] at H
    have c3b0 : (a1_2 == 1) = false := beq_eq_false_iff_ne.mpr c3
    have c3b1 : (a1_2 != 1) = true := bne_iff_ne.mpr c3
    replace H := Option.bind_eq_some_iff.mp H
    obtain ⟨⟨t151, t152, t153⟩, A170, H⟩ := H
    replace H : (some (t151, t152, t153, a1_3, a1_4, a0)) = some (r1, r2, r3, r4, r5, r6) := H
    have A17 := Aside0.mk A170
    clear A170
    simp only [Option.some.injEq, Prod.mk.injEq] at H
    obtain ⟨rfl, rfl, rfl, rfl, rfl, rfl⟩ := H
    go_enter Try.func14, Try.ntmps14
    try go_wp2_with (first | ((with_reducible refine gate_dst (N := 3) rfl ?_); refine box_event ?hg (N := 3) ?hd (cs := #[.int .i64 a1_0, .int .i64 a1_1, .int .i64 a1_2, .int .i64 a1_3, .int .i64 a1_4]) (t := 34) ?hr ?_; (case hd => rfl); (case hg => rfl); (case hr => first | (go_simp; done) | (go_simp; rfl)); intro gb146 hg w18 hbox hb; have n0_ := Aside0.mk (below_step (by repeat (first | (with_reducible first | exact HB.out | apply below_alloc | apply pw_below_drewN | apply below_drew1) | exact HB.out)) hb); have n1_ := Aside0.mk (hbox); have n2_ := Aside0.mk ((by rw [hg]; exact (below_size (by repeat (first | (with_reducible first | exact HB.out | apply below_alloc | apply pw_below_drewN | apply below_drew1) | exact HB.out))) : w.heap.size ≤ gb146)); have n3_ := Aside0.mk ((by rw [hg]; exact (below_size (by repeat (first | (with_reducible first | exact HB.out | apply below_alloc | apply pw_below_drewN | apply below_drew1) | exact HB.out))) : w.heap.size ≤ gb146)); clear HB; have HB := n0_; have BK146 := n1_; have GW146 := n2_; have GE146 := n3_; clear n0_ n1_ n2_ n3_; clear hb hbox hg) | ((with_reducible refine gate_dst (N := 4) rfl ?_); refine box_event ?hg (N := 4) ?hd (cs := #[.bool false, .int .i64 0, .int .i64 0, .int .i64 0, .int .i64 0, .string (⟨#[]⟩ : ByteArray)]) (t := 41) ?hr ?_; (case hd => rfl); (case hg => rfl); (case hr => first | (go_simp; done) | (go_simp; rfl)); intro gb147 hg w19 hbox hb; have n0_ := Aside0.mk (blk_below (g := gb146) (o := .cells #[.int .i64 a1_0, .int .i64 a1_1, .int .i64 a1_2, .int .i64 a1_3, .int .i64 a1_4] 34 (0, 0)) (by (with_reducible repeat (first | refine blk_drewN ?_ _ | refine blk_drew ?_ | refine blk_alloc ?_ _)); exact BK146.out) hb); have n1_ := Aside0.mk (below_step (by repeat (first | (with_reducible first | exact HB.out | apply below_alloc | apply pw_below_drewN | apply below_drew1 | refine below_set ?_ GE146.out) | exact HB.out)) hb); have n2_ := Aside0.mk (hbox); have n3_ := Aside0.mk ((by rw [hg]; exact (below_size (by repeat (first | (with_reducible first | exact HB.out | apply below_alloc | apply pw_below_drewN | apply below_drew1 | refine below_set ?_ GE146.out) | exact HB.out))) : w.heap.size ≤ gb147)); have n4_ := Aside0.mk ((by rw [hg]; exact (below_size (by repeat (first | (with_reducible first | exact HB.out | apply below_alloc | apply pw_below_drewN | apply below_drew1 | refine below_set ?_ GE146.out) | exact HB.out))) : w.heap.size ≤ gb147)); have n5_ := Aside0.mk ((by rw [hg]; exact Nat.ne_of_lt (blk_lt (g := gb146) (o := .cells #[.int .i64 a1_0, .int .i64 a1_1, .int .i64 a1_2, .int .i64 a1_3, .int .i64 a1_4] 34 (0, 0)) (by (with_reducible repeat (first | refine blk_drewN ?_ _ | refine blk_drew ?_ | refine blk_alloc ?_ _)); exact BK146.out)) : gb146 ≠ gb147)); have n6_ := Aside0.mk ((by rw [hg]; exact Nat.ne_of_gt (blk_lt (g := gb146) (o := .cells #[.int .i64 a1_0, .int .i64 a1_1, .int .i64 a1_2, .int .i64 a1_3, .int .i64 a1_4] 34 (0, 0)) (by (with_reducible repeat (first | refine blk_drewN ?_ _ | refine blk_drew ?_ | refine blk_alloc ?_ _)); exact BK146.out)) : gb147 ≠ gb146)); clear BK146; clear HB; have BK146 := n0_; have HB := n1_; have BK147 := n2_; have GW147 := n3_; have GE147 := n4_; have NB146_147 := n5_; have NB147_146 := n6_; clear n0_ n1_ n2_ n3_ n4_ n5_ n6_; clear hb hbox hg; have hnb20 := NB146_147.out; have hnc20 := NB147_146.out; have hcz21_0 : w19.cell? ⟨gb146, 0, none⟩ = some (.int .i64 a1_0) := (blk_cell BK146.out 0).trans rfl; have hcz21_1 : w19.cell? ⟨gb146, 1, none⟩ = some (.int .i64 a1_1) := (blk_cell BK146.out 1).trans rfl; have hcz21_2 : w19.cell? ⟨gb146, 2, none⟩ = some (.int .i64 a1_2) := (blk_cell BK146.out 2).trans rfl; have hcz21_3 : w19.cell? ⟨gb146, 3, none⟩ = some (.int .i64 a1_3) := (blk_cell BK146.out 3).trans rfl; have hcz21_4 : w19.cell? ⟨gb146, 4, none⟩ = some (.int .i64 a1_4) := (blk_cell BK146.out 4).trans rfl; have hfz21_0 := blk_frozen BK146.out 0; have hfz21_1 := blk_frozen BK146.out 1; have hfz21_2 := blk_frozen BK146.out 2; have hfz21_3 := blk_frozen BK146.out 3; have hfz21_4 := blk_frozen BK146.out 4))
    have n0_ := Aside0.mk (blk_drew BK146.out)
    have n1_ := Aside0.mk (blk_drew BK147.out)
    have n2_ := Aside0.mk (below_drew1 HB.out)
    clear BK146
    clear BK147
    clear HB
    have BK146 := n0_
    have BK147 := n1_
    have HB := n2_
    clear n0_ n1_ n2_
    refine start_ (n := 9) (S := fun w' => w'.cell? ⟨gb146, 0, none⟩ = some (.int .i64 a1_0) ∧ w'.cell? ⟨gb146, 1, none⟩ = some (.int .i64 a1_1) ∧ w'.cell? ⟨gb146, 2, none⟩ = some (.int .i64 a1_2) ∧ w'.cell? ⟨gb146, 3, none⟩ = some (.int .i64 a1_3) ∧ w'.cell? ⟨gb146, 4, none⟩ = some (.int .i64 a1_4)) (ds := []) #[false, false, false, false, false, false, false, false, false] (by kernel_rfl) rfl rfl ⟨(blk_cell BK146.out 0).trans rfl, (blk_cell BK146.out 1).trans rfl, (blk_cell BK146.out 2).trans rfl, (blk_cell BK146.out 3).trans rfl, (blk_cell BK146.out 4).trans rfl⟩ (fun hHeld => ?_); refine with_tabW truchmanref19_Of.tab3 truchmanref19_Of.bits3 (fun HT_ HW_ => ?_)
    generalize w19.drew = w22 at BK146 BK147 HB hHeld ⊢
    refine pure_ (i := 2) (N := some 17) (v := ?_) (a' := ?_) #[false, false, true, false, false, false, false, false, false] rfl rfl (any_of HT_.out (by kernel_rfl)) (fun _ _ _ h => h) (Or.inl ⟨by rfl, ?_⟩) ?_ ?_
    rotate_left
    · intro w'
      go_simp
      with_reducible rfl
    rotate_left
    · simp only [Act.put, List.setIfInBounds_toArray, List.set_cons_zero, List.set_cons_succ, i64_w, i32_w]
      rfl
    refine pure_ (i := 4) (N := some 19) (v := ?_) (a' := ?_) #[false, false, true, false, true, false, false, false, false] rfl rfl (any_of HT_.out (by kernel_rfl)) (fun _ _ _ h => h) (Or.inl ⟨by rfl, ?_⟩) ?_ ?_
    rotate_left
    · intro w'
      go_simp
      with_reducible rfl
    rotate_left
    · simp only [Act.put, List.setIfInBounds_toArray, List.set_cons_zero, List.set_cons_succ, i64_w, i32_w]
      rfl
    refine pure_ (i := 6) (N := some 21) (v := ?_) (a' := ?_) #[false, false, true, false, true, false, true, false, false] rfl rfl (any_of HT_.out (by kernel_rfl)) (fun _ _ _ h => h) (Or.inl ⟨by rfl, ?_⟩) ?_ ?_
    rotate_left
    · intro w'
      go_simp
      with_reducible rfl
    rotate_left
    · simp only [Act.put, List.setIfInBounds_toArray, List.set_cons_zero, List.set_cons_succ, i64_w, i32_w]
      rfl
    refine take_ (i := 0) (N := some 15) (v := ?_) (a' := ?_) #[true, false, true, false, true, false, true, false, false] rfl rfl (take_ofW HT_.out HW_.out (by kernel_rfl)) (fun _ _ _ h => h) (Or.inl ⟨by rfl, ?_⟩) hHeld ?_ ?_
    rotate_left
    · rintro w' ⟨s0, s1, s2, s3, s4⟩
      go_simp
      with_reducible rfl
    rotate_left
    · simp only [Act.put, List.setIfInBounds_toArray, List.set_cons_zero, List.set_cons_succ, i64_w, i32_w]
      rfl
    refine take_ (i := 3) (N := some 18) (v := ?_) (a' := ?_) #[true, false, true, true, true, false, true, false, false] rfl rfl (take_ofW HT_.out HW_.out (by kernel_rfl)) (fun _ _ _ h => h) (Or.inl ⟨by rfl, ?_⟩) hHeld ?_ ?_
    rotate_left
    · rintro w' ⟨s0, s1, s2, s3, s4⟩
      go_simp
      with_reducible rfl
    rotate_left
    · simp only [Act.put, List.setIfInBounds_toArray, List.set_cons_zero, List.set_cons_succ, i64_w, i32_w]
      rfl
    refine take_ (i := 5) (N := some 20) (v := ?_) (a' := ?_) #[true, false, true, true, true, true, true, false, false] rfl rfl (take_ofW HT_.out HW_.out (by kernel_rfl)) (fun _ _ _ h => h) (Or.inl ⟨by rfl, ?_⟩) hHeld ?_ ?_
    rotate_left
    · rintro w' ⟨s0, s1, s2, s3, s4⟩
      go_simp
      with_reducible rfl
    rotate_left
    · simp only [Act.put, List.setIfInBounds_toArray, List.set_cons_zero, List.set_cons_succ, i64_w, i32_w]
      rfl
    refine one_ (i := 1) (N := some 16) #[true, true, true, true, true, true, true, false, false] rfl rfl (one_of HT_.out (by kernel_rfl)) (by decide) (fun K hK => ?_)
    refine goes_ Try.func12 (by kernel_rfl) rfl #[.agg #[.int .i64 a1_0, .int .i64 a1_1, .int .i64 a1_2, .int .i64 a1_3, .int .i64 a1_4]] (by rfl) rfl rfl (by (try simp only [List.map_toArray, List.map_cons, List.map_nil]); first | done | rfl | (simp only [List.length_drop, List.length_take]; rfl)) ?_
    with_reducible refine (truchmanref19_Qid.calls a1_0 a1_1 a1_2 a1_3 a1_4 t151 t152 t153 _ A17.out).mono ?_
    rintro e w23 ⟨rfl, hb⟩
    refine ⟨_, rfl, ?_⟩
    have n0_ := Aside0.mk (blk_below (g := gb146) (o := .cells #[.int .i64 a1_0, .int .i64 a1_1, .int .i64 a1_2, .int .i64 a1_3, .int .i64 a1_4] 34 (0, 0)) (by (with_reducible repeat (first | refine blk_drewN ?_ _ | refine blk_drew ?_ | refine blk_alloc ?_ _)); exact BK146.out) hb)
    have n1_ := Aside0.mk (blk_below (g := gb147) (o := .cells #[.bool false, .int .i64 0, .int .i64 0, .int .i64 0, .int .i64 0, .string (⟨#[]⟩ : ByteArray)] 41 (0, 0)) (by (with_reducible repeat (first | refine blk_drewN ?_ _ | refine blk_drew ?_ | refine blk_alloc ?_ _)); exact BK147.out) hb)
    have n2_ := Aside0.mk (below_step (by repeat (first | (with_reducible first | exact HB.out | apply below_alloc | apply pw_below_drewN | apply below_drew1 | refine below_set ?_ GE146.out | refine below_set ?_ GE147.out) | exact HB.out)) hb)
    clear BK146
    clear BK147
    clear HB
    have BK146 := n0_
    have BK147 := n1_
    have HB := n2_
    clear n0_ n1_ n2_
    (try clear hb)
    (try clear hb2)
    (try clear hk)
    (try clear hi)
    refine hK.out _ _ ⟨(blk_cell BK146.out 0).trans rfl, (blk_cell BK146.out 1).trans rfl, (blk_cell BK146.out 2).trans rfl, (blk_cell BK146.out 3).trans rfl, (blk_cell BK146.out 4).trans rfl⟩ (fun hHeld => ?_)
    clear hK K
    refine norm_ (a' := ?_) ?_ ?_
    rotate_left
    · show Act.put _ (some 16) _ = _
      simp only [Act.put, List.setIfInBounds_toArray, List.set_cons_zero, List.set_cons_succ, i64_w, i32_w]
      rfl
    refine pure_ (i := 7) (N := some 22) (v := ?_) (a' := ?_) #[true, true, true, true, true, true, true, true, false] rfl rfl (any_of HT_.out (by kernel_rfl)) (fun _ _ _ h => h) (Or.inl ⟨by rfl, ?_⟩) ?_ ?_
    rotate_left
    · intro w'
      go_simp
      with_reducible rfl
    rotate_left
    · simp only [Act.put, List.setIfInBounds_toArray, List.set_cons_zero, List.set_cons_succ, i64_w, i32_w]
      rfl
    refine one_ (i := 8) (N := none) #[true, true, true, true, true, true, true, true, true] rfl rfl (one_of HT_.out (by kernel_rfl)) (by decide) (fun K hK => ?_)
    have hs24 : w23.cell? ⟨gb147, 0, none⟩ = some (.bool false) := (blk_cell BK147.out 0).trans rfl
    have hfs24 := blk_frozen BK147.out 0
    have hns24_0 := NB146_147.out
    have hms24_0 := NB147_146.out
    have hs25 : w23.cell? ⟨gb147, 1, none⟩ = some (.int .i64 0) := (blk_cell BK147.out 1).trans rfl
    have hfs25 := blk_frozen BK147.out 1
    have hns25_0 := NB146_147.out
    have hms25_0 := NB147_146.out
    have hs26 : w23.cell? ⟨gb147, 2, none⟩ = some (.int .i64 0) := (blk_cell BK147.out 2).trans rfl
    have hfs26 := blk_frozen BK147.out 2
    have hns26_0 := NB146_147.out
    have hms26_0 := NB147_146.out
    have hs27 : w23.cell? ⟨gb147, 3, none⟩ = some (.int .i64 0) := (blk_cell BK147.out 3).trans rfl
    have hfs27 := blk_frozen BK147.out 3
    have hns27_0 := NB146_147.out
    have hms27_0 := NB147_146.out
    have hs28 : w23.cell? ⟨gb147, 4, none⟩ = some (.int .i64 0) := (blk_cell BK147.out 4).trans rfl
    have hfs28 := blk_frozen BK147.out 4
    have hns28_0 := NB146_147.out
    have hms28_0 := NB147_146.out
    have hs29 : w23.cell? ⟨gb147, 5, none⟩ = some (.string (⟨#[]⟩ : ByteArray)) := (blk_cell BK147.out 5).trans rfl
    have hfs29 := blk_frozen BK147.out 5
    have hns29_0 := NB146_147.out
    have hms29_0 := NB147_146.out
    refine skip_ (w1 := ?_) (by rfl) rfl ?_ ?_
    rotate_left
    · go_simp
      rfl
    refine hK.out _ _ ⟨((cell_far (p := ⟨gb147, _, none⟩) NB146_147.out _).trans (((cell_far (p := ⟨gb147, _, none⟩) NB146_147.out _).trans (((cell_far (p := ⟨gb147, _, none⟩) NB146_147.out _).trans (((cell_far (p := ⟨gb147, _, none⟩) NB146_147.out _).trans (((cell_far (p := ⟨gb147, _, none⟩) NB146_147.out _).trans (((cell_far (p := ⟨gb147, _, none⟩) NB146_147.out _).trans (hHeld.1)))))))))))), ((cell_far (p := ⟨gb147, _, none⟩) NB146_147.out _).trans (((cell_far (p := ⟨gb147, _, none⟩) NB146_147.out _).trans (((cell_far (p := ⟨gb147, _, none⟩) NB146_147.out _).trans (((cell_far (p := ⟨gb147, _, none⟩) NB146_147.out _).trans (((cell_far (p := ⟨gb147, _, none⟩) NB146_147.out _).trans (((cell_far (p := ⟨gb147, _, none⟩) NB146_147.out _).trans (hHeld.2.1)))))))))))), ((cell_far (p := ⟨gb147, _, none⟩) NB146_147.out _).trans (((cell_far (p := ⟨gb147, _, none⟩) NB146_147.out _).trans (((cell_far (p := ⟨gb147, _, none⟩) NB146_147.out _).trans (((cell_far (p := ⟨gb147, _, none⟩) NB146_147.out _).trans (((cell_far (p := ⟨gb147, _, none⟩) NB146_147.out _).trans (((cell_far (p := ⟨gb147, _, none⟩) NB146_147.out _).trans (hHeld.2.2.1)))))))))))), ((cell_far (p := ⟨gb147, _, none⟩) NB146_147.out _).trans (((cell_far (p := ⟨gb147, _, none⟩) NB146_147.out _).trans (((cell_far (p := ⟨gb147, _, none⟩) NB146_147.out _).trans (((cell_far (p := ⟨gb147, _, none⟩) NB146_147.out _).trans (((cell_far (p := ⟨gb147, _, none⟩) NB146_147.out _).trans (((cell_far (p := ⟨gb147, _, none⟩) NB146_147.out _).trans (hHeld.2.2.2.1)))))))))))), ((cell_far (p := ⟨gb147, _, none⟩) NB146_147.out _).trans (((cell_far (p := ⟨gb147, _, none⟩) NB146_147.out _).trans (((cell_far (p := ⟨gb147, _, none⟩) NB146_147.out _).trans (((cell_far (p := ⟨gb147, _, none⟩) NB146_147.out _).trans (((cell_far (p := ⟨gb147, _, none⟩) NB146_147.out _).trans (((cell_far (p := ⟨gb147, _, none⟩) NB146_147.out _).trans (hHeld.2.2.2.2))))))))))))⟩ (fun hHeld => ?_)
    clear hK K
    refine done_ (done_of HT_.out (by kernel_rfl)) ?_
    try go_wp2
    refine bodyPost_ret (results_cell_row rfl _ _ gb147 41 #[.bool t151, .int .i64 t152, .int .i64 t153, .int .i64 a1_3, .int .i64 a1_4, .string a0] (0, 0) _ rfl (by (with_reducible repeat (first | refine blk_drewN ?_ _ | refine blk_drew ?_ | refine blk_alloc ?_ _)); refine blk_put (cs := #[.bool t151, .int .i64 t152, .int .i64 t153, .int .i64 a1_3, .int .i64 a1_4, .string (⟨#[]⟩ : ByteArray)]) ?_ 5 _ rfl; (with_reducible repeat (first | refine blk_drewN ?_ _ | refine blk_drew ?_ | refine blk_alloc ?_ _)); refine blk_put (cs := #[.bool t151, .int .i64 t152, .int .i64 t153, .int .i64 a1_3, .int .i64 0, .string (⟨#[]⟩ : ByteArray)]) ?_ 4 _ rfl; (with_reducible repeat (first | refine blk_drewN ?_ _ | refine blk_drew ?_ | refine blk_alloc ?_ _)); refine blk_put (cs := #[.bool t151, .int .i64 t152, .int .i64 t153, .int .i64 0, .int .i64 0, .string (⟨#[]⟩ : ByteArray)]) ?_ 3 _ rfl; (with_reducible repeat (first | refine blk_drewN ?_ _ | refine blk_drew ?_ | refine blk_alloc ?_ _)); refine blk_put (cs := #[.bool t151, .int .i64 t152, .int .i64 0, .int .i64 0, .int .i64 0, .string (⟨#[]⟩ : ByteArray)]) ?_ 2 _ rfl; (with_reducible repeat (first | refine blk_drewN ?_ _ | refine blk_drew ?_ | refine blk_alloc ?_ _)); refine blk_put (cs := #[.bool t151, .int .i64 0, .int .i64 0, .int .i64 0, .int .i64 0, .string (⟨#[]⟩ : ByteArray)]) ?_ 1 _ rfl; (with_reducible repeat (first | refine blk_drewN ?_ _ | refine blk_drew ?_ | refine blk_alloc ?_ _)); refine blk_put (cs := #[.bool false, .int .i64 0, .int .i64 0, .int .i64 0, .int .i64 0, .string (⟨#[]⟩ : ByteArray)]) ?_ 0 _ rfl; (with_reducible repeat (first | refine blk_drewN ?_ _ | refine blk_drew ?_ | refine blk_alloc ?_ _)); exact BK147.out) Try.underlying41 rfl (by kernel_rfl)) rfl ?_
    exact ⟨by first | rfl | (simp [errW_none, errW_some] <;> rfl) | (simp [*, errW_none, errW_some] <;> rfl), by repeat (first | (with_reducible first | exact HB.out | apply below_alloc | apply pw_below_drewN | apply below_drew1 | refine below_set ?_ GE146.out | refine below_set ?_ GE147.out) | exact HB.out)⟩

end Go.Proofs.Ytemadfllannljaa.P
