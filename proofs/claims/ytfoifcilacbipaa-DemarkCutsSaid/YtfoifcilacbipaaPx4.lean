-- Written by a program of this session (wip/tools), over the kit's printer; Lean checks it.
import Derived.Test.YtfoifcilacbipaaPx0
namespace Go.Proofs.Ytfoifcilacbipaa.P
open Go.RowKit Go.Proofs.YtfoifcilacbipaaW.PrintWords Go.Proofs.YtfoifcilacbipaaW.PrintLast Go.Proofs.YtfoifcilacbipaaW.PrintMore
attribute [local go_sem] max2_int min2_int max_two min_two max_three min_three max_four min_four   -- for this text's walks alone
set_option linter.unusedVariables false
set_option linter.unusedSimpArgs false

/-! ### truchmanref04_All: function 25 -/
def truchmanref04_All.l0 : Nat → List Int → Int → Int → List Int → Int → List (List Int) → Int → Int → Bool → Option ((List (List Int)) × Int × Int × Bool)
  | 0, _, _, _, _, _, _, _, _, _ => none
  | k + 1, x0, x1, x2, x8, x9, x236000, x236001, x236002, x236003 => if (x0.length : Int) > 3 then (if 0 < (x0.length : Int) then (if 1 < (x0.length : Int) then (if 2 < (x0.length : Int) then (if 3 < (x0.length : Int) then (if (wrap64 (x9 + 1)) > x2 then (some (x236000, 5, 0, false)) else (if (wrap64 ((x8.length : Int) + (wrap64 ((wrap64 ((wrap64 ((wrap64 ((wrap64 (Int.tmod (rd x0 0) 128)) * 16777216)) + (wrap64 ((wrap64 (rd x0 1)) * 65536)))) + (wrap64 ((wrap64 (rd x0 2)) * 256)))) + (wrap64 (rd x0 3)))))) > x1 then (some (x236000, 4, 0, false)) else (if (x0.length : Int) < (wrap64 (4 + (wrap64 ((wrap64 ((wrap64 ((wrap64 ((wrap64 (Int.tmod (rd x0 0) 128)) * 16777216)) + (wrap64 ((wrap64 (rd x0 1)) * 65536)))) + (wrap64 ((wrap64 (rd x0 2)) * 256)))) + (wrap64 (rd x0 3)))))) then (some (x236000, x236001, wrap64 ((wrap64 ((x8.length : Int) + (x0.length : Int))) - 4), x236003)) else (if 4 ≤ (wrap64 (4 + (wrap64 ((wrap64 ((wrap64 ((wrap64 ((wrap64 (Int.tmod (rd x0 0) 128)) * 16777216)) + (wrap64 ((wrap64 (rd x0 1)) * 65536)))) + (wrap64 ((wrap64 (rd x0 2)) * 256)))) + (wrap64 (rd x0 3)))))) then (if (wrap64 (4 + (wrap64 ((wrap64 ((wrap64 ((wrap64 ((wrap64 (Int.tmod (rd x0 0) 128)) * 16777216)) + (wrap64 ((wrap64 (rd x0 1)) * 65536)))) + (wrap64 ((wrap64 (rd x0 2)) * 256)))) + (wrap64 (rd x0 3)))))) ≤ (x0.length : Int) then ((some ((x0.take ((wrap64 (4 + (wrap64 ((wrap64 ((wrap64 ((wrap64 ((wrap64 (Int.tmod (rd x0 0) 128)) * 16777216)) + (wrap64 ((wrap64 (rd x0 1)) * 65536)))) + (wrap64 ((wrap64 (rd x0 2)) * 256)))) + (wrap64 (rd x0 3)))))) : Int).toNat).drop 4 : List Int)).bind fun y240 => (if x8.length + y240.length < 140737488355328 then ((some (x8 ++ y240 : List Int)).bind fun y245 => (if (rd x0 0) > 127 then (if x236000.length < 5864062014805 then (if 0 ≤ (wrap64 (4 + (wrap64 ((wrap64 ((wrap64 ((wrap64 ((wrap64 (Int.tmod (rd x0 0) 128)) * 16777216)) + (wrap64 ((wrap64 (rd x0 1)) * 65536)))) + (wrap64 ((wrap64 (rd x0 2)) * 256)))) + (wrap64 (rd x0 3)))))) then (truchmanref04_All.l0 k (x0.drop ((wrap64 (4 + (wrap64 ((wrap64 ((wrap64 ((wrap64 ((wrap64 (Int.tmod (rd x0 0) 128)) * 16777216)) + (wrap64 ((wrap64 (rd x0 1)) * 65536)))) + (wrap64 ((wrap64 (rd x0 2)) * 256)))) + (wrap64 (rd x0 3)))))) : Int).toNat) x1 x2 ([] : List Int) 0 (x236000 ++ [y245]) x236001 x236002 x236003) else (none)) else (none)) else (if 0 ≤ (wrap64 (4 + (wrap64 ((wrap64 ((wrap64 ((wrap64 ((wrap64 (Int.tmod (rd x0 0) 128)) * 16777216)) + (wrap64 ((wrap64 (rd x0 1)) * 65536)))) + (wrap64 ((wrap64 (rd x0 2)) * 256)))) + (wrap64 (rd x0 3)))))) then (truchmanref04_All.l0 k (x0.drop ((wrap64 (4 + (wrap64 ((wrap64 ((wrap64 ((wrap64 ((wrap64 (Int.tmod (rd x0 0) 128)) * 16777216)) + (wrap64 ((wrap64 (rd x0 1)) * 65536)))) + (wrap64 ((wrap64 (rd x0 2)) * 256)))) + (wrap64 (rd x0 3)))))) : Int).toNat) x1 x2 y245 (wrap64 (x9 + 1)) x236000 x236001 x236002 x236003) else (none)))) else (none))) else (none)) else (none))))) else (none)) else (none)) else (none)) else (none)) else (if x9 = 0 then (some (x236000, x236001, wrap64 ((x8.length : Int) + (x0.length : Int)), ((x0.length : Int) == 0))) else (some (x236000, x236001, wrap64 ((x8.length : Int) + (x0.length : Int)), false)))
def truchmanref04_All.f (k : Nat) (l0 : List Int) (a1 : Int) (a2 : Int) : Option ((List (List Int)) × Int × Int × Bool) := truchmanref04_All.l0 k l0 a1 a2 ([] : List Int) 0 ([] : List (List Int)) 0 0 false
theorem truchmanref04_All.mono_l : ∀ k, (∀ y0 y1 y2 y3 y4 y5 y6 y7 y8, LeO (truchmanref04_All.l0 k y0 y1 y2 y3 y4 y5 y6 y7 y8) (truchmanref04_All.l0 (k + 1) y0 y1 y2 y3 y4 y5 y6 y7 y8))
  | 0 => fun _ _ _ _ _ _ _ _ _ r h => by simp [truchmanref04_All.l0] at h
  | k + 1 => by
    have ih0 := truchmanref04_All.mono_l k
    · intro y0 y1 y2 y3 y4 y5 y6 y7 y8
      unfold truchmanref04_All.l0
      repeat' first
      | (with_reducible exact ih0 _ _ _ _ _ _ _ _ _)
      | (with_reducible exact LeO.refl _)
      | (with_reducible exact LeO.none _)
      | (with_reducible refine LeO.ite ?_ ?_)
      | (with_reducible refine LeO.bind ?_ (fun _ => ?_))
      | exact ih0 _ _ _ _ _ _ _ _ _
      | exact LeO.none _
      | refine LeO.ite ?_ ?_
      | refine LeO.bind ?_ (fun _ => ?_)
theorem truchmanref04_All.mono : ∀ a0 a1 a2 k, LeO (truchmanref04_All.f k a0 a1 a2) (truchmanref04_All.f (k + 1) a0 a1 a2) := by
  intro a0 a1 a2 k
  have ih0 := truchmanref04_All.mono_l k
  unfold truchmanref04_All.f
  repeat' first
      | (with_reducible exact ih0 _ _ _ _ _ _ _ _ _)
      | (with_reducible exact LeO.refl _)
      | (with_reducible exact LeO.none _)
      | (with_reducible refine LeO.ite ?_ ?_)
      | (with_reducible refine LeO.bind ?_ (fun _ => ?_))
      | exact ih0 _ _ _ _ _ _ _ _ _
      | exact LeO.none _
      | refine LeO.ite ?_ ?_
      | refine LeO.bind ?_ (fun _ => ?_)
set_option maxHeartbeats 8000000 in
set_option maxRecDepth 100000 in
theorem truchmanref04_All.calls (k : Nat) (P0_ : Nat → Prop) (A0 : Option Addr) (c0 : Nat) (l0 : List Int) (a1 : Int) (a2 : Int) (r1 : List (List Int)) (r2 : Int) (r3 : Int) (r4 : Bool) (w : World) (hs0 : Kd.V (Kd.int .u8) 5 w w.heap.size (fun k_ => P0_ k_) (.slice A0 l0.length c0) l0) (h : truchmanref04_All.f k l0 a1 a2 = some (r1, r2, r3, r4)) :
    Calls Try.prog 25 #[.slice A0 l0.length c0, .int .i64 a1, .int .i64 a2] w fun e w' => ∃ v0_ : Value, e = .returned (.agg #[v0_, .int .i64 r2, .int .i64 r3, .bool r4]) ∧ Kd.S (Kd.slice 5 (Kd.int .u8)) 28 w' w.heap.size (fun k_ => (w.heap.size ≤ k_)) v0_ r1 ∧ Below w.heap.size w w' := by
  have hu57 := Try.underlying57
  have HO0 := Aside0.mk (show Kd.V (Kd.int .u8) 5 w w.heap.size (fun k_ => (P0_ k_ ∨ w.heap.size ≤ k_)) (.slice A0 l0.length c0) l0 from Kd.V_mono hs0 (fun k_ hk => .inl hk))
  have HB := Aside0.mk (Below.refl w.heap.size w)
  have H : (truchmanref04_All.l0 k l0 a1 a2 ([] : List Int) 0 ([] : List (List Int)) 0 0 false) = some (r1, r2, r3, r4) := h
  clear h
  have H' := Aside0.mk H
  clear H
  go_enter Try.func25, Try.ntmps25
  go_wp2_with (first | ((with_reducible refine gate_dst (N := 6) rfl ?_); (try (refine gate_guard (by rfl) ?_; dsimp only)); refine box_event ?hg (N := 6) ?hd (cs := #[.slice none 0 0, .int .i64 0, .int .i64 0, .bool false]) (t := 57) ?hr ?_; (case hd => rfl); (case hg => rfl); (case hr => first | (go_simp; done) | (go_simp; rfl)); intro gb234 hg w4 hbox hb; have n0_ := Aside0.mk (Kd.V_below (Kd.V_elderB (by (with_reducible repeat (first | apply Kd.V_alloc | apply Kd.V_drewN | apply Kd.V_drew)); exact HO0.out) gb234 (Nat.le_of_eq hg.symm)) hb); have n1_ := Aside0.mk (below_step (by repeat (first | (with_reducible first | exact HB.out | apply below_alloc | apply pw_below_drewN | apply below_drew1) | exact HB.out)) hb); have n2_ := Aside0.mk (hbox); have n3_ := Aside0.mk ((by rw [hg]; exact (below_size (by repeat (first | (with_reducible first | exact HB.out | apply below_alloc | apply pw_below_drewN | apply below_drew1) | exact HB.out))) : w.heap.size ≤ gb234)); have n4_ := Aside0.mk ((by rw [hg]; exact (below_size (by repeat (first | (with_reducible first | exact HB.out | apply below_alloc | apply pw_below_drewN | apply below_drew1) | exact HB.out))) : w.heap.size ≤ gb234)); clear HO0; clear HB; have HO0 := n0_; have HB := n1_; have BK234 := n2_; have GW234 := n3_; have GE234 := n4_; clear n0_ n1_ n2_ n3_ n4_; clear hb hbox hg) | ((with_reducible refine gate_dst (N := 7) rfl ?_); (try (refine gate_guard (by rfl) ?_; dsimp only)); refine box_event ?hg (N := 7) ?hd (cs := #[.slice none 0 0, .int .i64 0, .int .i64 0, .bool false]) (t := 57) ?hr ?_; (case hd => rfl); (case hg => rfl); (case hr => first | (go_simp; done) | (go_simp; rfl)); intro gb235 hg w5 hbox hb; have n0_ := Aside0.mk (Kd.V_below (Kd.V_elderB (by (with_reducible repeat (first | apply Kd.V_alloc | apply Kd.V_drewN | apply Kd.V_drew)); exact HO0.out) gb235 (Nat.le_of_eq hg.symm)) hb); have n1_ := Aside0.mk (blk_below (g := gb234) (o := .cells #[.slice none 0 0, .int .i64 0, .int .i64 0, .bool false] 57 (0, 0)) (by (with_reducible repeat (first | refine blk_drewN ?_ _ | refine blk_drew ?_ | refine blk_alloc ?_ _)); exact BK234.out) hb); have n2_ := Aside0.mk (below_step (by repeat (first | (with_reducible first | exact HB.out | apply below_alloc | apply pw_below_drewN | apply below_drew1 | refine below_set ?_ GE234.out) | exact HB.out)) hb); have n3_ := Aside0.mk (hbox); have n4_ := Aside0.mk ((by rw [hg]; exact (below_size (by repeat (first | (with_reducible first | exact HB.out | apply below_alloc | apply pw_below_drewN | apply below_drew1 | refine below_set ?_ GE234.out) | exact HB.out))) : w.heap.size ≤ gb235)); have n5_ := Aside0.mk ((by rw [hg]; exact (below_size (by repeat (first | (with_reducible first | exact HB.out | apply below_alloc | apply pw_below_drewN | apply below_drew1 | refine below_set ?_ GE234.out) | exact HB.out))) : w.heap.size ≤ gb235)); have n6_ := Aside0.mk ((by rw [hg]; exact Nat.ne_of_lt (blk_lt (g := gb234) (o := .cells #[.slice none 0 0, .int .i64 0, .int .i64 0, .bool false] 57 (0, 0)) (by (with_reducible repeat (first | refine blk_drewN ?_ _ | refine blk_drew ?_ | refine blk_alloc ?_ _)); exact BK234.out)) : gb234 ≠ gb235)); have n7_ := Aside0.mk ((by rw [hg]; exact Nat.ne_of_gt (blk_lt (g := gb234) (o := .cells #[.slice none 0 0, .int .i64 0, .int .i64 0, .bool false] 57 (0, 0)) (by (with_reducible repeat (first | refine blk_drewN ?_ _ | refine blk_drew ?_ | refine blk_alloc ?_ _)); exact BK234.out)) : gb235 ≠ gb234)); clear HO0; clear BK234; clear HB; have HO0 := n0_; have BK234 := n1_; have HB := n2_; have BK235 := n3_; have GW235 := n4_; have GE235 := n5_; have NB234_235 := n6_; have NB235_234 := n7_; clear n0_ n1_ n2_ n3_ n4_ n5_ n6_ n7_; clear hb hbox hg))
  repeat (go_quiet (first | ((with_reducible refine gate_dst (N := 6) rfl ?_); (try (refine gate_guard (by rfl) ?_; dsimp only)); refine box_event ?hg (N := 6) ?hd (cs := #[.slice none 0 0, .int .i64 0, .int .i64 0, .bool false]) (t := 57) ?hr ?_; (case hd => rfl); (case hg => rfl); (case hr => first | (go_simp; done) | (go_simp; rfl)); intro gb234 hg w4 hbox hb; have n0_ := Aside0.mk (Kd.V_below (Kd.V_elderB (by (with_reducible repeat (first | apply Kd.V_alloc | apply Kd.V_drewN | apply Kd.V_drew)); exact HO0.out) gb234 (Nat.le_of_eq hg.symm)) hb); have n1_ := Aside0.mk (below_step (by repeat (first | (with_reducible first | exact HB.out | apply below_alloc | apply pw_below_drewN | apply below_drew1) | exact HB.out)) hb); have n2_ := Aside0.mk (hbox); have n3_ := Aside0.mk ((by rw [hg]; exact (below_size (by repeat (first | (with_reducible first | exact HB.out | apply below_alloc | apply pw_below_drewN | apply below_drew1) | exact HB.out))) : w.heap.size ≤ gb234)); have n4_ := Aside0.mk ((by rw [hg]; exact (below_size (by repeat (first | (with_reducible first | exact HB.out | apply below_alloc | apply pw_below_drewN | apply below_drew1) | exact HB.out))) : w.heap.size ≤ gb234)); clear HO0; clear HB; have HO0 := n0_; have HB := n1_; have BK234 := n2_; have GW234 := n3_; have GE234 := n4_; clear n0_ n1_ n2_ n3_ n4_; clear hb hbox hg) | ((with_reducible refine gate_dst (N := 7) rfl ?_); (try (refine gate_guard (by rfl) ?_; dsimp only)); refine box_event ?hg (N := 7) ?hd (cs := #[.slice none 0 0, .int .i64 0, .int .i64 0, .bool false]) (t := 57) ?hr ?_; (case hd => rfl); (case hg => rfl); (case hr => first | (go_simp; done) | (go_simp; rfl)); intro gb235 hg w5 hbox hb; have n0_ := Aside0.mk (Kd.V_below (Kd.V_elderB (by (with_reducible repeat (first | apply Kd.V_alloc | apply Kd.V_drewN | apply Kd.V_drew)); exact HO0.out) gb235 (Nat.le_of_eq hg.symm)) hb); have n1_ := Aside0.mk (blk_below (g := gb234) (o := .cells #[.slice none 0 0, .int .i64 0, .int .i64 0, .bool false] 57 (0, 0)) (by (with_reducible repeat (first | refine blk_drewN ?_ _ | refine blk_drew ?_ | refine blk_alloc ?_ _)); exact BK234.out) hb); have n2_ := Aside0.mk (below_step (by repeat (first | (with_reducible first | exact HB.out | apply below_alloc | apply pw_below_drewN | apply below_drew1 | refine below_set ?_ GE234.out) | exact HB.out)) hb); have n3_ := Aside0.mk (hbox); have n4_ := Aside0.mk ((by rw [hg]; exact (below_size (by repeat (first | (with_reducible first | exact HB.out | apply below_alloc | apply pw_below_drewN | apply below_drew1 | refine below_set ?_ GE234.out) | exact HB.out))) : w.heap.size ≤ gb235)); have n5_ := Aside0.mk ((by rw [hg]; exact (below_size (by repeat (first | (with_reducible first | exact HB.out | apply below_alloc | apply pw_below_drewN | apply below_drew1 | refine below_set ?_ GE234.out) | exact HB.out))) : w.heap.size ≤ gb235)); have n6_ := Aside0.mk ((by rw [hg]; exact Nat.ne_of_lt (blk_lt (g := gb234) (o := .cells #[.slice none 0 0, .int .i64 0, .int .i64 0, .bool false] 57 (0, 0)) (by (with_reducible repeat (first | refine blk_drewN ?_ _ | refine blk_drew ?_ | refine blk_alloc ?_ _)); exact BK234.out)) : gb234 ≠ gb235)); have n7_ := Aside0.mk ((by rw [hg]; exact Nat.ne_of_gt (blk_lt (g := gb234) (o := .cells #[.slice none 0 0, .int .i64 0, .int .i64 0, .bool false] 57 (0, 0)) (by (with_reducible repeat (first | refine blk_drewN ?_ _ | refine blk_drew ?_ | refine blk_alloc ?_ _)); exact BK234.out)) : gb235 ≠ gb234)); clear HO0; clear BK234; clear HB; have HO0 := n0_; have BK234 := n1_; have HB := n2_; have BK235 := n3_; have GW235 := n4_; have GE235 := n5_; have NB234_235 := n6_; have NB235_234 := n7_; clear n0_ n1_ n2_ n3_ n4_ n5_ n6_ n7_; clear hb hbox hg)); try go_wp2_with (first | ((with_reducible refine gate_dst (N := 6) rfl ?_); (try (refine gate_guard (by rfl) ?_; dsimp only)); refine box_event ?hg (N := 6) ?hd (cs := #[.slice none 0 0, .int .i64 0, .int .i64 0, .bool false]) (t := 57) ?hr ?_; (case hd => rfl); (case hg => rfl); (case hr => first | (go_simp; done) | (go_simp; rfl)); intro gb234 hg w4 hbox hb; have n0_ := Aside0.mk (Kd.V_below (Kd.V_elderB (by (with_reducible repeat (first | apply Kd.V_alloc | apply Kd.V_drewN | apply Kd.V_drew)); exact HO0.out) gb234 (Nat.le_of_eq hg.symm)) hb); have n1_ := Aside0.mk (below_step (by repeat (first | (with_reducible first | exact HB.out | apply below_alloc | apply pw_below_drewN | apply below_drew1) | exact HB.out)) hb); have n2_ := Aside0.mk (hbox); have n3_ := Aside0.mk ((by rw [hg]; exact (below_size (by repeat (first | (with_reducible first | exact HB.out | apply below_alloc | apply pw_below_drewN | apply below_drew1) | exact HB.out))) : w.heap.size ≤ gb234)); have n4_ := Aside0.mk ((by rw [hg]; exact (below_size (by repeat (first | (with_reducible first | exact HB.out | apply below_alloc | apply pw_below_drewN | apply below_drew1) | exact HB.out))) : w.heap.size ≤ gb234)); clear HO0; clear HB; have HO0 := n0_; have HB := n1_; have BK234 := n2_; have GW234 := n3_; have GE234 := n4_; clear n0_ n1_ n2_ n3_ n4_; clear hb hbox hg) | ((with_reducible refine gate_dst (N := 7) rfl ?_); (try (refine gate_guard (by rfl) ?_; dsimp only)); refine box_event ?hg (N := 7) ?hd (cs := #[.slice none 0 0, .int .i64 0, .int .i64 0, .bool false]) (t := 57) ?hr ?_; (case hd => rfl); (case hg => rfl); (case hr => first | (go_simp; done) | (go_simp; rfl)); intro gb235 hg w5 hbox hb; have n0_ := Aside0.mk (Kd.V_below (Kd.V_elderB (by (with_reducible repeat (first | apply Kd.V_alloc | apply Kd.V_drewN | apply Kd.V_drew)); exact HO0.out) gb235 (Nat.le_of_eq hg.symm)) hb); have n1_ := Aside0.mk (blk_below (g := gb234) (o := .cells #[.slice none 0 0, .int .i64 0, .int .i64 0, .bool false] 57 (0, 0)) (by (with_reducible repeat (first | refine blk_drewN ?_ _ | refine blk_drew ?_ | refine blk_alloc ?_ _)); exact BK234.out) hb); have n2_ := Aside0.mk (below_step (by repeat (first | (with_reducible first | exact HB.out | apply below_alloc | apply pw_below_drewN | apply below_drew1 | refine below_set ?_ GE234.out) | exact HB.out)) hb); have n3_ := Aside0.mk (hbox); have n4_ := Aside0.mk ((by rw [hg]; exact (below_size (by repeat (first | (with_reducible first | exact HB.out | apply below_alloc | apply pw_below_drewN | apply below_drew1 | refine below_set ?_ GE234.out) | exact HB.out))) : w.heap.size ≤ gb235)); have n5_ := Aside0.mk ((by rw [hg]; exact (below_size (by repeat (first | (with_reducible first | exact HB.out | apply below_alloc | apply pw_below_drewN | apply below_drew1 | refine below_set ?_ GE234.out) | exact HB.out))) : w.heap.size ≤ gb235)); have n6_ := Aside0.mk ((by rw [hg]; exact Nat.ne_of_lt (blk_lt (g := gb234) (o := .cells #[.slice none 0 0, .int .i64 0, .int .i64 0, .bool false] 57 (0, 0)) (by (with_reducible repeat (first | refine blk_drewN ?_ _ | refine blk_drew ?_ | refine blk_alloc ?_ _)); exact BK234.out)) : gb234 ≠ gb235)); have n7_ := Aside0.mk ((by rw [hg]; exact Nat.ne_of_gt (blk_lt (g := gb234) (o := .cells #[.slice none 0 0, .int .i64 0, .int .i64 0, .bool false] 57 (0, 0)) (by (with_reducible repeat (first | refine blk_drewN ?_ _ | refine blk_drew ?_ | refine blk_alloc ?_ _)); exact BK234.out)) : gb235 ≠ gb234)); clear HO0; clear BK234; clear HB; have HO0 := n0_; have BK234 := n1_; have HB := n2_; have BK235 := n3_; have GW235 := n4_; have GE235 := n5_; have NB234_235 := n6_; have NB235_234 := n7_; clear n0_ n1_ n2_ n3_ n4_ n5_ n6_ n7_; clear hb hbox hg)))
  go_loopg [0, 8, 9] k (fun kq v0 v8 v9 w' => ∃ (x0_1 : List Int) (x8_1 : List Int) (x9_1 : Int) (x235001_1 : Int) (x235002_1 : Int) (x235003_1 : Bool) (x236000_1 : List (List Int)) (x236002_1 : Int) (u236000 : Value), v9 = .int .i64 x9_1 ∧ Aside0 (truchmanref04_All.l0 kq x0_1 a1 a2 x8_1 x9_1 x236000_1 0 x236002_1 false = some (r1, r2, r3, r4)) ∧ Aside0 (kq ≤ k) ∧ Aside0 (Kd.V (Kd.int .u8) 5 w' w.heap.size (fun k_ => (P0_ k_ ∨ w.heap.size ≤ k_) ∧ some k_ ≠ (v8 : Value).ownBlock ∧ some k_ ≠ (u236000 : Value).ownBlock ∧ k_ ≠ gb234 ∧ k_ ≠ gb235) v0 x0_1) ∧ Aside0 (Kd.R (Kd.int .u8) 5 w' w.heap.size (fun k_ => (w.heap.size ≤ k_)) v8 x8_1) ∧ Aside0 (Kd.S (Kd.slice 5 (Kd.int .u8)) 28 w' w.heap.size (fun k_ => (w.heap.size ≤ k_) ∧ some k_ ≠ (v8 : Value).ownBlock) u236000 x236000_1) ∧ Aside0 (w'.heap[gb234]? = some (.cells #[(.slice none 0 0), .int .i64 x235001_1, .int .i64 x235002_1, .bool x235003_1] 57 (0, 0))) ∧ Aside0 (w'.heap[gb235]? = some (.cells #[u236000, .int .i64 0, .int .i64 x236002_1, .bool false] 57 (0, 0))) ∧ Aside0 (Below w.heap.size w w'))
  case atStart => exact ⟨(l0), (([] : List Int)), (0), (0), (0), (false), (([] : List (List Int))), (0), (.slice none 0 0), (by first | rfl | (simp; done) | (simp [*]; done)), H', ⟨Nat.le_refl _⟩, ⟨by (with_reducible repeat (first | apply Kd.V_alloc | apply Kd.V_drewN | apply Kd.V_drew)); exact Kd.V_mono HO0.out (fun _ hk => ⟨hk.1.1, ⟨(by simp [Value.ownBlock]), ⟨(by simp [Value.ownBlock]), ⟨hk.1.2, hk.2⟩⟩⟩⟩)⟩, ⟨by first | exact Kd.R_nil _ _ _ _ _ | exact Kd.N_nil _ _ _ _ _ | exact Kd.V_nil _ _ _ _ _ | exact Kd.Q_nil _ _ _ _ _ | exact Kd.S_nil _ _ _ _ _⟩, ⟨by first | exact Kd.S_nil _ _ _ _ _ | exact Kd.N_nil _ _ _ _ _ | exact Kd.V_nil _ _ _ _ _ | exact Kd.Q_nil _ _ _ _ _ | exact Kd.R_nil _ _ _ _ _⟩, ⟨by (with_reducible repeat (first | refine blk_drewN ?_ _ | refine blk_drew ?_ | refine blk_alloc ?_ _)); exact BK234.out⟩, ⟨by (with_reducible repeat (first | refine blk_drewN ?_ _ | refine blk_drew ?_ | refine blk_alloc ?_ _)); exact BK235.out⟩, ⟨by repeat (first | (with_reducible first | exact HB.out | apply below_alloc | apply pw_below_drewN | apply below_drew1 | refine below_set ?_ GE234.out | refine below_set ?_ GE235.out) | exact HB.out)⟩⟩
  case round =>
    clear H'
    try clear c2
    try clear p2
    obtain ⟨x0_1, x8_1, x9_1, x235001_1, x235002_1, x235003_1, x236000_1, x236002_1, u236000, rfl, HA, HK1, HO_0, HO_8, HO_236000, BK234, BK235, HB⟩ := hrel
    cases gk with
    | zero => exact absurd HA.out (by simp [truchmanref04_All.l0])
    | succ k1 =>
      have H := HA.out
      clear HA
      simp only [truchmanref04_All.l0] at H
      by_cases c6 : (x0_1.length : Int) > 3
      · rw [if_pos c6] at H
        have c6b0 : decide (3 < (x0_1.length : Int)) = true := decide_eq_true c6
        have c6b1 : decide (3 < x0_1.length) = true := decide_eq_true (by omega)
        clear c6
        by_cases c7 : 0 < (x0_1.length : Int)
        · rw [if_pos c7] at H
          have c7b0 : decide (0 < (x0_1.length : Int)) = true := decide_eq_true c7
          have c7b1 : decide (0 < x0_1.length) = true := decide_eq_true (by omega)
          clear c7
          by_cases c8 : 1 < (x0_1.length : Int)
          · rw [if_pos c8] at H
            have c8b0 : decide (1 < (x0_1.length : Int)) = true := decide_eq_true c8
            have c8b1 : decide (1 < x0_1.length) = true := decide_eq_true (by omega)
            clear c8
            by_cases c9 : 2 < (x0_1.length : Int)
            · rw [if_pos c9] at H
              have c9b0 : decide (2 < (x0_1.length : Int)) = true := decide_eq_true c9
              have c9b1 : decide (2 < x0_1.length) = true := decide_eq_true (by omega)
              clear c9
              by_cases c10 : 3 < (x0_1.length : Int)
              · rw [if_pos c10] at H
                have c10b0 : decide (3 < (x0_1.length : Int)) = true := decide_eq_true c10
                have c10b1 : decide (3 < x0_1.length) = true := decide_eq_true (by omega)
                clear c10
                by_cases c11 : (wrap64 (x9_1 + 1)) > a2
                · rw [if_pos c11] at H
                  have c11b0 : decide (a2 < (wrap64 (x9_1 + 1))) = true := decide_eq_true c11
                  clear c11
                  simp only [Option.some.injEq, Prod.mk.injEq] at H
                  obtain ⟨rfl, rfl, rfl, rfl⟩ := H
                  obtain ⟨Ao12, co12, eo12⟩ := Kd.V_slice HO_0.out
                  subst eo12
                  have p236 : 0 ≤ (0 : Int) := (by omega)
                  have q236 : 0 < (x0_1.length : Int) := of_decide_eq_true (by first | (with_reducible assumption) | assumption)
                  obtain ⟨ad236, e236, hx236_0⟩ := Kd.at_int (Kd.V_reads' HO_0.out).2.2 0 p236 q236
                  cases e236
                  have qi236 : (0 < x0_1.length) = True := eq_true (by omega)
                  (try rw [show ((0 : Int)).toNat = 0 from rfl] at hx236_0)
                  (try rw [Addr.add_zero'] at hx236_0)
                  replace p236 := eq_true p236
                  replace q236 := eq_true q236
                  have p237 : 0 ≤ (1 : Int) := (by omega)
                  have q237 : 1 < (x0_1.length : Int) := of_decide_eq_true (by first | (with_reducible assumption) | assumption)
                  obtain ⟨ad237, e237, hx237_0⟩ := Kd.at_int (Kd.V_reads' HO_0.out).2.2 1 p237 q237
                  obtain rfl : ad236 = ad237 := (by injection e237)
                  (try simp only [show (1 : Int).toNat = 1 from rfl, Nat.reduceMul, Nat.reduceEqDiff, Go.Addr.add, ↓reduceIte] at hx237_0)
                  have qi237 : (1 < x0_1.length) = True := eq_true (by omega)
                  (try rw [show ((1 : Int)).toNat = 1 from rfl] at hx237_0)
                  replace p237 := eq_true p237
                  replace q237 := eq_true q237
                  have p238 : 0 ≤ (2 : Int) := (by omega)
                  have q238 : 2 < (x0_1.length : Int) := of_decide_eq_true (by first | (with_reducible assumption) | assumption)
                  obtain ⟨ad238, e238, hx238_0⟩ := Kd.at_int (Kd.V_reads' HO_0.out).2.2 2 p238 q238
                  obtain rfl : ad236 = ad238 := (by injection e238)
                  (try simp only [show (2 : Int).toNat = 2 from rfl, Nat.reduceMul, Nat.reduceEqDiff, Go.Addr.add, ↓reduceIte] at hx238_0)
                  have qi238 : (2 < x0_1.length) = True := eq_true (by omega)
                  (try rw [show ((2 : Int)).toNat = 2 from rfl] at hx238_0)
                  replace p238 := eq_true p238
                  replace q238 := eq_true q238
                  have p239 : 0 ≤ (3 : Int) := (by omega)
                  have q239 : 3 < (x0_1.length : Int) := of_decide_eq_true (by first | (with_reducible assumption) | assumption)
                  obtain ⟨ad239, e239, hx239_0⟩ := Kd.at_int (Kd.V_reads' HO_0.out).2.2 3 p239 q239
                  obtain rfl : ad236 = ad239 := (by injection e239)
                  (try simp only [show (3 : Int).toNat = 3 from rfl, Nat.reduceMul, Nat.reduceEqDiff, Go.Addr.add, ↓reduceIte] at hx239_0)
                  have qi239 : (3 < x0_1.length) = True := eq_true (by omega)
                  (try rw [show ((3 : Int)).toNat = 3 from rfl] at hx239_0)
                  replace p239 := eq_true p239
                  replace q239 := eq_true q239
                  have hnb13 := NB235_234.out
                  have hnc13 := NB234_235.out
                  have hcz14_0 : wr.cell? ⟨gb235, 0, none⟩ = some (u236000) := (blk_cell BK235.out 0).trans rfl
                  have hcz14_1 : wr.cell? ⟨gb235, 1, none⟩ = some (.int .i64 0) := (blk_cell BK235.out 1).trans rfl
                  have hcz14_2 : wr.cell? ⟨gb235, 2, none⟩ = some (.int .i64 x236002_1) := (blk_cell BK235.out 2).trans rfl
                  have hcz14_3 : wr.cell? ⟨gb235, 3, none⟩ = some (.bool false) := (blk_cell BK235.out 3).trans rfl
                  have hfz14_0 := blk_frozen BK235.out 0
                  have hfz14_1 := blk_frozen BK235.out 1
                  have hfz14_2 := blk_frozen BK235.out 2
                  have hfz14_3 := blk_frozen BK235.out 3
                  obtain ⟨Ao15, co15, eo15⟩ := Kd.S_slice HO_236000.out
                  subst eo15
                  have hcz16_0 : wr.cell? ⟨gb234, 0, none⟩ = some (.slice none 0 0) := (blk_cell BK234.out 0).trans rfl
                  have hcz16_1 : wr.cell? ⟨gb234, 1, none⟩ = some (.int .i64 x235001_1) := (blk_cell BK234.out 1).trans rfl
                  have hcz16_2 : wr.cell? ⟨gb234, 2, none⟩ = some (.int .i64 x235002_1) := (blk_cell BK234.out 2).trans rfl
                  have hcz16_3 : wr.cell? ⟨gb234, 3, none⟩ = some (.bool x235003_1) := (blk_cell BK234.out 3).trans rfl
                  have hfz16_0 := blk_frozen BK234.out 0
                  have hfz16_1 := blk_frozen BK234.out 1
                  have hfz16_2 := blk_frozen BK234.out 2
                  have hfz16_3 := blk_frozen BK234.out 3
                  go_wp2
                  repeat (go_quiet (fail); try go_wp2)
                  refine bodyPost_ret (results_cell_row rfl _ _ gb234 57 #[.slice Ao15 x236000_1.length co15, .int .i64 5, .int .i64 0, .bool false] (0, 0) _ rfl (by (with_reducible repeat (first | refine blk_drewN ?_ _ | refine blk_drew ?_ | refine blk_alloc ?_ _)); refine blk_put (cs := #[.slice Ao15 x236000_1.length co15, .int .i64 5, .int .i64 0, .bool x235003_1]) ?_ 3 _ rfl; (with_reducible repeat (first | refine blk_drewN ?_ _ | refine blk_drew ?_ | refine blk_alloc ?_ _)); refine blk_put (cs := #[.slice Ao15 x236000_1.length co15, .int .i64 5, .int .i64 x235002_1, .bool x235003_1]) ?_ 2 _ rfl; (with_reducible repeat (first | refine blk_drewN ?_ _ | refine blk_drew ?_ | refine blk_alloc ?_ _)); refine blk_put (cs := #[.slice Ao15 x236000_1.length co15, .int .i64 x235001_1, .int .i64 x235002_1, .bool x235003_1]) ?_ 1 _ rfl; (with_reducible repeat (first | refine blk_drewN ?_ _ | refine blk_drew ?_ | refine blk_alloc ?_ _)); refine blk_put (cs := #[.slice none 0 0, .int .i64 x235001_1, .int .i64 x235002_1, .bool x235003_1]) ?_ 0 _ rfl; (with_reducible repeat (first | refine blk_drewN ?_ _ | refine blk_drew ?_ | refine blk_alloc ?_ _)); exact BK234.out) Try.underlying57 rfl (by kernel_rfl)) rfl ?_
                  exact ⟨_, by first | rfl | (simp [errW_none, errW_some] <;> rfl) | (simp [*, errW_none, errW_some] <;> rfl), by (with_reducible repeat (first | apply Kd.S_alloc | apply Kd.S_drewN | apply Kd.S_drew)); exact Kd.S_mono (Kd.S_far (p := ⟨gb234, 3, none⟩) (Kd.S_far (p := ⟨gb234, 2, none⟩) (Kd.S_far (p := ⟨gb234, 1, none⟩) (Kd.S_far (p := ⟨gb234, 0, none⟩) (Kd.S_types HO_236000.out BK234.out (by decide)) (fun _ hk => hk.2) (.slice Ao15 x236000_1.length co15)) (fun _ hk => hk.2) (.int .i64 5)) (fun _ hk => hk.2) (.int .i64 0)) (fun _ hk => hk.2) (.bool false)) (fun _ hk => hk.1.1), by repeat (first | (with_reducible first | exact HB.out | apply below_alloc | apply pw_below_drewN | apply below_drew1 | refine below_set ?_ GE234.out | refine below_set ?_ GE235.out) | exact HB.out)⟩
                · rw [if_neg c11] at H
                  have c11b0 : decide (a2 < (wrap64 (x9_1 + 1))) = false := decide_eq_false c11
                  clear c11
                  by_cases c17 : (wrap64 ((x8_1.length : Int) + (wrap64 ((wrap64 ((wrap64 ((wrap64 ((wrap64 (Int.tmod (rd x0_1 0) 128)) * 16777216)) + (wrap64 ((wrap64 (rd x0_1 1)) * 65536)))) + (wrap64 ((wrap64 (rd x0_1 2)) * 256)))) + (wrap64 (rd x0_1 3)))))) > a1
                  · rw [if_pos c17] at H
                    have c17b0 : decide (a1 < (wrap64 ((x8_1.length : Int) + (wrap64 ((wrap64 ((wrap64 ((wrap64 ((wrap64 (Int.tmod (rd x0_1 0) 128)) * 16777216)) + (wrap64 ((wrap64 (rd x0_1 1)) * 65536)))) + (wrap64 ((wrap64 (rd x0_1 2)) * 256)))) + (wrap64 (rd x0_1 3))))))) = true := decide_eq_true c17
                    clear c17
                    simp only [Option.some.injEq, Prod.mk.injEq] at H
                    obtain ⟨rfl, rfl, rfl, rfl⟩ := H
                    obtain ⟨Ao18, co18, eo18⟩ := Kd.V_slice HO_0.out
                    subst eo18
                    have p236 : 0 ≤ (0 : Int) := (by omega)
                    have q236 : 0 < (x0_1.length : Int) := of_decide_eq_true (by first | (with_reducible assumption) | assumption)
                    obtain ⟨ad236, e236, hx236_0⟩ := Kd.at_int (Kd.V_reads' HO_0.out).2.2 0 p236 q236
                    cases e236
                    have qi236 : (0 < x0_1.length) = True := eq_true (by omega)
                    (try rw [show ((0 : Int)).toNat = 0 from rfl] at hx236_0)
                    (try rw [Addr.add_zero'] at hx236_0)
                    replace p236 := eq_true p236
                    replace q236 := eq_true q236
                    have p237 : 0 ≤ (1 : Int) := (by omega)
                    have q237 : 1 < (x0_1.length : Int) := of_decide_eq_true (by first | (with_reducible assumption) | assumption)
                    obtain ⟨ad237, e237, hx237_0⟩ := Kd.at_int (Kd.V_reads' HO_0.out).2.2 1 p237 q237
                    obtain rfl : ad236 = ad237 := (by injection e237)
                    (try simp only [show (1 : Int).toNat = 1 from rfl, Nat.reduceMul, Nat.reduceEqDiff, Go.Addr.add, ↓reduceIte] at hx237_0)
                    have qi237 : (1 < x0_1.length) = True := eq_true (by omega)
                    (try rw [show ((1 : Int)).toNat = 1 from rfl] at hx237_0)
                    replace p237 := eq_true p237
                    replace q237 := eq_true q237
                    have p238 : 0 ≤ (2 : Int) := (by omega)
                    have q238 : 2 < (x0_1.length : Int) := of_decide_eq_true (by first | (with_reducible assumption) | assumption)
                    obtain ⟨ad238, e238, hx238_0⟩ := Kd.at_int (Kd.V_reads' HO_0.out).2.2 2 p238 q238
                    obtain rfl : ad236 = ad238 := (by injection e238)
                    (try simp only [show (2 : Int).toNat = 2 from rfl, Nat.reduceMul, Nat.reduceEqDiff, Go.Addr.add, ↓reduceIte] at hx238_0)
                    have qi238 : (2 < x0_1.length) = True := eq_true (by omega)
                    (try rw [show ((2 : Int)).toNat = 2 from rfl] at hx238_0)
                    replace p238 := eq_true p238
                    replace q238 := eq_true q238
                    have p239 : 0 ≤ (3 : Int) := (by omega)
                    have q239 : 3 < (x0_1.length : Int) := of_decide_eq_true (by first | (with_reducible assumption) | assumption)
                    obtain ⟨ad239, e239, hx239_0⟩ := Kd.at_int (Kd.V_reads' HO_0.out).2.2 3 p239 q239
                    obtain rfl : ad236 = ad239 := (by injection e239)
                    (try simp only [show (3 : Int).toNat = 3 from rfl, Nat.reduceMul, Nat.reduceEqDiff, Go.Addr.add, ↓reduceIte] at hx239_0)
                    have qi239 : (3 < x0_1.length) = True := eq_true (by omega)
                    (try rw [show ((3 : Int)).toNat = 3 from rfl] at hx239_0)
                    replace p239 := eq_true p239
                    replace q239 := eq_true q239
                    obtain ⟨Ao19, co19, eo19⟩ := Kd.R_slice HO_8.out
                    subst eo19
                    have hnb20 := NB235_234.out
                    have hnc20 := NB234_235.out
                    have hcz21_0 : wr.cell? ⟨gb235, 0, none⟩ = some (u236000) := (blk_cell BK235.out 0).trans rfl
                    have hcz21_1 : wr.cell? ⟨gb235, 1, none⟩ = some (.int .i64 0) := (blk_cell BK235.out 1).trans rfl
                    have hcz21_2 : wr.cell? ⟨gb235, 2, none⟩ = some (.int .i64 x236002_1) := (blk_cell BK235.out 2).trans rfl
                    have hcz21_3 : wr.cell? ⟨gb235, 3, none⟩ = some (.bool false) := (blk_cell BK235.out 3).trans rfl
                    have hfz21_0 := blk_frozen BK235.out 0
                    have hfz21_1 := blk_frozen BK235.out 1
                    have hfz21_2 := blk_frozen BK235.out 2
                    have hfz21_3 := blk_frozen BK235.out 3
                    obtain ⟨Ao22, co22, eo22⟩ := Kd.S_slice HO_236000.out
                    subst eo22
                    have hcz23_0 : wr.cell? ⟨gb234, 0, none⟩ = some (.slice none 0 0) := (blk_cell BK234.out 0).trans rfl
                    have hcz23_1 : wr.cell? ⟨gb234, 1, none⟩ = some (.int .i64 x235001_1) := (blk_cell BK234.out 1).trans rfl
                    have hcz23_2 : wr.cell? ⟨gb234, 2, none⟩ = some (.int .i64 x235002_1) := (blk_cell BK234.out 2).trans rfl
                    have hcz23_3 : wr.cell? ⟨gb234, 3, none⟩ = some (.bool x235003_1) := (blk_cell BK234.out 3).trans rfl
                    have hfz23_0 := blk_frozen BK234.out 0
                    have hfz23_1 := blk_frozen BK234.out 1
                    have hfz23_2 := blk_frozen BK234.out 2
                    have hfz23_3 := blk_frozen BK234.out 3
                    go_wp2
                    repeat (go_quiet (fail); try go_wp2)
                    refine bodyPost_ret (results_cell_row rfl _ _ gb234 57 #[.slice Ao22 x236000_1.length co22, .int .i64 4, .int .i64 0, .bool false] (0, 0) _ rfl (by (with_reducible repeat (first | refine blk_drewN ?_ _ | refine blk_drew ?_ | refine blk_alloc ?_ _)); refine blk_put (cs := #[.slice Ao22 x236000_1.length co22, .int .i64 4, .int .i64 0, .bool x235003_1]) ?_ 3 _ rfl; (with_reducible repeat (first | refine blk_drewN ?_ _ | refine blk_drew ?_ | refine blk_alloc ?_ _)); refine blk_put (cs := #[.slice Ao22 x236000_1.length co22, .int .i64 4, .int .i64 x235002_1, .bool x235003_1]) ?_ 2 _ rfl; (with_reducible repeat (first | refine blk_drewN ?_ _ | refine blk_drew ?_ | refine blk_alloc ?_ _)); refine blk_put (cs := #[.slice Ao22 x236000_1.length co22, .int .i64 x235001_1, .int .i64 x235002_1, .bool x235003_1]) ?_ 1 _ rfl; (with_reducible repeat (first | refine blk_drewN ?_ _ | refine blk_drew ?_ | refine blk_alloc ?_ _)); refine blk_put (cs := #[.slice none 0 0, .int .i64 x235001_1, .int .i64 x235002_1, .bool x235003_1]) ?_ 0 _ rfl; (with_reducible repeat (first | refine blk_drewN ?_ _ | refine blk_drew ?_ | refine blk_alloc ?_ _)); exact BK234.out) Try.underlying57 rfl (by kernel_rfl)) rfl ?_
                    exact ⟨_, by first | rfl | (simp [errW_none, errW_some] <;> rfl) | (simp [*, errW_none, errW_some] <;> rfl), by (with_reducible repeat (first | apply Kd.S_alloc | apply Kd.S_drewN | apply Kd.S_drew)); exact Kd.S_mono (Kd.S_far (p := ⟨gb234, 3, none⟩) (Kd.S_far (p := ⟨gb234, 2, none⟩) (Kd.S_far (p := ⟨gb234, 1, none⟩) (Kd.S_far (p := ⟨gb234, 0, none⟩) (Kd.S_types HO_236000.out BK234.out (by decide)) (fun _ hk => hk.2) (.slice Ao22 x236000_1.length co22)) (fun _ hk => hk.2) (.int .i64 4)) (fun _ hk => hk.2) (.int .i64 0)) (fun _ hk => hk.2) (.bool false)) (fun _ hk => hk.1.1), by repeat (first | (with_reducible first | exact HB.out | apply below_alloc | apply pw_below_drewN | apply below_drew1 | refine below_set ?_ GE234.out | refine below_set ?_ GE235.out) | exact HB.out)⟩
                  · rw [if_neg c17] at H
                    have c17b0 : decide (a1 < (wrap64 ((x8_1.length : Int) + (wrap64 ((wrap64 ((wrap64 ((wrap64 ((wrap64 (Int.tmod (rd x0_1 0) 128)) * 16777216)) + (wrap64 ((wrap64 (rd x0_1 1)) * 65536)))) + (wrap64 ((wrap64 (rd x0_1 2)) * 256)))) + (wrap64 (rd x0_1 3))))))) = false := decide_eq_false c17
                    clear c17
                    by_cases c24 : (x0_1.length : Int) < (wrap64 (4 + (wrap64 ((wrap64 ((wrap64 ((wrap64 ((wrap64 (Int.tmod (rd x0_1 0) 128)) * 16777216)) + (wrap64 ((wrap64 (rd x0_1 1)) * 65536)))) + (wrap64 ((wrap64 (rd x0_1 2)) * 256)))) + (wrap64 (rd x0_1 3))))))
                    · rw [if_pos c24] at H
                      have c24b0 : decide ((x0_1.length : Int) < (wrap64 (4 + (wrap64 ((wrap64 ((wrap64 ((wrap64 ((wrap64 (Int.tmod (rd x0_1 0) 128)) * 16777216)) + (wrap64 ((wrap64 (rd x0_1 1)) * 65536)))) + (wrap64 ((wrap64 (rd x0_1 2)) * 256)))) + (wrap64 (rd x0_1 3))))))) = true := decide_eq_true c24
                      clear c24
                      simp only [Option.some.injEq, Prod.mk.injEq] at H
                      obtain ⟨rfl, rfl, rfl, rfl⟩ := H
                      obtain ⟨Ao25, co25, eo25⟩ := Kd.V_slice HO_0.out
                      subst eo25
                      have p236 : 0 ≤ (0 : Int) := (by omega)
                      have q236 : 0 < (x0_1.length : Int) := of_decide_eq_true (by first | (with_reducible assumption) | assumption)
                      obtain ⟨ad236, e236, hx236_0⟩ := Kd.at_int (Kd.V_reads' HO_0.out).2.2 0 p236 q236
                      cases e236
                      have qi236 : (0 < x0_1.length) = True := eq_true (by omega)
                      (try rw [show ((0 : Int)).toNat = 0 from rfl] at hx236_0)
                      (try rw [Addr.add_zero'] at hx236_0)
                      replace p236 := eq_true p236
                      replace q236 := eq_true q236
                      have p237 : 0 ≤ (1 : Int) := (by omega)
                      have q237 : 1 < (x0_1.length : Int) := of_decide_eq_true (by first | (with_reducible assumption) | assumption)
                      obtain ⟨ad237, e237, hx237_0⟩ := Kd.at_int (Kd.V_reads' HO_0.out).2.2 1 p237 q237
                      obtain rfl : ad236 = ad237 := (by injection e237)
                      (try simp only [show (1 : Int).toNat = 1 from rfl, Nat.reduceMul, Nat.reduceEqDiff, Go.Addr.add, ↓reduceIte] at hx237_0)
                      have qi237 : (1 < x0_1.length) = True := eq_true (by omega)
                      (try rw [show ((1 : Int)).toNat = 1 from rfl] at hx237_0)
                      replace p237 := eq_true p237
                      replace q237 := eq_true q237
                      have p238 : 0 ≤ (2 : Int) := (by omega)
                      have q238 : 2 < (x0_1.length : Int) := of_decide_eq_true (by first | (with_reducible assumption) | assumption)
                      obtain ⟨ad238, e238, hx238_0⟩ := Kd.at_int (Kd.V_reads' HO_0.out).2.2 2 p238 q238
                      obtain rfl : ad236 = ad238 := (by injection e238)
                      (try simp only [show (2 : Int).toNat = 2 from rfl, Nat.reduceMul, Nat.reduceEqDiff, Go.Addr.add, ↓reduceIte] at hx238_0)
                      have qi238 : (2 < x0_1.length) = True := eq_true (by omega)
                      (try rw [show ((2 : Int)).toNat = 2 from rfl] at hx238_0)
                      replace p238 := eq_true p238
                      replace q238 := eq_true q238
                      have p239 : 0 ≤ (3 : Int) := (by omega)
                      have q239 : 3 < (x0_1.length : Int) := of_decide_eq_true (by first | (with_reducible assumption) | assumption)
                      obtain ⟨ad239, e239, hx239_0⟩ := Kd.at_int (Kd.V_reads' HO_0.out).2.2 3 p239 q239
                      obtain rfl : ad236 = ad239 := (by injection e239)
                      (try simp only [show (3 : Int).toNat = 3 from rfl, Nat.reduceMul, Nat.reduceEqDiff, Go.Addr.add, ↓reduceIte] at hx239_0)
                      have qi239 : (3 < x0_1.length) = True := eq_true (by omega)
                      (try rw [show ((3 : Int)).toNat = 3 from rfl] at hx239_0)
                      replace p239 := eq_true p239
                      replace q239 := eq_true q239
                      obtain ⟨Ao26, co26, eo26⟩ := Kd.R_slice HO_8.out
                      subst eo26
                      have hnb27 := NB235_234.out
                      have hnc27 := NB234_235.out
                      have hcz28_0 : wr.cell? ⟨gb235, 0, none⟩ = some (u236000) := (blk_cell BK235.out 0).trans rfl
                      have hcz28_1 : wr.cell? ⟨gb235, 1, none⟩ = some (.int .i64 0) := (blk_cell BK235.out 1).trans rfl
                      have hcz28_2 : wr.cell? ⟨gb235, 2, none⟩ = some (.int .i64 x236002_1) := (blk_cell BK235.out 2).trans rfl
                      have hcz28_3 : wr.cell? ⟨gb235, 3, none⟩ = some (.bool false) := (blk_cell BK235.out 3).trans rfl
                      have hfz28_0 := blk_frozen BK235.out 0
                      have hfz28_1 := blk_frozen BK235.out 1
                      have hfz28_2 := blk_frozen BK235.out 2
                      have hfz28_3 := blk_frozen BK235.out 3
                      obtain ⟨Ao29, co29, eo29⟩ := Kd.S_slice HO_236000.out
                      subst eo29
                      have hcz30_0 : wr.cell? ⟨gb234, 0, none⟩ = some (.slice none 0 0) := (blk_cell BK234.out 0).trans rfl
                      have hcz30_1 : wr.cell? ⟨gb234, 1, none⟩ = some (.int .i64 x235001_1) := (blk_cell BK234.out 1).trans rfl
                      have hcz30_2 : wr.cell? ⟨gb234, 2, none⟩ = some (.int .i64 x235002_1) := (blk_cell BK234.out 2).trans rfl
                      have hcz30_3 : wr.cell? ⟨gb234, 3, none⟩ = some (.bool x235003_1) := (blk_cell BK234.out 3).trans rfl
                      have hfz30_0 := blk_frozen BK234.out 0
                      have hfz30_1 := blk_frozen BK234.out 1
                      have hfz30_2 := blk_frozen BK234.out 2
                      have hfz30_3 := blk_frozen BK234.out 3
                      go_wp2
                      repeat (go_quiet (fail); try go_wp2)
                      refine bodyPost_ret (results_cell_row rfl _ _ gb234 57 #[.slice Ao29 x236000_1.length co29, .int .i64 0, .int .i64 (wrap64 ((wrap64 ((x8_1.length : Int) + (x0_1.length : Int))) - 4)), .bool false] (0, 0) _ rfl (by (with_reducible repeat (first | refine blk_drewN ?_ _ | refine blk_drew ?_ | refine blk_alloc ?_ _)); refine blk_put (cs := #[.slice Ao29 x236000_1.length co29, .int .i64 0, .int .i64 (wrap64 ((wrap64 ((x8_1.length : Int) + (x0_1.length : Int))) - 4)), .bool x235003_1]) ?_ 3 _ rfl; (with_reducible repeat (first | refine blk_drewN ?_ _ | refine blk_drew ?_ | refine blk_alloc ?_ _)); refine blk_put (cs := #[.slice Ao29 x236000_1.length co29, .int .i64 0, .int .i64 x235002_1, .bool x235003_1]) ?_ 2 _ rfl; (with_reducible repeat (first | refine blk_drewN ?_ _ | refine blk_drew ?_ | refine blk_alloc ?_ _)); refine blk_put (cs := #[.slice Ao29 x236000_1.length co29, .int .i64 x235001_1, .int .i64 x235002_1, .bool x235003_1]) ?_ 1 _ rfl; (with_reducible repeat (first | refine blk_drewN ?_ _ | refine blk_drew ?_ | refine blk_alloc ?_ _)); refine blk_put (cs := #[.slice none 0 0, .int .i64 x235001_1, .int .i64 x235002_1, .bool x235003_1]) ?_ 0 _ rfl; (with_reducible repeat (first | refine blk_drewN ?_ _ | refine blk_drew ?_ | refine blk_alloc ?_ _)); refine blk_far ?_ NB234_235.out _; (with_reducible repeat (first | refine blk_drewN ?_ _ | refine blk_drew ?_ | refine blk_alloc ?_ _)); exact BK234.out) Try.underlying57 rfl (by kernel_rfl)) rfl ?_
                      exact ⟨_, by first | rfl | (simp [errW_none, errW_some] <;> rfl) | (simp [*, errW_none, errW_some] <;> rfl), by (with_reducible repeat (first | apply Kd.S_alloc | apply Kd.S_drewN | apply Kd.S_drew)); exact Kd.S_mono (Kd.S_far (p := ⟨gb234, 3, none⟩) (Kd.S_far (p := ⟨gb234, 2, none⟩) (Kd.S_far (p := ⟨gb234, 1, none⟩) (Kd.S_far (p := ⟨gb234, 0, none⟩) (Kd.S_far (p := ⟨gb235, 2, none⟩) (Kd.S_types (Kd.S_types HO_236000.out BK235.out (by decide)) BK234.out (by decide)) (fun _ hk => hk.1.2) (.int .i64 (wrap64 ((wrap64 ((x8_1.length : Int) + (x0_1.length : Int))) - 4)))) (fun _ hk => hk.2) (.slice Ao29 x236000_1.length co29)) (fun _ hk => hk.2) (.int .i64 0)) (fun _ hk => hk.2) (.int .i64 (wrap64 ((wrap64 ((x8_1.length : Int) + (x0_1.length : Int))) - 4)))) (fun _ hk => hk.2) (.bool false)) (fun _ hk => hk.1.1.1), by repeat (first | (with_reducible first | exact HB.out | apply below_alloc | apply pw_below_drewN | apply below_drew1 | refine below_set ?_ GE234.out | refine below_set ?_ GE235.out) | exact HB.out)⟩
                    · rw [if_neg c24] at H
                      have c24b0 : decide ((x0_1.length : Int) < (wrap64 (4 + (wrap64 ((wrap64 ((wrap64 ((wrap64 ((wrap64 (Int.tmod (rd x0_1 0) 128)) * 16777216)) + (wrap64 ((wrap64 (rd x0_1 1)) * 65536)))) + (wrap64 ((wrap64 (rd x0_1 2)) * 256)))) + (wrap64 (rd x0_1 3))))))) = false := decide_eq_false c24
                      clear c24
                      by_cases c31 : 4 ≤ (wrap64 (4 + (wrap64 ((wrap64 ((wrap64 ((wrap64 ((wrap64 (Int.tmod (rd x0_1 0) 128)) * 16777216)) + (wrap64 ((wrap64 (rd x0_1 1)) * 65536)))) + (wrap64 ((wrap64 (rd x0_1 2)) * 256)))) + (wrap64 (rd x0_1 3))))))
                      · rw [if_pos c31] at H
                        have c31b0 := eq_true c31
                        have c31b1 : decide (4 ≤ (wrap64 (4 + (wrap64 ((wrap64 ((wrap64 ((wrap64 ((wrap64 (Int.tmod (rd x0_1 0) 128)) * 16777216)) + (wrap64 ((wrap64 (rd x0_1 1)) * 65536)))) + (wrap64 ((wrap64 (rd x0_1 2)) * 256)))) + (wrap64 (rd x0_1 3))))))) = true := decide_eq_true c31
                        by_cases c32 : (wrap64 (4 + (wrap64 ((wrap64 ((wrap64 ((wrap64 ((wrap64 (Int.tmod (rd x0_1 0) 128)) * 16777216)) + (wrap64 ((wrap64 (rd x0_1 1)) * 65536)))) + (wrap64 ((wrap64 (rd x0_1 2)) * 256)))) + (wrap64 (rd x0_1 3)))))) ≤ (x0_1.length : Int)
                        · rw [if_pos c32] at H
                          have c32b0 := eq_true c32
                          have c32b1 : decide ((wrap64 (4 + (wrap64 ((wrap64 ((wrap64 ((wrap64 ((wrap64 (Int.tmod (rd x0_1 0) 128)) * 16777216)) + (wrap64 ((wrap64 (rd x0_1 1)) * 65536)))) + (wrap64 ((wrap64 (rd x0_1 2)) * 256)))) + (wrap64 (rd x0_1 3)))))) ≤ (x0_1.length : Int)) = true := decide_eq_true c32
                          obtain ⟨y240, hy240⟩ : ∃ y_ : List Int, y_ = ((x0_1.take ((wrap64 (4 + (wrap64 ((wrap64 ((wrap64 ((wrap64 ((wrap64 (Int.tmod (rd x0_1 0) 128)) * 16777216)) + (wrap64 ((wrap64 (rd x0_1 1)) * 65536)))) + (wrap64 ((wrap64 (rd x0_1 2)) * 256)))) + (wrap64 (rd x0_1 3)))))) : Int).toNat).drop 4) := ⟨_, rfl⟩
                          replace H : (if x8_1.length + y240.length < 140737488355328 then ((some (x8_1 ++ y240 : List Int)).bind fun y245 => (if (rd x0_1 0) > 127 then (if x236000_1.length < 5864062014805 then (if 0 ≤ (wrap64 (4 + (wrap64 ((wrap64 ((wrap64 ((wrap64 ((wrap64 (Int.tmod (rd x0_1 0) 128)) * 16777216)) + (wrap64 ((wrap64 (rd x0_1 1)) * 65536)))) + (wrap64 ((wrap64 (rd x0_1 2)) * 256)))) + (wrap64 (rd x0_1 3)))))) then (truchmanref04_All.l0 k1 (x0_1.drop ((wrap64 (4 + (wrap64 ((wrap64 ((wrap64 ((wrap64 ((wrap64 (Int.tmod (rd x0_1 0) 128)) * 16777216)) + (wrap64 ((wrap64 (rd x0_1 1)) * 65536)))) + (wrap64 ((wrap64 (rd x0_1 2)) * 256)))) + (wrap64 (rd x0_1 3)))))) : Int).toNat) a1 a2 ([] : List Int) 0 (x236000_1 ++ [y245]) 0 x236002_1 false) else (none)) else (none)) else (if 0 ≤ (wrap64 (4 + (wrap64 ((wrap64 ((wrap64 ((wrap64 ((wrap64 (Int.tmod (rd x0_1 0) 128)) * 16777216)) + (wrap64 ((wrap64 (rd x0_1 1)) * 65536)))) + (wrap64 ((wrap64 (rd x0_1 2)) * 256)))) + (wrap64 (rd x0_1 3)))))) then (truchmanref04_All.l0 k1 (x0_1.drop ((wrap64 (4 + (wrap64 ((wrap64 ((wrap64 ((wrap64 ((wrap64 (Int.tmod (rd x0_1 0) 128)) * 16777216)) + (wrap64 ((wrap64 (rd x0_1 1)) * 65536)))) + (wrap64 ((wrap64 (rd x0_1 2)) * 256)))) + (wrap64 (rd x0_1 3)))))) : Int).toNat) a1 a2 y245 (wrap64 (x9_1 + 1)) x236000_1 0 x236002_1 false) else (none)))) else (none)) = some (r1, r2, r3, r4) := by first | (rw [hy240]; with_reducible exact H) | (have H2_ := (Option.bind_some _ _).symm.trans H; rw [hy240]; with_reducible exact H2_) | (have H2_ := (Option.bind_some _ _).symm.trans H; with_reducible exact H2_) | with_reducible exact H | (rw [hy240]; exact H) | exact H
                          have Ny240 := Aside0.mk hy240
                          clear hy240
                          by_cases c33 : x8_1.length + y240.length < 140737488355328
                          · rw [if_pos c33] at H
                            have LMc33 := Aside0.mk c33
                            clear c33
                            obtain ⟨y245, hy245⟩ : ∃ y_ : List Int, y_ = (x8_1 ++ y240) := ⟨_, rfl⟩
                            replace H : (if (rd x0_1 0) > 127 then (if x236000_1.length < 5864062014805 then (if 0 ≤ (wrap64 (4 + (wrap64 ((wrap64 ((wrap64 ((wrap64 ((wrap64 (Int.tmod (rd x0_1 0) 128)) * 16777216)) + (wrap64 ((wrap64 (rd x0_1 1)) * 65536)))) + (wrap64 ((wrap64 (rd x0_1 2)) * 256)))) + (wrap64 (rd x0_1 3)))))) then (truchmanref04_All.l0 k1 (x0_1.drop ((wrap64 (4 + (wrap64 ((wrap64 ((wrap64 ((wrap64 ((wrap64 (Int.tmod (rd x0_1 0) 128)) * 16777216)) + (wrap64 ((wrap64 (rd x0_1 1)) * 65536)))) + (wrap64 ((wrap64 (rd x0_1 2)) * 256)))) + (wrap64 (rd x0_1 3)))))) : Int).toNat) a1 a2 ([] : List Int) 0 (x236000_1 ++ [y245]) 0 x236002_1 false) else (none)) else (none)) else (if 0 ≤ (wrap64 (4 + (wrap64 ((wrap64 ((wrap64 ((wrap64 ((wrap64 (Int.tmod (rd x0_1 0) 128)) * 16777216)) + (wrap64 ((wrap64 (rd x0_1 1)) * 65536)))) + (wrap64 ((wrap64 (rd x0_1 2)) * 256)))) + (wrap64 (rd x0_1 3)))))) then (truchmanref04_All.l0 k1 (x0_1.drop ((wrap64 (4 + (wrap64 ((wrap64 ((wrap64 ((wrap64 ((wrap64 (Int.tmod (rd x0_1 0) 128)) * 16777216)) + (wrap64 ((wrap64 (rd x0_1 1)) * 65536)))) + (wrap64 ((wrap64 (rd x0_1 2)) * 256)))) + (wrap64 (rd x0_1 3)))))) : Int).toNat) a1 a2 y245 (wrap64 (x9_1 + 1)) x236000_1 0 x236002_1 false) else (none))) = some (r1, r2, r3, r4) := by first | (rw [hy245]; with_reducible exact H) | (have H2_ := (Option.bind_some _ _).symm.trans H; rw [hy245]; with_reducible exact H2_) | (have H2_ := (Option.bind_some _ _).symm.trans H; with_reducible exact H2_) | with_reducible exact H | (rw [hy245]; exact H) | exact H
                            have Ny245 := Aside0.mk hy245
                            clear hy245
                            by_cases c34 : (rd x0_1 0) > 127
                            · rw [if_pos c34] at H
                              have c34b0 : decide (127 < (rd x0_1 0)) = true := decide_eq_true c34
                              clear c34
                              by_cases c35 : x236000_1.length < 5864062014805
                              · rw [if_pos c35] at H
                                have LMc35 := Aside0.mk c35
                                clear c35
                                obtain ⟨y249, hy249⟩ : ∃ y_ : List (List Int), y_ = (x236000_1 ++ [y245]) := ⟨_, rfl⟩
                                replace H : (if 0 ≤ (wrap64 (4 + (wrap64 ((wrap64 ((wrap64 ((wrap64 ((wrap64 (Int.tmod (rd x0_1 0) 128)) * 16777216)) + (wrap64 ((wrap64 (rd x0_1 1)) * 65536)))) + (wrap64 ((wrap64 (rd x0_1 2)) * 256)))) + (wrap64 (rd x0_1 3)))))) then (truchmanref04_All.l0 k1 (x0_1.drop ((wrap64 (4 + (wrap64 ((wrap64 ((wrap64 ((wrap64 ((wrap64 (Int.tmod (rd x0_1 0) 128)) * 16777216)) + (wrap64 ((wrap64 (rd x0_1 1)) * 65536)))) + (wrap64 ((wrap64 (rd x0_1 2)) * 256)))) + (wrap64 (rd x0_1 3)))))) : Int).toNat) a1 a2 ([] : List Int) 0 y249 0 x236002_1 false) else (none)) = some (r1, r2, r3, r4) := by first | (rw [hy249]; with_reducible exact H) | (have H2_ := (Option.bind_some _ _).symm.trans H; rw [hy249]; with_reducible exact H2_) | (have H2_ := (Option.bind_some _ _).symm.trans H; with_reducible exact H2_) | with_reducible exact H | (rw [hy249]; exact H) | exact H
                                have Ny249 := Aside0.mk hy249
                                clear hy249
                                obtain ⟨ji36, hji36⟩ : ∃ j_ : Int, (wrap64 (4 + (wrap64 ((wrap64 ((wrap64 ((wrap64 ((wrap64 (Int.tmod (rd x0_1 0) 128)) * 16777216)) + (wrap64 ((wrap64 (rd x0_1 1)) * 65536)))) + (wrap64 ((wrap64 (rd x0_1 2)) * 256)))) + (wrap64 (rd x0_1 3)))))) = j_ := ⟨_, rfl⟩
                                replace H : (if 0 ≤ (ji36) then (truchmanref04_All.l0 k1 (x0_1.drop ((ji36) : Int).toNat) a1 a2 ([] : List Int) 0 y249 0 x236002_1 false) else (none)) = some (r1, r2, r3, r4) := by first | (rw [hji36] at H; exact H) | (simp only [hji36] at H ⊢; exact H)
                                (try rw [hji36] at c24b0)
                                (try rw [hji36] at c31b0)
                                (try rw [hji36] at c31b1)
                                (try rw [hji36] at c31)
                                (try rw [hji36] at c32b0)
                                (try rw [hji36] at c32b1)
                                (try rw [hji36] at c32)
                                (try rw [hji36] at Ny240)
                                (try rw [hji36] at Ny240)
                                have hji36w : (IntKind.i64.wrap (4 + (wrap64 ((wrap64 ((wrap64 ((wrap64 ((wrap64 (Int.tmod (rd x0_1 0) 128)) * 16777216)) + (wrap64 ((wrap64 (rd x0_1 1)) * 65536)))) + (wrap64 ((wrap64 (rd x0_1 2)) * 256)))) + (wrap64 (rd x0_1 3)))))) = ji36 := (i64_w _).trans hji36
                                by_cases c37 : 0 ≤ (ji36)
                                · rw [if_pos c37] at H
                                  have c37b0 := eq_true c37
                                  have c37b1 : decide (0 ≤ (ji36)) = true := decide_eq_true c37
                                  clear c37
                                  have c38b0 := eq_true (of_decide_eq_true (by first | (with_reducible assumption) | assumption) : (ji36) ≤ (x0_1.length : Int))
                                  obtain ⟨y252, hy252⟩ : ∃ y_ : List Int, y_ = (x0_1.drop ((ji36) : Int).toNat) := ⟨_, rfl⟩
                                  replace H : (truchmanref04_All.l0 k1 y252 a1 a2 ([] : List Int) 0 y249 0 x236002_1 false) = some (r1, r2, r3, r4) := by first | (rw [hy252]; with_reducible exact H) | (have H2_ := (Option.bind_some _ _).symm.trans H; rw [hy252]; with_reducible exact H2_) | (have H2_ := (Option.bind_some _ _).symm.trans H; with_reducible exact H2_) | with_reducible exact H | (rw [hy252]; exact H) | exact H
                                  have Ny252 := Aside0.mk hy252
                                  clear hy252
                                  have H' := Aside0.mk H
                                  clear H
                                  obtain ⟨Ao39, co39, eo39⟩ := Kd.V_slice HO_0.out
                                  subst eo39
                                  have p236 : 0 ≤ (0 : Int) := (by omega)
                                  have q236 : 0 < (x0_1.length : Int) := of_decide_eq_true (by first | (with_reducible assumption) | assumption)
                                  obtain ⟨ad236, e236, hx236_0⟩ := Kd.at_int (Kd.V_reads' HO_0.out).2.2 0 p236 q236
                                  cases e236
                                  have qi236 : (0 < x0_1.length) = True := eq_true (by omega)
                                  (try rw [show ((0 : Int)).toNat = 0 from rfl] at hx236_0)
                                  (try rw [Addr.add_zero'] at hx236_0)
                                  replace p236 := eq_true p236
                                  replace q236 := eq_true q236
                                  have p237 : 0 ≤ (1 : Int) := (by omega)
                                  have q237 : 1 < (x0_1.length : Int) := of_decide_eq_true (by first | (with_reducible assumption) | assumption)
                                  obtain ⟨ad237, e237, hx237_0⟩ := Kd.at_int (Kd.V_reads' HO_0.out).2.2 1 p237 q237
                                  obtain rfl : ad236 = ad237 := (by injection e237)
                                  (try simp only [show (1 : Int).toNat = 1 from rfl, Nat.reduceMul, Nat.reduceEqDiff, Go.Addr.add, ↓reduceIte] at hx237_0)
                                  have qi237 : (1 < x0_1.length) = True := eq_true (by omega)
                                  (try rw [show ((1 : Int)).toNat = 1 from rfl] at hx237_0)
                                  replace p237 := eq_true p237
                                  replace q237 := eq_true q237
                                  have p238 : 0 ≤ (2 : Int) := (by omega)
                                  have q238 : 2 < (x0_1.length : Int) := of_decide_eq_true (by first | (with_reducible assumption) | assumption)
                                  obtain ⟨ad238, e238, hx238_0⟩ := Kd.at_int (Kd.V_reads' HO_0.out).2.2 2 p238 q238
                                  obtain rfl : ad236 = ad238 := (by injection e238)
                                  (try simp only [show (2 : Int).toNat = 2 from rfl, Nat.reduceMul, Nat.reduceEqDiff, Go.Addr.add, ↓reduceIte] at hx238_0)
                                  have qi238 : (2 < x0_1.length) = True := eq_true (by omega)
                                  (try rw [show ((2 : Int)).toNat = 2 from rfl] at hx238_0)
                                  replace p238 := eq_true p238
                                  replace q238 := eq_true q238
                                  have p239 : 0 ≤ (3 : Int) := (by omega)
                                  have q239 : 3 < (x0_1.length : Int) := of_decide_eq_true (by first | (with_reducible assumption) | assumption)
                                  obtain ⟨ad239, e239, hx239_0⟩ := Kd.at_int (Kd.V_reads' HO_0.out).2.2 3 p239 q239
                                  obtain rfl : ad236 = ad239 := (by injection e239)
                                  (try simp only [show (3 : Int).toNat = 3 from rfl, Nat.reduceMul, Nat.reduceEqDiff, Go.Addr.add, ↓reduceIte] at hx239_0)
                                  have qi239 : (3 < x0_1.length) = True := eq_true (by omega)
                                  (try rw [show ((3 : Int)).toNat = 3 from rfl] at hx239_0)
                                  replace p239 := eq_true p239
                                  replace q239 := eq_true q239
                                  obtain ⟨Ao40, co40, eo40⟩ := Kd.R_slice HO_8.out
                                  subst eo40
                                  have q41 : ((ji36) : Int) ≤ ((x0_1.length : Int) : Int) := of_decide_eq_true (by first | (with_reducible assumption) | assumption)
                                  obtain ⟨i041, hi041, _, hsz41, _⟩ := info_parts info5
                                  have hroom41 : x0_1.length ≤ co39 := (Kd.V_reads' HO_0.out).2.1
                                  have hC41 : Kd.F (Kd.int .u8) _ _ (some ad236) x0_1.length x0_1 := (Kd.V_at (base := w.heap.size) HO_0.out).2.2
                                  have ql41 : (4 : Int) ≤ ((ji36) : Int) := of_decide_eq_true (by first | (with_reducible assumption) | assumption)
                                  have hcut41 := cut_mid (P := Try.prog) 28 5 .i64 .i64 Try.underlying28 hi041 1 hsz41 (some ad236) x0_1.length co39 4 (ji36) (by omega) ql41 q41 hroom41
                                  have hr41 := Kd.F_mid (lo := (4 : Int).toNat) (hi := ((ji36) : Int).toNat) (c := co39) hC41 (by omega) (by omega) hroom41
                                  obtain ⟨A41, hA41⟩ : ∃ A1, A1 = (if co39 = (4 : Int).toNat then (some ad236) else ((some ad236) : Option Addr).map (·.add ((4 : Int).toNat * 1))) := ⟨_, rfl⟩
                                  obtain ⟨c41, hc41⟩ : ∃ c1, c1 = co39 - (4 : Int).toNat := ⟨_, rfl⟩
                                  have hy41 : y240.length = ((ji36) : Int).toNat - (4 : Int).toNat := (by rw [Ny240.out, List.length_drop, List.length_take] <;> omega)
                                  rw [show ((x0_1).take ((ji36) : Int).toNat).drop (4 : Int).toNat = y240 from Ny240.out.symm] at hr41
                                  replace hr41 : Kd.F (Kd.int .u8) _ _ A41 y240.length y240 := (by rw [hA41]; exact hr41)
                                  rw [← hy41, ← hA41, ← hc41] at hcut41
                                  have HO244 := Aside0.mk (show Kd.V (Kd.int .u8) 5 _ w.heap.size _ (.slice A41 y240.length c41) y240 from Kd.V_mk (by rw [hy41, hc41]; exact Nat.sub_le_sub_right (Nat.le_trans (by omega) hroom41) _) hr41)
                                  have HC244 := Aside0.mk (show y240.length ≤ c41 from by rw [hy41, hc41]; exact Nat.sub_le_sub_right (Nat.le_trans (by omega) hroom41) _)
                                  clear hr41 hC41 hroom41 hi041 hsz41 hc41
                                  have KY41 := Aside0.mk hy41
                                  have KA41 := Aside0.mk hA41
                                  clear hy41 hA41
                                  replace q41 := eq_true q41
                                  go_wp2_with (first | ((with_reducible refine gate_builtin (b := .append) (xs := #[.tmp 67, .tmp 71]) rfl ?_); (try (refine gate_guard (by rfl) ?_; dsimp only)); at_builtin; refine Kd.R_append_rows (Kd.int .u8) (w0 := w) w.heap.size rfl (.tmp 67) (.tmp 71) 28 5 (.int .u8 0) 1 rfl Try.underlying28 info5 rfl (by decide) (by omega) (.slice Ao40 x8_1.length co40) x8_1 y240 _ _ _ (fun k_ => (w.heap.size ≤ k_)) (fun _ => False) rfl rfl ?aO ?aR (fun _ _ h => h) (fun _ h => h.elim) ?aF ?aB ?aS ?aL ?_; (case aR => repeat (first | exact (Kd.V_reads' HO244.out).2.2 | (with_reducible refine Kd.C_alloc ?_ _) | (with_reducible refine Kd.C_drewN ?_ _) | (with_reducible refine Kd.C_drew ?_))); (case aB => exact (by repeat (first | (with_reducible first | exact HB.out | apply below_alloc | apply pw_below_drewN | apply below_drew1 | refine below_set ?_ GE234.out | refine below_set ?_ GE235.out) | exact HB.out))); (case aF => exact (fun k_ hk => (Nat.le_trans (below_size (by repeat (first | (with_reducible first | exact HB.out | apply below_alloc | apply pw_below_drewN | apply below_drew1 | refine below_set ?_ GE234.out | refine below_set ?_ GE235.out) | exact HB.out))) hk))); (case aO => exact (by (with_reducible repeat (first | apply Kd.R_alloc | apply Kd.R_drewN | apply Kd.R_drew)); exact HO_8.out)); (case aS => exact (below_size (by repeat (first | (with_reducible first | exact HB.out | apply below_alloc | apply pw_below_drewN | apply below_drew1 | refine below_set ?_ GE234.out | refine below_set ?_ GE235.out) | exact HB.out)))); (case aL => have := LMc33.out; omega); intro v246 w42 ho hb hg hat; rw [← Ny245.out] at ho; have n0_ := Aside0.mk (Kd.V_afterv (ok := (fun k_ => (P0_ k_ ∨ w.heap.size ≤ k_) ∧ some k_ ≠ (u236000 : Value).ownBlock ∧ k_ ≠ gb234 ∧ k_ ≠ gb235)) (by (with_reducible repeat (first | apply Kd.V_alloc | apply Kd.V_drewN | apply Kd.V_drew)); exact Kd.V_mono HO_0.out (fun _ hk => ⟨⟨hk.1, ⟨hk.2.2.1, ⟨hk.2.2.2.1, hk.2.2.2.2⟩⟩⟩, hk.2.1⟩)) hg hat); have n1_ := Aside0.mk (Kd.S_after (ok := (fun k_ => (w.heap.size ≤ k_))) (by (with_reducible repeat (first | apply Kd.S_alloc | apply Kd.S_drewN | apply Kd.S_drew)); exact HO_236000.out) hg hat); have n2_ := Aside0.mk (blk_grown (g := gb234) (o := .cells #[.slice none 0 0, .int .i64 x235001_1, .int .i64 x235002_1, .bool x235003_1] 57 (0, 0)) (by (with_reducible repeat (first | refine blk_drewN ?_ _ | refine blk_drew ?_ | refine blk_alloc ?_ _)); exact BK234.out) hg (Kd.R_ne HO_8.out BK234.out (by decide))); have n3_ := Aside0.mk (blk_grown (g := gb235) (o := .cells #[u236000, .int .i64 0, .int .i64 x236002_1, .bool false] 57 (0, 0)) (by (with_reducible repeat (first | refine blk_drewN ?_ _ | refine blk_drew ?_ | refine blk_alloc ?_ _)); exact BK235.out) hg (Kd.R_ne HO_8.out BK235.out (by decide))); have n4_ := Aside0.mk (Kd.V_afterv (ok := (fun k_ => (P0_ k_ ∨ w.heap.size ≤ k_) ∧ some k_ ≠ (u236000 : Value).ownBlock ∧ k_ ≠ gb234 ∧ k_ ≠ gb235)) (by (with_reducible repeat (first | apply Kd.V_alloc | apply Kd.V_drewN | apply Kd.V_drew)); exact Kd.V_mono HO244.out (fun _ hk => ⟨⟨hk.1, ⟨hk.2.2.1, ⟨hk.2.2.2.1, hk.2.2.2.2⟩⟩⟩, hk.2.1⟩)) hg hat); have n5_ := Aside0.mk (hb); have n6_ := Aside0.mk (ho); clear HO_0; clear HO_236000; clear BK234; clear BK235; clear HO244; clear HB; clear HO_8; have HO_0 := n0_; have HO_236000 := n1_; have BK234 := n2_; have BK235 := n3_; have HO244 := n4_; have HB := n5_; have HO247 := n6_; clear n0_ n1_ n2_ n3_ n4_ n5_ n6_; clear ho hb hg hat; have p248 : 0 ≤ (0 : Int) := (by omega); have q248 : 0 < (x0_1.length : Int) := of_decide_eq_true (by first | (with_reducible assumption) | assumption); obtain ⟨ad248, e248, hx248_0⟩ := Kd.at_int (Kd.V_reads' HO_0.out).2.2 0 p248 q248; obtain rfl : ad236 = ad248 := (by injection e248); have qi248 : (0 < x0_1.length) = True := eq_true (by omega); (try rw [show ((0 : Int)).toNat = 0 from rfl] at hx248_0); (try rw [Addr.add_zero'] at hx248_0); replace p248 := eq_true p248; replace q248 := eq_true q248; have hnb43 := NB235_234.out; have hnc43 := NB234_235.out; have hcz44_0 : w42.cell? ⟨gb235, 0, none⟩ = some (u236000) := (blk_cell BK235.out 0).trans rfl; have hcz44_1 : w42.cell? ⟨gb235, 1, none⟩ = some (.int .i64 0) := (blk_cell BK235.out 1).trans rfl; have hcz44_2 : w42.cell? ⟨gb235, 2, none⟩ = some (.int .i64 x236002_1) := (blk_cell BK235.out 2).trans rfl; have hcz44_3 : w42.cell? ⟨gb235, 3, none⟩ = some (.bool false) := (blk_cell BK235.out 3).trans rfl; have hfz44_0 := blk_frozen BK235.out 0; have hfz44_1 := blk_frozen BK235.out 1; have hfz44_2 := blk_frozen BK235.out 2; have hfz44_3 := blk_frozen BK235.out 3; obtain ⟨Ao46, co46, eo46⟩ := Kd.R_slice HO247.out; subst eo46) | ((with_reducible refine gate_builtin (b := .append) (xs := #[.tmp 78, .tmp 80]) rfl ?_); (try (refine gate_guard (by rfl) ?_; dsimp only)); at_builtin; refine Kd.S_append (Kd.slice 5 (Kd.int .u8)) (w0 := w) w.heap.size rfl (.tmp 78) (.tmp 80) 42 28 (.slice none 0 0) 24 rfl Try.underlying42 info28 rfl (by decide) (by omega) u236000 x236000_1 y245 [.slice Ao46 y245.length co46] (fun k_ => (w.heap.size ≤ k_)) (fun k_ => some k_ = (.slice Ao46 y245.length co46 : Value).ownBlock) rfl rfl ?aP (fun k_ hk_ => ((Kd.R_mono (ok' := fun k_ => ((fun k_ => (w.heap.size ≤ k_))) k_ ∧ some k_ ≠ (u236000 : Value).ownBlock) (Kd.R_apart' (HO247.out) (Kd.S_typed HO_236000.out) (by decide)) (fun k_ hk => ⟨hk.1, hk.2⟩))).1 k_ hk_.symm) ?aF ?aO ?aB ?aS ?aL ?_; (case aP => exact Kd.M_row (Kd.R_mono (Kd.R_tight rfl (Kd.R_mono (ok' := fun k_ => ((fun k_ => (w.heap.size ≤ k_))) k_ ∧ some k_ ≠ (u236000 : Value).ownBlock) (Kd.R_apart' (HO247.out) (Kd.S_typed HO_236000.out) (by decide)) (fun k_ hk => ⟨hk.1, hk.2⟩))) (fun _ h_ => h_))); (case aB => exact (by repeat (first | (with_reducible first | exact HB.out | apply below_alloc | apply pw_below_drewN | apply below_drew1 | refine below_set ?_ GE234.out | refine below_set ?_ GE235.out) | exact HB.out))); (case aF => exact (fun k_ hk => (Nat.le_trans (below_size (by repeat (first | (with_reducible first | exact HB.out | apply below_alloc | apply pw_below_drewN | apply below_drew1 | refine below_set ?_ GE234.out | refine below_set ?_ GE235.out) | exact HB.out))) hk))); (case aO => exact (by (with_reducible repeat (first | apply Kd.S_alloc | apply Kd.S_drewN | apply Kd.S_drew)); exact Kd.S_mono HO_236000.out (fun k_ hk => ⟨hk.1, fun e_ => hk.2 e_⟩))); (case aS => exact (below_size (by repeat (first | (with_reducible first | exact HB.out | apply below_alloc | apply pw_below_drewN | apply below_drew1 | refine below_set ?_ GE234.out | refine below_set ?_ GE235.out) | exact HB.out)))); (case aL => have := LMc35.out; omega); intro v250 w45 ho hb hg hat; rw [← Ny249.out] at ho; have n0_ := Aside0.mk (Kd.V_afterv (ok := (fun k_ => (P0_ k_ ∨ w.heap.size ≤ k_) ∧ some k_ ≠ (.slice Ao46 y245.length co46 : Value).ownBlock ∧ k_ ≠ gb234 ∧ k_ ≠ gb235)) (by (with_reducible repeat (first | apply Kd.V_alloc | apply Kd.V_drewN | apply Kd.V_drew)); exact Kd.V_mono HO_0.out (fun _ hk => ⟨⟨hk.1.1, ⟨hk.2, ⟨hk.1.2.2.1, hk.1.2.2.2⟩⟩⟩, hk.1.2.1⟩)) hg hat); have n1_ := Aside0.mk (blk_grown (g := gb234) (o := .cells #[.slice none 0 0, .int .i64 x235001_1, .int .i64 x235002_1, .bool x235003_1] 57 (0, 0)) (by (with_reducible repeat (first | refine blk_drewN ?_ _ | refine blk_drew ?_ | refine blk_alloc ?_ _)); exact BK234.out) hg (Kd.S_ne HO_236000.out BK234.out (by decide))); have n2_ := Aside0.mk (blk_grown (g := gb235) (o := .cells #[u236000, .int .i64 0, .int .i64 x236002_1, .bool false] 57 (0, 0)) (by (with_reducible repeat (first | refine blk_drewN ?_ _ | refine blk_drew ?_ | refine blk_alloc ?_ _)); exact BK235.out) hg (Kd.S_ne HO_236000.out BK235.out (by decide))); have n3_ := Aside0.mk (Kd.V_afterv (ok := (fun k_ => (P0_ k_ ∨ w.heap.size ≤ k_) ∧ some k_ ≠ (.slice Ao46 y245.length co46 : Value).ownBlock ∧ k_ ≠ gb234 ∧ k_ ≠ gb235)) (by (with_reducible repeat (first | apply Kd.V_alloc | apply Kd.V_drewN | apply Kd.V_drew)); exact Kd.V_mono HO244.out (fun _ hk => ⟨⟨hk.1.1, ⟨hk.2, ⟨hk.1.2.2.1, hk.1.2.2.2⟩⟩⟩, hk.1.2.1⟩)) hg hat); have n4_ := Aside0.mk (hb); have n5_ := Aside0.mk (ho); clear HO_0; clear BK234; clear BK235; clear HO244; clear HB; clear HO_236000; clear HO247; have HO_0 := n0_; have BK234 := n1_; have BK235 := n2_; have HO244 := n3_; have HB := n4_; have HO251 := n5_; clear n0_ n1_ n2_ n3_ n4_ n5_; clear ho hb hg hat; obtain ⟨Ao47, co47, eo47⟩ := Kd.S_slice HO251.out; subst eo47; have hcz48_0 : w45.cell? ⟨gb235, 0, none⟩ = some (u236000) := (blk_cell BK235.out 0).trans rfl; have hcz48_1 : w45.cell? ⟨gb235, 1, none⟩ = some (.int .i64 0) := (blk_cell BK235.out 1).trans rfl; have hcz48_2 : w45.cell? ⟨gb235, 2, none⟩ = some (.int .i64 x236002_1) := (blk_cell BK235.out 2).trans rfl; have hcz48_3 : w45.cell? ⟨gb235, 3, none⟩ = some (.bool false) := (blk_cell BK235.out 3).trans rfl; have hfz48_0 := blk_frozen BK235.out 0; have hfz48_1 := blk_frozen BK235.out 1; have hfz48_2 := blk_frozen BK235.out 2; have hfz48_3 := blk_frozen BK235.out 3) | ((with_reducible refine gate_store (t := 42) (p := 82) rfl ?_); (try (rw [drewN_self w45]; generalize hq_ : World.drewN w45 _ = w45; have n0_ := Aside0.mk (Kd.V_at hq_ HO_0.out); have n1_ := Aside0.mk (Kd.V_at hq_ HO244.out); have n2_ := Aside0.mk (Kd.S_at hq_ HO251.out); have n3_ := Aside0.mk (blk_at hq_ BK234.out); have n4_ := Aside0.mk (blk_at hq_ BK235.out); have n5_ := Aside0.mk (below_at hq_ HB.out); clear hq_ HO_0 HO244 HO251 BK234 BK235 HB; have HO_0 := n0_; have HO244 := n1_; have HO251 := n2_; have BK234 := n3_; have BK235 := n4_; have HB := n5_; clear n0_ n1_ n2_ n3_ n4_ n5_)); refine store_event (t := 42) (p := 82) (v := ?vo_w49) (w1 := (w45.setCell ⟨gb235, 0, none⟩ (.slice Ao47 y249.length co47))) ?hg ?ho ?hn ?hr ?_; (case ho => rfl); (case hg => rfl); (case hn => rfl); (case hr => first | (go_simp; done) | (go_simp; rfl)); intro w49 hw; have n0_ : Aside0 (Kd.V (Kd.int .u8) 5 w49 w.heap.size (fun k_ => (P0_ k_ ∨ w.heap.size ≤ k_) ∧ some k_ ≠ (.slice Ao47 y249.length co47 : Value).ownBlock ∧ k_ ≠ gb234 ∧ k_ ≠ gb235) (.slice (some ad236) x0_1.length co39) x0_1) := ⟨(by rw [hw]; exact (by (with_reducible repeat (first | apply Kd.V_alloc | apply Kd.V_drewN | apply Kd.V_drew)); exact Kd.V_mono (Kd.V_far (p := ⟨gb235, 0, none⟩) (Kd.V_mono HO_0.out (fun k_ hk => (⟨hk, hk.1.2.2.2⟩ : _ ∧ k_ ≠ gb235))) (fun _ hk => hk.2) (.slice Ao47 y249.length co47)) (fun _ hk => ⟨hk.1.1.1, ⟨hk.1.2, ⟨hk.1.1.2.2.1, hk.1.1.2.2.2⟩⟩⟩)))⟩; have n1_ : Aside0 (Kd.V (Kd.int .u8) 5 w49 w.heap.size (fun k_ => (P0_ k_ ∨ w.heap.size ≤ k_) ∧ some k_ ≠ (.slice Ao47 y249.length co47 : Value).ownBlock ∧ k_ ≠ gb234 ∧ k_ ≠ gb235) (.slice A41 y240.length c41) y240) := ⟨(by rw [hw]; exact (by (with_reducible repeat (first | apply Kd.V_alloc | apply Kd.V_drewN | apply Kd.V_drew)); exact Kd.V_mono (Kd.V_far (p := ⟨gb235, 0, none⟩) (Kd.V_mono HO244.out (fun k_ hk => (⟨hk, hk.1.2.2.2⟩ : _ ∧ k_ ≠ gb235))) (fun _ hk => hk.2) (.slice Ao47 y249.length co47)) (fun _ hk => ⟨hk.1.1.1, ⟨hk.1.2, ⟨hk.1.1.2.2.1, hk.1.1.2.2.2⟩⟩⟩)))⟩; have n2_ : Aside0 (Kd.S (Kd.slice 5 (Kd.int .u8)) 28 w49 w.heap.size (fun k_ => (w.heap.size ≤ k_)) (.slice Ao47 y249.length co47) y249) := ⟨(by rw [hw]; exact (by (with_reducible repeat (first | apply Kd.S_alloc | apply Kd.S_drewN | apply Kd.S_drew)); exact Kd.S_mono (Kd.S_far (p := ⟨gb235, 0, none⟩) (Kd.S_types HO251.out BK235.out (by decide)) (fun _ hk => hk.2) (.slice Ao47 y249.length co47)) (fun _ hk => hk.1)))⟩; have n3_ : Aside0 (w49.heap[gb234]? = some (.cells #[.slice none 0 0, .int .i64 x235001_1, .int .i64 x235002_1, .bool x235003_1] 57 (0, 0))) := ⟨(by rw [hw]; exact (by (with_reducible repeat (first | refine blk_drewN ?_ _ | refine blk_drew ?_ | refine blk_alloc ?_ _)); refine blk_far ?_ NB234_235.out _; (with_reducible repeat (first | refine blk_drewN ?_ _ | refine blk_drew ?_ | refine blk_alloc ?_ _)); exact BK234.out))⟩; have n4_ : Aside0 (w49.heap[gb235]? = some (.cells #[.slice Ao47 y249.length co47, .int .i64 0, .int .i64 x236002_1, .bool false] 57 (0, 0))) := ⟨(by rw [hw]; exact (by (with_reducible repeat (first | refine blk_drewN ?_ _ | refine blk_drew ?_ | refine blk_alloc ?_ _)); refine blk_put (cs := #[u236000, .int .i64 0, .int .i64 x236002_1, .bool false]) ?_ 0 _ rfl; (with_reducible repeat (first | refine blk_drewN ?_ _ | refine blk_drew ?_ | refine blk_alloc ?_ _)); exact BK235.out))⟩; have n5_ : Aside0 (Below w.heap.size w w49) := ⟨(by rw [hw]; exact (by repeat (first | (with_reducible first | exact HB.out | apply below_alloc | apply pw_below_drewN | apply below_drew1 | refine below_set ?_ GE234.out | refine below_set ?_ GE235.out) | exact HB.out)))⟩; clear hw; clear HO_0; clear HO244; clear HO251; clear BK234; clear BK235; clear HB; have HO_0 := n0_; have HO244 := n1_; have HO251 := n2_; have BK234 := n3_; have BK235 := n4_; have HB := n5_; clear n0_ n1_ n2_ n3_ n4_ n5_; have q50 : ((ji36) : Int) ≤ ((x0_1.length : Int) : Int) := of_decide_eq_true (by first | (with_reducible assumption) | assumption); obtain ⟨i050, hi050, _, hsz50, _⟩ := info_parts info5; have hroom50 : x0_1.length ≤ co39 := (Kd.V_reads' HO_0.out).2.1; have hC50 : Kd.F (Kd.int .u8) _ _ (some ad236) x0_1.length x0_1 := (Kd.V_at (base := w.heap.size) HO_0.out).2.2; have q050 : (0 : Int) ≤ ((ji36) : Int) := of_decide_eq_true (by first | (with_reducible assumption) | assumption); have hcut50 := cut_from (P := Try.prog) 28 5 .i64 Try.underlying28 hi050 1 hsz50 (some ad236) x0_1.length co39 (ji36) q050 q50; have hr50 := Kd.F_cut (m := ((ji36) : Int).toNat) (c := co39) hC50 (by omega) hroom50; obtain ⟨A50, hA50⟩ : ∃ A1, A1 = (if co39 = ((ji36) : Int).toNat then (some ad236) else ((some ad236) : Option Addr).map (·.add (((ji36) : Int).toNat * 1))) := ⟨_, rfl⟩; obtain ⟨c50, hc50⟩ : ∃ c1, c1 = co39 - ((ji36) : Int).toNat := ⟨_, rfl⟩; have hy50 : y252.length = x0_1.length - ((ji36) : Int).toNat := (by rw [Ny252.out, List.length_drop] <;> omega); rw [show (x0_1).drop ((ji36) : Int).toNat = y252 from Ny252.out.symm] at hr50; replace hr50 : Kd.F (Kd.int .u8) _ _ A50 y252.length y252 := (by rw [hA50]; exact hr50); rw [← hy50, ← hA50, ← hc50] at hcut50; have HO256 := Aside0.mk (show Kd.V (Kd.int .u8) 5 _ w.heap.size _ (.slice A50 y252.length c50) y252 from Kd.V_mk (by rw [hy50, hc50]; exact Nat.sub_le_sub_right hroom50 _) hr50); have HC256 := Aside0.mk (show y252.length ≤ c50 from by rw [hy50, hc50]; exact Nat.sub_le_sub_right hroom50 _); clear hr50 hC50 hroom50 hi050 hsz50 hc50; have KY50 := Aside0.mk hy50; have KA50 := Aside0.mk hA50; clear hy50 hA50; replace q50 := eq_true q50))
                                  repeat (go_quiet (first | ((with_reducible refine gate_builtin (b := .append) (xs := #[.tmp 67, .tmp 71]) rfl ?_); (try (refine gate_guard (by rfl) ?_; dsimp only)); at_builtin; refine Kd.R_append_rows (Kd.int .u8) (w0 := w) w.heap.size rfl (.tmp 67) (.tmp 71) 28 5 (.int .u8 0) 1 rfl Try.underlying28 info5 rfl (by decide) (by omega) (.slice Ao40 x8_1.length co40) x8_1 y240 _ _ _ (fun k_ => (w.heap.size ≤ k_)) (fun _ => False) rfl rfl ?aO ?aR (fun _ _ h => h) (fun _ h => h.elim) ?aF ?aB ?aS ?aL ?_; (case aR => repeat (first | exact (Kd.V_reads' HO244.out).2.2 | (with_reducible refine Kd.C_alloc ?_ _) | (with_reducible refine Kd.C_drewN ?_ _) | (with_reducible refine Kd.C_drew ?_))); (case aB => exact (by repeat (first | (with_reducible first | exact HB.out | apply below_alloc | apply pw_below_drewN | apply below_drew1 | refine below_set ?_ GE234.out | refine below_set ?_ GE235.out) | exact HB.out))); (case aF => exact (fun k_ hk => (Nat.le_trans (below_size (by repeat (first | (with_reducible first | exact HB.out | apply below_alloc | apply pw_below_drewN | apply below_drew1 | refine below_set ?_ GE234.out | refine below_set ?_ GE235.out) | exact HB.out))) hk))); (case aO => exact (by (with_reducible repeat (first | apply Kd.R_alloc | apply Kd.R_drewN | apply Kd.R_drew)); exact HO_8.out)); (case aS => exact (below_size (by repeat (first | (with_reducible first | exact HB.out | apply below_alloc | apply pw_below_drewN | apply below_drew1 | refine below_set ?_ GE234.out | refine below_set ?_ GE235.out) | exact HB.out)))); (case aL => have := LMc33.out; omega); intro v246 w42 ho hb hg hat; rw [← Ny245.out] at ho; have n0_ := Aside0.mk (Kd.V_afterv (ok := (fun k_ => (P0_ k_ ∨ w.heap.size ≤ k_) ∧ some k_ ≠ (u236000 : Value).ownBlock ∧ k_ ≠ gb234 ∧ k_ ≠ gb235)) (by (with_reducible repeat (first | apply Kd.V_alloc | apply Kd.V_drewN | apply Kd.V_drew)); exact Kd.V_mono HO_0.out (fun _ hk => ⟨⟨hk.1, ⟨hk.2.2.1, ⟨hk.2.2.2.1, hk.2.2.2.2⟩⟩⟩, hk.2.1⟩)) hg hat); have n1_ := Aside0.mk (Kd.S_after (ok := (fun k_ => (w.heap.size ≤ k_))) (by (with_reducible repeat (first | apply Kd.S_alloc | apply Kd.S_drewN | apply Kd.S_drew)); exact HO_236000.out) hg hat); have n2_ := Aside0.mk (blk_grown (g := gb234) (o := .cells #[.slice none 0 0, .int .i64 x235001_1, .int .i64 x235002_1, .bool x235003_1] 57 (0, 0)) (by (with_reducible repeat (first | refine blk_drewN ?_ _ | refine blk_drew ?_ | refine blk_alloc ?_ _)); exact BK234.out) hg (Kd.R_ne HO_8.out BK234.out (by decide))); have n3_ := Aside0.mk (blk_grown (g := gb235) (o := .cells #[u236000, .int .i64 0, .int .i64 x236002_1, .bool false] 57 (0, 0)) (by (with_reducible repeat (first | refine blk_drewN ?_ _ | refine blk_drew ?_ | refine blk_alloc ?_ _)); exact BK235.out) hg (Kd.R_ne HO_8.out BK235.out (by decide))); have n4_ := Aside0.mk (Kd.V_afterv (ok := (fun k_ => (P0_ k_ ∨ w.heap.size ≤ k_) ∧ some k_ ≠ (u236000 : Value).ownBlock ∧ k_ ≠ gb234 ∧ k_ ≠ gb235)) (by (with_reducible repeat (first | apply Kd.V_alloc | apply Kd.V_drewN | apply Kd.V_drew)); exact Kd.V_mono HO244.out (fun _ hk => ⟨⟨hk.1, ⟨hk.2.2.1, ⟨hk.2.2.2.1, hk.2.2.2.2⟩⟩⟩, hk.2.1⟩)) hg hat); have n5_ := Aside0.mk (hb); have n6_ := Aside0.mk (ho); clear HO_0; clear HO_236000; clear BK234; clear BK235; clear HO244; clear HB; clear HO_8; have HO_0 := n0_; have HO_236000 := n1_; have BK234 := n2_; have BK235 := n3_; have HO244 := n4_; have HB := n5_; have HO247 := n6_; clear n0_ n1_ n2_ n3_ n4_ n5_ n6_; clear ho hb hg hat; have p248 : 0 ≤ (0 : Int) := (by omega); have q248 : 0 < (x0_1.length : Int) := of_decide_eq_true (by first | (with_reducible assumption) | assumption); obtain ⟨ad248, e248, hx248_0⟩ := Kd.at_int (Kd.V_reads' HO_0.out).2.2 0 p248 q248; obtain rfl : ad236 = ad248 := (by injection e248); have qi248 : (0 < x0_1.length) = True := eq_true (by omega); (try rw [show ((0 : Int)).toNat = 0 from rfl] at hx248_0); (try rw [Addr.add_zero'] at hx248_0); replace p248 := eq_true p248; replace q248 := eq_true q248; have hnb43 := NB235_234.out; have hnc43 := NB234_235.out; have hcz44_0 : w42.cell? ⟨gb235, 0, none⟩ = some (u236000) := (blk_cell BK235.out 0).trans rfl; have hcz44_1 : w42.cell? ⟨gb235, 1, none⟩ = some (.int .i64 0) := (blk_cell BK235.out 1).trans rfl; have hcz44_2 : w42.cell? ⟨gb235, 2, none⟩ = some (.int .i64 x236002_1) := (blk_cell BK235.out 2).trans rfl; have hcz44_3 : w42.cell? ⟨gb235, 3, none⟩ = some (.bool false) := (blk_cell BK235.out 3).trans rfl; have hfz44_0 := blk_frozen BK235.out 0; have hfz44_1 := blk_frozen BK235.out 1; have hfz44_2 := blk_frozen BK235.out 2; have hfz44_3 := blk_frozen BK235.out 3; obtain ⟨Ao46, co46, eo46⟩ := Kd.R_slice HO247.out; subst eo46) | ((with_reducible refine gate_builtin (b := .append) (xs := #[.tmp 78, .tmp 80]) rfl ?_); (try (refine gate_guard (by rfl) ?_; dsimp only)); at_builtin; refine Kd.S_append (Kd.slice 5 (Kd.int .u8)) (w0 := w) w.heap.size rfl (.tmp 78) (.tmp 80) 42 28 (.slice none 0 0) 24 rfl Try.underlying42 info28 rfl (by decide) (by omega) u236000 x236000_1 y245 [.slice Ao46 y245.length co46] (fun k_ => (w.heap.size ≤ k_)) (fun k_ => some k_ = (.slice Ao46 y245.length co46 : Value).ownBlock) rfl rfl ?aP (fun k_ hk_ => ((Kd.R_mono (ok' := fun k_ => ((fun k_ => (w.heap.size ≤ k_))) k_ ∧ some k_ ≠ (u236000 : Value).ownBlock) (Kd.R_apart' (HO247.out) (Kd.S_typed HO_236000.out) (by decide)) (fun k_ hk => ⟨hk.1, hk.2⟩))).1 k_ hk_.symm) ?aF ?aO ?aB ?aS ?aL ?_; (case aP => exact Kd.M_row (Kd.R_mono (Kd.R_tight rfl (Kd.R_mono (ok' := fun k_ => ((fun k_ => (w.heap.size ≤ k_))) k_ ∧ some k_ ≠ (u236000 : Value).ownBlock) (Kd.R_apart' (HO247.out) (Kd.S_typed HO_236000.out) (by decide)) (fun k_ hk => ⟨hk.1, hk.2⟩))) (fun _ h_ => h_))); (case aB => exact (by repeat (first | (with_reducible first | exact HB.out | apply below_alloc | apply pw_below_drewN | apply below_drew1 | refine below_set ?_ GE234.out | refine below_set ?_ GE235.out) | exact HB.out))); (case aF => exact (fun k_ hk => (Nat.le_trans (below_size (by repeat (first | (with_reducible first | exact HB.out | apply below_alloc | apply pw_below_drewN | apply below_drew1 | refine below_set ?_ GE234.out | refine below_set ?_ GE235.out) | exact HB.out))) hk))); (case aO => exact (by (with_reducible repeat (first | apply Kd.S_alloc | apply Kd.S_drewN | apply Kd.S_drew)); exact Kd.S_mono HO_236000.out (fun k_ hk => ⟨hk.1, fun e_ => hk.2 e_⟩))); (case aS => exact (below_size (by repeat (first | (with_reducible first | exact HB.out | apply below_alloc | apply pw_below_drewN | apply below_drew1 | refine below_set ?_ GE234.out | refine below_set ?_ GE235.out) | exact HB.out)))); (case aL => have := LMc35.out; omega); intro v250 w45 ho hb hg hat; rw [← Ny249.out] at ho; have n0_ := Aside0.mk (Kd.V_afterv (ok := (fun k_ => (P0_ k_ ∨ w.heap.size ≤ k_) ∧ some k_ ≠ (.slice Ao46 y245.length co46 : Value).ownBlock ∧ k_ ≠ gb234 ∧ k_ ≠ gb235)) (by (with_reducible repeat (first | apply Kd.V_alloc | apply Kd.V_drewN | apply Kd.V_drew)); exact Kd.V_mono HO_0.out (fun _ hk => ⟨⟨hk.1.1, ⟨hk.2, ⟨hk.1.2.2.1, hk.1.2.2.2⟩⟩⟩, hk.1.2.1⟩)) hg hat); have n1_ := Aside0.mk (blk_grown (g := gb234) (o := .cells #[.slice none 0 0, .int .i64 x235001_1, .int .i64 x235002_1, .bool x235003_1] 57 (0, 0)) (by (with_reducible repeat (first | refine blk_drewN ?_ _ | refine blk_drew ?_ | refine blk_alloc ?_ _)); exact BK234.out) hg (Kd.S_ne HO_236000.out BK234.out (by decide))); have n2_ := Aside0.mk (blk_grown (g := gb235) (o := .cells #[u236000, .int .i64 0, .int .i64 x236002_1, .bool false] 57 (0, 0)) (by (with_reducible repeat (first | refine blk_drewN ?_ _ | refine blk_drew ?_ | refine blk_alloc ?_ _)); exact BK235.out) hg (Kd.S_ne HO_236000.out BK235.out (by decide))); have n3_ := Aside0.mk (Kd.V_afterv (ok := (fun k_ => (P0_ k_ ∨ w.heap.size ≤ k_) ∧ some k_ ≠ (.slice Ao46 y245.length co46 : Value).ownBlock ∧ k_ ≠ gb234 ∧ k_ ≠ gb235)) (by (with_reducible repeat (first | apply Kd.V_alloc | apply Kd.V_drewN | apply Kd.V_drew)); exact Kd.V_mono HO244.out (fun _ hk => ⟨⟨hk.1.1, ⟨hk.2, ⟨hk.1.2.2.1, hk.1.2.2.2⟩⟩⟩, hk.1.2.1⟩)) hg hat); have n4_ := Aside0.mk (hb); have n5_ := Aside0.mk (ho); clear HO_0; clear BK234; clear BK235; clear HO244; clear HB; clear HO_236000; clear HO247; have HO_0 := n0_; have BK234 := n1_; have BK235 := n2_; have HO244 := n3_; have HB := n4_; have HO251 := n5_; clear n0_ n1_ n2_ n3_ n4_ n5_; clear ho hb hg hat; obtain ⟨Ao47, co47, eo47⟩ := Kd.S_slice HO251.out; subst eo47; have hcz48_0 : w45.cell? ⟨gb235, 0, none⟩ = some (u236000) := (blk_cell BK235.out 0).trans rfl; have hcz48_1 : w45.cell? ⟨gb235, 1, none⟩ = some (.int .i64 0) := (blk_cell BK235.out 1).trans rfl; have hcz48_2 : w45.cell? ⟨gb235, 2, none⟩ = some (.int .i64 x236002_1) := (blk_cell BK235.out 2).trans rfl; have hcz48_3 : w45.cell? ⟨gb235, 3, none⟩ = some (.bool false) := (blk_cell BK235.out 3).trans rfl; have hfz48_0 := blk_frozen BK235.out 0; have hfz48_1 := blk_frozen BK235.out 1; have hfz48_2 := blk_frozen BK235.out 2; have hfz48_3 := blk_frozen BK235.out 3) | ((with_reducible refine gate_store (t := 42) (p := 82) rfl ?_); (try (rw [drewN_self w45]; generalize hq_ : World.drewN w45 _ = w45; have n0_ := Aside0.mk (Kd.V_at hq_ HO_0.out); have n1_ := Aside0.mk (Kd.V_at hq_ HO244.out); have n2_ := Aside0.mk (Kd.S_at hq_ HO251.out); have n3_ := Aside0.mk (blk_at hq_ BK234.out); have n4_ := Aside0.mk (blk_at hq_ BK235.out); have n5_ := Aside0.mk (below_at hq_ HB.out); clear hq_ HO_0 HO244 HO251 BK234 BK235 HB; have HO_0 := n0_; have HO244 := n1_; have HO251 := n2_; have BK234 := n3_; have BK235 := n4_; have HB := n5_; clear n0_ n1_ n2_ n3_ n4_ n5_)); refine store_event (t := 42) (p := 82) (v := ?vo_w49) (w1 := (w45.setCell ⟨gb235, 0, none⟩ (.slice Ao47 y249.length co47))) ?hg ?ho ?hn ?hr ?_; (case ho => rfl); (case hg => rfl); (case hn => rfl); (case hr => first | (go_simp; done) | (go_simp; rfl)); intro w49 hw; have n0_ : Aside0 (Kd.V (Kd.int .u8) 5 w49 w.heap.size (fun k_ => (P0_ k_ ∨ w.heap.size ≤ k_) ∧ some k_ ≠ (.slice Ao47 y249.length co47 : Value).ownBlock ∧ k_ ≠ gb234 ∧ k_ ≠ gb235) (.slice (some ad236) x0_1.length co39) x0_1) := ⟨(by rw [hw]; exact (by (with_reducible repeat (first | apply Kd.V_alloc | apply Kd.V_drewN | apply Kd.V_drew)); exact Kd.V_mono (Kd.V_far (p := ⟨gb235, 0, none⟩) (Kd.V_mono HO_0.out (fun k_ hk => (⟨hk, hk.1.2.2.2⟩ : _ ∧ k_ ≠ gb235))) (fun _ hk => hk.2) (.slice Ao47 y249.length co47)) (fun _ hk => ⟨hk.1.1.1, ⟨hk.1.2, ⟨hk.1.1.2.2.1, hk.1.1.2.2.2⟩⟩⟩)))⟩; have n1_ : Aside0 (Kd.V (Kd.int .u8) 5 w49 w.heap.size (fun k_ => (P0_ k_ ∨ w.heap.size ≤ k_) ∧ some k_ ≠ (.slice Ao47 y249.length co47 : Value).ownBlock ∧ k_ ≠ gb234 ∧ k_ ≠ gb235) (.slice A41 y240.length c41) y240) := ⟨(by rw [hw]; exact (by (with_reducible repeat (first | apply Kd.V_alloc | apply Kd.V_drewN | apply Kd.V_drew)); exact Kd.V_mono (Kd.V_far (p := ⟨gb235, 0, none⟩) (Kd.V_mono HO244.out (fun k_ hk => (⟨hk, hk.1.2.2.2⟩ : _ ∧ k_ ≠ gb235))) (fun _ hk => hk.2) (.slice Ao47 y249.length co47)) (fun _ hk => ⟨hk.1.1.1, ⟨hk.1.2, ⟨hk.1.1.2.2.1, hk.1.1.2.2.2⟩⟩⟩)))⟩; have n2_ : Aside0 (Kd.S (Kd.slice 5 (Kd.int .u8)) 28 w49 w.heap.size (fun k_ => (w.heap.size ≤ k_)) (.slice Ao47 y249.length co47) y249) := ⟨(by rw [hw]; exact (by (with_reducible repeat (first | apply Kd.S_alloc | apply Kd.S_drewN | apply Kd.S_drew)); exact Kd.S_mono (Kd.S_far (p := ⟨gb235, 0, none⟩) (Kd.S_types HO251.out BK235.out (by decide)) (fun _ hk => hk.2) (.slice Ao47 y249.length co47)) (fun _ hk => hk.1)))⟩; have n3_ : Aside0 (w49.heap[gb234]? = some (.cells #[.slice none 0 0, .int .i64 x235001_1, .int .i64 x235002_1, .bool x235003_1] 57 (0, 0))) := ⟨(by rw [hw]; exact (by (with_reducible repeat (first | refine blk_drewN ?_ _ | refine blk_drew ?_ | refine blk_alloc ?_ _)); refine blk_far ?_ NB234_235.out _; (with_reducible repeat (first | refine blk_drewN ?_ _ | refine blk_drew ?_ | refine blk_alloc ?_ _)); exact BK234.out))⟩; have n4_ : Aside0 (w49.heap[gb235]? = some (.cells #[.slice Ao47 y249.length co47, .int .i64 0, .int .i64 x236002_1, .bool false] 57 (0, 0))) := ⟨(by rw [hw]; exact (by (with_reducible repeat (first | refine blk_drewN ?_ _ | refine blk_drew ?_ | refine blk_alloc ?_ _)); refine blk_put (cs := #[u236000, .int .i64 0, .int .i64 x236002_1, .bool false]) ?_ 0 _ rfl; (with_reducible repeat (first | refine blk_drewN ?_ _ | refine blk_drew ?_ | refine blk_alloc ?_ _)); exact BK235.out))⟩; have n5_ : Aside0 (Below w.heap.size w w49) := ⟨(by rw [hw]; exact (by repeat (first | (with_reducible first | exact HB.out | apply below_alloc | apply pw_below_drewN | apply below_drew1 | refine below_set ?_ GE234.out | refine below_set ?_ GE235.out) | exact HB.out)))⟩; clear hw; clear HO_0; clear HO244; clear HO251; clear BK234; clear BK235; clear HB; have HO_0 := n0_; have HO244 := n1_; have HO251 := n2_; have BK234 := n3_; have BK235 := n4_; have HB := n5_; clear n0_ n1_ n2_ n3_ n4_ n5_; have q50 : ((ji36) : Int) ≤ ((x0_1.length : Int) : Int) := of_decide_eq_true (by first | (with_reducible assumption) | assumption); obtain ⟨i050, hi050, _, hsz50, _⟩ := info_parts info5; have hroom50 : x0_1.length ≤ co39 := (Kd.V_reads' HO_0.out).2.1; have hC50 : Kd.F (Kd.int .u8) _ _ (some ad236) x0_1.length x0_1 := (Kd.V_at (base := w.heap.size) HO_0.out).2.2; have q050 : (0 : Int) ≤ ((ji36) : Int) := of_decide_eq_true (by first | (with_reducible assumption) | assumption); have hcut50 := cut_from (P := Try.prog) 28 5 .i64 Try.underlying28 hi050 1 hsz50 (some ad236) x0_1.length co39 (ji36) q050 q50; have hr50 := Kd.F_cut (m := ((ji36) : Int).toNat) (c := co39) hC50 (by omega) hroom50; obtain ⟨A50, hA50⟩ : ∃ A1, A1 = (if co39 = ((ji36) : Int).toNat then (some ad236) else ((some ad236) : Option Addr).map (·.add (((ji36) : Int).toNat * 1))) := ⟨_, rfl⟩; obtain ⟨c50, hc50⟩ : ∃ c1, c1 = co39 - ((ji36) : Int).toNat := ⟨_, rfl⟩; have hy50 : y252.length = x0_1.length - ((ji36) : Int).toNat := (by rw [Ny252.out, List.length_drop] <;> omega); rw [show (x0_1).drop ((ji36) : Int).toNat = y252 from Ny252.out.symm] at hr50; replace hr50 : Kd.F (Kd.int .u8) _ _ A50 y252.length y252 := (by rw [hA50]; exact hr50); rw [← hy50, ← hA50, ← hc50] at hcut50; have HO256 := Aside0.mk (show Kd.V (Kd.int .u8) 5 _ w.heap.size _ (.slice A50 y252.length c50) y252 from Kd.V_mk (by rw [hy50, hc50]; exact Nat.sub_le_sub_right hroom50 _) hr50); have HC256 := Aside0.mk (show y252.length ≤ c50 from by rw [hy50, hc50]; exact Nat.sub_le_sub_right hroom50 _); clear hr50 hC50 hroom50 hi050 hsz50 hc50; have KY50 := Aside0.mk hy50; have KA50 := Aside0.mk hA50; clear hy50 hA50; replace q50 := eq_true q50)); try go_wp2_with (first | ((with_reducible refine gate_builtin (b := .append) (xs := #[.tmp 67, .tmp 71]) rfl ?_); (try (refine gate_guard (by rfl) ?_; dsimp only)); at_builtin; refine Kd.R_append_rows (Kd.int .u8) (w0 := w) w.heap.size rfl (.tmp 67) (.tmp 71) 28 5 (.int .u8 0) 1 rfl Try.underlying28 info5 rfl (by decide) (by omega) (.slice Ao40 x8_1.length co40) x8_1 y240 _ _ _ (fun k_ => (w.heap.size ≤ k_)) (fun _ => False) rfl rfl ?aO ?aR (fun _ _ h => h) (fun _ h => h.elim) ?aF ?aB ?aS ?aL ?_; (case aR => repeat (first | exact (Kd.V_reads' HO244.out).2.2 | (with_reducible refine Kd.C_alloc ?_ _) | (with_reducible refine Kd.C_drewN ?_ _) | (with_reducible refine Kd.C_drew ?_))); (case aB => exact (by repeat (first | (with_reducible first | exact HB.out | apply below_alloc | apply pw_below_drewN | apply below_drew1 | refine below_set ?_ GE234.out | refine below_set ?_ GE235.out) | exact HB.out))); (case aF => exact (fun k_ hk => (Nat.le_trans (below_size (by repeat (first | (with_reducible first | exact HB.out | apply below_alloc | apply pw_below_drewN | apply below_drew1 | refine below_set ?_ GE234.out | refine below_set ?_ GE235.out) | exact HB.out))) hk))); (case aO => exact (by (with_reducible repeat (first | apply Kd.R_alloc | apply Kd.R_drewN | apply Kd.R_drew)); exact HO_8.out)); (case aS => exact (below_size (by repeat (first | (with_reducible first | exact HB.out | apply below_alloc | apply pw_below_drewN | apply below_drew1 | refine below_set ?_ GE234.out | refine below_set ?_ GE235.out) | exact HB.out)))); (case aL => have := LMc33.out; omega); intro v246 w42 ho hb hg hat; rw [← Ny245.out] at ho; have n0_ := Aside0.mk (Kd.V_afterv (ok := (fun k_ => (P0_ k_ ∨ w.heap.size ≤ k_) ∧ some k_ ≠ (u236000 : Value).ownBlock ∧ k_ ≠ gb234 ∧ k_ ≠ gb235)) (by (with_reducible repeat (first | apply Kd.V_alloc | apply Kd.V_drewN | apply Kd.V_drew)); exact Kd.V_mono HO_0.out (fun _ hk => ⟨⟨hk.1, ⟨hk.2.2.1, ⟨hk.2.2.2.1, hk.2.2.2.2⟩⟩⟩, hk.2.1⟩)) hg hat); have n1_ := Aside0.mk (Kd.S_after (ok := (fun k_ => (w.heap.size ≤ k_))) (by (with_reducible repeat (first | apply Kd.S_alloc | apply Kd.S_drewN | apply Kd.S_drew)); exact HO_236000.out) hg hat); have n2_ := Aside0.mk (blk_grown (g := gb234) (o := .cells #[.slice none 0 0, .int .i64 x235001_1, .int .i64 x235002_1, .bool x235003_1] 57 (0, 0)) (by (with_reducible repeat (first | refine blk_drewN ?_ _ | refine blk_drew ?_ | refine blk_alloc ?_ _)); exact BK234.out) hg (Kd.R_ne HO_8.out BK234.out (by decide))); have n3_ := Aside0.mk (blk_grown (g := gb235) (o := .cells #[u236000, .int .i64 0, .int .i64 x236002_1, .bool false] 57 (0, 0)) (by (with_reducible repeat (first | refine blk_drewN ?_ _ | refine blk_drew ?_ | refine blk_alloc ?_ _)); exact BK235.out) hg (Kd.R_ne HO_8.out BK235.out (by decide))); have n4_ := Aside0.mk (Kd.V_afterv (ok := (fun k_ => (P0_ k_ ∨ w.heap.size ≤ k_) ∧ some k_ ≠ (u236000 : Value).ownBlock ∧ k_ ≠ gb234 ∧ k_ ≠ gb235)) (by (with_reducible repeat (first | apply Kd.V_alloc | apply Kd.V_drewN | apply Kd.V_drew)); exact Kd.V_mono HO244.out (fun _ hk => ⟨⟨hk.1, ⟨hk.2.2.1, ⟨hk.2.2.2.1, hk.2.2.2.2⟩⟩⟩, hk.2.1⟩)) hg hat); have n5_ := Aside0.mk (hb); have n6_ := Aside0.mk (ho); clear HO_0; clear HO_236000; clear BK234; clear BK235; clear HO244; clear HB; clear HO_8; have HO_0 := n0_; have HO_236000 := n1_; have BK234 := n2_; have BK235 := n3_; have HO244 := n4_; have HB := n5_; have HO247 := n6_; clear n0_ n1_ n2_ n3_ n4_ n5_ n6_; clear ho hb hg hat; have p248 : 0 ≤ (0 : Int) := (by omega); have q248 : 0 < (x0_1.length : Int) := of_decide_eq_true (by first | (with_reducible assumption) | assumption); obtain ⟨ad248, e248, hx248_0⟩ := Kd.at_int (Kd.V_reads' HO_0.out).2.2 0 p248 q248; obtain rfl : ad236 = ad248 := (by injection e248); have qi248 : (0 < x0_1.length) = True := eq_true (by omega); (try rw [show ((0 : Int)).toNat = 0 from rfl] at hx248_0); (try rw [Addr.add_zero'] at hx248_0); replace p248 := eq_true p248; replace q248 := eq_true q248; have hnb43 := NB235_234.out; have hnc43 := NB234_235.out; have hcz44_0 : w42.cell? ⟨gb235, 0, none⟩ = some (u236000) := (blk_cell BK235.out 0).trans rfl; have hcz44_1 : w42.cell? ⟨gb235, 1, none⟩ = some (.int .i64 0) := (blk_cell BK235.out 1).trans rfl; have hcz44_2 : w42.cell? ⟨gb235, 2, none⟩ = some (.int .i64 x236002_1) := (blk_cell BK235.out 2).trans rfl; have hcz44_3 : w42.cell? ⟨gb235, 3, none⟩ = some (.bool false) := (blk_cell BK235.out 3).trans rfl; have hfz44_0 := blk_frozen BK235.out 0; have hfz44_1 := blk_frozen BK235.out 1; have hfz44_2 := blk_frozen BK235.out 2; have hfz44_3 := blk_frozen BK235.out 3; obtain ⟨Ao46, co46, eo46⟩ := Kd.R_slice HO247.out; subst eo46) | ((with_reducible refine gate_builtin (b := .append) (xs := #[.tmp 78, .tmp 80]) rfl ?_); (try (refine gate_guard (by rfl) ?_; dsimp only)); at_builtin; refine Kd.S_append (Kd.slice 5 (Kd.int .u8)) (w0 := w) w.heap.size rfl (.tmp 78) (.tmp 80) 42 28 (.slice none 0 0) 24 rfl Try.underlying42 info28 rfl (by decide) (by omega) u236000 x236000_1 y245 [.slice Ao46 y245.length co46] (fun k_ => (w.heap.size ≤ k_)) (fun k_ => some k_ = (.slice Ao46 y245.length co46 : Value).ownBlock) rfl rfl ?aP (fun k_ hk_ => ((Kd.R_mono (ok' := fun k_ => ((fun k_ => (w.heap.size ≤ k_))) k_ ∧ some k_ ≠ (u236000 : Value).ownBlock) (Kd.R_apart' (HO247.out) (Kd.S_typed HO_236000.out) (by decide)) (fun k_ hk => ⟨hk.1, hk.2⟩))).1 k_ hk_.symm) ?aF ?aO ?aB ?aS ?aL ?_; (case aP => exact Kd.M_row (Kd.R_mono (Kd.R_tight rfl (Kd.R_mono (ok' := fun k_ => ((fun k_ => (w.heap.size ≤ k_))) k_ ∧ some k_ ≠ (u236000 : Value).ownBlock) (Kd.R_apart' (HO247.out) (Kd.S_typed HO_236000.out) (by decide)) (fun k_ hk => ⟨hk.1, hk.2⟩))) (fun _ h_ => h_))); (case aB => exact (by repeat (first | (with_reducible first | exact HB.out | apply below_alloc | apply pw_below_drewN | apply below_drew1 | refine below_set ?_ GE234.out | refine below_set ?_ GE235.out) | exact HB.out))); (case aF => exact (fun k_ hk => (Nat.le_trans (below_size (by repeat (first | (with_reducible first | exact HB.out | apply below_alloc | apply pw_below_drewN | apply below_drew1 | refine below_set ?_ GE234.out | refine below_set ?_ GE235.out) | exact HB.out))) hk))); (case aO => exact (by (with_reducible repeat (first | apply Kd.S_alloc | apply Kd.S_drewN | apply Kd.S_drew)); exact Kd.S_mono HO_236000.out (fun k_ hk => ⟨hk.1, fun e_ => hk.2 e_⟩))); (case aS => exact (below_size (by repeat (first | (with_reducible first | exact HB.out | apply below_alloc | apply pw_below_drewN | apply below_drew1 | refine below_set ?_ GE234.out | refine below_set ?_ GE235.out) | exact HB.out)))); (case aL => have := LMc35.out; omega); intro v250 w45 ho hb hg hat; rw [← Ny249.out] at ho; have n0_ := Aside0.mk (Kd.V_afterv (ok := (fun k_ => (P0_ k_ ∨ w.heap.size ≤ k_) ∧ some k_ ≠ (.slice Ao46 y245.length co46 : Value).ownBlock ∧ k_ ≠ gb234 ∧ k_ ≠ gb235)) (by (with_reducible repeat (first | apply Kd.V_alloc | apply Kd.V_drewN | apply Kd.V_drew)); exact Kd.V_mono HO_0.out (fun _ hk => ⟨⟨hk.1.1, ⟨hk.2, ⟨hk.1.2.2.1, hk.1.2.2.2⟩⟩⟩, hk.1.2.1⟩)) hg hat); have n1_ := Aside0.mk (blk_grown (g := gb234) (o := .cells #[.slice none 0 0, .int .i64 x235001_1, .int .i64 x235002_1, .bool x235003_1] 57 (0, 0)) (by (with_reducible repeat (first | refine blk_drewN ?_ _ | refine blk_drew ?_ | refine blk_alloc ?_ _)); exact BK234.out) hg (Kd.S_ne HO_236000.out BK234.out (by decide))); have n2_ := Aside0.mk (blk_grown (g := gb235) (o := .cells #[u236000, .int .i64 0, .int .i64 x236002_1, .bool false] 57 (0, 0)) (by (with_reducible repeat (first | refine blk_drewN ?_ _ | refine blk_drew ?_ | refine blk_alloc ?_ _)); exact BK235.out) hg (Kd.S_ne HO_236000.out BK235.out (by decide))); have n3_ := Aside0.mk (Kd.V_afterv (ok := (fun k_ => (P0_ k_ ∨ w.heap.size ≤ k_) ∧ some k_ ≠ (.slice Ao46 y245.length co46 : Value).ownBlock ∧ k_ ≠ gb234 ∧ k_ ≠ gb235)) (by (with_reducible repeat (first | apply Kd.V_alloc | apply Kd.V_drewN | apply Kd.V_drew)); exact Kd.V_mono HO244.out (fun _ hk => ⟨⟨hk.1.1, ⟨hk.2, ⟨hk.1.2.2.1, hk.1.2.2.2⟩⟩⟩, hk.1.2.1⟩)) hg hat); have n4_ := Aside0.mk (hb); have n5_ := Aside0.mk (ho); clear HO_0; clear BK234; clear BK235; clear HO244; clear HB; clear HO_236000; clear HO247; have HO_0 := n0_; have BK234 := n1_; have BK235 := n2_; have HO244 := n3_; have HB := n4_; have HO251 := n5_; clear n0_ n1_ n2_ n3_ n4_ n5_; clear ho hb hg hat; obtain ⟨Ao47, co47, eo47⟩ := Kd.S_slice HO251.out; subst eo47; have hcz48_0 : w45.cell? ⟨gb235, 0, none⟩ = some (u236000) := (blk_cell BK235.out 0).trans rfl; have hcz48_1 : w45.cell? ⟨gb235, 1, none⟩ = some (.int .i64 0) := (blk_cell BK235.out 1).trans rfl; have hcz48_2 : w45.cell? ⟨gb235, 2, none⟩ = some (.int .i64 x236002_1) := (blk_cell BK235.out 2).trans rfl; have hcz48_3 : w45.cell? ⟨gb235, 3, none⟩ = some (.bool false) := (blk_cell BK235.out 3).trans rfl; have hfz48_0 := blk_frozen BK235.out 0; have hfz48_1 := blk_frozen BK235.out 1; have hfz48_2 := blk_frozen BK235.out 2; have hfz48_3 := blk_frozen BK235.out 3) | ((with_reducible refine gate_store (t := 42) (p := 82) rfl ?_); (try (rw [drewN_self w45]; generalize hq_ : World.drewN w45 _ = w45; have n0_ := Aside0.mk (Kd.V_at hq_ HO_0.out); have n1_ := Aside0.mk (Kd.V_at hq_ HO244.out); have n2_ := Aside0.mk (Kd.S_at hq_ HO251.out); have n3_ := Aside0.mk (blk_at hq_ BK234.out); have n4_ := Aside0.mk (blk_at hq_ BK235.out); have n5_ := Aside0.mk (below_at hq_ HB.out); clear hq_ HO_0 HO244 HO251 BK234 BK235 HB; have HO_0 := n0_; have HO244 := n1_; have HO251 := n2_; have BK234 := n3_; have BK235 := n4_; have HB := n5_; clear n0_ n1_ n2_ n3_ n4_ n5_)); refine store_event (t := 42) (p := 82) (v := ?vo_w49) (w1 := (w45.setCell ⟨gb235, 0, none⟩ (.slice Ao47 y249.length co47))) ?hg ?ho ?hn ?hr ?_; (case ho => rfl); (case hg => rfl); (case hn => rfl); (case hr => first | (go_simp; done) | (go_simp; rfl)); intro w49 hw; have n0_ : Aside0 (Kd.V (Kd.int .u8) 5 w49 w.heap.size (fun k_ => (P0_ k_ ∨ w.heap.size ≤ k_) ∧ some k_ ≠ (.slice Ao47 y249.length co47 : Value).ownBlock ∧ k_ ≠ gb234 ∧ k_ ≠ gb235) (.slice (some ad236) x0_1.length co39) x0_1) := ⟨(by rw [hw]; exact (by (with_reducible repeat (first | apply Kd.V_alloc | apply Kd.V_drewN | apply Kd.V_drew)); exact Kd.V_mono (Kd.V_far (p := ⟨gb235, 0, none⟩) (Kd.V_mono HO_0.out (fun k_ hk => (⟨hk, hk.1.2.2.2⟩ : _ ∧ k_ ≠ gb235))) (fun _ hk => hk.2) (.slice Ao47 y249.length co47)) (fun _ hk => ⟨hk.1.1.1, ⟨hk.1.2, ⟨hk.1.1.2.2.1, hk.1.1.2.2.2⟩⟩⟩)))⟩; have n1_ : Aside0 (Kd.V (Kd.int .u8) 5 w49 w.heap.size (fun k_ => (P0_ k_ ∨ w.heap.size ≤ k_) ∧ some k_ ≠ (.slice Ao47 y249.length co47 : Value).ownBlock ∧ k_ ≠ gb234 ∧ k_ ≠ gb235) (.slice A41 y240.length c41) y240) := ⟨(by rw [hw]; exact (by (with_reducible repeat (first | apply Kd.V_alloc | apply Kd.V_drewN | apply Kd.V_drew)); exact Kd.V_mono (Kd.V_far (p := ⟨gb235, 0, none⟩) (Kd.V_mono HO244.out (fun k_ hk => (⟨hk, hk.1.2.2.2⟩ : _ ∧ k_ ≠ gb235))) (fun _ hk => hk.2) (.slice Ao47 y249.length co47)) (fun _ hk => ⟨hk.1.1.1, ⟨hk.1.2, ⟨hk.1.1.2.2.1, hk.1.1.2.2.2⟩⟩⟩)))⟩; have n2_ : Aside0 (Kd.S (Kd.slice 5 (Kd.int .u8)) 28 w49 w.heap.size (fun k_ => (w.heap.size ≤ k_)) (.slice Ao47 y249.length co47) y249) := ⟨(by rw [hw]; exact (by (with_reducible repeat (first | apply Kd.S_alloc | apply Kd.S_drewN | apply Kd.S_drew)); exact Kd.S_mono (Kd.S_far (p := ⟨gb235, 0, none⟩) (Kd.S_types HO251.out BK235.out (by decide)) (fun _ hk => hk.2) (.slice Ao47 y249.length co47)) (fun _ hk => hk.1)))⟩; have n3_ : Aside0 (w49.heap[gb234]? = some (.cells #[.slice none 0 0, .int .i64 x235001_1, .int .i64 x235002_1, .bool x235003_1] 57 (0, 0))) := ⟨(by rw [hw]; exact (by (with_reducible repeat (first | refine blk_drewN ?_ _ | refine blk_drew ?_ | refine blk_alloc ?_ _)); refine blk_far ?_ NB234_235.out _; (with_reducible repeat (first | refine blk_drewN ?_ _ | refine blk_drew ?_ | refine blk_alloc ?_ _)); exact BK234.out))⟩; have n4_ : Aside0 (w49.heap[gb235]? = some (.cells #[.slice Ao47 y249.length co47, .int .i64 0, .int .i64 x236002_1, .bool false] 57 (0, 0))) := ⟨(by rw [hw]; exact (by (with_reducible repeat (first | refine blk_drewN ?_ _ | refine blk_drew ?_ | refine blk_alloc ?_ _)); refine blk_put (cs := #[u236000, .int .i64 0, .int .i64 x236002_1, .bool false]) ?_ 0 _ rfl; (with_reducible repeat (first | refine blk_drewN ?_ _ | refine blk_drew ?_ | refine blk_alloc ?_ _)); exact BK235.out))⟩; have n5_ : Aside0 (Below w.heap.size w w49) := ⟨(by rw [hw]; exact (by repeat (first | (with_reducible first | exact HB.out | apply below_alloc | apply pw_below_drewN | apply below_drew1 | refine below_set ?_ GE234.out | refine below_set ?_ GE235.out) | exact HB.out)))⟩; clear hw; clear HO_0; clear HO244; clear HO251; clear BK234; clear BK235; clear HB; have HO_0 := n0_; have HO244 := n1_; have HO251 := n2_; have BK234 := n3_; have BK235 := n4_; have HB := n5_; clear n0_ n1_ n2_ n3_ n4_ n5_; have q50 : ((ji36) : Int) ≤ ((x0_1.length : Int) : Int) := of_decide_eq_true (by first | (with_reducible assumption) | assumption); obtain ⟨i050, hi050, _, hsz50, _⟩ := info_parts info5; have hroom50 : x0_1.length ≤ co39 := (Kd.V_reads' HO_0.out).2.1; have hC50 : Kd.F (Kd.int .u8) _ _ (some ad236) x0_1.length x0_1 := (Kd.V_at (base := w.heap.size) HO_0.out).2.2; have q050 : (0 : Int) ≤ ((ji36) : Int) := of_decide_eq_true (by first | (with_reducible assumption) | assumption); have hcut50 := cut_from (P := Try.prog) 28 5 .i64 Try.underlying28 hi050 1 hsz50 (some ad236) x0_1.length co39 (ji36) q050 q50; have hr50 := Kd.F_cut (m := ((ji36) : Int).toNat) (c := co39) hC50 (by omega) hroom50; obtain ⟨A50, hA50⟩ : ∃ A1, A1 = (if co39 = ((ji36) : Int).toNat then (some ad236) else ((some ad236) : Option Addr).map (·.add (((ji36) : Int).toNat * 1))) := ⟨_, rfl⟩; obtain ⟨c50, hc50⟩ : ∃ c1, c1 = co39 - ((ji36) : Int).toNat := ⟨_, rfl⟩; have hy50 : y252.length = x0_1.length - ((ji36) : Int).toNat := (by rw [Ny252.out, List.length_drop] <;> omega); rw [show (x0_1).drop ((ji36) : Int).toNat = y252 from Ny252.out.symm] at hr50; replace hr50 : Kd.F (Kd.int .u8) _ _ A50 y252.length y252 := (by rw [hA50]; exact hr50); rw [← hy50, ← hA50, ← hc50] at hcut50; have HO256 := Aside0.mk (show Kd.V (Kd.int .u8) 5 _ w.heap.size _ (.slice A50 y252.length c50) y252 from Kd.V_mk (by rw [hy50, hc50]; exact Nat.sub_le_sub_right hroom50 _) hr50); have HC256 := Aside0.mk (show y252.length ≤ c50 from by rw [hy50, hc50]; exact Nat.sub_le_sub_right hroom50 _); clear hr50 hC50 hroom50 hi050 hsz50 hc50; have KY50 := Aside0.mk hy50; have KA50 := Aside0.mk hA50; clear hy50 hA50; replace q50 := eq_true q50)))
                                  go_roundg k1
                                  case measure => have := HK1.out; omega
                                  case rel => exact ⟨(y252), (([] : List Int)), (0), (x235001_1), (x235002_1), (x235003_1), (y249), (x236002_1), (.slice Ao47 y249.length co47), (by first | rfl | (simp; done) | (simp [*]; done)), H', ⟨by have := HK1.out; omega⟩, ⟨by (with_reducible repeat (first | apply Kd.V_alloc | apply Kd.V_drewN | apply Kd.V_drew)); exact Kd.V_mono HO256.out (fun _ hk => ⟨hk.1, ⟨(by simp [Value.ownBlock]), ⟨hk.2.1, ⟨hk.2.2.1, hk.2.2.2⟩⟩⟩⟩)⟩, ⟨by first | exact Kd.R_nil _ _ _ _ _ | exact Kd.N_nil _ _ _ _ _ | exact Kd.V_nil _ _ _ _ _ | exact Kd.Q_nil _ _ _ _ _ | exact Kd.S_nil _ _ _ _ _⟩, ⟨by (with_reducible repeat (first | apply Kd.S_alloc | apply Kd.S_drewN | apply Kd.S_drew)); exact Kd.S_mono HO251.out (fun _ hk => ⟨hk, (by simp [Value.ownBlock])⟩)⟩, ⟨by (with_reducible repeat (first | refine blk_drewN ?_ _ | refine blk_drew ?_ | refine blk_alloc ?_ _)); exact BK234.out⟩, ⟨by (with_reducible repeat (first | refine blk_drewN ?_ _ | refine blk_drew ?_ | refine blk_alloc ?_ _)); exact BK235.out⟩, ⟨by repeat (first | (with_reducible first | exact HB.out | apply below_alloc | apply pw_below_drewN | apply below_drew1 | refine below_set ?_ GE234.out | refine below_set ?_ GE235.out) | exact HB.out)⟩⟩
                                · rw [if_neg c37] at H
                                  exact absurd H (by simp)
                              · rw [if_neg c35] at H
                                exact absurd H (by simp)
                            · rw [if_neg c34] at H
                              have c34b0 : decide (127 < (rd x0_1 0)) = false := decide_eq_false c34
                              clear c34
                              obtain ⟨ji51, hji51⟩ : ∃ j_ : Int, (wrap64 (4 + (wrap64 ((wrap64 ((wrap64 ((wrap64 ((wrap64 (Int.tmod (rd x0_1 0) 128)) * 16777216)) + (wrap64 ((wrap64 (rd x0_1 1)) * 65536)))) + (wrap64 ((wrap64 (rd x0_1 2)) * 256)))) + (wrap64 (rd x0_1 3)))))) = j_ := ⟨_, rfl⟩
                              replace H : (if 0 ≤ (ji51) then (truchmanref04_All.l0 k1 (x0_1.drop ((ji51) : Int).toNat) a1 a2 y245 (wrap64 (x9_1 + 1)) x236000_1 0 x236002_1 false) else (none)) = some (r1, r2, r3, r4) := by first | (rw [hji51] at H; exact H) | (simp only [hji51] at H ⊢; exact H)
                              (try rw [hji51] at c24b0)
                              (try rw [hji51] at c31b0)
                              (try rw [hji51] at c31b1)
                              (try rw [hji51] at c31)
                              (try rw [hji51] at c32b0)
                              (try rw [hji51] at c32b1)
                              (try rw [hji51] at c32)
                              (try rw [hji51] at Ny240)
                              (try rw [hji51] at Ny240)
                              have hji51w : (IntKind.i64.wrap (4 + (wrap64 ((wrap64 ((wrap64 ((wrap64 ((wrap64 (Int.tmod (rd x0_1 0) 128)) * 16777216)) + (wrap64 ((wrap64 (rd x0_1 1)) * 65536)))) + (wrap64 ((wrap64 (rd x0_1 2)) * 256)))) + (wrap64 (rd x0_1 3)))))) = ji51 := (i64_w _).trans hji51
                              by_cases c52 : 0 ≤ (ji51)
                              · rw [if_pos c52] at H
                                have c52b0 := eq_true c52
                                have c52b1 : decide (0 ≤ (ji51)) = true := decide_eq_true c52
                                clear c52
                                have c53b0 := eq_true (of_decide_eq_true (by first | (with_reducible assumption) | assumption) : (ji51) ≤ (x0_1.length : Int))
                                obtain ⟨y257, hy257⟩ : ∃ y_ : List Int, y_ = (x0_1.drop ((ji51) : Int).toNat) := ⟨_, rfl⟩
                                replace H : (truchmanref04_All.l0 k1 y257 a1 a2 y245 (wrap64 (x9_1 + 1)) x236000_1 0 x236002_1 false) = some (r1, r2, r3, r4) := by first | (rw [hy257]; with_reducible exact H) | (have H2_ := (Option.bind_some _ _).symm.trans H; rw [hy257]; with_reducible exact H2_) | (have H2_ := (Option.bind_some _ _).symm.trans H; with_reducible exact H2_) | with_reducible exact H | (rw [hy257]; exact H) | exact H
                                have Ny257 := Aside0.mk hy257
                                clear hy257
                                have H' := Aside0.mk H
                                clear H
                                obtain ⟨Ao54, co54, eo54⟩ := Kd.V_slice HO_0.out
                                subst eo54
                                have p236 : 0 ≤ (0 : Int) := (by omega)
                                have q236 : 0 < (x0_1.length : Int) := of_decide_eq_true (by first | (with_reducible assumption) | assumption)
                                obtain ⟨ad236, e236, hx236_0⟩ := Kd.at_int (Kd.V_reads' HO_0.out).2.2 0 p236 q236
                                cases e236
                                have qi236 : (0 < x0_1.length) = True := eq_true (by omega)
                                (try rw [show ((0 : Int)).toNat = 0 from rfl] at hx236_0)
                                (try rw [Addr.add_zero'] at hx236_0)
                                replace p236 := eq_true p236
                                replace q236 := eq_true q236
                                have p237 : 0 ≤ (1 : Int) := (by omega)
                                have q237 : 1 < (x0_1.length : Int) := of_decide_eq_true (by first | (with_reducible assumption) | assumption)
                                obtain ⟨ad237, e237, hx237_0⟩ := Kd.at_int (Kd.V_reads' HO_0.out).2.2 1 p237 q237
                                obtain rfl : ad236 = ad237 := (by injection e237)
                                (try simp only [show (1 : Int).toNat = 1 from rfl, Nat.reduceMul, Nat.reduceEqDiff, Go.Addr.add, ↓reduceIte] at hx237_0)
                                have qi237 : (1 < x0_1.length) = True := eq_true (by omega)
                                (try rw [show ((1 : Int)).toNat = 1 from rfl] at hx237_0)
                                replace p237 := eq_true p237
                                replace q237 := eq_true q237
                                have p238 : 0 ≤ (2 : Int) := (by omega)
                                have q238 : 2 < (x0_1.length : Int) := of_decide_eq_true (by first | (with_reducible assumption) | assumption)
                                obtain ⟨ad238, e238, hx238_0⟩ := Kd.at_int (Kd.V_reads' HO_0.out).2.2 2 p238 q238
                                obtain rfl : ad236 = ad238 := (by injection e238)
                                (try simp only [show (2 : Int).toNat = 2 from rfl, Nat.reduceMul, Nat.reduceEqDiff, Go.Addr.add, ↓reduceIte] at hx238_0)
                                have qi238 : (2 < x0_1.length) = True := eq_true (by omega)
                                (try rw [show ((2 : Int)).toNat = 2 from rfl] at hx238_0)
                                replace p238 := eq_true p238
                                replace q238 := eq_true q238
                                have p239 : 0 ≤ (3 : Int) := (by omega)
                                have q239 : 3 < (x0_1.length : Int) := of_decide_eq_true (by first | (with_reducible assumption) | assumption)
                                obtain ⟨ad239, e239, hx239_0⟩ := Kd.at_int (Kd.V_reads' HO_0.out).2.2 3 p239 q239
                                obtain rfl : ad236 = ad239 := (by injection e239)
                                (try simp only [show (3 : Int).toNat = 3 from rfl, Nat.reduceMul, Nat.reduceEqDiff, Go.Addr.add, ↓reduceIte] at hx239_0)
                                have qi239 : (3 < x0_1.length) = True := eq_true (by omega)
                                (try rw [show ((3 : Int)).toNat = 3 from rfl] at hx239_0)
                                replace p239 := eq_true p239
                                replace q239 := eq_true q239
                                obtain ⟨Ao55, co55, eo55⟩ := Kd.R_slice HO_8.out
                                subst eo55
                                have q56 : ((ji51) : Int) ≤ ((x0_1.length : Int) : Int) := of_decide_eq_true (by first | (with_reducible assumption) | assumption)
                                obtain ⟨i056, hi056, _, hsz56, _⟩ := info_parts info5
                                have hroom56 : x0_1.length ≤ co54 := (Kd.V_reads' HO_0.out).2.1
                                have hC56 : Kd.F (Kd.int .u8) _ _ (some ad236) x0_1.length x0_1 := (Kd.V_at (base := w.heap.size) HO_0.out).2.2
                                have ql56 : (4 : Int) ≤ ((ji51) : Int) := of_decide_eq_true (by first | (with_reducible assumption) | assumption)
                                have hcut56 := cut_mid (P := Try.prog) 28 5 .i64 .i64 Try.underlying28 hi056 1 hsz56 (some ad236) x0_1.length co54 4 (ji51) (by omega) ql56 q56 hroom56
                                have hr56 := Kd.F_mid (lo := (4 : Int).toNat) (hi := ((ji51) : Int).toNat) (c := co54) hC56 (by omega) (by omega) hroom56
                                obtain ⟨A56, hA56⟩ : ∃ A1, A1 = (if co54 = (4 : Int).toNat then (some ad236) else ((some ad236) : Option Addr).map (·.add ((4 : Int).toNat * 1))) := ⟨_, rfl⟩
                                obtain ⟨c56, hc56⟩ : ∃ c1, c1 = co54 - (4 : Int).toNat := ⟨_, rfl⟩
                                have hy56 : y240.length = ((ji51) : Int).toNat - (4 : Int).toNat := (by rw [Ny240.out, List.length_drop, List.length_take] <;> omega)
                                rw [show ((x0_1).take ((ji51) : Int).toNat).drop (4 : Int).toNat = y240 from Ny240.out.symm] at hr56
                                replace hr56 : Kd.F (Kd.int .u8) _ _ A56 y240.length y240 := (by rw [hA56]; exact hr56)
                                rw [← hy56, ← hA56, ← hc56] at hcut56
                                have HO244 := Aside0.mk (show Kd.V (Kd.int .u8) 5 _ w.heap.size _ (.slice A56 y240.length c56) y240 from Kd.V_mk (by rw [hy56, hc56]; exact Nat.sub_le_sub_right (Nat.le_trans (by omega) hroom56) _) hr56)
                                have HC244 := Aside0.mk (show y240.length ≤ c56 from by rw [hy56, hc56]; exact Nat.sub_le_sub_right (Nat.le_trans (by omega) hroom56) _)
                                clear hr56 hC56 hroom56 hi056 hsz56 hc56
                                have KY56 := Aside0.mk hy56
                                have KA56 := Aside0.mk hA56
                                clear hy56 hA56
                                replace q56 := eq_true q56
                                go_wp2_with (first | ((with_reducible refine gate_builtin (b := .append) (xs := #[.tmp 67, .tmp 71]) rfl ?_); (try (refine gate_guard (by rfl) ?_; dsimp only)); at_builtin; refine Kd.R_append_rows (Kd.int .u8) (w0 := w) w.heap.size rfl (.tmp 67) (.tmp 71) 28 5 (.int .u8 0) 1 rfl Try.underlying28 info5 rfl (by decide) (by omega) (.slice Ao55 x8_1.length co55) x8_1 y240 _ _ _ (fun k_ => (w.heap.size ≤ k_)) (fun _ => False) rfl rfl ?aO ?aR (fun _ _ h => h) (fun _ h => h.elim) ?aF ?aB ?aS ?aL ?_; (case aR => repeat (first | exact (Kd.V_reads' HO244.out).2.2 | (with_reducible refine Kd.C_alloc ?_ _) | (with_reducible refine Kd.C_drewN ?_ _) | (with_reducible refine Kd.C_drew ?_))); (case aB => exact (by repeat (first | (with_reducible first | exact HB.out | apply below_alloc | apply pw_below_drewN | apply below_drew1 | refine below_set ?_ GE234.out | refine below_set ?_ GE235.out) | exact HB.out))); (case aF => exact (fun k_ hk => (Nat.le_trans (below_size (by repeat (first | (with_reducible first | exact HB.out | apply below_alloc | apply pw_below_drewN | apply below_drew1 | refine below_set ?_ GE234.out | refine below_set ?_ GE235.out) | exact HB.out))) hk))); (case aO => exact (by (with_reducible repeat (first | apply Kd.R_alloc | apply Kd.R_drewN | apply Kd.R_drew)); exact HO_8.out)); (case aS => exact (below_size (by repeat (first | (with_reducible first | exact HB.out | apply below_alloc | apply pw_below_drewN | apply below_drew1 | refine below_set ?_ GE234.out | refine below_set ?_ GE235.out) | exact HB.out)))); (case aL => have := LMc33.out; omega); intro v246 w57 ho hb hg hat; rw [← Ny245.out] at ho; have n0_ := Aside0.mk (Kd.V_afterv (ok := (fun k_ => (P0_ k_ ∨ w.heap.size ≤ k_) ∧ some k_ ≠ (u236000 : Value).ownBlock ∧ k_ ≠ gb234 ∧ k_ ≠ gb235)) (by (with_reducible repeat (first | apply Kd.V_alloc | apply Kd.V_drewN | apply Kd.V_drew)); exact Kd.V_mono HO_0.out (fun _ hk => ⟨⟨hk.1, ⟨hk.2.2.1, ⟨hk.2.2.2.1, hk.2.2.2.2⟩⟩⟩, hk.2.1⟩)) hg hat); have n1_ := Aside0.mk (Kd.S_after (ok := (fun k_ => (w.heap.size ≤ k_))) (by (with_reducible repeat (first | apply Kd.S_alloc | apply Kd.S_drewN | apply Kd.S_drew)); exact HO_236000.out) hg hat); have n2_ := Aside0.mk (blk_grown (g := gb234) (o := .cells #[.slice none 0 0, .int .i64 x235001_1, .int .i64 x235002_1, .bool x235003_1] 57 (0, 0)) (by (with_reducible repeat (first | refine blk_drewN ?_ _ | refine blk_drew ?_ | refine blk_alloc ?_ _)); exact BK234.out) hg (Kd.R_ne HO_8.out BK234.out (by decide))); have n3_ := Aside0.mk (blk_grown (g := gb235) (o := .cells #[u236000, .int .i64 0, .int .i64 x236002_1, .bool false] 57 (0, 0)) (by (with_reducible repeat (first | refine blk_drewN ?_ _ | refine blk_drew ?_ | refine blk_alloc ?_ _)); exact BK235.out) hg (Kd.R_ne HO_8.out BK235.out (by decide))); have n4_ := Aside0.mk (Kd.V_afterv (ok := (fun k_ => (P0_ k_ ∨ w.heap.size ≤ k_) ∧ some k_ ≠ (u236000 : Value).ownBlock ∧ k_ ≠ gb234 ∧ k_ ≠ gb235)) (by (with_reducible repeat (first | apply Kd.V_alloc | apply Kd.V_drewN | apply Kd.V_drew)); exact Kd.V_mono HO244.out (fun _ hk => ⟨⟨hk.1, ⟨hk.2.2.1, ⟨hk.2.2.2.1, hk.2.2.2.2⟩⟩⟩, hk.2.1⟩)) hg hat); have n5_ := Aside0.mk (hb); have n6_ := Aside0.mk (ho); clear HO_0; clear HO_236000; clear BK234; clear BK235; clear HO244; clear HB; clear HO_8; have HO_0 := n0_; have HO_236000 := n1_; have BK234 := n2_; have BK235 := n3_; have HO244 := n4_; have HB := n5_; have HO247 := n6_; clear n0_ n1_ n2_ n3_ n4_ n5_ n6_; clear ho hb hg hat; have p248 : 0 ≤ (0 : Int) := (by omega); have q248 : 0 < (x0_1.length : Int) := of_decide_eq_true (by first | (with_reducible assumption) | assumption); obtain ⟨ad248, e248, hx248_0⟩ := Kd.at_int (Kd.V_reads' HO_0.out).2.2 0 p248 q248; obtain rfl : ad236 = ad248 := (by injection e248); have qi248 : (0 < x0_1.length) = True := eq_true (by omega); (try rw [show ((0 : Int)).toNat = 0 from rfl] at hx248_0); (try rw [Addr.add_zero'] at hx248_0); replace p248 := eq_true p248; replace q248 := eq_true q248; have q58 : ((ji51) : Int) ≤ ((x0_1.length : Int) : Int) := of_decide_eq_true (by first | (with_reducible assumption) | assumption); obtain ⟨i058, hi058, _, hsz58, _⟩ := info_parts info5; have hroom58 : x0_1.length ≤ co54 := (Kd.V_reads' HO_0.out).2.1; have hC58 : Kd.F (Kd.int .u8) _ _ (some ad236) x0_1.length x0_1 := (Kd.V_at (base := w.heap.size) HO_0.out).2.2; have q058 : (0 : Int) ≤ ((ji51) : Int) := of_decide_eq_true (by first | (with_reducible assumption) | assumption); have hcut58 := cut_from (P := Try.prog) 28 5 .i64 Try.underlying28 hi058 1 hsz58 (some ad236) x0_1.length co54 (ji51) q058 q58; have hr58 := Kd.F_cut (m := ((ji51) : Int).toNat) (c := co54) hC58 (by omega) hroom58; obtain ⟨A58, hA58⟩ : ∃ A1, A1 = (if co54 = ((ji51) : Int).toNat then (some ad236) else ((some ad236) : Option Addr).map (·.add (((ji51) : Int).toNat * 1))) := ⟨_, rfl⟩; obtain ⟨c58, hc58⟩ : ∃ c1, c1 = co54 - ((ji51) : Int).toNat := ⟨_, rfl⟩; have hy58 : y257.length = x0_1.length - ((ji51) : Int).toNat := (by rw [Ny257.out, List.length_drop] <;> omega); rw [show (x0_1).drop ((ji51) : Int).toNat = y257 from Ny257.out.symm] at hr58; replace hr58 : Kd.F (Kd.int .u8) _ _ A58 y257.length y257 := (by rw [hA58]; exact hr58); rw [← hy58, ← hA58, ← hc58] at hcut58; have HO261 := Aside0.mk (show Kd.V (Kd.int .u8) 5 _ w.heap.size _ (.slice A58 y257.length c58) y257 from Kd.V_mk (by rw [hy58, hc58]; exact Nat.sub_le_sub_right hroom58 _) hr58); have HC261 := Aside0.mk (show y257.length ≤ c58 from by rw [hy58, hc58]; exact Nat.sub_le_sub_right hroom58 _); clear hr58 hC58 hroom58 hi058 hsz58 hc58; have KY58 := Aside0.mk hy58; have KA58 := Aside0.mk hA58; clear hy58 hA58; replace q58 := eq_true q58))
                                repeat (go_quiet (first | ((with_reducible refine gate_builtin (b := .append) (xs := #[.tmp 67, .tmp 71]) rfl ?_); (try (refine gate_guard (by rfl) ?_; dsimp only)); at_builtin; refine Kd.R_append_rows (Kd.int .u8) (w0 := w) w.heap.size rfl (.tmp 67) (.tmp 71) 28 5 (.int .u8 0) 1 rfl Try.underlying28 info5 rfl (by decide) (by omega) (.slice Ao55 x8_1.length co55) x8_1 y240 _ _ _ (fun k_ => (w.heap.size ≤ k_)) (fun _ => False) rfl rfl ?aO ?aR (fun _ _ h => h) (fun _ h => h.elim) ?aF ?aB ?aS ?aL ?_; (case aR => repeat (first | exact (Kd.V_reads' HO244.out).2.2 | (with_reducible refine Kd.C_alloc ?_ _) | (with_reducible refine Kd.C_drewN ?_ _) | (with_reducible refine Kd.C_drew ?_))); (case aB => exact (by repeat (first | (with_reducible first | exact HB.out | apply below_alloc | apply pw_below_drewN | apply below_drew1 | refine below_set ?_ GE234.out | refine below_set ?_ GE235.out) | exact HB.out))); (case aF => exact (fun k_ hk => (Nat.le_trans (below_size (by repeat (first | (with_reducible first | exact HB.out | apply below_alloc | apply pw_below_drewN | apply below_drew1 | refine below_set ?_ GE234.out | refine below_set ?_ GE235.out) | exact HB.out))) hk))); (case aO => exact (by (with_reducible repeat (first | apply Kd.R_alloc | apply Kd.R_drewN | apply Kd.R_drew)); exact HO_8.out)); (case aS => exact (below_size (by repeat (first | (with_reducible first | exact HB.out | apply below_alloc | apply pw_below_drewN | apply below_drew1 | refine below_set ?_ GE234.out | refine below_set ?_ GE235.out) | exact HB.out)))); (case aL => have := LMc33.out; omega); intro v246 w57 ho hb hg hat; rw [← Ny245.out] at ho; have n0_ := Aside0.mk (Kd.V_afterv (ok := (fun k_ => (P0_ k_ ∨ w.heap.size ≤ k_) ∧ some k_ ≠ (u236000 : Value).ownBlock ∧ k_ ≠ gb234 ∧ k_ ≠ gb235)) (by (with_reducible repeat (first | apply Kd.V_alloc | apply Kd.V_drewN | apply Kd.V_drew)); exact Kd.V_mono HO_0.out (fun _ hk => ⟨⟨hk.1, ⟨hk.2.2.1, ⟨hk.2.2.2.1, hk.2.2.2.2⟩⟩⟩, hk.2.1⟩)) hg hat); have n1_ := Aside0.mk (Kd.S_after (ok := (fun k_ => (w.heap.size ≤ k_))) (by (with_reducible repeat (first | apply Kd.S_alloc | apply Kd.S_drewN | apply Kd.S_drew)); exact HO_236000.out) hg hat); have n2_ := Aside0.mk (blk_grown (g := gb234) (o := .cells #[.slice none 0 0, .int .i64 x235001_1, .int .i64 x235002_1, .bool x235003_1] 57 (0, 0)) (by (with_reducible repeat (first | refine blk_drewN ?_ _ | refine blk_drew ?_ | refine blk_alloc ?_ _)); exact BK234.out) hg (Kd.R_ne HO_8.out BK234.out (by decide))); have n3_ := Aside0.mk (blk_grown (g := gb235) (o := .cells #[u236000, .int .i64 0, .int .i64 x236002_1, .bool false] 57 (0, 0)) (by (with_reducible repeat (first | refine blk_drewN ?_ _ | refine blk_drew ?_ | refine blk_alloc ?_ _)); exact BK235.out) hg (Kd.R_ne HO_8.out BK235.out (by decide))); have n4_ := Aside0.mk (Kd.V_afterv (ok := (fun k_ => (P0_ k_ ∨ w.heap.size ≤ k_) ∧ some k_ ≠ (u236000 : Value).ownBlock ∧ k_ ≠ gb234 ∧ k_ ≠ gb235)) (by (with_reducible repeat (first | apply Kd.V_alloc | apply Kd.V_drewN | apply Kd.V_drew)); exact Kd.V_mono HO244.out (fun _ hk => ⟨⟨hk.1, ⟨hk.2.2.1, ⟨hk.2.2.2.1, hk.2.2.2.2⟩⟩⟩, hk.2.1⟩)) hg hat); have n5_ := Aside0.mk (hb); have n6_ := Aside0.mk (ho); clear HO_0; clear HO_236000; clear BK234; clear BK235; clear HO244; clear HB; clear HO_8; have HO_0 := n0_; have HO_236000 := n1_; have BK234 := n2_; have BK235 := n3_; have HO244 := n4_; have HB := n5_; have HO247 := n6_; clear n0_ n1_ n2_ n3_ n4_ n5_ n6_; clear ho hb hg hat; have p248 : 0 ≤ (0 : Int) := (by omega); have q248 : 0 < (x0_1.length : Int) := of_decide_eq_true (by first | (with_reducible assumption) | assumption); obtain ⟨ad248, e248, hx248_0⟩ := Kd.at_int (Kd.V_reads' HO_0.out).2.2 0 p248 q248; obtain rfl : ad236 = ad248 := (by injection e248); have qi248 : (0 < x0_1.length) = True := eq_true (by omega); (try rw [show ((0 : Int)).toNat = 0 from rfl] at hx248_0); (try rw [Addr.add_zero'] at hx248_0); replace p248 := eq_true p248; replace q248 := eq_true q248; have q58 : ((ji51) : Int) ≤ ((x0_1.length : Int) : Int) := of_decide_eq_true (by first | (with_reducible assumption) | assumption); obtain ⟨i058, hi058, _, hsz58, _⟩ := info_parts info5; have hroom58 : x0_1.length ≤ co54 := (Kd.V_reads' HO_0.out).2.1; have hC58 : Kd.F (Kd.int .u8) _ _ (some ad236) x0_1.length x0_1 := (Kd.V_at (base := w.heap.size) HO_0.out).2.2; have q058 : (0 : Int) ≤ ((ji51) : Int) := of_decide_eq_true (by first | (with_reducible assumption) | assumption); have hcut58 := cut_from (P := Try.prog) 28 5 .i64 Try.underlying28 hi058 1 hsz58 (some ad236) x0_1.length co54 (ji51) q058 q58; have hr58 := Kd.F_cut (m := ((ji51) : Int).toNat) (c := co54) hC58 (by omega) hroom58; obtain ⟨A58, hA58⟩ : ∃ A1, A1 = (if co54 = ((ji51) : Int).toNat then (some ad236) else ((some ad236) : Option Addr).map (·.add (((ji51) : Int).toNat * 1))) := ⟨_, rfl⟩; obtain ⟨c58, hc58⟩ : ∃ c1, c1 = co54 - ((ji51) : Int).toNat := ⟨_, rfl⟩; have hy58 : y257.length = x0_1.length - ((ji51) : Int).toNat := (by rw [Ny257.out, List.length_drop] <;> omega); rw [show (x0_1).drop ((ji51) : Int).toNat = y257 from Ny257.out.symm] at hr58; replace hr58 : Kd.F (Kd.int .u8) _ _ A58 y257.length y257 := (by rw [hA58]; exact hr58); rw [← hy58, ← hA58, ← hc58] at hcut58; have HO261 := Aside0.mk (show Kd.V (Kd.int .u8) 5 _ w.heap.size _ (.slice A58 y257.length c58) y257 from Kd.V_mk (by rw [hy58, hc58]; exact Nat.sub_le_sub_right hroom58 _) hr58); have HC261 := Aside0.mk (show y257.length ≤ c58 from by rw [hy58, hc58]; exact Nat.sub_le_sub_right hroom58 _); clear hr58 hC58 hroom58 hi058 hsz58 hc58; have KY58 := Aside0.mk hy58; have KA58 := Aside0.mk hA58; clear hy58 hA58; replace q58 := eq_true q58)); try go_wp2_with (first | ((with_reducible refine gate_builtin (b := .append) (xs := #[.tmp 67, .tmp 71]) rfl ?_); (try (refine gate_guard (by rfl) ?_; dsimp only)); at_builtin; refine Kd.R_append_rows (Kd.int .u8) (w0 := w) w.heap.size rfl (.tmp 67) (.tmp 71) 28 5 (.int .u8 0) 1 rfl Try.underlying28 info5 rfl (by decide) (by omega) (.slice Ao55 x8_1.length co55) x8_1 y240 _ _ _ (fun k_ => (w.heap.size ≤ k_)) (fun _ => False) rfl rfl ?aO ?aR (fun _ _ h => h) (fun _ h => h.elim) ?aF ?aB ?aS ?aL ?_; (case aR => repeat (first | exact (Kd.V_reads' HO244.out).2.2 | (with_reducible refine Kd.C_alloc ?_ _) | (with_reducible refine Kd.C_drewN ?_ _) | (with_reducible refine Kd.C_drew ?_))); (case aB => exact (by repeat (first | (with_reducible first | exact HB.out | apply below_alloc | apply pw_below_drewN | apply below_drew1 | refine below_set ?_ GE234.out | refine below_set ?_ GE235.out) | exact HB.out))); (case aF => exact (fun k_ hk => (Nat.le_trans (below_size (by repeat (first | (with_reducible first | exact HB.out | apply below_alloc | apply pw_below_drewN | apply below_drew1 | refine below_set ?_ GE234.out | refine below_set ?_ GE235.out) | exact HB.out))) hk))); (case aO => exact (by (with_reducible repeat (first | apply Kd.R_alloc | apply Kd.R_drewN | apply Kd.R_drew)); exact HO_8.out)); (case aS => exact (below_size (by repeat (first | (with_reducible first | exact HB.out | apply below_alloc | apply pw_below_drewN | apply below_drew1 | refine below_set ?_ GE234.out | refine below_set ?_ GE235.out) | exact HB.out)))); (case aL => have := LMc33.out; omega); intro v246 w57 ho hb hg hat; rw [← Ny245.out] at ho; have n0_ := Aside0.mk (Kd.V_afterv (ok := (fun k_ => (P0_ k_ ∨ w.heap.size ≤ k_) ∧ some k_ ≠ (u236000 : Value).ownBlock ∧ k_ ≠ gb234 ∧ k_ ≠ gb235)) (by (with_reducible repeat (first | apply Kd.V_alloc | apply Kd.V_drewN | apply Kd.V_drew)); exact Kd.V_mono HO_0.out (fun _ hk => ⟨⟨hk.1, ⟨hk.2.2.1, ⟨hk.2.2.2.1, hk.2.2.2.2⟩⟩⟩, hk.2.1⟩)) hg hat); have n1_ := Aside0.mk (Kd.S_after (ok := (fun k_ => (w.heap.size ≤ k_))) (by (with_reducible repeat (first | apply Kd.S_alloc | apply Kd.S_drewN | apply Kd.S_drew)); exact HO_236000.out) hg hat); have n2_ := Aside0.mk (blk_grown (g := gb234) (o := .cells #[.slice none 0 0, .int .i64 x235001_1, .int .i64 x235002_1, .bool x235003_1] 57 (0, 0)) (by (with_reducible repeat (first | refine blk_drewN ?_ _ | refine blk_drew ?_ | refine blk_alloc ?_ _)); exact BK234.out) hg (Kd.R_ne HO_8.out BK234.out (by decide))); have n3_ := Aside0.mk (blk_grown (g := gb235) (o := .cells #[u236000, .int .i64 0, .int .i64 x236002_1, .bool false] 57 (0, 0)) (by (with_reducible repeat (first | refine blk_drewN ?_ _ | refine blk_drew ?_ | refine blk_alloc ?_ _)); exact BK235.out) hg (Kd.R_ne HO_8.out BK235.out (by decide))); have n4_ := Aside0.mk (Kd.V_afterv (ok := (fun k_ => (P0_ k_ ∨ w.heap.size ≤ k_) ∧ some k_ ≠ (u236000 : Value).ownBlock ∧ k_ ≠ gb234 ∧ k_ ≠ gb235)) (by (with_reducible repeat (first | apply Kd.V_alloc | apply Kd.V_drewN | apply Kd.V_drew)); exact Kd.V_mono HO244.out (fun _ hk => ⟨⟨hk.1, ⟨hk.2.2.1, ⟨hk.2.2.2.1, hk.2.2.2.2⟩⟩⟩, hk.2.1⟩)) hg hat); have n5_ := Aside0.mk (hb); have n6_ := Aside0.mk (ho); clear HO_0; clear HO_236000; clear BK234; clear BK235; clear HO244; clear HB; clear HO_8; have HO_0 := n0_; have HO_236000 := n1_; have BK234 := n2_; have BK235 := n3_; have HO244 := n4_; have HB := n5_; have HO247 := n6_; clear n0_ n1_ n2_ n3_ n4_ n5_ n6_; clear ho hb hg hat; have p248 : 0 ≤ (0 : Int) := (by omega); have q248 : 0 < (x0_1.length : Int) := of_decide_eq_true (by first | (with_reducible assumption) | assumption); obtain ⟨ad248, e248, hx248_0⟩ := Kd.at_int (Kd.V_reads' HO_0.out).2.2 0 p248 q248; obtain rfl : ad236 = ad248 := (by injection e248); have qi248 : (0 < x0_1.length) = True := eq_true (by omega); (try rw [show ((0 : Int)).toNat = 0 from rfl] at hx248_0); (try rw [Addr.add_zero'] at hx248_0); replace p248 := eq_true p248; replace q248 := eq_true q248; have q58 : ((ji51) : Int) ≤ ((x0_1.length : Int) : Int) := of_decide_eq_true (by first | (with_reducible assumption) | assumption); obtain ⟨i058, hi058, _, hsz58, _⟩ := info_parts info5; have hroom58 : x0_1.length ≤ co54 := (Kd.V_reads' HO_0.out).2.1; have hC58 : Kd.F (Kd.int .u8) _ _ (some ad236) x0_1.length x0_1 := (Kd.V_at (base := w.heap.size) HO_0.out).2.2; have q058 : (0 : Int) ≤ ((ji51) : Int) := of_decide_eq_true (by first | (with_reducible assumption) | assumption); have hcut58 := cut_from (P := Try.prog) 28 5 .i64 Try.underlying28 hi058 1 hsz58 (some ad236) x0_1.length co54 (ji51) q058 q58; have hr58 := Kd.F_cut (m := ((ji51) : Int).toNat) (c := co54) hC58 (by omega) hroom58; obtain ⟨A58, hA58⟩ : ∃ A1, A1 = (if co54 = ((ji51) : Int).toNat then (some ad236) else ((some ad236) : Option Addr).map (·.add (((ji51) : Int).toNat * 1))) := ⟨_, rfl⟩; obtain ⟨c58, hc58⟩ : ∃ c1, c1 = co54 - ((ji51) : Int).toNat := ⟨_, rfl⟩; have hy58 : y257.length = x0_1.length - ((ji51) : Int).toNat := (by rw [Ny257.out, List.length_drop] <;> omega); rw [show (x0_1).drop ((ji51) : Int).toNat = y257 from Ny257.out.symm] at hr58; replace hr58 : Kd.F (Kd.int .u8) _ _ A58 y257.length y257 := (by rw [hA58]; exact hr58); rw [← hy58, ← hA58, ← hc58] at hcut58; have HO261 := Aside0.mk (show Kd.V (Kd.int .u8) 5 _ w.heap.size _ (.slice A58 y257.length c58) y257 from Kd.V_mk (by rw [hy58, hc58]; exact Nat.sub_le_sub_right hroom58 _) hr58); have HC261 := Aside0.mk (show y257.length ≤ c58 from by rw [hy58, hc58]; exact Nat.sub_le_sub_right hroom58 _); clear hr58 hC58 hroom58 hi058 hsz58 hc58; have KY58 := Aside0.mk hy58; have KA58 := Aside0.mk hA58; clear hy58 hA58; replace q58 := eq_true q58)))
                                go_roundg k1
                                case measure => have := HK1.out; omega
                                case rel => exact ⟨(y257), (y245), (wrap64 (x9_1 + 1)), (x235001_1), (x235002_1), (x235003_1), (x236000_1), (x236002_1), (u236000), (by first | rfl | (simp; done) | (simp [*]; done)), H', ⟨by have := HK1.out; omega⟩, ⟨by (with_reducible repeat (first | apply Kd.V_alloc | apply Kd.V_drewN | apply Kd.V_drew)); exact Kd.V_mono HO261.out (fun _ hk => ⟨hk.1.1, ⟨hk.2, ⟨hk.1.2.1, ⟨hk.1.2.2.1, hk.1.2.2.2⟩⟩⟩⟩)⟩, ⟨by (with_reducible repeat (first | apply Kd.R_alloc | apply Kd.R_drewN | apply Kd.R_drew)); exact HO247.out⟩, ⟨by (with_reducible repeat (first | apply Kd.S_alloc | apply Kd.S_drewN | apply Kd.S_drew)); exact HO_236000.out⟩, ⟨by (with_reducible repeat (first | refine blk_drewN ?_ _ | refine blk_drew ?_ | refine blk_alloc ?_ _)); exact BK234.out⟩, ⟨by (with_reducible repeat (first | refine blk_drewN ?_ _ | refine blk_drew ?_ | refine blk_alloc ?_ _)); exact BK235.out⟩, ⟨by repeat (first | (with_reducible first | exact HB.out | apply below_alloc | apply pw_below_drewN | apply below_drew1 | refine below_set ?_ GE234.out | refine below_set ?_ GE235.out) | exact HB.out)⟩⟩
                              · rw [if_neg c52] at H
                                exact absurd H (by simp)
                          · rw [if_neg c33] at H
                            exact absurd H (by simp)
                        · rw [if_neg c32] at H
                          exact absurd H (by simp)
                      · rw [if_neg c31] at H
                        exact absurd H (by simp)
              · rw [if_neg c10] at H
                exact absurd H (by simp)
            · rw [if_neg c9] at H
              exact absurd H (by simp)
          · rw [if_neg c8] at H
            exact absurd H (by simp)
        · rw [if_neg c7] at H
          exact absurd H (by simp)
      · rw [if_neg c6] at H
        have c6b0 : decide (3 < (x0_1.length : Int)) = false := decide_eq_false c6
        have c6b1 : decide (3 < x0_1.length) = false := decide_eq_false (by omega)
        clear c6
        by_cases c59 : x9_1 = 0
        · rw [if_pos c59] at H
          have c59b0 : (x9_1 == 0) = true := beq_iff_eq.mpr c59
          have c59b1 : (x9_1 != 0) = false := bne_eq_false_iff_eq.mpr c59
          clear c59
          simp only [Option.some.injEq, Prod.mk.injEq] at H
          obtain ⟨rfl, rfl, rfl, rfl⟩ := H
          obtain ⟨Ao60, co60, eo60⟩ := Kd.V_slice HO_0.out
          subst eo60
          obtain ⟨Ao61, co61, eo61⟩ := Kd.R_slice HO_8.out
          subst eo61
          have hnb62 := NB235_234.out
          have hnc62 := NB234_235.out
          have hcz63_0 : wr.cell? ⟨gb235, 0, none⟩ = some (u236000) := (blk_cell BK235.out 0).trans rfl
          have hcz63_1 : wr.cell? ⟨gb235, 1, none⟩ = some (.int .i64 0) := (blk_cell BK235.out 1).trans rfl
          have hcz63_2 : wr.cell? ⟨gb235, 2, none⟩ = some (.int .i64 x236002_1) := (blk_cell BK235.out 2).trans rfl
          have hcz63_3 : wr.cell? ⟨gb235, 3, none⟩ = some (.bool false) := (blk_cell BK235.out 3).trans rfl
          have hfz63_0 := blk_frozen BK235.out 0
          have hfz63_1 := blk_frozen BK235.out 1
          have hfz63_2 := blk_frozen BK235.out 2
          have hfz63_3 := blk_frozen BK235.out 3
          obtain ⟨Ao64, co64, eo64⟩ := Kd.S_slice HO_236000.out
          subst eo64
          have hcz65_0 : wr.cell? ⟨gb234, 0, none⟩ = some (.slice none 0 0) := (blk_cell BK234.out 0).trans rfl
          have hcz65_1 : wr.cell? ⟨gb234, 1, none⟩ = some (.int .i64 x235001_1) := (blk_cell BK234.out 1).trans rfl
          have hcz65_2 : wr.cell? ⟨gb234, 2, none⟩ = some (.int .i64 x235002_1) := (blk_cell BK234.out 2).trans rfl
          have hcz65_3 : wr.cell? ⟨gb234, 3, none⟩ = some (.bool x235003_1) := (blk_cell BK234.out 3).trans rfl
          have hfz65_0 := blk_frozen BK234.out 0
          have hfz65_1 := blk_frozen BK234.out 1
          have hfz65_2 := blk_frozen BK234.out 2
          have hfz65_3 := blk_frozen BK234.out 3
          go_wp2
          repeat (go_quiet (fail); try go_wp2)
          refine bodyPost_ret (results_cell_row rfl _ _ gb234 57 #[.slice Ao64 x236000_1.length co64, .int .i64 0, .int .i64 (wrap64 ((x8_1.length : Int) + (x0_1.length : Int))), .bool ((x0_1.length : Int) == 0)] (0, 0) _ rfl (by (with_reducible repeat (first | refine blk_drewN ?_ _ | refine blk_drew ?_ | refine blk_alloc ?_ _)); refine blk_put (cs := #[.slice Ao64 x236000_1.length co64, .int .i64 0, .int .i64 (wrap64 ((x8_1.length : Int) + (x0_1.length : Int))), .bool x235003_1]) ?_ 3 _ rfl; (with_reducible repeat (first | refine blk_drewN ?_ _ | refine blk_drew ?_ | refine blk_alloc ?_ _)); refine blk_put (cs := #[.slice Ao64 x236000_1.length co64, .int .i64 0, .int .i64 x235002_1, .bool x235003_1]) ?_ 2 _ rfl; (with_reducible repeat (first | refine blk_drewN ?_ _ | refine blk_drew ?_ | refine blk_alloc ?_ _)); refine blk_put (cs := #[.slice Ao64 x236000_1.length co64, .int .i64 x235001_1, .int .i64 x235002_1, .bool x235003_1]) ?_ 1 _ rfl; (with_reducible repeat (first | refine blk_drewN ?_ _ | refine blk_drew ?_ | refine blk_alloc ?_ _)); refine blk_put (cs := #[.slice none 0 0, .int .i64 x235001_1, .int .i64 x235002_1, .bool x235003_1]) ?_ 0 _ rfl; (with_reducible repeat (first | refine blk_drewN ?_ _ | refine blk_drew ?_ | refine blk_alloc ?_ _)); refine blk_far ?_ NB234_235.out _; (with_reducible repeat (first | refine blk_drewN ?_ _ | refine blk_drew ?_ | refine blk_alloc ?_ _)); refine blk_far ?_ NB234_235.out _; (with_reducible repeat (first | refine blk_drewN ?_ _ | refine blk_drew ?_ | refine blk_alloc ?_ _)); exact BK234.out) Try.underlying57 rfl (by kernel_rfl)) rfl ?_
          exact ⟨_, by first | rfl | (simp [errW_none, errW_some] <;> rfl) | (simp [*, errW_none, errW_some] <;> rfl), by (with_reducible repeat (first | apply Kd.S_alloc | apply Kd.S_drewN | apply Kd.S_drew)); exact Kd.S_mono (Kd.S_far (p := ⟨gb234, 3, none⟩) (Kd.S_far (p := ⟨gb234, 2, none⟩) (Kd.S_far (p := ⟨gb234, 1, none⟩) (Kd.S_far (p := ⟨gb234, 0, none⟩) (Kd.S_far (p := ⟨gb235, 3, none⟩) (Kd.S_far (p := ⟨gb235, 2, none⟩) (Kd.S_types (Kd.S_types HO_236000.out BK235.out (by decide)) BK234.out (by decide)) (fun _ hk => hk.1.2) (.int .i64 (wrap64 ((x8_1.length : Int) + (x0_1.length : Int))))) (fun _ hk => hk.1.2) (.bool ((x0_1.length : Int) == 0))) (fun _ hk => hk.2) (.slice Ao64 x236000_1.length co64)) (fun _ hk => hk.2) (.int .i64 0)) (fun _ hk => hk.2) (.int .i64 (wrap64 ((x8_1.length : Int) + (x0_1.length : Int))))) (fun _ hk => hk.2) (.bool ((x0_1.length : Int) == 0))) (fun _ hk => hk.1.1.1), by repeat (first | (with_reducible first | exact HB.out | apply below_alloc | apply pw_below_drewN | apply below_drew1 | refine below_set ?_ GE234.out | refine below_set ?_ GE235.out) | exact HB.out)⟩
        · rw [if_neg c59] at H
          have c59b0 : (x9_1 == 0) = false := beq_eq_false_iff_ne.mpr c59
          have c59b1 : (x9_1 != 0) = true := bne_iff_ne.mpr c59
          simp only [Option.some.injEq, Prod.mk.injEq] at H
          obtain ⟨rfl, rfl, rfl, rfl⟩ := H
          obtain ⟨Ao66, co66, eo66⟩ := Kd.V_slice HO_0.out
          subst eo66
          obtain ⟨Ao67, co67, eo67⟩ := Kd.R_slice HO_8.out
          subst eo67
          have hnb68 := NB235_234.out
          have hnc68 := NB234_235.out
          have hcz69_0 : wr.cell? ⟨gb235, 0, none⟩ = some (u236000) := (blk_cell BK235.out 0).trans rfl
          have hcz69_1 : wr.cell? ⟨gb235, 1, none⟩ = some (.int .i64 0) := (blk_cell BK235.out 1).trans rfl
          have hcz69_2 : wr.cell? ⟨gb235, 2, none⟩ = some (.int .i64 x236002_1) := (blk_cell BK235.out 2).trans rfl
          have hcz69_3 : wr.cell? ⟨gb235, 3, none⟩ = some (.bool false) := (blk_cell BK235.out 3).trans rfl
          have hfz69_0 := blk_frozen BK235.out 0
          have hfz69_1 := blk_frozen BK235.out 1
          have hfz69_2 := blk_frozen BK235.out 2
          have hfz69_3 := blk_frozen BK235.out 3
          obtain ⟨Ao70, co70, eo70⟩ := Kd.S_slice HO_236000.out
          subst eo70
          have hcz71_0 : wr.cell? ⟨gb234, 0, none⟩ = some (.slice none 0 0) := (blk_cell BK234.out 0).trans rfl
          have hcz71_1 : wr.cell? ⟨gb234, 1, none⟩ = some (.int .i64 x235001_1) := (blk_cell BK234.out 1).trans rfl
          have hcz71_2 : wr.cell? ⟨gb234, 2, none⟩ = some (.int .i64 x235002_1) := (blk_cell BK234.out 2).trans rfl
          have hcz71_3 : wr.cell? ⟨gb234, 3, none⟩ = some (.bool x235003_1) := (blk_cell BK234.out 3).trans rfl
          have hfz71_0 := blk_frozen BK234.out 0
          have hfz71_1 := blk_frozen BK234.out 1
          have hfz71_2 := blk_frozen BK234.out 2
          have hfz71_3 := blk_frozen BK234.out 3
          go_wp2
          repeat (go_quiet (fail); try go_wp2)
          refine bodyPost_ret (results_cell_row rfl _ _ gb234 57 #[.slice Ao70 x236000_1.length co70, .int .i64 0, .int .i64 (wrap64 ((x8_1.length : Int) + (x0_1.length : Int))), .bool false] (0, 0) _ rfl (by (with_reducible repeat (first | refine blk_drewN ?_ _ | refine blk_drew ?_ | refine blk_alloc ?_ _)); refine blk_put (cs := #[.slice Ao70 x236000_1.length co70, .int .i64 0, .int .i64 (wrap64 ((x8_1.length : Int) + (x0_1.length : Int))), .bool x235003_1]) ?_ 3 _ rfl; (with_reducible repeat (first | refine blk_drewN ?_ _ | refine blk_drew ?_ | refine blk_alloc ?_ _)); refine blk_put (cs := #[.slice Ao70 x236000_1.length co70, .int .i64 0, .int .i64 x235002_1, .bool x235003_1]) ?_ 2 _ rfl; (with_reducible repeat (first | refine blk_drewN ?_ _ | refine blk_drew ?_ | refine blk_alloc ?_ _)); refine blk_put (cs := #[.slice Ao70 x236000_1.length co70, .int .i64 x235001_1, .int .i64 x235002_1, .bool x235003_1]) ?_ 1 _ rfl; (with_reducible repeat (first | refine blk_drewN ?_ _ | refine blk_drew ?_ | refine blk_alloc ?_ _)); refine blk_put (cs := #[.slice none 0 0, .int .i64 x235001_1, .int .i64 x235002_1, .bool x235003_1]) ?_ 0 _ rfl; (with_reducible repeat (first | refine blk_drewN ?_ _ | refine blk_drew ?_ | refine blk_alloc ?_ _)); refine blk_far ?_ NB234_235.out _; (with_reducible repeat (first | refine blk_drewN ?_ _ | refine blk_drew ?_ | refine blk_alloc ?_ _)); refine blk_far ?_ NB234_235.out _; (with_reducible repeat (first | refine blk_drewN ?_ _ | refine blk_drew ?_ | refine blk_alloc ?_ _)); exact BK234.out) Try.underlying57 rfl (by kernel_rfl)) rfl ?_
          exact ⟨_, by first | rfl | (simp [errW_none, errW_some] <;> rfl) | (simp [*, errW_none, errW_some] <;> rfl), by (with_reducible repeat (first | apply Kd.S_alloc | apply Kd.S_drewN | apply Kd.S_drew)); exact Kd.S_mono (Kd.S_far (p := ⟨gb234, 3, none⟩) (Kd.S_far (p := ⟨gb234, 2, none⟩) (Kd.S_far (p := ⟨gb234, 1, none⟩) (Kd.S_far (p := ⟨gb234, 0, none⟩) (Kd.S_far (p := ⟨gb235, 3, none⟩) (Kd.S_far (p := ⟨gb235, 2, none⟩) (Kd.S_types (Kd.S_types HO_236000.out BK235.out (by decide)) BK234.out (by decide)) (fun _ hk => hk.1.2) (.int .i64 (wrap64 ((x8_1.length : Int) + (x0_1.length : Int))))) (fun _ hk => hk.1.2) (.bool false)) (fun _ hk => hk.2) (.slice Ao70 x236000_1.length co70)) (fun _ hk => hk.2) (.int .i64 0)) (fun _ hk => hk.2) (.int .i64 (wrap64 ((x8_1.length : Int) + (x0_1.length : Int))))) (fun _ hk => hk.2) (.bool false)) (fun _ hk => hk.1.1.1), by repeat (first | (with_reducible first | exact HB.out | apply below_alloc | apply pw_below_drewN | apply below_drew1 | refine below_set ?_ GE234.out | refine below_set ?_ GE235.out) | exact HB.out)⟩

/-! ### truchmanref01_SameBytes: function 26 -/
def truchmanref01_SameBytes.l0 : Nat → List (List Int) → List (List Int) → Int → Option (Bool)
  | 0, _, _, _ => none
  | k + 1, x0, x1, x5 => if x5 < (x0.length : Int) then (if 0 ≤ x5 then (if x5 < (x1.length : Int) then (if (strOfNums (rd_L5 x0 x5)).toList = (strOfNums (rd_L5 x1 x5)).toList then (truchmanref01_SameBytes.l0 k x0 x1 (wrap64 (x5 + 1))) else (some false)) else (none)) else (none)) else (some true)
def truchmanref01_SameBytes.f (k : Nat) (l0 : List (List Int)) (l1 : List (List Int)) : Option (Bool) := if (l0.length : Int) = (l1.length : Int) then (truchmanref01_SameBytes.l0 k l0 l1 0) else (some false)
theorem truchmanref01_SameBytes.mono_l : ∀ k, (∀ y0 y1 y2, LeO (truchmanref01_SameBytes.l0 k y0 y1 y2) (truchmanref01_SameBytes.l0 (k + 1) y0 y1 y2))
  | 0 => fun _ _ _ r h => by simp [truchmanref01_SameBytes.l0] at h
  | k + 1 => by
    have ih0 := truchmanref01_SameBytes.mono_l k
    · intro y0 y1 y2
      unfold truchmanref01_SameBytes.l0
      repeat' first
      | (with_reducible exact ih0 _ _ _)
      | (with_reducible exact LeO.refl _)
      | (with_reducible exact LeO.none _)
      | (with_reducible refine LeO.ite ?_ ?_)
      | (with_reducible refine LeO.bind ?_ (fun _ => ?_))
      | exact ih0 _ _ _
      | exact LeO.none _
      | refine LeO.ite ?_ ?_
      | refine LeO.bind ?_ (fun _ => ?_)
theorem truchmanref01_SameBytes.mono : ∀ a0 a1 k, LeO (truchmanref01_SameBytes.f k a0 a1) (truchmanref01_SameBytes.f (k + 1) a0 a1) := by
  intro a0 a1 k
  have ih0 := truchmanref01_SameBytes.mono_l k
  unfold truchmanref01_SameBytes.f
  repeat' first
      | (with_reducible exact ih0 _ _ _)
      | (with_reducible exact LeO.refl _)
      | (with_reducible exact LeO.none _)
      | (with_reducible refine LeO.ite ?_ ?_)
      | (with_reducible refine LeO.bind ?_ (fun _ => ?_))
      | exact ih0 _ _ _
      | exact LeO.none _
      | refine LeO.ite ?_ ?_
      | refine LeO.bind ?_ (fun _ => ?_)
set_option maxHeartbeats 8000000 in
set_option maxRecDepth 100000 in
theorem truchmanref01_SameBytes.calls (k : Nat) (A0 : Option Addr) (c0 : Nat) (l0 : List (List Int)) (A1 : Option Addr) (c1 : Nat) (l1 : List (List Int)) (r : Bool) (w : World) (hr0 : Kd.C (Kd.slice 5 (Kd.int .u8)) w A0 l0.length l0) (hc0 : l0.length ≤ c0) (hr1 : Kd.C (Kd.slice 5 (Kd.int .u8)) w A1 l1.length l1) (hc1 : l1.length ≤ c1) (h : truchmanref01_SameBytes.f k l0 l1 = some r) :
    Calls Try.prog 26 #[.slice A0 l0.length c0, .slice A1 l1.length c1] w fun e w' => e = .returned (.bool r) ∧ Drawn0 w w' := by
  have HR0 := Aside0.mk hr0
  have HC0 := Aside0.mk hc0
  clear hr0 hc0
  have HR1 := Aside0.mk hr1
  have HC1 := Aside0.mk hc1
  clear hr1 hc1
  have H : (if (l0.length : Int) = (l1.length : Int) then (truchmanref01_SameBytes.l0 k l0 l1 0) else (some false)) = some r := h
  clear h
  by_cases c3 : (l0.length : Int) = (l1.length : Int)
  · rw [if_pos c3] at H
    have c3b0 : ((l0.length : Int) == (l1.length : Int)) = true := beq_iff_eq.mpr c3
    have c3b1 : ((l0.length : Int) != (l1.length : Int)) = false := bne_eq_false_iff_eq.mpr c3
    have c3b2 : (l0.length == l1.length) = true := by first | simpa using c3 | (simp at c3 ⊢; omega)
    clear c3
    have H' := Aside0.mk H
    clear H
    go_enter Try.func26, Try.ntmps26
    go_wp2
    repeat (go_quiet (fail); try go_wp2)
    go_loopg [5] k (fun kq v5 w' => ∃ (x5_1 : Int), v5 = .int .i64 x5_1 ∧ Aside0 (truchmanref01_SameBytes.l0 kq l0 l1 x5_1 = some r) ∧ Aside0 (kq ≤ k) ∧ Drawn0 w w')
    case atStart => exact ⟨(0), (by first | rfl | (simp; done) | (simp [*]; done)), H', ⟨Nat.le_refl _⟩, by repeat (first | exact Drawn0.refl _ | apply Drawn0.step)⟩
    case round =>
      clear H'
      try clear c1
      try clear c2
      try clear p2
      try clear c3
      try clear c3b0
      try clear c3b1
      try clear c3b2
      obtain ⟨x5_1, rfl, HA, HK1, ⟨m1, rfl⟩⟩ := hrel
      cases gk with
      | zero => exact absurd HA.out (by simp [truchmanref01_SameBytes.l0])
      | succ k1 =>
        have H := HA.out
        clear HA
        simp only [truchmanref01_SameBytes.l0] at H
        by_cases c4 : x5_1 < (l0.length : Int)
        · rw [if_pos c4] at H
          have c4b0 : decide (x5_1 < (l0.length : Int)) = true := decide_eq_true c4
          clear c4
          by_cases c5 : 0 ≤ x5_1
          · rw [if_pos c5] at H
            have c5b0 : decide (0 ≤ x5_1) = true := decide_eq_true c5
            clear c5
            by_cases c6 : x5_1 < (l1.length : Int)
            · rw [if_pos c6] at H
              have c6b0 : decide (x5_1 < (l1.length : Int)) = true := decide_eq_true c6
              clear c6
              by_cases c7 : (strOfNums (rd_L5 l0 x5_1)).toList = (strOfNums (rd_L5 l1 x5_1)).toList
              · rw [if_pos c7] at H
                have c7b0 : ((strOfNums (rd_L5 l0 x5_1)).toList == (strOfNums (rd_L5 l1 x5_1)).toList) = true := beq_iff_eq.mpr c7
                have c7b1 : ((strOfNums (rd_L5 l0 x5_1)).toList != (strOfNums (rd_L5 l1 x5_1)).toList) = false := bne_eq_false_iff_eq.mpr c7
                clear c7
                have H' := Aside0.mk H
                clear H
                have p262 : 0 ≤ (x5_1 : Int) := of_decide_eq_true (by first | (with_reducible assumption) | assumption)
                have q262 : x5_1 < (l0.length : Int) := of_decide_eq_true (by first | (with_reducible assumption) | assumption)
                obtain ⟨ad262, A262_0, c262_0, e262, hx262_0, hl262_0, hi262_0⟩ := at_L5 HR0.out x5_1 p262 q262
                cases e262
                have HR262_0 := Aside0.mk hi262_0
                have HC262_0 := Aside0.mk hl262_0
                clear hi262_0 hl262_0
                replace p262 := eq_true p262
                replace q262 := eq_true q262
                have hcv8 := fun nq_ : Nat => Kd.C_string (P := Try.prog) (w := w.drewN nq_) (A := A262_0) (c := c262_0) Try.underlying28 Try.underlying5 Try.underlying9 (Kd.C_drewN HR262_0.out nq_)
                have p263 : 0 ≤ (x5_1 : Int) := of_decide_eq_true (by first | (with_reducible assumption) | assumption)
                have q263 : x5_1 < (l1.length : Int) := of_decide_eq_true (by first | (with_reducible assumption) | assumption)
                obtain ⟨ad263, A263_0, c263_0, e263, hx263_0, hl263_0, hi263_0⟩ := at_L5 HR1.out x5_1 p263 q263
                cases e263
                have HR263_0 := Aside0.mk hi263_0
                have HC263_0 := Aside0.mk hl263_0
                clear hi263_0 hl263_0
                replace p263 := eq_true p263
                replace q263 := eq_true q263
                have hcv9 := fun nq_ : Nat => Kd.C_string (P := Try.prog) (w := w.drewN nq_) (A := A263_0) (c := c263_0) Try.underlying28 Try.underlying5 Try.underlying9 (Kd.C_drewN HR263_0.out nq_)
                go_wp2
                repeat (go_quiet (fail); try go_wp2)
                go_roundg k1
                case measure => have := HK1.out; omega
                case rel => exact ⟨(wrap64 (x5_1 + 1)), (by first | rfl | (simp; done) | (simp [*]; done)), H', ⟨by have := HK1.out; omega⟩, by repeat (first | exact Drawn0.refl _ | apply Drawn0.step)⟩
              · rw [if_neg c7] at H
                have c7b0 : ((strOfNums (rd_L5 l0 x5_1)).toList == (strOfNums (rd_L5 l1 x5_1)).toList) = false := beq_eq_false_iff_ne.mpr c7
                have c7b1 : ((strOfNums (rd_L5 l0 x5_1)).toList != (strOfNums (rd_L5 l1 x5_1)).toList) = true := bne_iff_ne.mpr c7
                obtain rfl := Option.some.inj H
                have p262 : 0 ≤ (x5_1 : Int) := of_decide_eq_true (by first | (with_reducible assumption) | assumption)
                have q262 : x5_1 < (l0.length : Int) := of_decide_eq_true (by first | (with_reducible assumption) | assumption)
                obtain ⟨ad262, A262_0, c262_0, e262, hx262_0, hl262_0, hi262_0⟩ := at_L5 HR0.out x5_1 p262 q262
                cases e262
                have HR262_0 := Aside0.mk hi262_0
                have HC262_0 := Aside0.mk hl262_0
                clear hi262_0 hl262_0
                replace p262 := eq_true p262
                replace q262 := eq_true q262
                have hcv10 := fun nq_ : Nat => Kd.C_string (P := Try.prog) (w := w.drewN nq_) (A := A262_0) (c := c262_0) Try.underlying28 Try.underlying5 Try.underlying9 (Kd.C_drewN HR262_0.out nq_)
                have p263 : 0 ≤ (x5_1 : Int) := of_decide_eq_true (by first | (with_reducible assumption) | assumption)
                have q263 : x5_1 < (l1.length : Int) := of_decide_eq_true (by first | (with_reducible assumption) | assumption)
                obtain ⟨ad263, A263_0, c263_0, e263, hx263_0, hl263_0, hi263_0⟩ := at_L5 HR1.out x5_1 p263 q263
                cases e263
                have HR263_0 := Aside0.mk hi263_0
                have HC263_0 := Aside0.mk hl263_0
                clear hi263_0 hl263_0
                replace p263 := eq_true p263
                replace q263 := eq_true q263
                have hcv11 := fun nq_ : Nat => Kd.C_string (P := Try.prog) (w := w.drewN nq_) (A := A263_0) (c := c263_0) Try.underlying28 Try.underlying5 Try.underlying9 (Kd.C_drewN HR263_0.out nq_)
                go_wp2
                repeat (go_quiet (fail); try go_wp2)
                go_ret
                exact ⟨by first | rfl | (simp; done) | (simp [*]; done), by repeat (first | exact Drawn0.refl _ | apply Drawn0.step)⟩
            · rw [if_neg c6] at H
              exact absurd H (by simp)
          · rw [if_neg c5] at H
            exact absurd H (by simp)
        · rw [if_neg c4] at H
          have c4b0 : decide (x5_1 < (l0.length : Int)) = false := decide_eq_false c4
          clear c4
          obtain rfl := Option.some.inj H
          go_wp2
          repeat (go_quiet (fail); try go_wp2)
          go_ret
          exact ⟨by first | rfl | (simp; done) | (simp [*]; done), by repeat (first | exact Drawn0.refl _ | apply Drawn0.step)⟩
  · rw [if_neg c3] at H
    have c3b0 : ((l0.length : Int) == (l1.length : Int)) = false := beq_eq_false_iff_ne.mpr c3
    have c3b1 : ((l0.length : Int) != (l1.length : Int)) = true := bne_iff_ne.mpr c3
    have c3b2 : (l0.length == l1.length) = false := by first | simpa using c3 | (simp at c3 ⊢; omega)
    obtain rfl := Option.some.inj H
    go_enter Try.func26, Try.ntmps26
    go_wp2
    repeat (go_quiet (fail); try go_wp2)
    go_ret
    exact ⟨by first | rfl | (simp; done) | (simp [*]; done), by repeat (first | exact Drawn0.refl _ | apply Drawn0.step)⟩

-- NOT PRINTED: function 27 (demark_Deframer_Errno)

-- NOT PRINTED: function 28 (demark_Deframer_Held)

-- NOT PRINTED: function 29 (demark_Deframer_Clean)

-- NOT PRINTED: function 30 (truchmanlaw04_lives)

-- NOT PRINTED: function 5 (truchmanlaw04_DemarkFeeds)

-- NOT PRINTED: function 6 (truchmanlaw04_DemarkRound)

-- NOT PRINTED: function 7 (truchmanlaw04_DemarkCuts)

-- NOT PRINTED: function 8 (truchmanlaw04_DemarkErrors)

-- NOT PRINTED: function 9 (truchmanlaw04_DemarkNews)

end Go.Proofs.Ytfoifcilacbipaa.P
