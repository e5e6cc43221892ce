-- Written by a program of this session (wip/tools), over the kit's printer; Lean checks it.
import Derived.Test.YtfoifcilacbipaaPx0
namespace Go.Proofs.Ytfoifcilacbipaa.P
open Go.RowKit Go.Proofs.YtfoifcilacbipaaW.PrintWords Go.Proofs.YtfoifcilacbipaaW.PrintLast Go.Proofs.YtfoifcilacbipaaW.PrintMore
attribute [local go_sem] max2_int min2_int max_two min_two max_three min_three max_four min_four   -- for this text's walks alone
set_option linter.unusedVariables false
set_option linter.unusedSimpArgs false

/-! ### truchmanref04_All: function 25 -/
def truchmanref04_All.l0 : Nat → List Int → Int → Int → List Int → Int → List (List Int) → Int → Int → Bool → Option ((List (List Int)) × Int × Int × Bool)
  | 0, _, _, _, _, _, _, _, _, _ => none
  | k + 1, x0, x1, x2, x8, x9, x210000, x210001, x210002, x210003 => if (x0.length : Int) > 3 then (if 0 < (x0.length : Int) then (if 1 < (x0.length : Int) then (if 2 < (x0.length : Int) then (if 3 < (x0.length : Int) then (if (wrap64 (x9 + 1)) > x2 then (some (x210000, 5, 0, false)) else (if (wrap64 ((x8.length : Int) + (wrap64 ((wrap64 ((wrap64 ((wrap64 ((wrap64 (Int.tmod (rd x0 0) 128)) * 16777216)) + (wrap64 ((wrap64 (rd x0 1)) * 65536)))) + (wrap64 ((wrap64 (rd x0 2)) * 256)))) + (wrap64 (rd x0 3)))))) > x1 then (some (x210000, 4, 0, false)) else (if (x0.length : Int) < (wrap64 (4 + (wrap64 ((wrap64 ((wrap64 ((wrap64 ((wrap64 (Int.tmod (rd x0 0) 128)) * 16777216)) + (wrap64 ((wrap64 (rd x0 1)) * 65536)))) + (wrap64 ((wrap64 (rd x0 2)) * 256)))) + (wrap64 (rd x0 3)))))) then (some (x210000, x210001, wrap64 ((wrap64 ((x8.length : Int) + (x0.length : Int))) - 4), x210003)) else (if 4 ≤ (wrap64 (4 + (wrap64 ((wrap64 ((wrap64 ((wrap64 ((wrap64 (Int.tmod (rd x0 0) 128)) * 16777216)) + (wrap64 ((wrap64 (rd x0 1)) * 65536)))) + (wrap64 ((wrap64 (rd x0 2)) * 256)))) + (wrap64 (rd x0 3)))))) then (if (wrap64 (4 + (wrap64 ((wrap64 ((wrap64 ((wrap64 ((wrap64 (Int.tmod (rd x0 0) 128)) * 16777216)) + (wrap64 ((wrap64 (rd x0 1)) * 65536)))) + (wrap64 ((wrap64 (rd x0 2)) * 256)))) + (wrap64 (rd x0 3)))))) ≤ (x0.length : Int) then ((some ((x0.take ((wrap64 (4 + (wrap64 ((wrap64 ((wrap64 ((wrap64 ((wrap64 (Int.tmod (rd x0 0) 128)) * 16777216)) + (wrap64 ((wrap64 (rd x0 1)) * 65536)))) + (wrap64 ((wrap64 (rd x0 2)) * 256)))) + (wrap64 (rd x0 3)))))) : Int).toNat).drop 4 : List Int)).bind fun y214 => (if x8.length + y214.length < 140737488355328 then ((some (x8 ++ y214 : List Int)).bind fun y219 => (if (rd x0 0) > 127 then (if x210000.length < 5864062014805 then (if 0 ≤ (wrap64 (4 + (wrap64 ((wrap64 ((wrap64 ((wrap64 ((wrap64 (Int.tmod (rd x0 0) 128)) * 16777216)) + (wrap64 ((wrap64 (rd x0 1)) * 65536)))) + (wrap64 ((wrap64 (rd x0 2)) * 256)))) + (wrap64 (rd x0 3)))))) then (truchmanref04_All.l0 k (x0.drop ((wrap64 (4 + (wrap64 ((wrap64 ((wrap64 ((wrap64 ((wrap64 (Int.tmod (rd x0 0) 128)) * 16777216)) + (wrap64 ((wrap64 (rd x0 1)) * 65536)))) + (wrap64 ((wrap64 (rd x0 2)) * 256)))) + (wrap64 (rd x0 3)))))) : Int).toNat) x1 x2 ([] : List Int) 0 (x210000 ++ [y219]) x210001 x210002 x210003) else (none)) else (none)) else (if 0 ≤ (wrap64 (4 + (wrap64 ((wrap64 ((wrap64 ((wrap64 ((wrap64 (Int.tmod (rd x0 0) 128)) * 16777216)) + (wrap64 ((wrap64 (rd x0 1)) * 65536)))) + (wrap64 ((wrap64 (rd x0 2)) * 256)))) + (wrap64 (rd x0 3)))))) then (truchmanref04_All.l0 k (x0.drop ((wrap64 (4 + (wrap64 ((wrap64 ((wrap64 ((wrap64 ((wrap64 (Int.tmod (rd x0 0) 128)) * 16777216)) + (wrap64 ((wrap64 (rd x0 1)) * 65536)))) + (wrap64 ((wrap64 (rd x0 2)) * 256)))) + (wrap64 (rd x0 3)))))) : Int).toNat) x1 x2 y219 (wrap64 (x9 + 1)) x210000 x210001 x210002 x210003) else (none)))) else (none))) else (none)) else (none))))) else (none)) else (none)) else (none)) else (none)) else (if x9 = 0 then (some (x210000, x210001, wrap64 ((x8.length : Int) + (x0.length : Int)), ((x0.length : Int) == 0))) else (some (x210000, x210001, wrap64 ((x8.length : Int) + (x0.length : Int)), false)))
def truchmanref04_All.f (k : Nat) (l0 : List Int) (a1 : Int) (a2 : Int) : Option ((List (List Int)) × Int × Int × Bool) := truchmanref04_All.l0 k l0 a1 a2 ([] : List Int) 0 ([] : List (List Int)) 0 0 false
theorem truchmanref04_All.mono_l : ∀ k, (∀ y0 y1 y2 y3 y4 y5 y6 y7 y8, LeO (truchmanref04_All.l0 k y0 y1 y2 y3 y4 y5 y6 y7 y8) (truchmanref04_All.l0 (k + 1) y0 y1 y2 y3 y4 y5 y6 y7 y8))
  | 0 => fun _ _ _ _ _ _ _ _ _ r h => by simp [truchmanref04_All.l0] at h
  | k + 1 => by
    have ih0 := truchmanref04_All.mono_l k
    · intro y0 y1 y2 y3 y4 y5 y6 y7 y8
      unfold truchmanref04_All.l0
      repeat' first
      | (with_reducible exact ih0 _ _ _ _ _ _ _ _ _)
      | (with_reducible exact LeO.refl _)
      | (with_reducible exact LeO.none _)
      | (with_reducible refine LeO.ite ?_ ?_)
      | (with_reducible refine LeO.bind ?_ (fun _ => ?_))
      | exact ih0 _ _ _ _ _ _ _ _ _
      | exact LeO.none _
      | refine LeO.ite ?_ ?_
      | refine LeO.bind ?_ (fun _ => ?_)
theorem truchmanref04_All.mono : ∀ a0 a1 a2 k, LeO (truchmanref04_All.f k a0 a1 a2) (truchmanref04_All.f (k + 1) a0 a1 a2) := by
  intro a0 a1 a2 k
  have ih0 := truchmanref04_All.mono_l k
  unfold truchmanref04_All.f
  repeat' first
      | (with_reducible exact ih0 _ _ _ _ _ _ _ _ _)
      | (with_reducible exact LeO.refl _)
      | (with_reducible exact LeO.none _)
      | (with_reducible refine LeO.ite ?_ ?_)
      | (with_reducible refine LeO.bind ?_ (fun _ => ?_))
      | exact ih0 _ _ _ _ _ _ _ _ _
      | exact LeO.none _
      | refine LeO.ite ?_ ?_
      | refine LeO.bind ?_ (fun _ => ?_)
set_option maxHeartbeats 8000000 in
set_option maxRecDepth 100000 in
theorem truchmanref04_All.calls (k : Nat) (P0_ : Nat → Prop) (A0 : Option Addr) (c0 : Nat) (l0 : List Int) (a1 : Int) (a2 : Int) (r1 : List (List Int)) (r2 : Int) (r3 : Int) (r4 : Bool) (w : World) (hs0 : Kd.V (Kd.int .u8) 5 w w.heap.size (fun k_ => P0_ k_) (.slice A0 l0.length c0) l0) (h : truchmanref04_All.f k l0 a1 a2 = some (r1, r2, r3, r4)) :
    Calls Try.prog 25 #[.slice A0 l0.length c0, .int .i64 a1, .int .i64 a2] w fun e w' => ∃ v0_ : Value, e = .returned (.agg #[v0_, .int .i64 r2, .int .i64 r3, .bool r4]) ∧ Kd.S (Kd.slice 5 (Kd.int .u8)) 28 w' w.heap.size (fun k_ => (w.heap.size ≤ k_)) v0_ r1 ∧ Below w.heap.size w w' := by
  have hu57 := Try.underlying57
  have HO0 := Aside0.mk (show Kd.V (Kd.int .u8) 5 w w.heap.size (fun k_ => (P0_ k_ ∨ w.heap.size ≤ k_)) (.slice A0 l0.length c0) l0 from Kd.V_mono hs0 (fun k_ hk => .inl hk))
  have HB := Aside0.mk (Below.refl w.heap.size w)
  have H : (truchmanref04_All.l0 k l0 a1 a2 ([] : List Int) 0 ([] : List (List Int)) 0 0 false) = some (r1, r2, r3, r4) := h
  clear h
  have H' := Aside0.mk H
  clear H
  go_enter Try.func25, Try.ntmps25
  go_wp2_with (first | ((with_reducible refine gate_dst (N := 6) rfl ?_); (try (refine gate_guard (by rfl) ?_; dsimp only)); refine box_event ?hg (N := 6) ?hd (cs := #[.slice none 0 0, .int .i64 0, .int .i64 0, .bool false]) (t := 57) ?hr ?_; (case hd => rfl); (case hg => rfl); (case hr => first | (go_simp; done) | (go_simp; rfl)); intro gb208 hg w4 hbox hb; have n0_ := Aside0.mk (Kd.V_below (Kd.V_elderB (by (with_reducible repeat (first | apply Kd.V_alloc | apply Kd.V_drewN | apply Kd.V_drew)); exact HO0.out) gb208 (Nat.le_of_eq hg.symm)) hb); have n1_ := Aside0.mk (below_step (by repeat (first | (with_reducible first | exact HB.out | apply below_alloc | apply pw_below_drewN | apply below_drew1) | exact HB.out)) hb); have n2_ := Aside0.mk (hbox); have n3_ := Aside0.mk ((by rw [hg]; exact (below_size (by repeat (first | (with_reducible first | exact HB.out | apply below_alloc | apply pw_below_drewN | apply below_drew1) | exact HB.out))) : w.heap.size ≤ gb208)); have n4_ := Aside0.mk ((by rw [hg]; exact (below_size (by repeat (first | (with_reducible first | exact HB.out | apply below_alloc | apply pw_below_drewN | apply below_drew1) | exact HB.out))) : w.heap.size ≤ gb208)); clear HO0; clear HB; have HO0 := n0_; have HB := n1_; have BK208 := n2_; have GW208 := n3_; have GE208 := n4_; clear n0_ n1_ n2_ n3_ n4_; clear hb hbox hg) | ((with_reducible refine gate_dst (N := 7) rfl ?_); (try (refine gate_guard (by rfl) ?_; dsimp only)); refine box_event ?hg (N := 7) ?hd (cs := #[.slice none 0 0, .int .i64 0, .int .i64 0, .bool false]) (t := 57) ?hr ?_; (case hd => rfl); (case hg => rfl); (case hr => first | (go_simp; done) | (go_simp; rfl)); intro gb209 hg w5 hbox hb; have n0_ := Aside0.mk (Kd.V_below (Kd.V_elderB (by (with_reducible repeat (first | apply Kd.V_alloc | apply Kd.V_drewN | apply Kd.V_drew)); exact HO0.out) gb209 (Nat.le_of_eq hg.symm)) hb); have n1_ := Aside0.mk (blk_below (g := gb208) (o := .cells #[.slice none 0 0, .int .i64 0, .int .i64 0, .bool false] 57 (0, 0)) (by (with_reducible repeat (first | refine blk_drewN ?_ _ | refine blk_drew ?_ | refine blk_alloc ?_ _)); exact BK208.out) hb); have n2_ := Aside0.mk (below_step (by repeat (first | (with_reducible first | exact HB.out | apply below_alloc | apply pw_below_drewN | apply below_drew1 | refine below_set ?_ GE208.out) | exact HB.out)) hb); have n3_ := Aside0.mk (hbox); have n4_ := Aside0.mk ((by rw [hg]; exact (below_size (by repeat (first | (with_reducible first | exact HB.out | apply below_alloc | apply pw_below_drewN | apply below_drew1 | refine below_set ?_ GE208.out) | exact HB.out))) : w.heap.size ≤ gb209)); have n5_ := Aside0.mk ((by rw [hg]; exact (below_size (by repeat (first | (with_reducible first | exact HB.out | apply below_alloc | apply pw_below_drewN | apply below_drew1 | refine below_set ?_ GE208.out) | exact HB.out))) : w.heap.size ≤ gb209)); have n6_ := Aside0.mk ((by rw [hg]; exact Nat.ne_of_lt (blk_lt (g := gb208) (o := .cells #[.slice none 0 0, .int .i64 0, .int .i64 0, .bool false] 57 (0, 0)) (by (with_reducible repeat (first | refine blk_drewN ?_ _ | refine blk_drew ?_ | refine blk_alloc ?_ _)); exact BK208.out)) : gb208 ≠ gb209)); have n7_ := Aside0.mk ((by rw [hg]; exact Nat.ne_of_gt (blk_lt (g := gb208) (o := .cells #[.slice none 0 0, .int .i64 0, .int .i64 0, .bool false] 57 (0, 0)) (by (with_reducible repeat (first | refine blk_drewN ?_ _ | refine blk_drew ?_ | refine blk_alloc ?_ _)); exact BK208.out)) : gb209 ≠ gb208)); clear HO0; clear BK208; clear HB; have HO0 := n0_; have BK208 := n1_; have HB := n2_; have BK209 := n3_; have GW209 := n4_; have GE209 := n5_; have NB208_209 := n6_; have NB209_208 := n7_; clear n0_ n1_ n2_ n3_ n4_ n5_ n6_ n7_; clear hb hbox hg))
  repeat (go_quiet (first | ((with_reducible refine gate_dst (N := 6) rfl ?_); (try (refine gate_guard (by rfl) ?_; dsimp only)); refine box_event ?hg (N := 6) ?hd (cs := #[.slice none 0 0, .int .i64 0, .int .i64 0, .bool false]) (t := 57) ?hr ?_; (case hd => rfl); (case hg => rfl); (case hr => first | (go_simp; done) | (go_simp; rfl)); intro gb208 hg w4 hbox hb; have n0_ := Aside0.mk (Kd.V_below (Kd.V_elderB (by (with_reducible repeat (first | apply Kd.V_alloc | apply Kd.V_drewN | apply Kd.V_drew)); exact HO0.out) gb208 (Nat.le_of_eq hg.symm)) hb); have n1_ := Aside0.mk (below_step (by repeat (first | (with_reducible first | exact HB.out | apply below_alloc | apply pw_below_drewN | apply below_drew1) | exact HB.out)) hb); have n2_ := Aside0.mk (hbox); have n3_ := Aside0.mk ((by rw [hg]; exact (below_size (by repeat (first | (with_reducible first | exact HB.out | apply below_alloc | apply pw_below_drewN | apply below_drew1) | exact HB.out))) : w.heap.size ≤ gb208)); have n4_ := Aside0.mk ((by rw [hg]; exact (below_size (by repeat (first | (with_reducible first | exact HB.out | apply below_alloc | apply pw_below_drewN | apply below_drew1) | exact HB.out))) : w.heap.size ≤ gb208)); clear HO0; clear HB; have HO0 := n0_; have HB := n1_; have BK208 := n2_; have GW208 := n3_; have GE208 := n4_; clear n0_ n1_ n2_ n3_ n4_; clear hb hbox hg) | ((with_reducible refine gate_dst (N := 7) rfl ?_); (try (refine gate_guard (by rfl) ?_; dsimp only)); refine box_event ?hg (N := 7) ?hd (cs := #[.slice none 0 0, .int .i64 0, .int .i64 0, .bool false]) (t := 57) ?hr ?_; (case hd => rfl); (case hg => rfl); (case hr => first | (go_simp; done) | (go_simp; rfl)); intro gb209 hg w5 hbox hb; have n0_ := Aside0.mk (Kd.V_below (Kd.V_elderB (by (with_reducible repeat (first | apply Kd.V_alloc | apply Kd.V_drewN | apply Kd.V_drew)); exact HO0.out) gb209 (Nat.le_of_eq hg.symm)) hb); have n1_ := Aside0.mk (blk_below (g := gb208) (o := .cells #[.slice none 0 0, .int .i64 0, .int .i64 0, .bool false] 57 (0, 0)) (by (with_reducible repeat (first | refine blk_drewN ?_ _ | refine blk_drew ?_ | refine blk_alloc ?_ _)); exact BK208.out) hb); have n2_ := Aside0.mk (below_step (by repeat (first | (with_reducible first | exact HB.out | apply below_alloc | apply pw_below_drewN | apply below_drew1 | refine below_set ?_ GE208.out) | exact HB.out)) hb); have n3_ := Aside0.mk (hbox); have n4_ := Aside0.mk ((by rw [hg]; exact (below_size (by repeat (first | (with_reducible first | exact HB.out | apply below_alloc | apply pw_below_drewN | apply below_drew1 | refine below_set ?_ GE208.out) | exact HB.out))) : w.heap.size ≤ gb209)); have n5_ := Aside0.mk ((by rw [hg]; exact (below_size (by repeat (first | (with_reducible first | exact HB.out | apply below_alloc | apply pw_below_drewN | apply below_drew1 | refine below_set ?_ GE208.out) | exact HB.out))) : w.heap.size ≤ gb209)); have n6_ := Aside0.mk ((by rw [hg]; exact Nat.ne_of_lt (blk_lt (g := gb208) (o := .cells #[.slice none 0 0, .int .i64 0, .int .i64 0, .bool false] 57 (0, 0)) (by (with_reducible repeat (first | refine blk_drewN ?_ _ | refine blk_drew ?_ | refine blk_alloc ?_ _)); exact BK208.out)) : gb208 ≠ gb209)); have n7_ := Aside0.mk ((by rw [hg]; exact Nat.ne_of_gt (blk_lt (g := gb208) (o := .cells #[.slice none 0 0, .int .i64 0, .int .i64 0, .bool false] 57 (0, 0)) (by (with_reducible repeat (first | refine blk_drewN ?_ _ | refine blk_drew ?_ | refine blk_alloc ?_ _)); exact BK208.out)) : gb209 ≠ gb208)); clear HO0; clear BK208; clear HB; have HO0 := n0_; have BK208 := n1_; have HB := n2_; have BK209 := n3_; have GW209 := n4_; have GE209 := n5_; have NB208_209 := n6_; have NB209_208 := n7_; clear n0_ n1_ n2_ n3_ n4_ n5_ n6_ n7_; clear hb hbox hg)); try go_wp2_with (first | ((with_reducible refine gate_dst (N := 6) rfl ?_); (try (refine gate_guard (by rfl) ?_; dsimp only)); refine box_event ?hg (N := 6) ?hd (cs := #[.slice none 0 0, .int .i64 0, .int .i64 0, .bool false]) (t := 57) ?hr ?_; (case hd => rfl); (case hg => rfl); (case hr => first | (go_simp; done) | (go_simp; rfl)); intro gb208 hg w4 hbox hb; have n0_ := Aside0.mk (Kd.V_below (Kd.V_elderB (by (with_reducible repeat (first | apply Kd.V_alloc | apply Kd.V_drewN | apply Kd.V_drew)); exact HO0.out) gb208 (Nat.le_of_eq hg.symm)) hb); have n1_ := Aside0.mk (below_step (by repeat (first | (with_reducible first | exact HB.out | apply below_alloc | apply pw_below_drewN | apply below_drew1) | exact HB.out)) hb); have n2_ := Aside0.mk (hbox); have n3_ := Aside0.mk ((by rw [hg]; exact (below_size (by repeat (first | (with_reducible first | exact HB.out | apply below_alloc | apply pw_below_drewN | apply below_drew1) | exact HB.out))) : w.heap.size ≤ gb208)); have n4_ := Aside0.mk ((by rw [hg]; exact (below_size (by repeat (first | (with_reducible first | exact HB.out | apply below_alloc | apply pw_below_drewN | apply below_drew1) | exact HB.out))) : w.heap.size ≤ gb208)); clear HO0; clear HB; have HO0 := n0_; have HB := n1_; have BK208 := n2_; have GW208 := n3_; have GE208 := n4_; clear n0_ n1_ n2_ n3_ n4_; clear hb hbox hg) | ((with_reducible refine gate_dst (N := 7) rfl ?_); (try (refine gate_guard (by rfl) ?_; dsimp only)); refine box_event ?hg (N := 7) ?hd (cs := #[.slice none 0 0, .int .i64 0, .int .i64 0, .bool false]) (t := 57) ?hr ?_; (case hd => rfl); (case hg => rfl); (case hr => first | (go_simp; done) | (go_simp; rfl)); intro gb209 hg w5 hbox hb; have n0_ := Aside0.mk (Kd.V_below (Kd.V_elderB (by (with_reducible repeat (first | apply Kd.V_alloc | apply Kd.V_drewN | apply Kd.V_drew)); exact HO0.out) gb209 (Nat.le_of_eq hg.symm)) hb); have n1_ := Aside0.mk (blk_below (g := gb208) (o := .cells #[.slice none 0 0, .int .i64 0, .int .i64 0, .bool false] 57 (0, 0)) (by (with_reducible repeat (first | refine blk_drewN ?_ _ | refine blk_drew ?_ | refine blk_alloc ?_ _)); exact BK208.out) hb); have n2_ := Aside0.mk (below_step (by repeat (first | (with_reducible first | exact HB.out | apply below_alloc | apply pw_below_drewN | apply below_drew1 | refine below_set ?_ GE208.out) | exact HB.out)) hb); have n3_ := Aside0.mk (hbox); have n4_ := Aside0.mk ((by rw [hg]; exact (below_size (by repeat (first | (with_reducible first | exact HB.out | apply below_alloc | apply pw_below_drewN | apply below_drew1 | refine below_set ?_ GE208.out) | exact HB.out))) : w.heap.size ≤ gb209)); have n5_ := Aside0.mk ((by rw [hg]; exact (below_size (by repeat (first | (with_reducible first | exact HB.out | apply below_alloc | apply pw_below_drewN | apply below_drew1 | refine below_set ?_ GE208.out) | exact HB.out))) : w.heap.size ≤ gb209)); have n6_ := Aside0.mk ((by rw [hg]; exact Nat.ne_of_lt (blk_lt (g := gb208) (o := .cells #[.slice none 0 0, .int .i64 0, .int .i64 0, .bool false] 57 (0, 0)) (by (with_reducible repeat (first | refine blk_drewN ?_ _ | refine blk_drew ?_ | refine blk_alloc ?_ _)); exact BK208.out)) : gb208 ≠ gb209)); have n7_ := Aside0.mk ((by rw [hg]; exact Nat.ne_of_gt (blk_lt (g := gb208) (o := .cells #[.slice none 0 0, .int .i64 0, .int .i64 0, .bool false] 57 (0, 0)) (by (with_reducible repeat (first | refine blk_drewN ?_ _ | refine blk_drew ?_ | refine blk_alloc ?_ _)); exact BK208.out)) : gb209 ≠ gb208)); clear HO0; clear BK208; clear HB; have HO0 := n0_; have BK208 := n1_; have HB := n2_; have BK209 := n3_; have GW209 := n4_; have GE209 := n5_; have NB208_209 := n6_; have NB209_208 := n7_; clear n0_ n1_ n2_ n3_ n4_ n5_ n6_ n7_; clear hb hbox hg)))
  go_loopg [0, 8, 9] k (fun kq v0 v8 v9 w' => ∃ (x0_1 : List Int) (x8_1 : List Int) (x9_1 : Int) (x209001_1 : Int) (x209002_1 : Int) (x209003_1 : Bool) (x210000_1 : List (List Int)) (x210002_1 : Int) (u210000 : Value), v9 = .int .i64 x9_1 ∧ Aside0 (truchmanref04_All.l0 kq x0_1 a1 a2 x8_1 x9_1 x210000_1 0 x210002_1 false = some (r1, r2, r3, r4)) ∧ Aside0 (kq ≤ k) ∧ Aside0 (Kd.V (Kd.int .u8) 5 w' w.heap.size (fun k_ => (P0_ k_ ∨ w.heap.size ≤ k_) ∧ some k_ ≠ (v8 : Value).ownBlock ∧ some k_ ≠ (u210000 : Value).ownBlock ∧ k_ ≠ gb208 ∧ k_ ≠ gb209) v0 x0_1) ∧ Aside0 (Kd.R (Kd.int .u8) 5 w' w.heap.size (fun k_ => (w.heap.size ≤ k_)) v8 x8_1) ∧ Aside0 (Kd.S (Kd.slice 5 (Kd.int .u8)) 28 w' w.heap.size (fun k_ => (w.heap.size ≤ k_) ∧ some k_ ≠ (v8 : Value).ownBlock) u210000 x210000_1) ∧ Aside0 (w'.heap[gb208]? = some (.cells #[(.slice none 0 0), .int .i64 x209001_1, .int .i64 x209002_1, .bool x209003_1] 57 (0, 0))) ∧ Aside0 (w'.heap[gb209]? = some (.cells #[u210000, .int .i64 0, .int .i64 x210002_1, .bool false] 57 (0, 0))) ∧ Aside0 (Below w.heap.size w w'))
  case atStart => exact ⟨(l0), (([] : List Int)), (0), (0), (0), (false), (([] : List (List Int))), (0), (.slice none 0 0), (by first | rfl | (simp; done) | (simp [*]; done)), H', ⟨Nat.le_refl _⟩, ⟨by (with_reducible repeat (first | apply Kd.V_alloc | apply Kd.V_drewN | apply Kd.V_drew)); exact Kd.V_mono HO0.out (fun _ hk => ⟨hk.1.1, ⟨(by simp [Value.ownBlock]), ⟨(by simp [Value.ownBlock]), ⟨hk.1.2, hk.2⟩⟩⟩⟩)⟩, ⟨by first | exact Kd.R_nil _ _ _ _ _ | exact Kd.N_nil _ _ _ _ _ | exact Kd.V_nil _ _ _ _ _ | exact Kd.Q_nil _ _ _ _ _ | exact Kd.S_nil _ _ _ _ _⟩, ⟨by first | exact Kd.S_nil _ _ _ _ _ | exact Kd.N_nil _ _ _ _ _ | exact Kd.V_nil _ _ _ _ _ | exact Kd.Q_nil _ _ _ _ _ | exact Kd.R_nil _ _ _ _ _⟩, ⟨by (with_reducible repeat (first | refine blk_drewN ?_ _ | refine blk_drew ?_ | refine blk_alloc ?_ _)); exact BK208.out⟩, ⟨by (with_reducible repeat (first | refine blk_drewN ?_ _ | refine blk_drew ?_ | refine blk_alloc ?_ _)); exact BK209.out⟩, ⟨by repeat (first | (with_reducible first | exact HB.out | apply below_alloc | apply pw_below_drewN | apply below_drew1 | refine below_set ?_ GE208.out | refine below_set ?_ GE209.out) | exact HB.out)⟩⟩
  case round =>
    clear H'
    try clear c2
    try clear p2
    obtain ⟨x0_1, x8_1, x9_1, x209001_1, x209002_1, x209003_1, x210000_1, x210002_1, u210000, rfl, HA, HK1, HO_0, HO_8, HO_210000, BK208, BK209, HB⟩ := hrel
    cases gk with
    | zero => exact absurd HA.out (by simp [truchmanref04_All.l0])
    | succ k1 =>
      have H := HA.out
      clear HA
      simp only [truchmanref04_All.l0] at H
      by_cases c6 : (x0_1.length : Int) > 3
      · rw [if_pos c6] at H
        have c6b0 : decide (3 < (x0_1.length : Int)) = true := decide_eq_true c6
        have c6b1 : decide (3 < x0_1.length) = true := decide_eq_true (by omega)
        clear c6
        by_cases c7 : 0 < (x0_1.length : Int)
        · rw [if_pos c7] at H
          have c7b0 : decide (0 < (x0_1.length : Int)) = true := decide_eq_true c7
          have c7b1 : decide (0 < x0_1.length) = true := decide_eq_true (by omega)
          clear c7
          by_cases c8 : 1 < (x0_1.length : Int)
          · rw [if_pos c8] at H
            have c8b0 : decide (1 < (x0_1.length : Int)) = true := decide_eq_true c8
            have c8b1 : decide (1 < x0_1.length) = true := decide_eq_true (by omega)
            clear c8
            by_cases c9 : 2 < (x0_1.length : Int)
            · rw [if_pos c9] at H
              have c9b0 : decide (2 < (x0_1.length : Int)) = true := decide_eq_true c9
              have c9b1 : decide (2 < x0_1.length) = true := decide_eq_true (by omega)
              clear c9
              by_cases c10 : 3 < (x0_1.length : Int)
              · rw [if_pos c10] at H
                have c10b0 : decide (3 < (x0_1.length : Int)) = true := decide_eq_true c10
                have c10b1 : decide (3 < x0_1.length) = true := decide_eq_true (by omega)
                clear c10
                by_cases c11 : (wrap64 (x9_1 + 1)) > a2
                · rw [if_pos c11] at H
                  have c11b0 : decide (a2 < (wrap64 (x9_1 + 1))) = true := decide_eq_true c11
                  clear c11
                  simp only [Option.some.injEq, Prod.mk.injEq] at H
                  obtain ⟨rfl, rfl, rfl, rfl⟩ := H
                  obtain ⟨Ao12, co12, eo12⟩ := Kd.V_slice HO_0.out
                  subst eo12
                  have p210 : 0 ≤ (0 : Int) := (by omega)
                  have q210 : 0 < (x0_1.length : Int) := of_decide_eq_true (by first | (with_reducible assumption) | assumption)
                  obtain ⟨ad210, e210, hx210_0⟩ := Kd.at_int (Kd.V_reads' HO_0.out).2.2 0 p210 q210
                  cases e210
                  have qi210 : (0 < x0_1.length) = True := eq_true (by omega)
                  (try rw [show ((0 : Int)).toNat = 0 from rfl] at hx210_0)
                  (try rw [Addr.add_zero'] at hx210_0)
                  replace p210 := eq_true p210
                  replace q210 := eq_true q210
                  have p211 : 0 ≤ (1 : Int) := (by omega)
                  have q211 : 1 < (x0_1.length : Int) := of_decide_eq_true (by first | (with_reducible assumption) | assumption)
                  obtain ⟨ad211, e211, hx211_0⟩ := Kd.at_int (Kd.V_reads' HO_0.out).2.2 1 p211 q211
                  obtain rfl : ad210 = ad211 := (by injection e211)
                  (try simp only [show (1 : Int).toNat = 1 from rfl, Nat.reduceMul, Nat.reduceEqDiff, Go.Addr.add, ↓reduceIte] at hx211_0)
                  have qi211 : (1 < x0_1.length) = True := eq_true (by omega)
                  (try rw [show ((1 : Int)).toNat = 1 from rfl] at hx211_0)
                  replace p211 := eq_true p211
                  replace q211 := eq_true q211
                  have p212 : 0 ≤ (2 : Int) := (by omega)
                  have q212 : 2 < (x0_1.length : Int) := of_decide_eq_true (by first | (with_reducible assumption) | assumption)
                  obtain ⟨ad212, e212, hx212_0⟩ := Kd.at_int (Kd.V_reads' HO_0.out).2.2 2 p212 q212
                  obtain rfl : ad210 = ad212 := (by injection e212)
                  (try simp only [show (2 : Int).toNat = 2 from rfl, Nat.reduceMul, Nat.reduceEqDiff, Go.Addr.add, ↓reduceIte] at hx212_0)
                  have qi212 : (2 < x0_1.length) = True := eq_true (by omega)
                  (try rw [show ((2 : Int)).toNat = 2 from rfl] at hx212_0)
                  replace p212 := eq_true p212
                  replace q212 := eq_true q212
                  have p213 : 0 ≤ (3 : Int) := (by omega)
                  have q213 : 3 < (x0_1.length : Int) := of_decide_eq_true (by first | (with_reducible assumption) | assumption)
                  obtain ⟨ad213, e213, hx213_0⟩ := Kd.at_int (Kd.V_reads' HO_0.out).2.2 3 p213 q213
                  obtain rfl : ad210 = ad213 := (by injection e213)
                  (try simp only [show (3 : Int).toNat = 3 from rfl, Nat.reduceMul, Nat.reduceEqDiff, Go.Addr.add, ↓reduceIte] at hx213_0)
                  have qi213 : (3 < x0_1.length) = True := eq_true (by omega)
                  (try rw [show ((3 : Int)).toNat = 3 from rfl] at hx213_0)
                  replace p213 := eq_true p213
                  replace q213 := eq_true q213
                  have hnb13 := NB209_208.out
                  have hnc13 := NB208_209.out
                  have hcz14_0 : wr.cell? ⟨gb209, 0, none⟩ = some (u210000) := (blk_cell BK209.out 0).trans rfl
                  have hcz14_1 : wr.cell? ⟨gb209, 1, none⟩ = some (.int .i64 0) := (blk_cell BK209.out 1).trans rfl
                  have hcz14_2 : wr.cell? ⟨gb209, 2, none⟩ = some (.int .i64 x210002_1) := (blk_cell BK209.out 2).trans rfl
                  have hcz14_3 : wr.cell? ⟨gb209, 3, none⟩ = some (.bool false) := (blk_cell BK209.out 3).trans rfl
                  have hfz14_0 := blk_frozen BK209.out 0
                  have hfz14_1 := blk_frozen BK209.out 1
                  have hfz14_2 := blk_frozen BK209.out 2
                  have hfz14_3 := blk_frozen BK209.out 3
                  obtain ⟨Ao15, co15, eo15⟩ := Kd.S_slice HO_210000.out
                  subst eo15
                  have hcz16_0 : wr.cell? ⟨gb208, 0, none⟩ = some (.slice none 0 0) := (blk_cell BK208.out 0).trans rfl
                  have hcz16_1 : wr.cell? ⟨gb208, 1, none⟩ = some (.int .i64 x209001_1) := (blk_cell BK208.out 1).trans rfl
                  have hcz16_2 : wr.cell? ⟨gb208, 2, none⟩ = some (.int .i64 x209002_1) := (blk_cell BK208.out 2).trans rfl
                  have hcz16_3 : wr.cell? ⟨gb208, 3, none⟩ = some (.bool x209003_1) := (blk_cell BK208.out 3).trans rfl
                  have hfz16_0 := blk_frozen BK208.out 0
                  have hfz16_1 := blk_frozen BK208.out 1
                  have hfz16_2 := blk_frozen BK208.out 2
                  have hfz16_3 := blk_frozen BK208.out 3
                  go_wp2
                  repeat (go_quiet (fail); try go_wp2)
                  refine bodyPost_ret (results_cell_row rfl _ _ gb208 57 #[.slice Ao15 x210000_1.length co15, .int .i64 5, .int .i64 0, .bool false] (0, 0) _ rfl (by (with_reducible repeat (first | refine blk_drewN ?_ _ | refine blk_drew ?_ | refine blk_alloc ?_ _)); refine blk_put (cs := #[.slice Ao15 x210000_1.length co15, .int .i64 5, .int .i64 0, .bool x209003_1]) ?_ 3 _ rfl; (with_reducible repeat (first | refine blk_drewN ?_ _ | refine blk_drew ?_ | refine blk_alloc ?_ _)); refine blk_put (cs := #[.slice Ao15 x210000_1.length co15, .int .i64 5, .int .i64 x209002_1, .bool x209003_1]) ?_ 2 _ rfl; (with_reducible repeat (first | refine blk_drewN ?_ _ | refine blk_drew ?_ | refine blk_alloc ?_ _)); refine blk_put (cs := #[.slice Ao15 x210000_1.length co15, .int .i64 x209001_1, .int .i64 x209002_1, .bool x209003_1]) ?_ 1 _ rfl; (with_reducible repeat (first | refine blk_drewN ?_ _ | refine blk_drew ?_ | refine blk_alloc ?_ _)); refine blk_put (cs := #[.slice none 0 0, .int .i64 x209001_1, .int .i64 x209002_1, .bool x209003_1]) ?_ 0 _ rfl; (with_reducible repeat (first | refine blk_drewN ?_ _ | refine blk_drew ?_ | refine blk_alloc ?_ _)); exact BK208.out) Try.underlying57 rfl (by kernel_rfl)) rfl ?_
                  exact ⟨_, by first | rfl | (simp [errW_none, errW_some] <;> rfl) | (simp [*, errW_none, errW_some] <;> rfl), by (with_reducible repeat (first | apply Kd.S_alloc | apply Kd.S_drewN | apply Kd.S_drew)); exact Kd.S_mono (Kd.S_far (p := ⟨gb208, 3, none⟩) (Kd.S_far (p := ⟨gb208, 2, none⟩) (Kd.S_far (p := ⟨gb208, 1, none⟩) (Kd.S_far (p := ⟨gb208, 0, none⟩) (Kd.S_types HO_210000.out BK208.out (by decide)) (fun _ hk => hk.2) (.slice Ao15 x210000_1.length co15)) (fun _ hk => hk.2) (.int .i64 5)) (fun _ hk => hk.2) (.int .i64 0)) (fun _ hk => hk.2) (.bool false)) (fun _ hk => hk.1.1), by repeat (first | (with_reducible first | exact HB.out | apply below_alloc | apply pw_below_drewN | apply below_drew1 | refine below_set ?_ GE208.out | refine below_set ?_ GE209.out) | exact HB.out)⟩
                · rw [if_neg c11] at H
                  have c11b0 : decide (a2 < (wrap64 (x9_1 + 1))) = false := decide_eq_false c11
                  clear c11
                  by_cases c17 : (wrap64 ((x8_1.length : Int) + (wrap64 ((wrap64 ((wrap64 ((wrap64 ((wrap64 (Int.tmod (rd x0_1 0) 128)) * 16777216)) + (wrap64 ((wrap64 (rd x0_1 1)) * 65536)))) + (wrap64 ((wrap64 (rd x0_1 2)) * 256)))) + (wrap64 (rd x0_1 3)))))) > a1
                  · rw [if_pos c17] at H
                    have c17b0 : decide (a1 < (wrap64 ((x8_1.length : Int) + (wrap64 ((wrap64 ((wrap64 ((wrap64 ((wrap64 (Int.tmod (rd x0_1 0) 128)) * 16777216)) + (wrap64 ((wrap64 (rd x0_1 1)) * 65536)))) + (wrap64 ((wrap64 (rd x0_1 2)) * 256)))) + (wrap64 (rd x0_1 3))))))) = true := decide_eq_true c17
                    clear c17
                    simp only [Option.some.injEq, Prod.mk.injEq] at H
                    obtain ⟨rfl, rfl, rfl, rfl⟩ := H
                    obtain ⟨Ao18, co18, eo18⟩ := Kd.V_slice HO_0.out
                    subst eo18
                    have p210 : 0 ≤ (0 : Int) := (by omega)
                    have q210 : 0 < (x0_1.length : Int) := of_decide_eq_true (by first | (with_reducible assumption) | assumption)
                    obtain ⟨ad210, e210, hx210_0⟩ := Kd.at_int (Kd.V_reads' HO_0.out).2.2 0 p210 q210
                    cases e210
                    have qi210 : (0 < x0_1.length) = True := eq_true (by omega)
                    (try rw [show ((0 : Int)).toNat = 0 from rfl] at hx210_0)
                    (try rw [Addr.add_zero'] at hx210_0)
                    replace p210 := eq_true p210
                    replace q210 := eq_true q210
                    have p211 : 0 ≤ (1 : Int) := (by omega)
                    have q211 : 1 < (x0_1.length : Int) := of_decide_eq_true (by first | (with_reducible assumption) | assumption)
                    obtain ⟨ad211, e211, hx211_0⟩ := Kd.at_int (Kd.V_reads' HO_0.out).2.2 1 p211 q211
                    obtain rfl : ad210 = ad211 := (by injection e211)
                    (try simp only [show (1 : Int).toNat = 1 from rfl, Nat.reduceMul, Nat.reduceEqDiff, Go.Addr.add, ↓reduceIte] at hx211_0)
                    have qi211 : (1 < x0_1.length) = True := eq_true (by omega)
                    (try rw [show ((1 : Int)).toNat = 1 from rfl] at hx211_0)
                    replace p211 := eq_true p211
                    replace q211 := eq_true q211
                    have p212 : 0 ≤ (2 : Int) := (by omega)
                    have q212 : 2 < (x0_1.length : Int) := of_decide_eq_true (by first | (with_reducible assumption) | assumption)
                    obtain ⟨ad212, e212, hx212_0⟩ := Kd.at_int (Kd.V_reads' HO_0.out).2.2 2 p212 q212
                    obtain rfl : ad210 = ad212 := (by injection e212)
                    (try simp only [show (2 : Int).toNat = 2 from rfl, Nat.reduceMul, Nat.reduceEqDiff, Go.Addr.add, ↓reduceIte] at hx212_0)
                    have qi212 : (2 < x0_1.length) = True := eq_true (by omega)
                    (try rw [show ((2 : Int)).toNat = 2 from rfl] at hx212_0)
                    replace p212 := eq_true p212
                    replace q212 := eq_true q212
                    have p213 : 0 ≤ (3 : Int) := (by omega)
                    have q213 : 3 < (x0_1.length : Int) := of_decide_eq_true (by first | (with_reducible assumption) | assumption)
                    obtain ⟨ad213, e213, hx213_0⟩ := Kd.at_int (Kd.V_reads' HO_0.out).2.2 3 p213 q213
                    obtain rfl : ad210 = ad213 := (by injection e213)
                    (try simp only [show (3 : Int).toNat = 3 from rfl, Nat.reduceMul, Nat.reduceEqDiff, Go.Addr.add, ↓reduceIte] at hx213_0)
                    have qi213 : (3 < x0_1.length) = True := eq_true (by omega)
                    (try rw [show ((3 : Int)).toNat = 3 from rfl] at hx213_0)
                    replace p213 := eq_true p213
                    replace q213 := eq_true q213
                    obtain ⟨Ao19, co19, eo19⟩ := Kd.R_slice HO_8.out
                    subst eo19
                    have hnb20 := NB209_208.out
                    have hnc20 := NB208_209.out
                    have hcz21_0 : wr.cell? ⟨gb209, 0, none⟩ = some (u210000) := (blk_cell BK209.out 0).trans rfl
                    have hcz21_1 : wr.cell? ⟨gb209, 1, none⟩ = some (.int .i64 0) := (blk_cell BK209.out 1).trans rfl
                    have hcz21_2 : wr.cell? ⟨gb209, 2, none⟩ = some (.int .i64 x210002_1) := (blk_cell BK209.out 2).trans rfl
                    have hcz21_3 : wr.cell? ⟨gb209, 3, none⟩ = some (.bool false) := (blk_cell BK209.out 3).trans rfl
                    have hfz21_0 := blk_frozen BK209.out 0
                    have hfz21_1 := blk_frozen BK209.out 1
                    have hfz21_2 := blk_frozen BK209.out 2
                    have hfz21_3 := blk_frozen BK209.out 3
                    obtain ⟨Ao22, co22, eo22⟩ := Kd.S_slice HO_210000.out
                    subst eo22
                    have hcz23_0 : wr.cell? ⟨gb208, 0, none⟩ = some (.slice none 0 0) := (blk_cell BK208.out 0).trans rfl
                    have hcz23_1 : wr.cell? ⟨gb208, 1, none⟩ = some (.int .i64 x209001_1) := (blk_cell BK208.out 1).trans rfl
                    have hcz23_2 : wr.cell? ⟨gb208, 2, none⟩ = some (.int .i64 x209002_1) := (blk_cell BK208.out 2).trans rfl
                    have hcz23_3 : wr.cell? ⟨gb208, 3, none⟩ = some (.bool x209003_1) := (blk_cell BK208.out 3).trans rfl
                    have hfz23_0 := blk_frozen BK208.out 0
                    have hfz23_1 := blk_frozen BK208.out 1
                    have hfz23_2 := blk_frozen BK208.out 2
                    have hfz23_3 := blk_frozen BK208.out 3
                    go_wp2
                    repeat (go_quiet (fail); try go_wp2)
                    refine bodyPost_ret (results_cell_row rfl _ _ gb208 57 #[.slice Ao22 x210000_1.length co22, .int .i64 4, .int .i64 0, .bool false] (0, 0) _ rfl (by (with_reducible repeat (first | refine blk_drewN ?_ _ | refine blk_drew ?_ | refine blk_alloc ?_ _)); refine blk_put (cs := #[.slice Ao22 x210000_1.length co22, .int .i64 4, .int .i64 0, .bool x209003_1]) ?_ 3 _ rfl; (with_reducible repeat (first | refine blk_drewN ?_ _ | refine blk_drew ?_ | refine blk_alloc ?_ _)); refine blk_put (cs := #[.slice Ao22 x210000_1.length co22, .int .i64 4, .int .i64 x209002_1, .bool x209003_1]) ?_ 2 _ rfl; (with_reducible repeat (first | refine blk_drewN ?_ _ | refine blk_drew ?_ | refine blk_alloc ?_ _)); refine blk_put (cs := #[.slice Ao22 x210000_1.length co22, .int .i64 x209001_1, .int .i64 x209002_1, .bool x209003_1]) ?_ 1 _ rfl; (with_reducible repeat (first | refine blk_drewN ?_ _ | refine blk_drew ?_ | refine blk_alloc ?_ _)); refine blk_put (cs := #[.slice none 0 0, .int .i64 x209001_1, .int .i64 x209002_1, .bool x209003_1]) ?_ 0 _ rfl; (with_reducible repeat (first | refine blk_drewN ?_ _ | refine blk_drew ?_ | refine blk_alloc ?_ _)); exact BK208.out) Try.underlying57 rfl (by kernel_rfl)) rfl ?_
                    exact ⟨_, by first | rfl | (simp [errW_none, errW_some] <;> rfl) | (simp [*, errW_none, errW_some] <;> rfl), by (with_reducible repeat (first | apply Kd.S_alloc | apply Kd.S_drewN | apply Kd.S_drew)); exact Kd.S_mono (Kd.S_far (p := ⟨gb208, 3, none⟩) (Kd.S_far (p := ⟨gb208, 2, none⟩) (Kd.S_far (p := ⟨gb208, 1, none⟩) (Kd.S_far (p := ⟨gb208, 0, none⟩) (Kd.S_types HO_210000.out BK208.out (by decide)) (fun _ hk => hk.2) (.slice Ao22 x210000_1.length co22)) (fun _ hk => hk.2) (.int .i64 4)) (fun _ hk => hk.2) (.int .i64 0)) (fun _ hk => hk.2) (.bool false)) (fun _ hk => hk.1.1), by repeat (first | (with_reducible first | exact HB.out | apply below_alloc | apply pw_below_drewN | apply below_drew1 | refine below_set ?_ GE208.out | refine below_set ?_ GE209.out) | exact HB.out)⟩
                  · rw [if_neg c17] at H
                    have c17b0 : decide (a1 < (wrap64 ((x8_1.length : Int) + (wrap64 ((wrap64 ((wrap64 ((wrap64 ((wrap64 (Int.tmod (rd x0_1 0) 128)) * 16777216)) + (wrap64 ((wrap64 (rd x0_1 1)) * 65536)))) + (wrap64 ((wrap64 (rd x0_1 2)) * 256)))) + (wrap64 (rd x0_1 3))))))) = false := decide_eq_false c17
                    clear c17
                    by_cases c24 : (x0_1.length : Int) < (wrap64 (4 + (wrap64 ((wrap64 ((wrap64 ((wrap64 ((wrap64 (Int.tmod (rd x0_1 0) 128)) * 16777216)) + (wrap64 ((wrap64 (rd x0_1 1)) * 65536)))) + (wrap64 ((wrap64 (rd x0_1 2)) * 256)))) + (wrap64 (rd x0_1 3))))))
                    · rw [if_pos c24] at H
                      have c24b0 : decide ((x0_1.length : Int) < (wrap64 (4 + (wrap64 ((wrap64 ((wrap64 ((wrap64 ((wrap64 (Int.tmod (rd x0_1 0) 128)) * 16777216)) + (wrap64 ((wrap64 (rd x0_1 1)) * 65536)))) + (wrap64 ((wrap64 (rd x0_1 2)) * 256)))) + (wrap64 (rd x0_1 3))))))) = true := decide_eq_true c24
                      clear c24
                      simp only [Option.some.injEq, Prod.mk.injEq] at H
                      obtain ⟨rfl, rfl, rfl, rfl⟩ := H
                      obtain ⟨Ao25, co25, eo25⟩ := Kd.V_slice HO_0.out
                      subst eo25
                      have p210 : 0 ≤ (0 : Int) := (by omega)
                      have q210 : 0 < (x0_1.length : Int) := of_decide_eq_true (by first | (with_reducible assumption) | assumption)
                      obtain ⟨ad210, e210, hx210_0⟩ := Kd.at_int (Kd.V_reads' HO_0.out).2.2 0 p210 q210
                      cases e210
                      have qi210 : (0 < x0_1.length) = True := eq_true (by omega)
                      (try rw [show ((0 : Int)).toNat = 0 from rfl] at hx210_0)
                      (try rw [Addr.add_zero'] at hx210_0)
                      replace p210 := eq_true p210
                      replace q210 := eq_true q210
                      have p211 : 0 ≤ (1 : Int) := (by omega)
                      have q211 : 1 < (x0_1.length : Int) := of_decide_eq_true (by first | (with_reducible assumption) | assumption)
                      obtain ⟨ad211, e211, hx211_0⟩ := Kd.at_int (Kd.V_reads' HO_0.out).2.2 1 p211 q211
                      obtain rfl : ad210 = ad211 := (by injection e211)
                      (try simp only [show (1 : Int).toNat = 1 from rfl, Nat.reduceMul, Nat.reduceEqDiff, Go.Addr.add, ↓reduceIte] at hx211_0)
                      have qi211 : (1 < x0_1.length) = True := eq_true (by omega)
                      (try rw [show ((1 : Int)).toNat = 1 from rfl] at hx211_0)
                      replace p211 := eq_true p211
                      replace q211 := eq_true q211
                      have p212 : 0 ≤ (2 : Int) := (by omega)
                      have q212 : 2 < (x0_1.length : Int) := of_decide_eq_true (by first | (with_reducible assumption) | assumption)
                      obtain ⟨ad212, e212, hx212_0⟩ := Kd.at_int (Kd.V_reads' HO_0.out).2.2 2 p212 q212
                      obtain rfl : ad210 = ad212 := (by injection e212)
                      (try simp only [show (2 : Int).toNat = 2 from rfl, Nat.reduceMul, Nat.reduceEqDiff, Go.Addr.add, ↓reduceIte] at hx212_0)
                      have qi212 : (2 < x0_1.length) = True := eq_true (by omega)
                      (try rw [show ((2 : Int)).toNat = 2 from rfl] at hx212_0)
                      replace p212 := eq_true p212
                      replace q212 := eq_true q212
                      have p213 : 0 ≤ (3 : Int) := (by omega)
                      have q213 : 3 < (x0_1.length : Int) := of_decide_eq_true (by first | (with_reducible assumption) | assumption)
                      obtain ⟨ad213, e213, hx213_0⟩ := Kd.at_int (Kd.V_reads' HO_0.out).2.2 3 p213 q213
                      obtain rfl : ad210 = ad213 := (by injection e213)
                      (try simp only [show (3 : Int).toNat = 3 from rfl, Nat.reduceMul, Nat.reduceEqDiff, Go.Addr.add, ↓reduceIte] at hx213_0)
                      have qi213 : (3 < x0_1.length) = True := eq_true (by omega)
                      (try rw [show ((3 : Int)).toNat = 3 from rfl] at hx213_0)
                      replace p213 := eq_true p213
                      replace q213 := eq_true q213
                      obtain ⟨Ao26, co26, eo26⟩ := Kd.R_slice HO_8.out
                      subst eo26
                      have hnb27 := NB209_208.out
                      have hnc27 := NB208_209.out
                      have hcz28_0 : wr.cell? ⟨gb209, 0, none⟩ = some (u210000) := (blk_cell BK209.out 0).trans rfl
                      have hcz28_1 : wr.cell? ⟨gb209, 1, none⟩ = some (.int .i64 0) := (blk_cell BK209.out 1).trans rfl
                      have hcz28_2 : wr.cell? ⟨gb209, 2, none⟩ = some (.int .i64 x210002_1) := (blk_cell BK209.out 2).trans rfl
                      have hcz28_3 : wr.cell? ⟨gb209, 3, none⟩ = some (.bool false) := (blk_cell BK209.out 3).trans rfl
                      have hfz28_0 := blk_frozen BK209.out 0
                      have hfz28_1 := blk_frozen BK209.out 1
                      have hfz28_2 := blk_frozen BK209.out 2
                      have hfz28_3 := blk_frozen BK209.out 3
                      obtain ⟨Ao29, co29, eo29⟩ := Kd.S_slice HO_210000.out
                      subst eo29
                      have hcz30_0 : wr.cell? ⟨gb208, 0, none⟩ = some (.slice none 0 0) := (blk_cell BK208.out 0).trans rfl
                      have hcz30_1 : wr.cell? ⟨gb208, 1, none⟩ = some (.int .i64 x209001_1) := (blk_cell BK208.out 1).trans rfl
                      have hcz30_2 : wr.cell? ⟨gb208, 2, none⟩ = some (.int .i64 x209002_1) := (blk_cell BK208.out 2).trans rfl
                      have hcz30_3 : wr.cell? ⟨gb208, 3, none⟩ = some (.bool x209003_1) := (blk_cell BK208.out 3).trans rfl
                      have hfz30_0 := blk_frozen BK208.out 0
                      have hfz30_1 := blk_frozen BK208.out 1
                      have hfz30_2 := blk_frozen BK208.out 2
                      have hfz30_3 := blk_frozen BK208.out 3
                      go_wp2
                      repeat (go_quiet (fail); try go_wp2)
                      refine bodyPost_ret (results_cell_row rfl _ _ gb208 57 #[.slice Ao29 x210000_1.length co29, .int .i64 0, .int .i64 (wrap64 ((wrap64 ((x8_1.length : Int) + (x0_1.length : Int))) - 4)), .bool false] (0, 0) _ rfl (by (with_reducible repeat (first | refine blk_drewN ?_ _ | refine blk_drew ?_ | refine blk_alloc ?_ _)); refine blk_put (cs := #[.slice Ao29 x210000_1.length co29, .int .i64 0, .int .i64 (wrap64 ((wrap64 ((x8_1.length : Int) + (x0_1.length : Int))) - 4)), .bool x209003_1]) ?_ 3 _ rfl; (with_reducible repeat (first | refine blk_drewN ?_ _ | refine blk_drew ?_ | refine blk_alloc ?_ _)); refine blk_put (cs := #[.slice Ao29 x210000_1.length co29, .int .i64 0, .int .i64 x209002_1, .bool x209003_1]) ?_ 2 _ rfl; (with_reducible repeat (first | refine blk_drewN ?_ _ | refine blk_drew ?_ | refine blk_alloc ?_ _)); refine blk_put (cs := #[.slice Ao29 x210000_1.length co29, .int .i64 x209001_1, .int .i64 x209002_1, .bool x209003_1]) ?_ 1 _ rfl; (with_reducible repeat (first | refine blk_drewN ?_ _ | refine blk_drew ?_ | refine blk_alloc ?_ _)); refine blk_put (cs := #[.slice none 0 0, .int .i64 x209001_1, .int .i64 x209002_1, .bool x209003_1]) ?_ 0 _ rfl; (with_reducible repeat (first | refine blk_drewN ?_ _ | refine blk_drew ?_ | refine blk_alloc ?_ _)); refine blk_far ?_ NB208_209.out _; (with_reducible repeat (first | refine blk_drewN ?_ _ | refine blk_drew ?_ | refine blk_alloc ?_ _)); exact BK208.out) Try.underlying57 rfl (by kernel_rfl)) rfl ?_
                      exact ⟨_, by first | rfl | (simp [errW_none, errW_some] <;> rfl) | (simp [*, errW_none, errW_some] <;> rfl), by (with_reducible repeat (first | apply Kd.S_alloc | apply Kd.S_drewN | apply Kd.S_drew)); exact Kd.S_mono (Kd.S_far (p := ⟨gb208, 3, none⟩) (Kd.S_far (p := ⟨gb208, 2, none⟩) (Kd.S_far (p := ⟨gb208, 1, none⟩) (Kd.S_far (p := ⟨gb208, 0, none⟩) (Kd.S_far (p := ⟨gb209, 2, none⟩) (Kd.S_types (Kd.S_types HO_210000.out BK209.out (by decide)) BK208.out (by decide)) (fun _ hk => hk.1.2) (.int .i64 (wrap64 ((wrap64 ((x8_1.length : Int) + (x0_1.length : Int))) - 4)))) (fun _ hk => hk.2) (.slice Ao29 x210000_1.length co29)) (fun _ hk => hk.2) (.int .i64 0)) (fun _ hk => hk.2) (.int .i64 (wrap64 ((wrap64 ((x8_1.length : Int) + (x0_1.length : Int))) - 4)))) (fun _ hk => hk.2) (.bool false)) (fun _ hk => hk.1.1.1), by repeat (first | (with_reducible first | exact HB.out | apply below_alloc | apply pw_below_drewN | apply below_drew1 | refine below_set ?_ GE208.out | refine below_set ?_ GE209.out) | exact HB.out)⟩
                    · rw [if_neg c24] at H
                      have c24b0 : decide ((x0_1.length : Int) < (wrap64 (4 + (wrap64 ((wrap64 ((wrap64 ((wrap64 ((wrap64 (Int.tmod (rd x0_1 0) 128)) * 16777216)) + (wrap64 ((wrap64 (rd x0_1 1)) * 65536)))) + (wrap64 ((wrap64 (rd x0_1 2)) * 256)))) + (wrap64 (rd x0_1 3))))))) = false := decide_eq_false c24
                      clear c24
                      by_cases c31 : 4 ≤ (wrap64 (4 + (wrap64 ((wrap64 ((wrap64 ((wrap64 ((wrap64 (Int.tmod (rd x0_1 0) 128)) * 16777216)) + (wrap64 ((wrap64 (rd x0_1 1)) * 65536)))) + (wrap64 ((wrap64 (rd x0_1 2)) * 256)))) + (wrap64 (rd x0_1 3))))))
                      · rw [if_pos c31] at H
                        have c31b0 := eq_true c31
                        have c31b1 : decide (4 ≤ (wrap64 (4 + (wrap64 ((wrap64 ((wrap64 ((wrap64 ((wrap64 (Int.tmod (rd x0_1 0) 128)) * 16777216)) + (wrap64 ((wrap64 (rd x0_1 1)) * 65536)))) + (wrap64 ((wrap64 (rd x0_1 2)) * 256)))) + (wrap64 (rd x0_1 3))))))) = true := decide_eq_true c31
                        by_cases c32 : (wrap64 (4 + (wrap64 ((wrap64 ((wrap64 ((wrap64 ((wrap64 (Int.tmod (rd x0_1 0) 128)) * 16777216)) + (wrap64 ((wrap64 (rd x0_1 1)) * 65536)))) + (wrap64 ((wrap64 (rd x0_1 2)) * 256)))) + (wrap64 (rd x0_1 3)))))) ≤ (x0_1.length : Int)
                        · rw [if_pos c32] at H
                          have c32b0 := eq_true c32
                          have c32b1 : decide ((wrap64 (4 + (wrap64 ((wrap64 ((wrap64 ((wrap64 ((wrap64 (Int.tmod (rd x0_1 0) 128)) * 16777216)) + (wrap64 ((wrap64 (rd x0_1 1)) * 65536)))) + (wrap64 ((wrap64 (rd x0_1 2)) * 256)))) + (wrap64 (rd x0_1 3)))))) ≤ (x0_1.length : Int)) = true := decide_eq_true c32
                          obtain ⟨y214, hy214⟩ : ∃ y_ : List Int, y_ = ((x0_1.take ((wrap64 (4 + (wrap64 ((wrap64 ((wrap64 ((wrap64 ((wrap64 (Int.tmod (rd x0_1 0) 128)) * 16777216)) + (wrap64 ((wrap64 (rd x0_1 1)) * 65536)))) + (wrap64 ((wrap64 (rd x0_1 2)) * 256)))) + (wrap64 (rd x0_1 3)))))) : Int).toNat).drop 4) := ⟨_, rfl⟩
                          replace H : (if x8_1.length + y214.length < 140737488355328 then ((some (x8_1 ++ y214 : List Int)).bind fun y219 => (if (rd x0_1 0) > 127 then (if x210000_1.length < 5864062014805 then (if 0 ≤ (wrap64 (4 + (wrap64 ((wrap64 ((wrap64 ((wrap64 ((wrap64 (Int.tmod (rd x0_1 0) 128)) * 16777216)) + (wrap64 ((wrap64 (rd x0_1 1)) * 65536)))) + (wrap64 ((wrap64 (rd x0_1 2)) * 256)))) + (wrap64 (rd x0_1 3)))))) then (truchmanref04_All.l0 k1 (x0_1.drop ((wrap64 (4 + (wrap64 ((wrap64 ((wrap64 ((wrap64 ((wrap64 (Int.tmod (rd x0_1 0) 128)) * 16777216)) + (wrap64 ((wrap64 (rd x0_1 1)) * 65536)))) + (wrap64 ((wrap64 (rd x0_1 2)) * 256)))) + (wrap64 (rd x0_1 3)))))) : Int).toNat) a1 a2 ([] : List Int) 0 (x210000_1 ++ [y219]) 0 x210002_1 false) else (none)) else (none)) else (if 0 ≤ (wrap64 (4 + (wrap64 ((wrap64 ((wrap64 ((wrap64 ((wrap64 (Int.tmod (rd x0_1 0) 128)) * 16777216)) + (wrap64 ((wrap64 (rd x0_1 1)) * 65536)))) + (wrap64 ((wrap64 (rd x0_1 2)) * 256)))) + (wrap64 (rd x0_1 3)))))) then (truchmanref04_All.l0 k1 (x0_1.drop ((wrap64 (4 + (wrap64 ((wrap64 ((wrap64 ((wrap64 ((wrap64 (Int.tmod (rd x0_1 0) 128)) * 16777216)) + (wrap64 ((wrap64 (rd x0_1 1)) * 65536)))) + (wrap64 ((wrap64 (rd x0_1 2)) * 256)))) + (wrap64 (rd x0_1 3)))))) : Int).toNat) a1 a2 y219 (wrap64 (x9_1 + 1)) x210000_1 0 x210002_1 false) else (none)))) else (none)) = some (r1, r2, r3, r4) := by first | (rw [hy214]; with_reducible exact H) | (have H2_ := (Option.bind_some _ _).symm.trans H; rw [hy214]; with_reducible exact H2_) | (have H2_ := (Option.bind_some _ _).symm.trans H; with_reducible exact H2_) | with_reducible exact H | (rw [hy214]; exact H) | exact H
                          have Ny214 := Aside0.mk hy214
                          clear hy214
                          by_cases c33 : x8_1.length + y214.length < 140737488355328
                          · rw [if_pos c33] at H
                            have LMc33 := Aside0.mk c33
                            clear c33
                            obtain ⟨y219, hy219⟩ : ∃ y_ : List Int, y_ = (x8_1 ++ y214) := ⟨_, rfl⟩
                            replace H : (if (rd x0_1 0) > 127 then (if x210000_1.length < 5864062014805 then (if 0 ≤ (wrap64 (4 + (wrap64 ((wrap64 ((wrap64 ((wrap64 ((wrap64 (Int.tmod (rd x0_1 0) 128)) * 16777216)) + (wrap64 ((wrap64 (rd x0_1 1)) * 65536)))) + (wrap64 ((wrap64 (rd x0_1 2)) * 256)))) + (wrap64 (rd x0_1 3)))))) then (truchmanref04_All.l0 k1 (x0_1.drop ((wrap64 (4 + (wrap64 ((wrap64 ((wrap64 ((wrap64 ((wrap64 (Int.tmod (rd x0_1 0) 128)) * 16777216)) + (wrap64 ((wrap64 (rd x0_1 1)) * 65536)))) + (wrap64 ((wrap64 (rd x0_1 2)) * 256)))) + (wrap64 (rd x0_1 3)))))) : Int).toNat) a1 a2 ([] : List Int) 0 (x210000_1 ++ [y219]) 0 x210002_1 false) else (none)) else (none)) else (if 0 ≤ (wrap64 (4 + (wrap64 ((wrap64 ((wrap64 ((wrap64 ((wrap64 (Int.tmod (rd x0_1 0) 128)) * 16777216)) + (wrap64 ((wrap64 (rd x0_1 1)) * 65536)))) + (wrap64 ((wrap64 (rd x0_1 2)) * 256)))) + (wrap64 (rd x0_1 3)))))) then (truchmanref04_All.l0 k1 (x0_1.drop ((wrap64 (4 + (wrap64 ((wrap64 ((wrap64 ((wrap64 ((wrap64 (Int.tmod (rd x0_1 0) 128)) * 16777216)) + (wrap64 ((wrap64 (rd x0_1 1)) * 65536)))) + (wrap64 ((wrap64 (rd x0_1 2)) * 256)))) + (wrap64 (rd x0_1 3)))))) : Int).toNat) a1 a2 y219 (wrap64 (x9_1 + 1)) x210000_1 0 x210002_1 false) else (none))) = some (r1, r2, r3, r4) := by first | (rw [hy219]; with_reducible exact H) | (have H2_ := (Option.bind_some _ _).symm.trans H; rw [hy219]; with_reducible exact H2_) | (have H2_ := (Option.bind_some _ _).symm.trans H; with_reducible exact H2_) | with_reducible exact H | (rw [hy219]; exact H) | exact H
                            have Ny219 := Aside0.mk hy219
                            clear hy219
                            by_cases c34 : (rd x0_1 0) > 127
                            · rw [if_pos c34] at H
                              have c34b0 : decide (127 < (rd x0_1 0)) = true := decide_eq_true c34
                              clear c34
                              by_cases c35 : x210000_1.length < 5864062014805
                              · rw [if_pos c35] at H
                                have LMc35 := Aside0.mk c35
                                clear c35
                                obtain ⟨y223, hy223⟩ : ∃ y_ : List (List Int), y_ = (x210000_1 ++ [y219]) := ⟨_, rfl⟩
                                replace H : (if 0 ≤ (wrap64 (4 + (wrap64 ((wrap64 ((wrap64 ((wrap64 ((wrap64 (Int.tmod (rd x0_1 0) 128)) * 16777216)) + (wrap64 ((wrap64 (rd x0_1 1)) * 65536)))) + (wrap64 ((wrap64 (rd x0_1 2)) * 256)))) + (wrap64 (rd x0_1 3)))))) then (truchmanref04_All.l0 k1 (x0_1.drop ((wrap64 (4 + (wrap64 ((wrap64 ((wrap64 ((wrap64 ((wrap64 (Int.tmod (rd x0_1 0) 128)) * 16777216)) + (wrap64 ((wrap64 (rd x0_1 1)) * 65536)))) + (wrap64 ((wrap64 (rd x0_1 2)) * 256)))) + (wrap64 (rd x0_1 3)))))) : Int).toNat) a1 a2 ([] : List Int) 0 y223 0 x210002_1 false) else (none)) = some (r1, r2, r3, r4) := by first | (rw [hy223]; with_reducible exact H) | (have H2_ := (Option.bind_some _ _).symm.trans H; rw [hy223]; with_reducible exact H2_) | (have H2_ := (Option.bind_some _ _).symm.trans H; with_reducible exact H2_) | with_reducible exact H | (rw [hy223]; exact H) | exact H
                                have Ny223 := Aside0.mk hy223
                                clear hy223
                                obtain ⟨ji36, hji36⟩ : ∃ j_ : Int, (wrap64 (4 + (wrap64 ((wrap64 ((wrap64 ((wrap64 ((wrap64 (Int.tmod (rd x0_1 0) 128)) * 16777216)) + (wrap64 ((wrap64 (rd x0_1 1)) * 65536)))) + (wrap64 ((wrap64 (rd x0_1 2)) * 256)))) + (wrap64 (rd x0_1 3)))))) = j_ := ⟨_, rfl⟩
                                replace H : (if 0 ≤ (ji36) then (truchmanref04_All.l0 k1 (x0_1.drop ((ji36) : Int).toNat) a1 a2 ([] : List Int) 0 y223 0 x210002_1 false) else (none)) = some (r1, r2, r3, r4) := by first | (rw [hji36] at H; exact H) | (simp only [hji36] at H ⊢; exact H)
                                (try rw [hji36] at c24b0)
                                (try rw [hji36] at c31b0)
                                (try rw [hji36] at c31b1)
                                (try rw [hji36] at c31)
                                (try rw [hji36] at c32b0)
                                (try rw [hji36] at c32b1)
                                (try rw [hji36] at c32)
                                (try rw [hji36] at Ny214)
                                (try rw [hji36] at Ny214)
                                have hji36w : (IntKind.i64.wrap (4 + (wrap64 ((wrap64 ((wrap64 ((wrap64 ((wrap64 (Int.tmod (rd x0_1 0) 128)) * 16777216)) + (wrap64 ((wrap64 (rd x0_1 1)) * 65536)))) + (wrap64 ((wrap64 (rd x0_1 2)) * 256)))) + (wrap64 (rd x0_1 3)))))) = ji36 := (i64_w _).trans hji36
                                by_cases c37 : 0 ≤ (ji36)
                                · rw [if_pos c37] at H
                                  have c37b0 := eq_true c37
                                  have c37b1 : decide (0 ≤ (ji36)) = true := decide_eq_true c37
                                  clear c37
                                  have c38b0 := eq_true (of_decide_eq_true (by first | (with_reducible assumption) | assumption) : (ji36) ≤ (x0_1.length : Int))
                                  obtain ⟨y226, hy226⟩ : ∃ y_ : List Int, y_ = (x0_1.drop ((ji36) : Int).toNat) := ⟨_, rfl⟩
                                  replace H : (truchmanref04_All.l0 k1 y226 a1 a2 ([] : List Int) 0 y223 0 x210002_1 false) = some (r1, r2, r3, r4) := by first | (rw [hy226]; with_reducible exact H) | (have H2_ := (Option.bind_some _ _).symm.trans H; rw [hy226]; with_reducible exact H2_) | (have H2_ := (Option.bind_some _ _).symm.trans H; with_reducible exact H2_) | with_reducible exact H | (rw [hy226]; exact H) | exact H
                                  have Ny226 := Aside0.mk hy226
                                  clear hy226
                                  have H' := Aside0.mk H
                                  clear H
                                  obtain ⟨Ao39, co39, eo39⟩ := Kd.V_slice HO_0.out
                                  subst eo39
                                  have p210 : 0 ≤ (0 : Int) := (by omega)
                                  have q210 : 0 < (x0_1.length : Int) := of_decide_eq_true (by first | (with_reducible assumption) | assumption)
                                  obtain ⟨ad210, e210, hx210_0⟩ := Kd.at_int (Kd.V_reads' HO_0.out).2.2 0 p210 q210
                                  cases e210
                                  have qi210 : (0 < x0_1.length) = True := eq_true (by omega)
                                  (try rw [show ((0 : Int)).toNat = 0 from rfl] at hx210_0)
                                  (try rw [Addr.add_zero'] at hx210_0)
                                  replace p210 := eq_true p210
                                  replace q210 := eq_true q210
                                  have p211 : 0 ≤ (1 : Int) := (by omega)
                                  have q211 : 1 < (x0_1.length : Int) := of_decide_eq_true (by first | (with_reducible assumption) | assumption)
                                  obtain ⟨ad211, e211, hx211_0⟩ := Kd.at_int (Kd.V_reads' HO_0.out).2.2 1 p211 q211
                                  obtain rfl : ad210 = ad211 := (by injection e211)
                                  (try simp only [show (1 : Int).toNat = 1 from rfl, Nat.reduceMul, Nat.reduceEqDiff, Go.Addr.add, ↓reduceIte] at hx211_0)
                                  have qi211 : (1 < x0_1.length) = True := eq_true (by omega)
                                  (try rw [show ((1 : Int)).toNat = 1 from rfl] at hx211_0)
                                  replace p211 := eq_true p211
                                  replace q211 := eq_true q211
                                  have p212 : 0 ≤ (2 : Int) := (by omega)
                                  have q212 : 2 < (x0_1.length : Int) := of_decide_eq_true (by first | (with_reducible assumption) | assumption)
                                  obtain ⟨ad212, e212, hx212_0⟩ := Kd.at_int (Kd.V_reads' HO_0.out).2.2 2 p212 q212
                                  obtain rfl : ad210 = ad212 := (by injection e212)
                                  (try simp only [show (2 : Int).toNat = 2 from rfl, Nat.reduceMul, Nat.reduceEqDiff, Go.Addr.add, ↓reduceIte] at hx212_0)
                                  have qi212 : (2 < x0_1.length) = True := eq_true (by omega)
                                  (try rw [show ((2 : Int)).toNat = 2 from rfl] at hx212_0)
                                  replace p212 := eq_true p212
                                  replace q212 := eq_true q212
                                  have p213 : 0 ≤ (3 : Int) := (by omega)
                                  have q213 : 3 < (x0_1.length : Int) := of_decide_eq_true (by first | (with_reducible assumption) | assumption)
                                  obtain ⟨ad213, e213, hx213_0⟩ := Kd.at_int (Kd.V_reads' HO_0.out).2.2 3 p213 q213
                                  obtain rfl : ad210 = ad213 := (by injection e213)
                                  (try simp only [show (3 : Int).toNat = 3 from rfl, Nat.reduceMul, Nat.reduceEqDiff, Go.Addr.add, ↓reduceIte] at hx213_0)
                                  have qi213 : (3 < x0_1.length) = True := eq_true (by omega)
                                  (try rw [show ((3 : Int)).toNat = 3 from rfl] at hx213_0)
                                  replace p213 := eq_true p213
                                  replace q213 := eq_true q213
                                  obtain ⟨Ao40, co40, eo40⟩ := Kd.R_slice HO_8.out
                                  subst eo40
                                  have q41 : ((ji36) : Int) ≤ ((x0_1.length : Int) : Int) := of_decide_eq_true (by first | (with_reducible assumption) | assumption)
                                  obtain ⟨i041, hi041, _, hsz41, _⟩ := info_parts info5
                                  have hroom41 : x0_1.length ≤ co39 := (Kd.V_reads' HO_0.out).2.1
                                  have hC41 : Kd.F (Kd.int .u8) _ _ (some ad210) x0_1.length x0_1 := (Kd.V_at (base := w.heap.size) HO_0.out).2.2
                                  have ql41 : (4 : Int) ≤ ((ji36) : Int) := of_decide_eq_true (by first | (with_reducible assumption) | assumption)
                                  have hcut41 := cut_mid (P := Try.prog) 28 5 .i64 .i64 Try.underlying28 hi041 1 hsz41 (some ad210) x0_1.length co39 4 (ji36) (by omega) ql41 q41 hroom41
                                  have hr41 := Kd.F_mid (lo := (4 : Int).toNat) (hi := ((ji36) : Int).toNat) (c := co39) hC41 (by omega) (by omega) hroom41
                                  obtain ⟨A41, hA41⟩ : ∃ A1, A1 = (if co39 = (4 : Int).toNat then (some ad210) else ((some ad210) : Option Addr).map (·.add ((4 : Int).toNat * 1))) := ⟨_, rfl⟩
                                  obtain ⟨c41, hc41⟩ : ∃ c1, c1 = co39 - (4 : Int).toNat := ⟨_, rfl⟩
                                  have hy41 : y214.length = ((ji36) : Int).toNat - (4 : Int).toNat := (by rw [Ny214.out, List.length_drop, List.length_take] <;> omega)
                                  rw [show ((x0_1).take ((ji36) : Int).toNat).drop (4 : Int).toNat = y214 from Ny214.out.symm] at hr41
                                  replace hr41 : Kd.F (Kd.int .u8) _ _ A41 y214.length y214 := (by rw [hA41]; exact hr41)
                                  rw [← hy41, ← hA41, ← hc41] at hcut41
                                  have HO218 := Aside0.mk (show Kd.V (Kd.int .u8) 5 _ w.heap.size _ (.slice A41 y214.length c41) y214 from Kd.V_mk (by rw [hy41, hc41]; exact Nat.sub_le_sub_right (Nat.le_trans (by omega) hroom41) _) hr41)
                                  have HC218 := Aside0.mk (show y214.length ≤ c41 from by rw [hy41, hc41]; exact Nat.sub_le_sub_right (Nat.le_trans (by omega) hroom41) _)
                                  clear hr41 hC41 hroom41 hi041 hsz41 hc41
                                  have KY41 := Aside0.mk hy41
                                  have KA41 := Aside0.mk hA41
                                  clear hy41 hA41
                                  replace q41 := eq_true q41
                                  go_wp2_with (first | ((with_reducible refine gate_builtin (b := .append) (xs := #[.tmp 67, .tmp 71]) rfl ?_); (try (refine gate_guard (by rfl) ?_; dsimp only)); at_builtin; refine Kd.R_append_rows (Kd.int .u8) (w0 := w) w.heap.size rfl (.tmp 67) (.tmp 71) 28 5 (.int .u8 0) 1 rfl Try.underlying28 info5 rfl (by decide) (by omega) (.slice Ao40 x8_1.length co40) x8_1 y214 _ _ _ (fun k_ => (w.heap.size ≤ k_)) (fun _ => False) rfl rfl ?aO ?aR (fun _ _ h => h) (fun _ h => h.elim) ?aF ?aB ?aS ?aL ?_; (case aR => repeat (first | exact (Kd.V_reads' HO218.out).2.2 | (with_reducible refine Kd.C_alloc ?_ _) | (with_reducible refine Kd.C_drewN ?_ _) | (with_reducible refine Kd.C_drew ?_))); (case aB => exact (by repeat (first | (with_reducible first | exact HB.out | apply below_alloc | apply pw_below_drewN | apply below_drew1 | refine below_set ?_ GE208.out | refine below_set ?_ GE209.out) | exact HB.out))); (case aF => exact (fun k_ hk => (Nat.le_trans (below_size (by repeat (first | (with_reducible first | exact HB.out | apply below_alloc | apply pw_below_drewN | apply below_drew1 | refine below_set ?_ GE208.out | refine below_set ?_ GE209.out) | exact HB.out))) hk))); (case aO => exact (by (with_reducible repeat (first | apply Kd.R_alloc | apply Kd.R_drewN | apply Kd.R_drew)); exact HO_8.out)); (case aS => exact (below_size (by repeat (first | (with_reducible first | exact HB.out | apply below_alloc | apply pw_below_drewN | apply below_drew1 | refine below_set ?_ GE208.out | refine below_set ?_ GE209.out) | exact HB.out)))); (case aL => have := LMc33.out; omega); intro v220 w42 ho hb hg hat; rw [← Ny219.out] at ho; have n0_ := Aside0.mk (Kd.V_afterv (ok := (fun k_ => (P0_ k_ ∨ w.heap.size ≤ k_) ∧ some k_ ≠ (u210000 : Value).ownBlock ∧ k_ ≠ gb208 ∧ k_ ≠ gb209)) (by (with_reducible repeat (first | apply Kd.V_alloc | apply Kd.V_drewN | apply Kd.V_drew)); exact Kd.V_mono HO_0.out (fun _ hk => ⟨⟨hk.1, ⟨hk.2.2.1, ⟨hk.2.2.2.1, hk.2.2.2.2⟩⟩⟩, hk.2.1⟩)) hg hat); have n1_ := Aside0.mk (Kd.S_after (ok := (fun k_ => (w.heap.size ≤ k_))) (by (with_reducible repeat (first | apply Kd.S_alloc | apply Kd.S_drewN | apply Kd.S_drew)); exact HO_210000.out) hg hat); have n2_ := Aside0.mk (blk_grown (g := gb208) (o := .cells #[.slice none 0 0, .int .i64 x209001_1, .int .i64 x209002_1, .bool x209003_1] 57 (0, 0)) (by (with_reducible repeat (first | refine blk_drewN ?_ _ | refine blk_drew ?_ | refine blk_alloc ?_ _)); exact BK208.out) hg (Kd.R_ne HO_8.out BK208.out (by decide))); have n3_ := Aside0.mk (blk_grown (g := gb209) (o := .cells #[u210000, .int .i64 0, .int .i64 x210002_1, .bool false] 57 (0, 0)) (by (with_reducible repeat (first | refine blk_drewN ?_ _ | refine blk_drew ?_ | refine blk_alloc ?_ _)); exact BK209.out) hg (Kd.R_ne HO_8.out BK209.out (by decide))); have n4_ := Aside0.mk (Kd.V_afterv (ok := (fun k_ => (P0_ k_ ∨ w.heap.size ≤ k_) ∧ some k_ ≠ (u210000 : Value).ownBlock ∧ k_ ≠ gb208 ∧ k_ ≠ gb209)) (by (with_reducible repeat (first | apply Kd.V_alloc | apply Kd.V_drewN | apply Kd.V_drew)); exact Kd.V_mono HO218.out (fun _ hk => ⟨⟨hk.1, ⟨hk.2.2.1, ⟨hk.2.2.2.1, hk.2.2.2.2⟩⟩⟩, hk.2.1⟩)) hg hat); have n5_ := Aside0.mk (hb); have n6_ := Aside0.mk (ho); clear HO_0; clear HO_210000; clear BK208; clear BK209; clear HO218; clear HB; clear HO_8; have HO_0 := n0_; have HO_210000 := n1_; have BK208 := n2_; have BK209 := n3_; have HO218 := n4_; have HB := n5_; have HO221 := n6_; clear n0_ n1_ n2_ n3_ n4_ n5_ n6_; clear ho hb hg hat; have p222 : 0 ≤ (0 : Int) := (by omega); have q222 : 0 < (x0_1.length : Int) := of_decide_eq_true (by first | (with_reducible assumption) | assumption); obtain ⟨ad222, e222, hx222_0⟩ := Kd.at_int (Kd.V_reads' HO_0.out).2.2 0 p222 q222; obtain rfl : ad210 = ad222 := (by injection e222); have qi222 : (0 < x0_1.length) = True := eq_true (by omega); (try rw [show ((0 : Int)).toNat = 0 from rfl] at hx222_0); (try rw [Addr.add_zero'] at hx222_0); replace p222 := eq_true p222; replace q222 := eq_true q222; have hnb43 := NB209_208.out; have hnc43 := NB208_209.out; have hcz44_0 : w42.cell? ⟨gb209, 0, none⟩ = some (u210000) := (blk_cell BK209.out 0).trans rfl; have hcz44_1 : w42.cell? ⟨gb209, 1, none⟩ = some (.int .i64 0) := (blk_cell BK209.out 1).trans rfl; have hcz44_2 : w42.cell? ⟨gb209, 2, none⟩ = some (.int .i64 x210002_1) := (blk_cell BK209.out 2).trans rfl; have hcz44_3 : w42.cell? ⟨gb209, 3, none⟩ = some (.bool false) := (blk_cell BK209.out 3).trans rfl; have hfz44_0 := blk_frozen BK209.out 0; have hfz44_1 := blk_frozen BK209.out 1; have hfz44_2 := blk_frozen BK209.out 2; have hfz44_3 := blk_frozen BK209.out 3; obtain ⟨Ao46, co46, eo46⟩ := Kd.R_slice HO221.out; subst eo46) | ((with_reducible refine gate_builtin (b := .append) (xs := #[.tmp 78, .tmp 80]) rfl ?_); (try (refine gate_guard (by rfl) ?_; dsimp only)); at_builtin; refine Kd.S_append (Kd.slice 5 (Kd.int .u8)) (w0 := w) w.heap.size rfl (.tmp 78) (.tmp 80) 42 28 (.slice none 0 0) 24 rfl Try.underlying42 info28 rfl (by decide) (by omega) u210000 x210000_1 y219 [.slice Ao46 y219.length co46] (fun k_ => (w.heap.size ≤ k_)) (fun k_ => some k_ = (.slice Ao46 y219.length co46 : Value).ownBlock) rfl rfl ?aP (fun k_ hk_ => ((Kd.R_mono (ok' := fun k_ => ((fun k_ => (w.heap.size ≤ k_))) k_ ∧ some k_ ≠ (u210000 : Value).ownBlock) (Kd.R_apart' (HO221.out) (Kd.S_typed HO_210000.out) (by decide)) (fun k_ hk => ⟨hk.1, hk.2⟩))).1 k_ hk_.symm) ?aF ?aO ?aB ?aS ?aL ?_; (case aP => exact Kd.M_row (Kd.R_mono (Kd.R_tight rfl (Kd.R_mono (ok' := fun k_ => ((fun k_ => (w.heap.size ≤ k_))) k_ ∧ some k_ ≠ (u210000 : Value).ownBlock) (Kd.R_apart' (HO221.out) (Kd.S_typed HO_210000.out) (by decide)) (fun k_ hk => ⟨hk.1, hk.2⟩))) (fun _ h_ => h_))); (case aB => exact (by repeat (first | (with_reducible first | exact HB.out | apply below_alloc | apply pw_below_drewN | apply below_drew1 | refine below_set ?_ GE208.out | refine below_set ?_ GE209.out) | exact HB.out))); (case aF => exact (fun k_ hk => (Nat.le_trans (below_size (by repeat (first | (with_reducible first | exact HB.out | apply below_alloc | apply pw_below_drewN | apply below_drew1 | refine below_set ?_ GE208.out | refine below_set ?_ GE209.out) | exact HB.out))) hk))); (case aO => exact (by (with_reducible repeat (first | apply Kd.S_alloc | apply Kd.S_drewN | apply Kd.S_drew)); exact Kd.S_mono HO_210000.out (fun k_ hk => ⟨hk.1, fun e_ => hk.2 e_⟩))); (case aS => exact (below_size (by repeat (first | (with_reducible first | exact HB.out | apply below_alloc | apply pw_below_drewN | apply below_drew1 | refine below_set ?_ GE208.out | refine below_set ?_ GE209.out) | exact HB.out)))); (case aL => have := LMc35.out; omega); intro v224 w45 ho hb hg hat; rw [← Ny223.out] at ho; have n0_ := Aside0.mk (Kd.V_afterv (ok := (fun k_ => (P0_ k_ ∨ w.heap.size ≤ k_) ∧ some k_ ≠ (.slice Ao46 y219.length co46 : Value).ownBlock ∧ k_ ≠ gb208 ∧ k_ ≠ gb209)) (by (with_reducible repeat (first | apply Kd.V_alloc | apply Kd.V_drewN | apply Kd.V_drew)); exact Kd.V_mono HO_0.out (fun _ hk => ⟨⟨hk.1.1, ⟨hk.2, ⟨hk.1.2.2.1, hk.1.2.2.2⟩⟩⟩, hk.1.2.1⟩)) hg hat); have n1_ := Aside0.mk (blk_grown (g := gb208) (o := .cells #[.slice none 0 0, .int .i64 x209001_1, .int .i64 x209002_1, .bool x209003_1] 57 (0, 0)) (by (with_reducible repeat (first | refine blk_drewN ?_ _ | refine blk_drew ?_ | refine blk_alloc ?_ _)); exact BK208.out) hg (Kd.S_ne HO_210000.out BK208.out (by decide))); have n2_ := Aside0.mk (blk_grown (g := gb209) (o := .cells #[u210000, .int .i64 0, .int .i64 x210002_1, .bool false] 57 (0, 0)) (by (with_reducible repeat (first | refine blk_drewN ?_ _ | refine blk_drew ?_ | refine blk_alloc ?_ _)); exact BK209.out) hg (Kd.S_ne HO_210000.out BK209.out (by decide))); have n3_ := Aside0.mk (Kd.V_afterv (ok := (fun k_ => (P0_ k_ ∨ w.heap.size ≤ k_) ∧ some k_ ≠ (.slice Ao46 y219.length co46 : Value).ownBlock ∧ k_ ≠ gb208 ∧ k_ ≠ gb209)) (by (with_reducible repeat (first | apply Kd.V_alloc | apply Kd.V_drewN | apply Kd.V_drew)); exact Kd.V_mono HO218.out (fun _ hk => ⟨⟨hk.1.1, ⟨hk.2, ⟨hk.1.2.2.1, hk.1.2.2.2⟩⟩⟩, hk.1.2.1⟩)) hg hat); have n4_ := Aside0.mk (hb); have n5_ := Aside0.mk (ho); clear HO_0; clear BK208; clear BK209; clear HO218; clear HB; clear HO_210000; clear HO221; have HO_0 := n0_; have BK208 := n1_; have BK209 := n2_; have HO218 := n3_; have HB := n4_; have HO225 := n5_; clear n0_ n1_ n2_ n3_ n4_ n5_; clear ho hb hg hat; obtain ⟨Ao47, co47, eo47⟩ := Kd.S_slice HO225.out; subst eo47; have hcz48_0 : w45.cell? ⟨gb209, 0, none⟩ = some (u210000) := (blk_cell BK209.out 0).trans rfl; have hcz48_1 : w45.cell? ⟨gb209, 1, none⟩ = some (.int .i64 0) := (blk_cell BK209.out 1).trans rfl; have hcz48_2 : w45.cell? ⟨gb209, 2, none⟩ = some (.int .i64 x210002_1) := (blk_cell BK209.out 2).trans rfl; have hcz48_3 : w45.cell? ⟨gb209, 3, none⟩ = some (.bool false) := (blk_cell BK209.out 3).trans rfl; have hfz48_0 := blk_frozen BK209.out 0; have hfz48_1 := blk_frozen BK209.out 1; have hfz48_2 := blk_frozen BK209.out 2; have hfz48_3 := blk_frozen BK209.out 3) | ((with_reducible refine gate_store (t := 42) (p := 82) rfl ?_); (try (rw [drewN_self w45]; generalize hq_ : World.drewN w45 _ = w45; have n0_ := Aside0.mk (Kd.V_at hq_ HO_0.out); have n1_ := Aside0.mk (Kd.V_at hq_ HO218.out); have n2_ := Aside0.mk (Kd.S_at hq_ HO225.out); have n3_ := Aside0.mk (blk_at hq_ BK208.out); have n4_ := Aside0.mk (blk_at hq_ BK209.out); have n5_ := Aside0.mk (below_at hq_ HB.out); clear hq_ HO_0 HO218 HO225 BK208 BK209 HB; have HO_0 := n0_; have HO218 := n1_; have HO225 := n2_; have BK208 := n3_; have BK209 := n4_; have HB := n5_; clear n0_ n1_ n2_ n3_ n4_ n5_)); refine store_event (t := 42) (p := 82) (v := ?vo_w49) (w1 := (w45.setCell ⟨gb209, 0, none⟩ (.slice Ao47 y223.length co47))) ?hg ?ho ?hn ?hr ?_; (case ho => rfl); (case hg => rfl); (case hn => rfl); (case hr => first | (go_simp; done) | (go_simp; rfl)); intro w49 hw; have n0_ : Aside0 (Kd.V (Kd.int .u8) 5 w49 w.heap.size (fun k_ => (P0_ k_ ∨ w.heap.size ≤ k_) ∧ some k_ ≠ (.slice Ao47 y223.length co47 : Value).ownBlock ∧ k_ ≠ gb208 ∧ k_ ≠ gb209) (.slice (some ad210) x0_1.length co39) x0_1) := ⟨(by rw [hw]; exact (by (with_reducible repeat (first | apply Kd.V_alloc | apply Kd.V_drewN | apply Kd.V_drew)); exact Kd.V_mono (Kd.V_far (p := ⟨gb209, 0, none⟩) (Kd.V_mono HO_0.out (fun k_ hk => (⟨hk, hk.1.2.2.2⟩ : _ ∧ k_ ≠ gb209))) (fun _ hk => hk.2) (.slice Ao47 y223.length co47)) (fun _ hk => ⟨hk.1.1.1, ⟨hk.1.2, ⟨hk.1.1.2.2.1, hk.1.1.2.2.2⟩⟩⟩)))⟩; have n1_ : Aside0 (Kd.V (Kd.int .u8) 5 w49 w.heap.size (fun k_ => (P0_ k_ ∨ w.heap.size ≤ k_) ∧ some k_ ≠ (.slice Ao47 y223.length co47 : Value).ownBlock ∧ k_ ≠ gb208 ∧ k_ ≠ gb209) (.slice A41 y214.length c41) y214) := ⟨(by rw [hw]; exact (by (with_reducible repeat (first | apply Kd.V_alloc | apply Kd.V_drewN | apply Kd.V_drew)); exact Kd.V_mono (Kd.V_far (p := ⟨gb209, 0, none⟩) (Kd.V_mono HO218.out (fun k_ hk => (⟨hk, hk.1.2.2.2⟩ : _ ∧ k_ ≠ gb209))) (fun _ hk => hk.2) (.slice Ao47 y223.length co47)) (fun _ hk => ⟨hk.1.1.1, ⟨hk.1.2, ⟨hk.1.1.2.2.1, hk.1.1.2.2.2⟩⟩⟩)))⟩; have n2_ : Aside0 (Kd.S (Kd.slice 5 (Kd.int .u8)) 28 w49 w.heap.size (fun k_ => (w.heap.size ≤ k_)) (.slice Ao47 y223.length co47) y223) := ⟨(by rw [hw]; exact (by (with_reducible repeat (first | apply Kd.S_alloc | apply Kd.S_drewN | apply Kd.S_drew)); exact Kd.S_mono (Kd.S_far (p := ⟨gb209, 0, none⟩) (Kd.S_types HO225.out BK209.out (by decide)) (fun _ hk => hk.2) (.slice Ao47 y223.length co47)) (fun _ hk => hk.1)))⟩; have n3_ : Aside0 (w49.heap[gb208]? = some (.cells #[.slice none 0 0, .int .i64 x209001_1, .int .i64 x209002_1, .bool x209003_1] 57 (0, 0))) := ⟨(by rw [hw]; exact (by (with_reducible repeat (first | refine blk_drewN ?_ _ | refine blk_drew ?_ | refine blk_alloc ?_ _)); refine blk_far ?_ NB208_209.out _; (with_reducible repeat (first | refine blk_drewN ?_ _ | refine blk_drew ?_ | refine blk_alloc ?_ _)); exact BK208.out))⟩; have n4_ : Aside0 (w49.heap[gb209]? = some (.cells #[.slice Ao47 y223.length co47, .int .i64 0, .int .i64 x210002_1, .bool false] 57 (0, 0))) := ⟨(by rw [hw]; exact (by (with_reducible repeat (first | refine blk_drewN ?_ _ | refine blk_drew ?_ | refine blk_alloc ?_ _)); refine blk_put (cs := #[u210000, .int .i64 0, .int .i64 x210002_1, .bool false]) ?_ 0 _ rfl; (with_reducible repeat (first | refine blk_drewN ?_ _ | refine blk_drew ?_ | refine blk_alloc ?_ _)); exact BK209.out))⟩; have n5_ : Aside0 (Below w.heap.size w w49) := ⟨(by rw [hw]; exact (by repeat (first | (with_reducible first | exact HB.out | apply below_alloc | apply pw_below_drewN | apply below_drew1 | refine below_set ?_ GE208.out | refine below_set ?_ GE209.out) | exact HB.out)))⟩; clear hw; clear HO_0; clear HO218; clear HO225; clear BK208; clear BK209; clear HB; have HO_0 := n0_; have HO218 := n1_; have HO225 := n2_; have BK208 := n3_; have BK209 := n4_; have HB := n5_; clear n0_ n1_ n2_ n3_ n4_ n5_; have q50 : ((ji36) : Int) ≤ ((x0_1.length : Int) : Int) := of_decide_eq_true (by first | (with_reducible assumption) | assumption); obtain ⟨i050, hi050, _, hsz50, _⟩ := info_parts info5; have hroom50 : x0_1.length ≤ co39 := (Kd.V_reads' HO_0.out).2.1; have hC50 : Kd.F (Kd.int .u8) _ _ (some ad210) x0_1.length x0_1 := (Kd.V_at (base := w.heap.size) HO_0.out).2.2; have q050 : (0 : Int) ≤ ((ji36) : Int) := of_decide_eq_true (by first | (with_reducible assumption) | assumption); have hcut50 := cut_from (P := Try.prog) 28 5 .i64 Try.underlying28 hi050 1 hsz50 (some ad210) x0_1.length co39 (ji36) q050 q50; have hr50 := Kd.F_cut (m := ((ji36) : Int).toNat) (c := co39) hC50 (by omega) hroom50; obtain ⟨A50, hA50⟩ : ∃ A1, A1 = (if co39 = ((ji36) : Int).toNat then (some ad210) else ((some ad210) : Option Addr).map (·.add (((ji36) : Int).toNat * 1))) := ⟨_, rfl⟩; obtain ⟨c50, hc50⟩ : ∃ c1, c1 = co39 - ((ji36) : Int).toNat := ⟨_, rfl⟩; have hy50 : y226.length = x0_1.length - ((ji36) : Int).toNat := (by rw [Ny226.out, List.length_drop] <;> omega); rw [show (x0_1).drop ((ji36) : Int).toNat = y226 from Ny226.out.symm] at hr50; replace hr50 : Kd.F (Kd.int .u8) _ _ A50 y226.length y226 := (by rw [hA50]; exact hr50); rw [← hy50, ← hA50, ← hc50] at hcut50; have HO230 := Aside0.mk (show Kd.V (Kd.int .u8) 5 _ w.heap.size _ (.slice A50 y226.length c50) y226 from Kd.V_mk (by rw [hy50, hc50]; exact Nat.sub_le_sub_right hroom50 _) hr50); have HC230 := Aside0.mk (show y226.length ≤ c50 from by rw [hy50, hc50]; exact Nat.sub_le_sub_right hroom50 _); clear hr50 hC50 hroom50 hi050 hsz50 hc50; have KY50 := Aside0.mk hy50; have KA50 := Aside0.mk hA50; clear hy50 hA50; replace q50 := eq_true q50))
                                  repeat (go_quiet (first | ((with_reducible refine gate_builtin (b := .append) (xs := #[.tmp 67, .tmp 71]) rfl ?_); (try (refine gate_guard (by rfl) ?_; dsimp only)); at_builtin; refine Kd.R_append_rows (Kd.int .u8) (w0 := w) w.heap.size rfl (.tmp 67) (.tmp 71) 28 5 (.int .u8 0) 1 rfl Try.underlying28 info5 rfl (by decide) (by omega) (.slice Ao40 x8_1.length co40) x8_1 y214 _ _ _ (fun k_ => (w.heap.size ≤ k_)) (fun _ => False) rfl rfl ?aO ?aR (fun _ _ h => h) (fun _ h => h.elim) ?aF ?aB ?aS ?aL ?_; (case aR => repeat (first | exact (Kd.V_reads' HO218.out).2.2 | (with_reducible refine Kd.C_alloc ?_ _) | (with_reducible refine Kd.C_drewN ?_ _) | (with_reducible refine Kd.C_drew ?_))); (case aB => exact (by repeat (first | (with_reducible first | exact HB.out | apply below_alloc | apply pw_below_drewN | apply below_drew1 | refine below_set ?_ GE208.out | refine below_set ?_ GE209.out) | exact HB.out))); (case aF => exact (fun k_ hk => (Nat.le_trans (below_size (by repeat (first | (with_reducible first | exact HB.out | apply below_alloc | apply pw_below_drewN | apply below_drew1 | refine below_set ?_ GE208.out | refine below_set ?_ GE209.out) | exact HB.out))) hk))); (case aO => exact (by (with_reducible repeat (first | apply Kd.R_alloc | apply Kd.R_drewN | apply Kd.R_drew)); exact HO_8.out)); (case aS => exact (below_size (by repeat (first | (with_reducible first | exact HB.out | apply below_alloc | apply pw_below_drewN | apply below_drew1 | refine below_set ?_ GE208.out | refine below_set ?_ GE209.out) | exact HB.out)))); (case aL => have := LMc33.out; omega); intro v220 w42 ho hb hg hat; rw [← Ny219.out] at ho; have n0_ := Aside0.mk (Kd.V_afterv (ok := (fun k_ => (P0_ k_ ∨ w.heap.size ≤ k_) ∧ some k_ ≠ (u210000 : Value).ownBlock ∧ k_ ≠ gb208 ∧ k_ ≠ gb209)) (by (with_reducible repeat (first | apply Kd.V_alloc | apply Kd.V_drewN | apply Kd.V_drew)); exact Kd.V_mono HO_0.out (fun _ hk => ⟨⟨hk.1, ⟨hk.2.2.1, ⟨hk.2.2.2.1, hk.2.2.2.2⟩⟩⟩, hk.2.1⟩)) hg hat); have n1_ := Aside0.mk (Kd.S_after (ok := (fun k_ => (w.heap.size ≤ k_))) (by (with_reducible repeat (first | apply Kd.S_alloc | apply Kd.S_drewN | apply Kd.S_drew)); exact HO_210000.out) hg hat); have n2_ := Aside0.mk (blk_grown (g := gb208) (o := .cells #[.slice none 0 0, .int .i64 x209001_1, .int .i64 x209002_1, .bool x209003_1] 57 (0, 0)) (by (with_reducible repeat (first | refine blk_drewN ?_ _ | refine blk_drew ?_ | refine blk_alloc ?_ _)); exact BK208.out) hg (Kd.R_ne HO_8.out BK208.out (by decide))); have n3_ := Aside0.mk (blk_grown (g := gb209) (o := .cells #[u210000, .int .i64 0, .int .i64 x210002_1, .bool false] 57 (0, 0)) (by (with_reducible repeat (first | refine blk_drewN ?_ _ | refine blk_drew ?_ | refine blk_alloc ?_ _)); exact BK209.out) hg (Kd.R_ne HO_8.out BK209.out (by decide))); have n4_ := Aside0.mk (Kd.V_afterv (ok := (fun k_ => (P0_ k_ ∨ w.heap.size ≤ k_) ∧ some k_ ≠ (u210000 : Value).ownBlock ∧ k_ ≠ gb208 ∧ k_ ≠ gb209)) (by (with_reducible repeat (first | apply Kd.V_alloc | apply Kd.V_drewN | apply Kd.V_drew)); exact Kd.V_mono HO218.out (fun _ hk => ⟨⟨hk.1, ⟨hk.2.2.1, ⟨hk.2.2.2.1, hk.2.2.2.2⟩⟩⟩, hk.2.1⟩)) hg hat); have n5_ := Aside0.mk (hb); have n6_ := Aside0.mk (ho); clear HO_0; clear HO_210000; clear BK208; clear BK209; clear HO218; clear HB; clear HO_8; have HO_0 := n0_; have HO_210000 := n1_; have BK208 := n2_; have BK209 := n3_; have HO218 := n4_; have HB := n5_; have HO221 := n6_; clear n0_ n1_ n2_ n3_ n4_ n5_ n6_; clear ho hb hg hat; have p222 : 0 ≤ (0 : Int) := (by omega); have q222 : 0 < (x0_1.length : Int) := of_decide_eq_true (by first | (with_reducible assumption) | assumption); obtain ⟨ad222, e222, hx222_0⟩ := Kd.at_int (Kd.V_reads' HO_0.out).2.2 0 p222 q222; obtain rfl : ad210 = ad222 := (by injection e222); have qi222 : (0 < x0_1.length) = True := eq_true (by omega); (try rw [show ((0 : Int)).toNat = 0 from rfl] at hx222_0); (try rw [Addr.add_zero'] at hx222_0); replace p222 := eq_true p222; replace q222 := eq_true q222; have hnb43 := NB209_208.out; have hnc43 := NB208_209.out; have hcz44_0 : w42.cell? ⟨gb209, 0, none⟩ = some (u210000) := (blk_cell BK209.out 0).trans rfl; have hcz44_1 : w42.cell? ⟨gb209, 1, none⟩ = some (.int .i64 0) := (blk_cell BK209.out 1).trans rfl; have hcz44_2 : w42.cell? ⟨gb209, 2, none⟩ = some (.int .i64 x210002_1) := (blk_cell BK209.out 2).trans rfl; have hcz44_3 : w42.cell? ⟨gb209, 3, none⟩ = some (.bool false) := (blk_cell BK209.out 3).trans rfl; have hfz44_0 := blk_frozen BK209.out 0; have hfz44_1 := blk_frozen BK209.out 1; have hfz44_2 := blk_frozen BK209.out 2; have hfz44_3 := blk_frozen BK209.out 3; obtain ⟨Ao46, co46, eo46⟩ := Kd.R_slice HO221.out; subst eo46) | ((with_reducible refine gate_builtin (b := .append) (xs := #[.tmp 78, .tmp 80]) rfl ?_); (try (refine gate_guard (by rfl) ?_; dsimp only)); at_builtin; refine Kd.S_append (Kd.slice 5 (Kd.int .u8)) (w0 := w) w.heap.size rfl (.tmp 78) (.tmp 80) 42 28 (.slice none 0 0) 24 rfl Try.underlying42 info28 rfl (by decide) (by omega) u210000 x210000_1 y219 [.slice Ao46 y219.length co46] (fun k_ => (w.heap.size ≤ k_)) (fun k_ => some k_ = (.slice Ao46 y219.length co46 : Value).ownBlock) rfl rfl ?aP (fun k_ hk_ => ((Kd.R_mono (ok' := fun k_ => ((fun k_ => (w.heap.size ≤ k_))) k_ ∧ some k_ ≠ (u210000 : Value).ownBlock) (Kd.R_apart' (HO221.out) (Kd.S_typed HO_210000.out) (by decide)) (fun k_ hk => ⟨hk.1, hk.2⟩))).1 k_ hk_.symm) ?aF ?aO ?aB ?aS ?aL ?_; (case aP => exact Kd.M_row (Kd.R_mono (Kd.R_tight rfl (Kd.R_mono (ok' := fun k_ => ((fun k_ => (w.heap.size ≤ k_))) k_ ∧ some k_ ≠ (u210000 : Value).ownBlock) (Kd.R_apart' (HO221.out) (Kd.S_typed HO_210000.out) (by decide)) (fun k_ hk => ⟨hk.1, hk.2⟩))) (fun _ h_ => h_))); (case aB => exact (by repeat (first | (with_reducible first | exact HB.out | apply below_alloc | apply pw_below_drewN | apply below_drew1 | refine below_set ?_ GE208.out | refine below_set ?_ GE209.out) | exact HB.out))); (case aF => exact (fun k_ hk => (Nat.le_trans (below_size (by repeat (first | (with_reducible first | exact HB.out | apply below_alloc | apply pw_below_drewN | apply below_drew1 | refine below_set ?_ GE208.out | refine below_set ?_ GE209.out) | exact HB.out))) hk))); (case aO => exact (by (with_reducible repeat (first | apply Kd.S_alloc | apply Kd.S_drewN | apply Kd.S_drew)); exact Kd.S_mono HO_210000.out (fun k_ hk => ⟨hk.1, fun e_ => hk.2 e_⟩))); (case aS => exact (below_size (by repeat (first | (with_reducible first | exact HB.out | apply below_alloc | apply pw_below_drewN | apply below_drew1 | refine below_set ?_ GE208.out | refine below_set ?_ GE209.out) | exact HB.out)))); (case aL => have := LMc35.out; omega); intro v224 w45 ho hb hg hat; rw [← Ny223.out] at ho; have n0_ := Aside0.mk (Kd.V_afterv (ok := (fun k_ => (P0_ k_ ∨ w.heap.size ≤ k_) ∧ some k_ ≠ (.slice Ao46 y219.length co46 : Value).ownBlock ∧ k_ ≠ gb208 ∧ k_ ≠ gb209)) (by (with_reducible repeat (first | apply Kd.V_alloc | apply Kd.V_drewN | apply Kd.V_drew)); exact Kd.V_mono HO_0.out (fun _ hk => ⟨⟨hk.1.1, ⟨hk.2, ⟨hk.1.2.2.1, hk.1.2.2.2⟩⟩⟩, hk.1.2.1⟩)) hg hat); have n1_ := Aside0.mk (blk_grown (g := gb208) (o := .cells #[.slice none 0 0, .int .i64 x209001_1, .int .i64 x209002_1, .bool x209003_1] 57 (0, 0)) (by (with_reducible repeat (first | refine blk_drewN ?_ _ | refine blk_drew ?_ | refine blk_alloc ?_ _)); exact BK208.out) hg (Kd.S_ne HO_210000.out BK208.out (by decide))); have n2_ := Aside0.mk (blk_grown (g := gb209) (o := .cells #[u210000, .int .i64 0, .int .i64 x210002_1, .bool false] 57 (0, 0)) (by (with_reducible repeat (first | refine blk_drewN ?_ _ | refine blk_drew ?_ | refine blk_alloc ?_ _)); exact BK209.out) hg (Kd.S_ne HO_210000.out BK209.out (by decide))); have n3_ := Aside0.mk (Kd.V_afterv (ok := (fun k_ => (P0_ k_ ∨ w.heap.size ≤ k_) ∧ some k_ ≠ (.slice Ao46 y219.length co46 : Value).ownBlock ∧ k_ ≠ gb208 ∧ k_ ≠ gb209)) (by (with_reducible repeat (first | apply Kd.V_alloc | apply Kd.V_drewN | apply Kd.V_drew)); exact Kd.V_mono HO218.out (fun _ hk => ⟨⟨hk.1.1, ⟨hk.2, ⟨hk.1.2.2.1, hk.1.2.2.2⟩⟩⟩, hk.1.2.1⟩)) hg hat); have n4_ := Aside0.mk (hb); have n5_ := Aside0.mk (ho); clear HO_0; clear BK208; clear BK209; clear HO218; clear HB; clear HO_210000; clear HO221; have HO_0 := n0_; have BK208 := n1_; have BK209 := n2_; have HO218 := n3_; have HB := n4_; have HO225 := n5_; clear n0_ n1_ n2_ n3_ n4_ n5_; clear ho hb hg hat; obtain ⟨Ao47, co47, eo47⟩ := Kd.S_slice HO225.out; subst eo47; have hcz48_0 : w45.cell? ⟨gb209, 0, none⟩ = some (u210000) := (blk_cell BK209.out 0).trans rfl; have hcz48_1 : w45.cell? ⟨gb209, 1, none⟩ = some (.int .i64 0) := (blk_cell BK209.out 1).trans rfl; have hcz48_2 : w45.cell? ⟨gb209, 2, none⟩ = some (.int .i64 x210002_1) := (blk_cell BK209.out 2).trans rfl; have hcz48_3 : w45.cell? ⟨gb209, 3, none⟩ = some (.bool false) := (blk_cell BK209.out 3).trans rfl; have hfz48_0 := blk_frozen BK209.out 0; have hfz48_1 := blk_frozen BK209.out 1; have hfz48_2 := blk_frozen BK209.out 2; have hfz48_3 := blk_frozen BK209.out 3) | ((with_reducible refine gate_store (t := 42) (p := 82) rfl ?_); (try (rw [drewN_self w45]; generalize hq_ : World.drewN w45 _ = w45; have n0_ := Aside0.mk (Kd.V_at hq_ HO_0.out); have n1_ := Aside0.mk (Kd.V_at hq_ HO218.out); have n2_ := Aside0.mk (Kd.S_at hq_ HO225.out); have n3_ := Aside0.mk (blk_at hq_ BK208.out); have n4_ := Aside0.mk (blk_at hq_ BK209.out); have n5_ := Aside0.mk (below_at hq_ HB.out); clear hq_ HO_0 HO218 HO225 BK208 BK209 HB; have HO_0 := n0_; have HO218 := n1_; have HO225 := n2_; have BK208 := n3_; have BK209 := n4_; have HB := n5_; clear n0_ n1_ n2_ n3_ n4_ n5_)); refine store_event (t := 42) (p := 82) (v := ?vo_w49) (w1 := (w45.setCell ⟨gb209, 0, none⟩ (.slice Ao47 y223.length co47))) ?hg ?ho ?hn ?hr ?_; (case ho => rfl); (case hg => rfl); (case hn => rfl); (case hr => first | (go_simp; done) | (go_simp; rfl)); intro w49 hw; have n0_ : Aside0 (Kd.V (Kd.int .u8) 5 w49 w.heap.size (fun k_ => (P0_ k_ ∨ w.heap.size ≤ k_) ∧ some k_ ≠ (.slice Ao47 y223.length co47 : Value).ownBlock ∧ k_ ≠ gb208 ∧ k_ ≠ gb209) (.slice (some ad210) x0_1.length co39) x0_1) := ⟨(by rw [hw]; exact (by (with_reducible repeat (first | apply Kd.V_alloc | apply Kd.V_drewN | apply Kd.V_drew)); exact Kd.V_mono (Kd.V_far (p := ⟨gb209, 0, none⟩) (Kd.V_mono HO_0.out (fun k_ hk => (⟨hk, hk.1.2.2.2⟩ : _ ∧ k_ ≠ gb209))) (fun _ hk => hk.2) (.slice Ao47 y223.length co47)) (fun _ hk => ⟨hk.1.1.1, ⟨hk.1.2, ⟨hk.1.1.2.2.1, hk.1.1.2.2.2⟩⟩⟩)))⟩; have n1_ : Aside0 (Kd.V (Kd.int .u8) 5 w49 w.heap.size (fun k_ => (P0_ k_ ∨ w.heap.size ≤ k_) ∧ some k_ ≠ (.slice Ao47 y223.length co47 : Value).ownBlock ∧ k_ ≠ gb208 ∧ k_ ≠ gb209) (.slice A41 y214.length c41) y214) := ⟨(by rw [hw]; exact (by (with_reducible repeat (first | apply Kd.V_alloc | apply Kd.V_drewN | apply Kd.V_drew)); exact Kd.V_mono (Kd.V_far (p := ⟨gb209, 0, none⟩) (Kd.V_mono HO218.out (fun k_ hk => (⟨hk, hk.1.2.2.2⟩ : _ ∧ k_ ≠ gb209))) (fun _ hk => hk.2) (.slice Ao47 y223.length co47)) (fun _ hk => ⟨hk.1.1.1, ⟨hk.1.2, ⟨hk.1.1.2.2.1, hk.1.1.2.2.2⟩⟩⟩)))⟩; have n2_ : Aside0 (Kd.S (Kd.slice 5 (Kd.int .u8)) 28 w49 w.heap.size (fun k_ => (w.heap.size ≤ k_)) (.slice Ao47 y223.length co47) y223) := ⟨(by rw [hw]; exact (by (with_reducible repeat (first | apply Kd.S_alloc | apply Kd.S_drewN | apply Kd.S_drew)); exact Kd.S_mono (Kd.S_far (p := ⟨gb209, 0, none⟩) (Kd.S_types HO225.out BK209.out (by decide)) (fun _ hk => hk.2) (.slice Ao47 y223.length co47)) (fun _ hk => hk.1)))⟩; have n3_ : Aside0 (w49.heap[gb208]? = some (.cells #[.slice none 0 0, .int .i64 x209001_1, .int .i64 x209002_1, .bool x209003_1] 57 (0, 0))) := ⟨(by rw [hw]; exact (by (with_reducible repeat (first | refine blk_drewN ?_ _ | refine blk_drew ?_ | refine blk_alloc ?_ _)); refine blk_far ?_ NB208_209.out _; (with_reducible repeat (first | refine blk_drewN ?_ _ | refine blk_drew ?_ | refine blk_alloc ?_ _)); exact BK208.out))⟩; have n4_ : Aside0 (w49.heap[gb209]? = some (.cells #[.slice Ao47 y223.length co47, .int .i64 0, .int .i64 x210002_1, .bool false] 57 (0, 0))) := ⟨(by rw [hw]; exact (by (with_reducible repeat (first | refine blk_drewN ?_ _ | refine blk_drew ?_ | refine blk_alloc ?_ _)); refine blk_put (cs := #[u210000, .int .i64 0, .int .i64 x210002_1, .bool false]) ?_ 0 _ rfl; (with_reducible repeat (first | refine blk_drewN ?_ _ | refine blk_drew ?_ | refine blk_alloc ?_ _)); exact BK209.out))⟩; have n5_ : Aside0 (Below w.heap.size w w49) := ⟨(by rw [hw]; exact (by repeat (first | (with_reducible first | exact HB.out | apply below_alloc | apply pw_below_drewN | apply below_drew1 | refine below_set ?_ GE208.out | refine below_set ?_ GE209.out) | exact HB.out)))⟩; clear hw; clear HO_0; clear HO218; clear HO225; clear BK208; clear BK209; clear HB; have HO_0 := n0_; have HO218 := n1_; have HO225 := n2_; have BK208 := n3_; have BK209 := n4_; have HB := n5_; clear n0_ n1_ n2_ n3_ n4_ n5_; have q50 : ((ji36) : Int) ≤ ((x0_1.length : Int) : Int) := of_decide_eq_true (by first | (with_reducible assumption) | assumption); obtain ⟨i050, hi050, _, hsz50, _⟩ := info_parts info5; have hroom50 : x0_1.length ≤ co39 := (Kd.V_reads' HO_0.out).2.1; have hC50 : Kd.F (Kd.int .u8) _ _ (some ad210) x0_1.length x0_1 := (Kd.V_at (base := w.heap.size) HO_0.out).2.2; have q050 : (0 : Int) ≤ ((ji36) : Int) := of_decide_eq_true (by first | (with_reducible assumption) | assumption); have hcut50 := cut_from (P := Try.prog) 28 5 .i64 Try.underlying28 hi050 1 hsz50 (some ad210) x0_1.length co39 (ji36) q050 q50; have hr50 := Kd.F_cut (m := ((ji36) : Int).toNat) (c := co39) hC50 (by omega) hroom50; obtain ⟨A50, hA50⟩ : ∃ A1, A1 = (if co39 = ((ji36) : Int).toNat then (some ad210) else ((some ad210) : Option Addr).map (·.add (((ji36) : Int).toNat * 1))) := ⟨_, rfl⟩; obtain ⟨c50, hc50⟩ : ∃ c1, c1 = co39 - ((ji36) : Int).toNat := ⟨_, rfl⟩; have hy50 : y226.length = x0_1.length - ((ji36) : Int).toNat := (by rw [Ny226.out, List.length_drop] <;> omega); rw [show (x0_1).drop ((ji36) : Int).toNat = y226 from Ny226.out.symm] at hr50; replace hr50 : Kd.F (Kd.int .u8) _ _ A50 y226.length y226 := (by rw [hA50]; exact hr50); rw [← hy50, ← hA50, ← hc50] at hcut50; have HO230 := Aside0.mk (show Kd.V (Kd.int .u8) 5 _ w.heap.size _ (.slice A50 y226.length c50) y226 from Kd.V_mk (by rw [hy50, hc50]; exact Nat.sub_le_sub_right hroom50 _) hr50); have HC230 := Aside0.mk (show y226.length ≤ c50 from by rw [hy50, hc50]; exact Nat.sub_le_sub_right hroom50 _); clear hr50 hC50 hroom50 hi050 hsz50 hc50; have KY50 := Aside0.mk hy50; have KA50 := Aside0.mk hA50; clear hy50 hA50; replace q50 := eq_true q50)); try go_wp2_with (first | ((with_reducible refine gate_builtin (b := .append) (xs := #[.tmp 67, .tmp 71]) rfl ?_); (try (refine gate_guard (by rfl) ?_; dsimp only)); at_builtin; refine Kd.R_append_rows (Kd.int .u8) (w0 := w) w.heap.size rfl (.tmp 67) (.tmp 71) 28 5 (.int .u8 0) 1 rfl Try.underlying28 info5 rfl (by decide) (by omega) (.slice Ao40 x8_1.length co40) x8_1 y214 _ _ _ (fun k_ => (w.heap.size ≤ k_)) (fun _ => False) rfl rfl ?aO ?aR (fun _ _ h => h) (fun _ h => h.elim) ?aF ?aB ?aS ?aL ?_; (case aR => repeat (first | exact (Kd.V_reads' HO218.out).2.2 | (with_reducible refine Kd.C_alloc ?_ _) | (with_reducible refine Kd.C_drewN ?_ _) | (with_reducible refine Kd.C_drew ?_))); (case aB => exact (by repeat (first | (with_reducible first | exact HB.out | apply below_alloc | apply pw_below_drewN | apply below_drew1 | refine below_set ?_ GE208.out | refine below_set ?_ GE209.out) | exact HB.out))); (case aF => exact (fun k_ hk => (Nat.le_trans (below_size (by repeat (first | (with_reducible first | exact HB.out | apply below_alloc | apply pw_below_drewN | apply below_drew1 | refine below_set ?_ GE208.out | refine below_set ?_ GE209.out) | exact HB.out))) hk))); (case aO => exact (by (with_reducible repeat (first | apply Kd.R_alloc | apply Kd.R_drewN | apply Kd.R_drew)); exact HO_8.out)); (case aS => exact (below_size (by repeat (first | (with_reducible first | exact HB.out | apply below_alloc | apply pw_below_drewN | apply below_drew1 | refine below_set ?_ GE208.out | refine below_set ?_ GE209.out) | exact HB.out)))); (case aL => have := LMc33.out; omega); intro v220 w42 ho hb hg hat; rw [← Ny219.out] at ho; have n0_ := Aside0.mk (Kd.V_afterv (ok := (fun k_ => (P0_ k_ ∨ w.heap.size ≤ k_) ∧ some k_ ≠ (u210000 : Value).ownBlock ∧ k_ ≠ gb208 ∧ k_ ≠ gb209)) (by (with_reducible repeat (first | apply Kd.V_alloc | apply Kd.V_drewN | apply Kd.V_drew)); exact Kd.V_mono HO_0.out (fun _ hk => ⟨⟨hk.1, ⟨hk.2.2.1, ⟨hk.2.2.2.1, hk.2.2.2.2⟩⟩⟩, hk.2.1⟩)) hg hat); have n1_ := Aside0.mk (Kd.S_after (ok := (fun k_ => (w.heap.size ≤ k_))) (by (with_reducible repeat (first | apply Kd.S_alloc | apply Kd.S_drewN | apply Kd.S_drew)); exact HO_210000.out) hg hat); have n2_ := Aside0.mk (blk_grown (g := gb208) (o := .cells #[.slice none 0 0, .int .i64 x209001_1, .int .i64 x209002_1, .bool x209003_1] 57 (0, 0)) (by (with_reducible repeat (first | refine blk_drewN ?_ _ | refine blk_drew ?_ | refine blk_alloc ?_ _)); exact BK208.out) hg (Kd.R_ne HO_8.out BK208.out (by decide))); have n3_ := Aside0.mk (blk_grown (g := gb209) (o := .cells #[u210000, .int .i64 0, .int .i64 x210002_1, .bool false] 57 (0, 0)) (by (with_reducible repeat (first | refine blk_drewN ?_ _ | refine blk_drew ?_ | refine blk_alloc ?_ _)); exact BK209.out) hg (Kd.R_ne HO_8.out BK209.out (by decide))); have n4_ := Aside0.mk (Kd.V_afterv (ok := (fun k_ => (P0_ k_ ∨ w.heap.size ≤ k_) ∧ some k_ ≠ (u210000 : Value).ownBlock ∧ k_ ≠ gb208 ∧ k_ ≠ gb209)) (by (with_reducible repeat (first | apply Kd.V_alloc | apply Kd.V_drewN | apply Kd.V_drew)); exact Kd.V_mono HO218.out (fun _ hk => ⟨⟨hk.1, ⟨hk.2.2.1, ⟨hk.2.2.2.1, hk.2.2.2.2⟩⟩⟩, hk.2.1⟩)) hg hat); have n5_ := Aside0.mk (hb); have n6_ := Aside0.mk (ho); clear HO_0; clear HO_210000; clear BK208; clear BK209; clear HO218; clear HB; clear HO_8; have HO_0 := n0_; have HO_210000 := n1_; have BK208 := n2_; have BK209 := n3_; have HO218 := n4_; have HB := n5_; have HO221 := n6_; clear n0_ n1_ n2_ n3_ n4_ n5_ n6_; clear ho hb hg hat; have p222 : 0 ≤ (0 : Int) := (by omega); have q222 : 0 < (x0_1.length : Int) := of_decide_eq_true (by first | (with_reducible assumption) | assumption); obtain ⟨ad222, e222, hx222_0⟩ := Kd.at_int (Kd.V_reads' HO_0.out).2.2 0 p222 q222; obtain rfl : ad210 = ad222 := (by injection e222); have qi222 : (0 < x0_1.length) = True := eq_true (by omega); (try rw [show ((0 : Int)).toNat = 0 from rfl] at hx222_0); (try rw [Addr.add_zero'] at hx222_0); replace p222 := eq_true p222; replace q222 := eq_true q222; have hnb43 := NB209_208.out; have hnc43 := NB208_209.out; have hcz44_0 : w42.cell? ⟨gb209, 0, none⟩ = some (u210000) := (blk_cell BK209.out 0).trans rfl; have hcz44_1 : w42.cell? ⟨gb209, 1, none⟩ = some (.int .i64 0) := (blk_cell BK209.out 1).trans rfl; have hcz44_2 : w42.cell? ⟨gb209, 2, none⟩ = some (.int .i64 x210002_1) := (blk_cell BK209.out 2).trans rfl; have hcz44_3 : w42.cell? ⟨gb209, 3, none⟩ = some (.bool false) := (blk_cell BK209.out 3).trans rfl; have hfz44_0 := blk_frozen BK209.out 0; have hfz44_1 := blk_frozen BK209.out 1; have hfz44_2 := blk_frozen BK209.out 2; have hfz44_3 := blk_frozen BK209.out 3; obtain ⟨Ao46, co46, eo46⟩ := Kd.R_slice HO221.out; subst eo46) | ((with_reducible refine gate_builtin (b := .append) (xs := #[.tmp 78, .tmp 80]) rfl ?_); (try (refine gate_guard (by rfl) ?_; dsimp only)); at_builtin; refine Kd.S_append (Kd.slice 5 (Kd.int .u8)) (w0 := w) w.heap.size rfl (.tmp 78) (.tmp 80) 42 28 (.slice none 0 0) 24 rfl Try.underlying42 info28 rfl (by decide) (by omega) u210000 x210000_1 y219 [.slice Ao46 y219.length co46] (fun k_ => (w.heap.size ≤ k_)) (fun k_ => some k_ = (.slice Ao46 y219.length co46 : Value).ownBlock) rfl rfl ?aP (fun k_ hk_ => ((Kd.R_mono (ok' := fun k_ => ((fun k_ => (w.heap.size ≤ k_))) k_ ∧ some k_ ≠ (u210000 : Value).ownBlock) (Kd.R_apart' (HO221.out) (Kd.S_typed HO_210000.out) (by decide)) (fun k_ hk => ⟨hk.1, hk.2⟩))).1 k_ hk_.symm) ?aF ?aO ?aB ?aS ?aL ?_; (case aP => exact Kd.M_row (Kd.R_mono (Kd.R_tight rfl (Kd.R_mono (ok' := fun k_ => ((fun k_ => (w.heap.size ≤ k_))) k_ ∧ some k_ ≠ (u210000 : Value).ownBlock) (Kd.R_apart' (HO221.out) (Kd.S_typed HO_210000.out) (by decide)) (fun k_ hk => ⟨hk.1, hk.2⟩))) (fun _ h_ => h_))); (case aB => exact (by repeat (first | (with_reducible first | exact HB.out | apply below_alloc | apply pw_below_drewN | apply below_drew1 | refine below_set ?_ GE208.out | refine below_set ?_ GE209.out) | exact HB.out))); (case aF => exact (fun k_ hk => (Nat.le_trans (below_size (by repeat (first | (with_reducible first | exact HB.out | apply below_alloc | apply pw_below_drewN | apply below_drew1 | refine below_set ?_ GE208.out | refine below_set ?_ GE209.out) | exact HB.out))) hk))); (case aO => exact (by (with_reducible repeat (first | apply Kd.S_alloc | apply Kd.S_drewN | apply Kd.S_drew)); exact Kd.S_mono HO_210000.out (fun k_ hk => ⟨hk.1, fun e_ => hk.2 e_⟩))); (case aS => exact (below_size (by repeat (first | (with_reducible first | exact HB.out | apply below_alloc | apply pw_below_drewN | apply below_drew1 | refine below_set ?_ GE208.out | refine below_set ?_ GE209.out) | exact HB.out)))); (case aL => have := LMc35.out; omega); intro v224 w45 ho hb hg hat; rw [← Ny223.out] at ho; have n0_ := Aside0.mk (Kd.V_afterv (ok := (fun k_ => (P0_ k_ ∨ w.heap.size ≤ k_) ∧ some k_ ≠ (.slice Ao46 y219.length co46 : Value).ownBlock ∧ k_ ≠ gb208 ∧ k_ ≠ gb209)) (by (with_reducible repeat (first | apply Kd.V_alloc | apply Kd.V_drewN | apply Kd.V_drew)); exact Kd.V_mono HO_0.out (fun _ hk => ⟨⟨hk.1.1, ⟨hk.2, ⟨hk.1.2.2.1, hk.1.2.2.2⟩⟩⟩, hk.1.2.1⟩)) hg hat); have n1_ := Aside0.mk (blk_grown (g := gb208) (o := .cells #[.slice none 0 0, .int .i64 x209001_1, .int .i64 x209002_1, .bool x209003_1] 57 (0, 0)) (by (with_reducible repeat (first | refine blk_drewN ?_ _ | refine blk_drew ?_ | refine blk_alloc ?_ _)); exact BK208.out) hg (Kd.S_ne HO_210000.out BK208.out (by decide))); have n2_ := Aside0.mk (blk_grown (g := gb209) (o := .cells #[u210000, .int .i64 0, .int .i64 x210002_1, .bool false] 57 (0, 0)) (by (with_reducible repeat (first | refine blk_drewN ?_ _ | refine blk_drew ?_ | refine blk_alloc ?_ _)); exact BK209.out) hg (Kd.S_ne HO_210000.out BK209.out (by decide))); have n3_ := Aside0.mk (Kd.V_afterv (ok := (fun k_ => (P0_ k_ ∨ w.heap.size ≤ k_) ∧ some k_ ≠ (.slice Ao46 y219.length co46 : Value).ownBlock ∧ k_ ≠ gb208 ∧ k_ ≠ gb209)) (by (with_reducible repeat (first | apply Kd.V_alloc | apply Kd.V_drewN | apply Kd.V_drew)); exact Kd.V_mono HO218.out (fun _ hk => ⟨⟨hk.1.1, ⟨hk.2, ⟨hk.1.2.2.1, hk.1.2.2.2⟩⟩⟩, hk.1.2.1⟩)) hg hat); have n4_ := Aside0.mk (hb); have n5_ := Aside0.mk (ho); clear HO_0; clear BK208; clear BK209; clear HO218; clear HB; clear HO_210000; clear HO221; have HO_0 := n0_; have BK208 := n1_; have BK209 := n2_; have HO218 := n3_; have HB := n4_; have HO225 := n5_; clear n0_ n1_ n2_ n3_ n4_ n5_; clear ho hb hg hat; obtain ⟨Ao47, co47, eo47⟩ := Kd.S_slice HO225.out; subst eo47; have hcz48_0 : w45.cell? ⟨gb209, 0, none⟩ = some (u210000) := (blk_cell BK209.out 0).trans rfl; have hcz48_1 : w45.cell? ⟨gb209, 1, none⟩ = some (.int .i64 0) := (blk_cell BK209.out 1).trans rfl; have hcz48_2 : w45.cell? ⟨gb209, 2, none⟩ = some (.int .i64 x210002_1) := (blk_cell BK209.out 2).trans rfl; have hcz48_3 : w45.cell? ⟨gb209, 3, none⟩ = some (.bool false) := (blk_cell BK209.out 3).trans rfl; have hfz48_0 := blk_frozen BK209.out 0; have hfz48_1 := blk_frozen BK209.out 1; have hfz48_2 := blk_frozen BK209.out 2; have hfz48_3 := blk_frozen BK209.out 3) | ((with_reducible refine gate_store (t := 42) (p := 82) rfl ?_); (try (rw [drewN_self w45]; generalize hq_ : World.drewN w45 _ = w45; have n0_ := Aside0.mk (Kd.V_at hq_ HO_0.out); have n1_ := Aside0.mk (Kd.V_at hq_ HO218.out); have n2_ := Aside0.mk (Kd.S_at hq_ HO225.out); have n3_ := Aside0.mk (blk_at hq_ BK208.out); have n4_ := Aside0.mk (blk_at hq_ BK209.out); have n5_ := Aside0.mk (below_at hq_ HB.out); clear hq_ HO_0 HO218 HO225 BK208 BK209 HB; have HO_0 := n0_; have HO218 := n1_; have HO225 := n2_; have BK208 := n3_; have BK209 := n4_; have HB := n5_; clear n0_ n1_ n2_ n3_ n4_ n5_)); refine store_event (t := 42) (p := 82) (v := ?vo_w49) (w1 := (w45.setCell ⟨gb209, 0, none⟩ (.slice Ao47 y223.length co47))) ?hg ?ho ?hn ?hr ?_; (case ho => rfl); (case hg => rfl); (case hn => rfl); (case hr => first | (go_simp; done) | (go_simp; rfl)); intro w49 hw; have n0_ : Aside0 (Kd.V (Kd.int .u8) 5 w49 w.heap.size (fun k_ => (P0_ k_ ∨ w.heap.size ≤ k_) ∧ some k_ ≠ (.slice Ao47 y223.length co47 : Value).ownBlock ∧ k_ ≠ gb208 ∧ k_ ≠ gb209) (.slice (some ad210) x0_1.length co39) x0_1) := ⟨(by rw [hw]; exact (by (with_reducible repeat (first | apply Kd.V_alloc | apply Kd.V_drewN | apply Kd.V_drew)); exact Kd.V_mono (Kd.V_far (p := ⟨gb209, 0, none⟩) (Kd.V_mono HO_0.out (fun k_ hk => (⟨hk, hk.1.2.2.2⟩ : _ ∧ k_ ≠ gb209))) (fun _ hk => hk.2) (.slice Ao47 y223.length co47)) (fun _ hk => ⟨hk.1.1.1, ⟨hk.1.2, ⟨hk.1.1.2.2.1, hk.1.1.2.2.2⟩⟩⟩)))⟩; have n1_ : Aside0 (Kd.V (Kd.int .u8) 5 w49 w.heap.size (fun k_ => (P0_ k_ ∨ w.heap.size ≤ k_) ∧ some k_ ≠ (.slice Ao47 y223.length co47 : Value).ownBlock ∧ k_ ≠ gb208 ∧ k_ ≠ gb209) (.slice A41 y214.length c41) y214) := ⟨(by rw [hw]; exact (by (with_reducible repeat (first | apply Kd.V_alloc | apply Kd.V_drewN | apply Kd.V_drew)); exact Kd.V_mono (Kd.V_far (p := ⟨gb209, 0, none⟩) (Kd.V_mono HO218.out (fun k_ hk => (⟨hk, hk.1.2.2.2⟩ : _ ∧ k_ ≠ gb209))) (fun _ hk => hk.2) (.slice Ao47 y223.length co47)) (fun _ hk => ⟨hk.1.1.1, ⟨hk.1.2, ⟨hk.1.1.2.2.1, hk.1.1.2.2.2⟩⟩⟩)))⟩; have n2_ : Aside0 (Kd.S (Kd.slice 5 (Kd.int .u8)) 28 w49 w.heap.size (fun k_ => (w.heap.size ≤ k_)) (.slice Ao47 y223.length co47) y223) := ⟨(by rw [hw]; exact (by (with_reducible repeat (first | apply Kd.S_alloc | apply Kd.S_drewN | apply Kd.S_drew)); exact Kd.S_mono (Kd.S_far (p := ⟨gb209, 0, none⟩) (Kd.S_types HO225.out BK209.out (by decide)) (fun _ hk => hk.2) (.slice Ao47 y223.length co47)) (fun _ hk => hk.1)))⟩; have n3_ : Aside0 (w49.heap[gb208]? = some (.cells #[.slice none 0 0, .int .i64 x209001_1, .int .i64 x209002_1, .bool x209003_1] 57 (0, 0))) := ⟨(by rw [hw]; exact (by (with_reducible repeat (first | refine blk_drewN ?_ _ | refine blk_drew ?_ | refine blk_alloc ?_ _)); refine blk_far ?_ NB208_209.out _; (with_reducible repeat (first | refine blk_drewN ?_ _ | refine blk_drew ?_ | refine blk_alloc ?_ _)); exact BK208.out))⟩; have n4_ : Aside0 (w49.heap[gb209]? = some (.cells #[.slice Ao47 y223.length co47, .int .i64 0, .int .i64 x210002_1, .bool false] 57 (0, 0))) := ⟨(by rw [hw]; exact (by (with_reducible repeat (first | refine blk_drewN ?_ _ | refine blk_drew ?_ | refine blk_alloc ?_ _)); refine blk_put (cs := #[u210000, .int .i64 0, .int .i64 x210002_1, .bool false]) ?_ 0 _ rfl; (with_reducible repeat (first | refine blk_drewN ?_ _ | refine blk_drew ?_ | refine blk_alloc ?_ _)); exact BK209.out))⟩; have n5_ : Aside0 (Below w.heap.size w w49) := ⟨(by rw [hw]; exact (by repeat (first | (with_reducible first | exact HB.out | apply below_alloc | apply pw_below_drewN | apply below_drew1 | refine below_set ?_ GE208.out | refine below_set ?_ GE209.out) | exact HB.out)))⟩; clear hw; clear HO_0; clear HO218; clear HO225; clear BK208; clear BK209; clear HB; have HO_0 := n0_; have HO218 := n1_; have HO225 := n2_; have BK208 := n3_; have BK209 := n4_; have HB := n5_; clear n0_ n1_ n2_ n3_ n4_ n5_; have q50 : ((ji36) : Int) ≤ ((x0_1.length : Int) : Int) := of_decide_eq_true (by first | (with_reducible assumption) | assumption); obtain ⟨i050, hi050, _, hsz50, _⟩ := info_parts info5; have hroom50 : x0_1.length ≤ co39 := (Kd.V_reads' HO_0.out).2.1; have hC50 : Kd.F (Kd.int .u8) _ _ (some ad210) x0_1.length x0_1 := (Kd.V_at (base := w.heap.size) HO_0.out).2.2; have q050 : (0 : Int) ≤ ((ji36) : Int) := of_decide_eq_true (by first | (with_reducible assumption) | assumption); have hcut50 := cut_from (P := Try.prog) 28 5 .i64 Try.underlying28 hi050 1 hsz50 (some ad210) x0_1.length co39 (ji36) q050 q50; have hr50 := Kd.F_cut (m := ((ji36) : Int).toNat) (c := co39) hC50 (by omega) hroom50; obtain ⟨A50, hA50⟩ : ∃ A1, A1 = (if co39 = ((ji36) : Int).toNat then (some ad210) else ((some ad210) : Option Addr).map (·.add (((ji36) : Int).toNat * 1))) := ⟨_, rfl⟩; obtain ⟨c50, hc50⟩ : ∃ c1, c1 = co39 - ((ji36) : Int).toNat := ⟨_, rfl⟩; have hy50 : y226.length = x0_1.length - ((ji36) : Int).toNat := (by rw [Ny226.out, List.length_drop] <;> omega); rw [show (x0_1).drop ((ji36) : Int).toNat = y226 from Ny226.out.symm] at hr50; replace hr50 : Kd.F (Kd.int .u8) _ _ A50 y226.length y226 := (by rw [hA50]; exact hr50); rw [← hy50, ← hA50, ← hc50] at hcut50; have HO230 := Aside0.mk (show Kd.V (Kd.int .u8) 5 _ w.heap.size _ (.slice A50 y226.length c50) y226 from Kd.V_mk (by rw [hy50, hc50]; exact Nat.sub_le_sub_right hroom50 _) hr50); have HC230 := Aside0.mk (show y226.length ≤ c50 from by rw [hy50, hc50]; exact Nat.sub_le_sub_right hroom50 _); clear hr50 hC50 hroom50 hi050 hsz50 hc50; have KY50 := Aside0.mk hy50; have KA50 := Aside0.mk hA50; clear hy50 hA50; replace q50 := eq_true q50)))
                                  go_roundg k1
                                  case measure => have := HK1.out; omega
                                  case rel => exact ⟨(y226), (([] : List Int)), (0), (x209001_1), (x209002_1), (x209003_1), (y223), (x210002_1), (.slice Ao47 y223.length co47), (by first | rfl | (simp; done) | (simp [*]; done)), H', ⟨by have := HK1.out; omega⟩, ⟨by (with_reducible repeat (first | apply Kd.V_alloc | apply Kd.V_drewN | apply Kd.V_drew)); exact Kd.V_mono HO230.out (fun _ hk => ⟨hk.1, ⟨(by simp [Value.ownBlock]), ⟨hk.2.1, ⟨hk.2.2.1, hk.2.2.2⟩⟩⟩⟩)⟩, ⟨by first | exact Kd.R_nil _ _ _ _ _ | exact Kd.N_nil _ _ _ _ _ | exact Kd.V_nil _ _ _ _ _ | exact Kd.Q_nil _ _ _ _ _ | exact Kd.S_nil _ _ _ _ _⟩, ⟨by (with_reducible repeat (first | apply Kd.S_alloc | apply Kd.S_drewN | apply Kd.S_drew)); exact Kd.S_mono HO225.out (fun _ hk => ⟨hk, (by simp [Value.ownBlock])⟩)⟩, ⟨by (with_reducible repeat (first | refine blk_drewN ?_ _ | refine blk_drew ?_ | refine blk_alloc ?_ _)); exact BK208.out⟩, ⟨by (with_reducible repeat (first | refine blk_drewN ?_ _ | refine blk_drew ?_ | refine blk_alloc ?_ _)); exact BK209.out⟩, ⟨by repeat (first | (with_reducible first | exact HB.out | apply below_alloc | apply pw_below_drewN | apply below_drew1 | refine below_set ?_ GE208.out | refine below_set ?_ GE209.out) | exact HB.out)⟩⟩
                                · rw [if_neg c37] at H
                                  exact absurd H (by simp)
                              · rw [if_neg c35] at H
                                exact absurd H (by simp)
                            · rw [if_neg c34] at H
                              have c34b0 : decide (127 < (rd x0_1 0)) = false := decide_eq_false c34
                              clear c34
                              obtain ⟨ji51, hji51⟩ : ∃ j_ : Int, (wrap64 (4 + (wrap64 ((wrap64 ((wrap64 ((wrap64 ((wrap64 (Int.tmod (rd x0_1 0) 128)) * 16777216)) + (wrap64 ((wrap64 (rd x0_1 1)) * 65536)))) + (wrap64 ((wrap64 (rd x0_1 2)) * 256)))) + (wrap64 (rd x0_1 3)))))) = j_ := ⟨_, rfl⟩
                              replace H : (if 0 ≤ (ji51) then (truchmanref04_All.l0 k1 (x0_1.drop ((ji51) : Int).toNat) a1 a2 y219 (wrap64 (x9_1 + 1)) x210000_1 0 x210002_1 false) else (none)) = some (r1, r2, r3, r4) := by first | (rw [hji51] at H; exact H) | (simp only [hji51] at H ⊢; exact H)
                              (try rw [hji51] at c24b0)
                              (try rw [hji51] at c31b0)
                              (try rw [hji51] at c31b1)
                              (try rw [hji51] at c31)
                              (try rw [hji51] at c32b0)
                              (try rw [hji51] at c32b1)
                              (try rw [hji51] at c32)
                              (try rw [hji51] at Ny214)
                              (try rw [hji51] at Ny214)
                              have hji51w : (IntKind.i64.wrap (4 + (wrap64 ((wrap64 ((wrap64 ((wrap64 ((wrap64 (Int.tmod (rd x0_1 0) 128)) * 16777216)) + (wrap64 ((wrap64 (rd x0_1 1)) * 65536)))) + (wrap64 ((wrap64 (rd x0_1 2)) * 256)))) + (wrap64 (rd x0_1 3)))))) = ji51 := (i64_w _).trans hji51
                              by_cases c52 : 0 ≤ (ji51)
                              · rw [if_pos c52] at H
                                have c52b0 := eq_true c52
                                have c52b1 : decide (0 ≤ (ji51)) = true := decide_eq_true c52
                                clear c52
                                have c53b0 := eq_true (of_decide_eq_true (by first | (with_reducible assumption) | assumption) : (ji51) ≤ (x0_1.length : Int))
                                obtain ⟨y231, hy231⟩ : ∃ y_ : List Int, y_ = (x0_1.drop ((ji51) : Int).toNat) := ⟨_, rfl⟩
                                replace H : (truchmanref04_All.l0 k1 y231 a1 a2 y219 (wrap64 (x9_1 + 1)) x210000_1 0 x210002_1 false) = some (r1, r2, r3, r4) := by first | (rw [hy231]; with_reducible exact H) | (have H2_ := (Option.bind_some _ _).symm.trans H; rw [hy231]; with_reducible exact H2_) | (have H2_ := (Option.bind_some _ _).symm.trans H; with_reducible exact H2_) | with_reducible exact H | (rw [hy231]; exact H) | exact H
                                have Ny231 := Aside0.mk hy231
                                clear hy231
                                have H' := Aside0.mk H
                                clear H
                                obtain ⟨Ao54, co54, eo54⟩ := Kd.V_slice HO_0.out
                                subst eo54
                                have p210 : 0 ≤ (0 : Int) := (by omega)
                                have q210 : 0 < (x0_1.length : Int) := of_decide_eq_true (by first | (with_reducible assumption) | assumption)
                                obtain ⟨ad210, e210, hx210_0⟩ := Kd.at_int (Kd.V_reads' HO_0.out).2.2 0 p210 q210
                                cases e210
                                have qi210 : (0 < x0_1.length) = True := eq_true (by omega)
                                (try rw [show ((0 : Int)).toNat = 0 from rfl] at hx210_0)
                                (try rw [Addr.add_zero'] at hx210_0)
                                replace p210 := eq_true p210
                                replace q210 := eq_true q210
                                have p211 : 0 ≤ (1 : Int) := (by omega)
                                have q211 : 1 < (x0_1.length : Int) := of_decide_eq_true (by first | (with_reducible assumption) | assumption)
                                obtain ⟨ad211, e211, hx211_0⟩ := Kd.at_int (Kd.V_reads' HO_0.out).2.2 1 p211 q211
                                obtain rfl : ad210 = ad211 := (by injection e211)
                                (try simp only [show (1 : Int).toNat = 1 from rfl, Nat.reduceMul, Nat.reduceEqDiff, Go.Addr.add, ↓reduceIte] at hx211_0)
                                have qi211 : (1 < x0_1.length) = True := eq_true (by omega)
                                (try rw [show ((1 : Int)).toNat = 1 from rfl] at hx211_0)
                                replace p211 := eq_true p211
                                replace q211 := eq_true q211
                                have p212 : 0 ≤ (2 : Int) := (by omega)
                                have q212 : 2 < (x0_1.length : Int) := of_decide_eq_true (by first | (with_reducible assumption) | assumption)
                                obtain ⟨ad212, e212, hx212_0⟩ := Kd.at_int (Kd.V_reads' HO_0.out).2.2 2 p212 q212
                                obtain rfl : ad210 = ad212 := (by injection e212)
                                (try simp only [show (2 : Int).toNat = 2 from rfl, Nat.reduceMul, Nat.reduceEqDiff, Go.Addr.add, ↓reduceIte] at hx212_0)
                                have qi212 : (2 < x0_1.length) = True := eq_true (by omega)
                                (try rw [show ((2 : Int)).toNat = 2 from rfl] at hx212_0)
                                replace p212 := eq_true p212
                                replace q212 := eq_true q212
                                have p213 : 0 ≤ (3 : Int) := (by omega)
                                have q213 : 3 < (x0_1.length : Int) := of_decide_eq_true (by first | (with_reducible assumption) | assumption)
                                obtain ⟨ad213, e213, hx213_0⟩ := Kd.at_int (Kd.V_reads' HO_0.out).2.2 3 p213 q213
                                obtain rfl : ad210 = ad213 := (by injection e213)
                                (try simp only [show (3 : Int).toNat = 3 from rfl, Nat.reduceMul, Nat.reduceEqDiff, Go.Addr.add, ↓reduceIte] at hx213_0)
                                have qi213 : (3 < x0_1.length) = True := eq_true (by omega)
                                (try rw [show ((3 : Int)).toNat = 3 from rfl] at hx213_0)
                                replace p213 := eq_true p213
                                replace q213 := eq_true q213
                                obtain ⟨Ao55, co55, eo55⟩ := Kd.R_slice HO_8.out
                                subst eo55
                                have q56 : ((ji51) : Int) ≤ ((x0_1.length : Int) : Int) := of_decide_eq_true (by first | (with_reducible assumption) | assumption)
                                obtain ⟨i056, hi056, _, hsz56, _⟩ := info_parts info5
                                have hroom56 : x0_1.length ≤ co54 := (Kd.V_reads' HO_0.out).2.1
                                have hC56 : Kd.F (Kd.int .u8) _ _ (some ad210) x0_1.length x0_1 := (Kd.V_at (base := w.heap.size) HO_0.out).2.2
                                have ql56 : (4 : Int) ≤ ((ji51) : Int) := of_decide_eq_true (by first | (with_reducible assumption) | assumption)
                                have hcut56 := cut_mid (P := Try.prog) 28 5 .i64 .i64 Try.underlying28 hi056 1 hsz56 (some ad210) x0_1.length co54 4 (ji51) (by omega) ql56 q56 hroom56
                                have hr56 := Kd.F_mid (lo := (4 : Int).toNat) (hi := ((ji51) : Int).toNat) (c := co54) hC56 (by omega) (by omega) hroom56
                                obtain ⟨A56, hA56⟩ : ∃ A1, A1 = (if co54 = (4 : Int).toNat then (some ad210) else ((some ad210) : Option Addr).map (·.add ((4 : Int).toNat * 1))) := ⟨_, rfl⟩
                                obtain ⟨c56, hc56⟩ : ∃ c1, c1 = co54 - (4 : Int).toNat := ⟨_, rfl⟩
                                have hy56 : y214.length = ((ji51) : Int).toNat - (4 : Int).toNat := (by rw [Ny214.out, List.length_drop, List.length_take] <;> omega)
                                rw [show ((x0_1).take ((ji51) : Int).toNat).drop (4 : Int).toNat = y214 from Ny214.out.symm] at hr56
                                replace hr56 : Kd.F (Kd.int .u8) _ _ A56 y214.length y214 := (by rw [hA56]; exact hr56)
                                rw [← hy56, ← hA56, ← hc56] at hcut56
                                have HO218 := Aside0.mk (show Kd.V (Kd.int .u8) 5 _ w.heap.size _ (.slice A56 y214.length c56) y214 from Kd.V_mk (by rw [hy56, hc56]; exact Nat.sub_le_sub_right (Nat.le_trans (by omega) hroom56) _) hr56)
                                have HC218 := Aside0.mk (show y214.length ≤ c56 from by rw [hy56, hc56]; exact Nat.sub_le_sub_right (Nat.le_trans (by omega) hroom56) _)
                                clear hr56 hC56 hroom56 hi056 hsz56 hc56
                                have KY56 := Aside0.mk hy56
                                have KA56 := Aside0.mk hA56
                                clear hy56 hA56
                                replace q56 := eq_true q56
                                go_wp2_with (first | ((with_reducible refine gate_builtin (b := .append) (xs := #[.tmp 67, .tmp 71]) rfl ?_); (try (refine gate_guard (by rfl) ?_; dsimp only)); at_builtin; refine Kd.R_append_rows (Kd.int .u8) (w0 := w) w.heap.size rfl (.tmp 67) (.tmp 71) 28 5 (.int .u8 0) 1 rfl Try.underlying28 info5 rfl (by decide) (by omega) (.slice Ao55 x8_1.length co55) x8_1 y214 _ _ _ (fun k_ => (w.heap.size ≤ k_)) (fun _ => False) rfl rfl ?aO ?aR (fun _ _ h => h) (fun _ h => h.elim) ?aF ?aB ?aS ?aL ?_; (case aR => repeat (first | exact (Kd.V_reads' HO218.out).2.2 | (with_reducible refine Kd.C_alloc ?_ _) | (with_reducible refine Kd.C_drewN ?_ _) | (with_reducible refine Kd.C_drew ?_))); (case aB => exact (by repeat (first | (with_reducible first | exact HB.out | apply below_alloc | apply pw_below_drewN | apply below_drew1 | refine below_set ?_ GE208.out | refine below_set ?_ GE209.out) | exact HB.out))); (case aF => exact (fun k_ hk => (Nat.le_trans (below_size (by repeat (first | (with_reducible first | exact HB.out | apply below_alloc | apply pw_below_drewN | apply below_drew1 | refine below_set ?_ GE208.out | refine below_set ?_ GE209.out) | exact HB.out))) hk))); (case aO => exact (by (with_reducible repeat (first | apply Kd.R_alloc | apply Kd.R_drewN | apply Kd.R_drew)); exact HO_8.out)); (case aS => exact (below_size (by repeat (first | (with_reducible first | exact HB.out | apply below_alloc | apply pw_below_drewN | apply below_drew1 | refine below_set ?_ GE208.out | refine below_set ?_ GE209.out) | exact HB.out)))); (case aL => have := LMc33.out; omega); intro v220 w57 ho hb hg hat; rw [← Ny219.out] at ho; have n0_ := Aside0.mk (Kd.V_afterv (ok := (fun k_ => (P0_ k_ ∨ w.heap.size ≤ k_) ∧ some k_ ≠ (u210000 : Value).ownBlock ∧ k_ ≠ gb208 ∧ k_ ≠ gb209)) (by (with_reducible repeat (first | apply Kd.V_alloc | apply Kd.V_drewN | apply Kd.V_drew)); exact Kd.V_mono HO_0.out (fun _ hk => ⟨⟨hk.1, ⟨hk.2.2.1, ⟨hk.2.2.2.1, hk.2.2.2.2⟩⟩⟩, hk.2.1⟩)) hg hat); have n1_ := Aside0.mk (Kd.S_after (ok := (fun k_ => (w.heap.size ≤ k_))) (by (with_reducible repeat (first | apply Kd.S_alloc | apply Kd.S_drewN | apply Kd.S_drew)); exact HO_210000.out) hg hat); have n2_ := Aside0.mk (blk_grown (g := gb208) (o := .cells #[.slice none 0 0, .int .i64 x209001_1, .int .i64 x209002_1, .bool x209003_1] 57 (0, 0)) (by (with_reducible repeat (first | refine blk_drewN ?_ _ | refine blk_drew ?_ | refine blk_alloc ?_ _)); exact BK208.out) hg (Kd.R_ne HO_8.out BK208.out (by decide))); have n3_ := Aside0.mk (blk_grown (g := gb209) (o := .cells #[u210000, .int .i64 0, .int .i64 x210002_1, .bool false] 57 (0, 0)) (by (with_reducible repeat (first | refine blk_drewN ?_ _ | refine blk_drew ?_ | refine blk_alloc ?_ _)); exact BK209.out) hg (Kd.R_ne HO_8.out BK209.out (by decide))); have n4_ := Aside0.mk (Kd.V_afterv (ok := (fun k_ => (P0_ k_ ∨ w.heap.size ≤ k_) ∧ some k_ ≠ (u210000 : Value).ownBlock ∧ k_ ≠ gb208 ∧ k_ ≠ gb209)) (by (with_reducible repeat (first | apply Kd.V_alloc | apply Kd.V_drewN | apply Kd.V_drew)); exact Kd.V_mono HO218.out (fun _ hk => ⟨⟨hk.1, ⟨hk.2.2.1, ⟨hk.2.2.2.1, hk.2.2.2.2⟩⟩⟩, hk.2.1⟩)) hg hat); have n5_ := Aside0.mk (hb); have n6_ := Aside0.mk (ho); clear HO_0; clear HO_210000; clear BK208; clear BK209; clear HO218; clear HB; clear HO_8; have HO_0 := n0_; have HO_210000 := n1_; have BK208 := n2_; have BK209 := n3_; have HO218 := n4_; have HB := n5_; have HO221 := n6_; clear n0_ n1_ n2_ n3_ n4_ n5_ n6_; clear ho hb hg hat; have p222 : 0 ≤ (0 : Int) := (by omega); have q222 : 0 < (x0_1.length : Int) := of_decide_eq_true (by first | (with_reducible assumption) | assumption); obtain ⟨ad222, e222, hx222_0⟩ := Kd.at_int (Kd.V_reads' HO_0.out).2.2 0 p222 q222; obtain rfl : ad210 = ad222 := (by injection e222); have qi222 : (0 < x0_1.length) = True := eq_true (by omega); (try rw [show ((0 : Int)).toNat = 0 from rfl] at hx222_0); (try rw [Addr.add_zero'] at hx222_0); replace p222 := eq_true p222; replace q222 := eq_true q222; have q58 : ((ji51) : Int) ≤ ((x0_1.length : Int) : Int) := of_decide_eq_true (by first | (with_reducible assumption) | assumption); obtain ⟨i058, hi058, _, hsz58, _⟩ := info_parts info5; have hroom58 : x0_1.length ≤ co54 := (Kd.V_reads' HO_0.out).2.1; have hC58 : Kd.F (Kd.int .u8) _ _ (some ad210) x0_1.length x0_1 := (Kd.V_at (base := w.heap.size) HO_0.out).2.2; have q058 : (0 : Int) ≤ ((ji51) : Int) := of_decide_eq_true (by first | (with_reducible assumption) | assumption); have hcut58 := cut_from (P := Try.prog) 28 5 .i64 Try.underlying28 hi058 1 hsz58 (some ad210) x0_1.length co54 (ji51) q058 q58; have hr58 := Kd.F_cut (m := ((ji51) : Int).toNat) (c := co54) hC58 (by omega) hroom58; obtain ⟨A58, hA58⟩ : ∃ A1, A1 = (if co54 = ((ji51) : Int).toNat then (some ad210) else ((some ad210) : Option Addr).map (·.add (((ji51) : Int).toNat * 1))) := ⟨_, rfl⟩; obtain ⟨c58, hc58⟩ : ∃ c1, c1 = co54 - ((ji51) : Int).toNat := ⟨_, rfl⟩; have hy58 : y231.length = x0_1.length - ((ji51) : Int).toNat := (by rw [Ny231.out, List.length_drop] <;> omega); rw [show (x0_1).drop ((ji51) : Int).toNat = y231 from Ny231.out.symm] at hr58; replace hr58 : Kd.F (Kd.int .u8) _ _ A58 y231.length y231 := (by rw [hA58]; exact hr58); rw [← hy58, ← hA58, ← hc58] at hcut58; have HO235 := Aside0.mk (show Kd.V (Kd.int .u8) 5 _ w.heap.size _ (.slice A58 y231.length c58) y231 from Kd.V_mk (by rw [hy58, hc58]; exact Nat.sub_le_sub_right hroom58 _) hr58); have HC235 := Aside0.mk (show y231.length ≤ c58 from by rw [hy58, hc58]; exact Nat.sub_le_sub_right hroom58 _); clear hr58 hC58 hroom58 hi058 hsz58 hc58; have KY58 := Aside0.mk hy58; have KA58 := Aside0.mk hA58; clear hy58 hA58; replace q58 := eq_true q58))
                                repeat (go_quiet (first | ((with_reducible refine gate_builtin (b := .append) (xs := #[.tmp 67, .tmp 71]) rfl ?_); (try (refine gate_guard (by rfl) ?_; dsimp only)); at_builtin; refine Kd.R_append_rows (Kd.int .u8) (w0 := w) w.heap.size rfl (.tmp 67) (.tmp 71) 28 5 (.int .u8 0) 1 rfl Try.underlying28 info5 rfl (by decide) (by omega) (.slice Ao55 x8_1.length co55) x8_1 y214 _ _ _ (fun k_ => (w.heap.size ≤ k_)) (fun _ => False) rfl rfl ?aO ?aR (fun _ _ h => h) (fun _ h => h.elim) ?aF ?aB ?aS ?aL ?_; (case aR => repeat (first | exact (Kd.V_reads' HO218.out).2.2 | (with_reducible refine Kd.C_alloc ?_ _) | (with_reducible refine Kd.C_drewN ?_ _) | (with_reducible refine Kd.C_drew ?_))); (case aB => exact (by repeat (first | (with_reducible first | exact HB.out | apply below_alloc | apply pw_below_drewN | apply below_drew1 | refine below_set ?_ GE208.out | refine below_set ?_ GE209.out) | exact HB.out))); (case aF => exact (fun k_ hk => (Nat.le_trans (below_size (by repeat (first | (with_reducible first | exact HB.out | apply below_alloc | apply pw_below_drewN | apply below_drew1 | refine below_set ?_ GE208.out | refine below_set ?_ GE209.out) | exact HB.out))) hk))); (case aO => exact (by (with_reducible repeat (first | apply Kd.R_alloc | apply Kd.R_drewN | apply Kd.R_drew)); exact HO_8.out)); (case aS => exact (below_size (by repeat (first | (with_reducible first | exact HB.out | apply below_alloc | apply pw_below_drewN | apply below_drew1 | refine below_set ?_ GE208.out | refine below_set ?_ GE209.out) | exact HB.out)))); (case aL => have := LMc33.out; omega); intro v220 w57 ho hb hg hat; rw [← Ny219.out] at ho; have n0_ := Aside0.mk (Kd.V_afterv (ok := (fun k_ => (P0_ k_ ∨ w.heap.size ≤ k_) ∧ some k_ ≠ (u210000 : Value).ownBlock ∧ k_ ≠ gb208 ∧ k_ ≠ gb209)) (by (with_reducible repeat (first | apply Kd.V_alloc | apply Kd.V_drewN | apply Kd.V_drew)); exact Kd.V_mono HO_0.out (fun _ hk => ⟨⟨hk.1, ⟨hk.2.2.1, ⟨hk.2.2.2.1, hk.2.2.2.2⟩⟩⟩, hk.2.1⟩)) hg hat); have n1_ := Aside0.mk (Kd.S_after (ok := (fun k_ => (w.heap.size ≤ k_))) (by (with_reducible repeat (first | apply Kd.S_alloc | apply Kd.S_drewN | apply Kd.S_drew)); exact HO_210000.out) hg hat); have n2_ := Aside0.mk (blk_grown (g := gb208) (o := .cells #[.slice none 0 0, .int .i64 x209001_1, .int .i64 x209002_1, .bool x209003_1] 57 (0, 0)) (by (with_reducible repeat (first | refine blk_drewN ?_ _ | refine blk_drew ?_ | refine blk_alloc ?_ _)); exact BK208.out) hg (Kd.R_ne HO_8.out BK208.out (by decide))); have n3_ := Aside0.mk (blk_grown (g := gb209) (o := .cells #[u210000, .int .i64 0, .int .i64 x210002_1, .bool false] 57 (0, 0)) (by (with_reducible repeat (first | refine blk_drewN ?_ _ | refine blk_drew ?_ | refine blk_alloc ?_ _)); exact BK209.out) hg (Kd.R_ne HO_8.out BK209.out (by decide))); have n4_ := Aside0.mk (Kd.V_afterv (ok := (fun k_ => (P0_ k_ ∨ w.heap.size ≤ k_) ∧ some k_ ≠ (u210000 : Value).ownBlock ∧ k_ ≠ gb208 ∧ k_ ≠ gb209)) (by (with_reducible repeat (first | apply Kd.V_alloc | apply Kd.V_drewN | apply Kd.V_drew)); exact Kd.V_mono HO218.out (fun _ hk => ⟨⟨hk.1, ⟨hk.2.2.1, ⟨hk.2.2.2.1, hk.2.2.2.2⟩⟩⟩, hk.2.1⟩)) hg hat); have n5_ := Aside0.mk (hb); have n6_ := Aside0.mk (ho); clear HO_0; clear HO_210000; clear BK208; clear BK209; clear HO218; clear HB; clear HO_8; have HO_0 := n0_; have HO_210000 := n1_; have BK208 := n2_; have BK209 := n3_; have HO218 := n4_; have HB := n5_; have HO221 := n6_; clear n0_ n1_ n2_ n3_ n4_ n5_ n6_; clear ho hb hg hat; have p222 : 0 ≤ (0 : Int) := (by omega); have q222 : 0 < (x0_1.length : Int) := of_decide_eq_true (by first | (with_reducible assumption) | assumption); obtain ⟨ad222, e222, hx222_0⟩ := Kd.at_int (Kd.V_reads' HO_0.out).2.2 0 p222 q222; obtain rfl : ad210 = ad222 := (by injection e222); have qi222 : (0 < x0_1.length) = True := eq_true (by omega); (try rw [show ((0 : Int)).toNat = 0 from rfl] at hx222_0); (try rw [Addr.add_zero'] at hx222_0); replace p222 := eq_true p222; replace q222 := eq_true q222; have q58 : ((ji51) : Int) ≤ ((x0_1.length : Int) : Int) := of_decide_eq_true (by first | (with_reducible assumption) | assumption); obtain ⟨i058, hi058, _, hsz58, _⟩ := info_parts info5; have hroom58 : x0_1.length ≤ co54 := (Kd.V_reads' HO_0.out).2.1; have hC58 : Kd.F (Kd.int .u8) _ _ (some ad210) x0_1.length x0_1 := (Kd.V_at (base := w.heap.size) HO_0.out).2.2; have q058 : (0 : Int) ≤ ((ji51) : Int) := of_decide_eq_true (by first | (with_reducible assumption) | assumption); have hcut58 := cut_from (P := Try.prog) 28 5 .i64 Try.underlying28 hi058 1 hsz58 (some ad210) x0_1.length co54 (ji51) q058 q58; have hr58 := Kd.F_cut (m := ((ji51) : Int).toNat) (c := co54) hC58 (by omega) hroom58; obtain ⟨A58, hA58⟩ : ∃ A1, A1 = (if co54 = ((ji51) : Int).toNat then (some ad210) else ((some ad210) : Option Addr).map (·.add (((ji51) : Int).toNat * 1))) := ⟨_, rfl⟩; obtain ⟨c58, hc58⟩ : ∃ c1, c1 = co54 - ((ji51) : Int).toNat := ⟨_, rfl⟩; have hy58 : y231.length = x0_1.length - ((ji51) : Int).toNat := (by rw [Ny231.out, List.length_drop] <;> omega); rw [show (x0_1).drop ((ji51) : Int).toNat = y231 from Ny231.out.symm] at hr58; replace hr58 : Kd.F (Kd.int .u8) _ _ A58 y231.length y231 := (by rw [hA58]; exact hr58); rw [← hy58, ← hA58, ← hc58] at hcut58; have HO235 := Aside0.mk (show Kd.V (Kd.int .u8) 5 _ w.heap.size _ (.slice A58 y231.length c58) y231 from Kd.V_mk (by rw [hy58, hc58]; exact Nat.sub_le_sub_right hroom58 _) hr58); have HC235 := Aside0.mk (show y231.length ≤ c58 from by rw [hy58, hc58]; exact Nat.sub_le_sub_right hroom58 _); clear hr58 hC58 hroom58 hi058 hsz58 hc58; have KY58 := Aside0.mk hy58; have KA58 := Aside0.mk hA58; clear hy58 hA58; replace q58 := eq_true q58)); try go_wp2_with (first | ((with_reducible refine gate_builtin (b := .append) (xs := #[.tmp 67, .tmp 71]) rfl ?_); (try (refine gate_guard (by rfl) ?_; dsimp only)); at_builtin; refine Kd.R_append_rows (Kd.int .u8) (w0 := w) w.heap.size rfl (.tmp 67) (.tmp 71) 28 5 (.int .u8 0) 1 rfl Try.underlying28 info5 rfl (by decide) (by omega) (.slice Ao55 x8_1.length co55) x8_1 y214 _ _ _ (fun k_ => (w.heap.size ≤ k_)) (fun _ => False) rfl rfl ?aO ?aR (fun _ _ h => h) (fun _ h => h.elim) ?aF ?aB ?aS ?aL ?_; (case aR => repeat (first | exact (Kd.V_reads' HO218.out).2.2 | (with_reducible refine Kd.C_alloc ?_ _) | (with_reducible refine Kd.C_drewN ?_ _) | (with_reducible refine Kd.C_drew ?_))); (case aB => exact (by repeat (first | (with_reducible first | exact HB.out | apply below_alloc | apply pw_below_drewN | apply below_drew1 | refine below_set ?_ GE208.out | refine below_set ?_ GE209.out) | exact HB.out))); (case aF => exact (fun k_ hk => (Nat.le_trans (below_size (by repeat (first | (with_reducible first | exact HB.out | apply below_alloc | apply pw_below_drewN | apply below_drew1 | refine below_set ?_ GE208.out | refine below_set ?_ GE209.out) | exact HB.out))) hk))); (case aO => exact (by (with_reducible repeat (first | apply Kd.R_alloc | apply Kd.R_drewN | apply Kd.R_drew)); exact HO_8.out)); (case aS => exact (below_size (by repeat (first | (with_reducible first | exact HB.out | apply below_alloc | apply pw_below_drewN | apply below_drew1 | refine below_set ?_ GE208.out | refine below_set ?_ GE209.out) | exact HB.out)))); (case aL => have := LMc33.out; omega); intro v220 w57 ho hb hg hat; rw [← Ny219.out] at ho; have n0_ := Aside0.mk (Kd.V_afterv (ok := (fun k_ => (P0_ k_ ∨ w.heap.size ≤ k_) ∧ some k_ ≠ (u210000 : Value).ownBlock ∧ k_ ≠ gb208 ∧ k_ ≠ gb209)) (by (with_reducible repeat (first | apply Kd.V_alloc | apply Kd.V_drewN | apply Kd.V_drew)); exact Kd.V_mono HO_0.out (fun _ hk => ⟨⟨hk.1, ⟨hk.2.2.1, ⟨hk.2.2.2.1, hk.2.2.2.2⟩⟩⟩, hk.2.1⟩)) hg hat); have n1_ := Aside0.mk (Kd.S_after (ok := (fun k_ => (w.heap.size ≤ k_))) (by (with_reducible repeat (first | apply Kd.S_alloc | apply Kd.S_drewN | apply Kd.S_drew)); exact HO_210000.out) hg hat); have n2_ := Aside0.mk (blk_grown (g := gb208) (o := .cells #[.slice none 0 0, .int .i64 x209001_1, .int .i64 x209002_1, .bool x209003_1] 57 (0, 0)) (by (with_reducible repeat (first | refine blk_drewN ?_ _ | refine blk_drew ?_ | refine blk_alloc ?_ _)); exact BK208.out) hg (Kd.R_ne HO_8.out BK208.out (by decide))); have n3_ := Aside0.mk (blk_grown (g := gb209) (o := .cells #[u210000, .int .i64 0, .int .i64 x210002_1, .bool false] 57 (0, 0)) (by (with_reducible repeat (first | refine blk_drewN ?_ _ | refine blk_drew ?_ | refine blk_alloc ?_ _)); exact BK209.out) hg (Kd.R_ne HO_8.out BK209.out (by decide))); have n4_ := Aside0.mk (Kd.V_afterv (ok := (fun k_ => (P0_ k_ ∨ w.heap.size ≤ k_) ∧ some k_ ≠ (u210000 : Value).ownBlock ∧ k_ ≠ gb208 ∧ k_ ≠ gb209)) (by (with_reducible repeat (first | apply Kd.V_alloc | apply Kd.V_drewN | apply Kd.V_drew)); exact Kd.V_mono HO218.out (fun _ hk => ⟨⟨hk.1, ⟨hk.2.2.1, ⟨hk.2.2.2.1, hk.2.2.2.2⟩⟩⟩, hk.2.1⟩)) hg hat); have n5_ := Aside0.mk (hb); have n6_ := Aside0.mk (ho); clear HO_0; clear HO_210000; clear BK208; clear BK209; clear HO218; clear HB; clear HO_8; have HO_0 := n0_; have HO_210000 := n1_; have BK208 := n2_; have BK209 := n3_; have HO218 := n4_; have HB := n5_; have HO221 := n6_; clear n0_ n1_ n2_ n3_ n4_ n5_ n6_; clear ho hb hg hat; have p222 : 0 ≤ (0 : Int) := (by omega); have q222 : 0 < (x0_1.length : Int) := of_decide_eq_true (by first | (with_reducible assumption) | assumption); obtain ⟨ad222, e222, hx222_0⟩ := Kd.at_int (Kd.V_reads' HO_0.out).2.2 0 p222 q222; obtain rfl : ad210 = ad222 := (by injection e222); have qi222 : (0 < x0_1.length) = True := eq_true (by omega); (try rw [show ((0 : Int)).toNat = 0 from rfl] at hx222_0); (try rw [Addr.add_zero'] at hx222_0); replace p222 := eq_true p222; replace q222 := eq_true q222; have q58 : ((ji51) : Int) ≤ ((x0_1.length : Int) : Int) := of_decide_eq_true (by first | (with_reducible assumption) | assumption); obtain ⟨i058, hi058, _, hsz58, _⟩ := info_parts info5; have hroom58 : x0_1.length ≤ co54 := (Kd.V_reads' HO_0.out).2.1; have hC58 : Kd.F (Kd.int .u8) _ _ (some ad210) x0_1.length x0_1 := (Kd.V_at (base := w.heap.size) HO_0.out).2.2; have q058 : (0 : Int) ≤ ((ji51) : Int) := of_decide_eq_true (by first | (with_reducible assumption) | assumption); have hcut58 := cut_from (P := Try.prog) 28 5 .i64 Try.underlying28 hi058 1 hsz58 (some ad210) x0_1.length co54 (ji51) q058 q58; have hr58 := Kd.F_cut (m := ((ji51) : Int).toNat) (c := co54) hC58 (by omega) hroom58; obtain ⟨A58, hA58⟩ : ∃ A1, A1 = (if co54 = ((ji51) : Int).toNat then (some ad210) else ((some ad210) : Option Addr).map (·.add (((ji51) : Int).toNat * 1))) := ⟨_, rfl⟩; obtain ⟨c58, hc58⟩ : ∃ c1, c1 = co54 - ((ji51) : Int).toNat := ⟨_, rfl⟩; have hy58 : y231.length = x0_1.length - ((ji51) : Int).toNat := (by rw [Ny231.out, List.length_drop] <;> omega); rw [show (x0_1).drop ((ji51) : Int).toNat = y231 from Ny231.out.symm] at hr58; replace hr58 : Kd.F (Kd.int .u8) _ _ A58 y231.length y231 := (by rw [hA58]; exact hr58); rw [← hy58, ← hA58, ← hc58] at hcut58; have HO235 := Aside0.mk (show Kd.V (Kd.int .u8) 5 _ w.heap.size _ (.slice A58 y231.length c58) y231 from Kd.V_mk (by rw [hy58, hc58]; exact Nat.sub_le_sub_right hroom58 _) hr58); have HC235 := Aside0.mk (show y231.length ≤ c58 from by rw [hy58, hc58]; exact Nat.sub_le_sub_right hroom58 _); clear hr58 hC58 hroom58 hi058 hsz58 hc58; have KY58 := Aside0.mk hy58; have KA58 := Aside0.mk hA58; clear hy58 hA58; replace q58 := eq_true q58)))
                                go_roundg k1
                                case measure => have := HK1.out; omega
                                case rel => exact ⟨(y231), (y219), (wrap64 (x9_1 + 1)), (x209001_1), (x209002_1), (x209003_1), (x210000_1), (x210002_1), (u210000), (by first | rfl | (simp; done) | (simp [*]; done)), H', ⟨by have := HK1.out; omega⟩, ⟨by (with_reducible repeat (first | apply Kd.V_alloc | apply Kd.V_drewN | apply Kd.V_drew)); exact Kd.V_mono HO235.out (fun _ hk => ⟨hk.1.1, ⟨hk.2, ⟨hk.1.2.1, ⟨hk.1.2.2.1, hk.1.2.2.2⟩⟩⟩⟩)⟩, ⟨by (with_reducible repeat (first | apply Kd.R_alloc | apply Kd.R_drewN | apply Kd.R_drew)); exact HO221.out⟩, ⟨by (with_reducible repeat (first | apply Kd.S_alloc | apply Kd.S_drewN | apply Kd.S_drew)); exact HO_210000.out⟩, ⟨by (with_reducible repeat (first | refine blk_drewN ?_ _ | refine blk_drew ?_ | refine blk_alloc ?_ _)); exact BK208.out⟩, ⟨by (with_reducible repeat (first | refine blk_drewN ?_ _ | refine blk_drew ?_ | refine blk_alloc ?_ _)); exact BK209.out⟩, ⟨by repeat (first | (with_reducible first | exact HB.out | apply below_alloc | apply pw_below_drewN | apply below_drew1 | refine below_set ?_ GE208.out | refine below_set ?_ GE209.out) | exact HB.out)⟩⟩
                              · rw [if_neg c52] at H
                                exact absurd H (by simp)
                          · rw [if_neg c33] at H
                            exact absurd H (by simp)
                        · rw [if_neg c32] at H
                          exact absurd H (by simp)
                      · rw [if_neg c31] at H
                        exact absurd H (by simp)
              · rw [if_neg c10] at H
                exact absurd H (by simp)
            · rw [if_neg c9] at H
              exact absurd H (by simp)
          · rw [if_neg c8] at H
            exact absurd H (by simp)
        · rw [if_neg c7] at H
          exact absurd H (by simp)
      · rw [if_neg c6] at H
        have c6b0 : decide (3 < (x0_1.length : Int)) = false := decide_eq_false c6
        have c6b1 : decide (3 < x0_1.length) = false := decide_eq_false (by omega)
        clear c6
        by_cases c59 : x9_1 = 0
        · rw [if_pos c59] at H
          have c59b0 : (x9_1 == 0) = true := beq_iff_eq.mpr c59
          have c59b1 : (x9_1 != 0) = false := bne_eq_false_iff_eq.mpr c59
          clear c59
          simp only [Option.some.injEq, Prod.mk.injEq] at H
          obtain ⟨rfl, rfl, rfl, rfl⟩ := H
          obtain ⟨Ao60, co60, eo60⟩ := Kd.V_slice HO_0.out
          subst eo60
          obtain ⟨Ao61, co61, eo61⟩ := Kd.R_slice HO_8.out
          subst eo61
          have hnb62 := NB209_208.out
          have hnc62 := NB208_209.out
          have hcz63_0 : wr.cell? ⟨gb209, 0, none⟩ = some (u210000) := (blk_cell BK209.out 0).trans rfl
          have hcz63_1 : wr.cell? ⟨gb209, 1, none⟩ = some (.int .i64 0) := (blk_cell BK209.out 1).trans rfl
          have hcz63_2 : wr.cell? ⟨gb209, 2, none⟩ = some (.int .i64 x210002_1) := (blk_cell BK209.out 2).trans rfl
          have hcz63_3 : wr.cell? ⟨gb209, 3, none⟩ = some (.bool false) := (blk_cell BK209.out 3).trans rfl
          have hfz63_0 := blk_frozen BK209.out 0
          have hfz63_1 := blk_frozen BK209.out 1
          have hfz63_2 := blk_frozen BK209.out 2
          have hfz63_3 := blk_frozen BK209.out 3
          obtain ⟨Ao64, co64, eo64⟩ := Kd.S_slice HO_210000.out
          subst eo64
          have hcz65_0 : wr.cell? ⟨gb208, 0, none⟩ = some (.slice none 0 0) := (blk_cell BK208.out 0).trans rfl
          have hcz65_1 : wr.cell? ⟨gb208, 1, none⟩ = some (.int .i64 x209001_1) := (blk_cell BK208.out 1).trans rfl
          have hcz65_2 : wr.cell? ⟨gb208, 2, none⟩ = some (.int .i64 x209002_1) := (blk_cell BK208.out 2).trans rfl
          have hcz65_3 : wr.cell? ⟨gb208, 3, none⟩ = some (.bool x209003_1) := (blk_cell BK208.out 3).trans rfl
          have hfz65_0 := blk_frozen BK208.out 0
          have hfz65_1 := blk_frozen BK208.out 1
          have hfz65_2 := blk_frozen BK208.out 2
          have hfz65_3 := blk_frozen BK208.out 3
          go_wp2
          repeat (go_quiet (fail); try go_wp2)
          refine bodyPost_ret (results_cell_row rfl _ _ gb208 57 #[.slice Ao64 x210000_1.length co64, .int .i64 0, .int .i64 (wrap64 ((x8_1.length : Int) + (x0_1.length : Int))), .bool ((x0_1.length : Int) == 0)] (0, 0) _ rfl (by (with_reducible repeat (first | refine blk_drewN ?_ _ | refine blk_drew ?_ | refine blk_alloc ?_ _)); refine blk_put (cs := #[.slice Ao64 x210000_1.length co64, .int .i64 0, .int .i64 (wrap64 ((x8_1.length : Int) + (x0_1.length : Int))), .bool x209003_1]) ?_ 3 _ rfl; (with_reducible repeat (first | refine blk_drewN ?_ _ | refine blk_drew ?_ | refine blk_alloc ?_ _)); refine blk_put (cs := #[.slice Ao64 x210000_1.length co64, .int .i64 0, .int .i64 x209002_1, .bool x209003_1]) ?_ 2 _ rfl; (with_reducible repeat (first | refine blk_drewN ?_ _ | refine blk_drew ?_ | refine blk_alloc ?_ _)); refine blk_put (cs := #[.slice Ao64 x210000_1.length co64, .int .i64 x209001_1, .int .i64 x209002_1, .bool x209003_1]) ?_ 1 _ rfl; (with_reducible repeat (first | refine blk_drewN ?_ _ | refine blk_drew ?_ | refine blk_alloc ?_ _)); refine blk_put (cs := #[.slice none 0 0, .int .i64 x209001_1, .int .i64 x209002_1, .bool x209003_1]) ?_ 0 _ rfl; (with_reducible repeat (first | refine blk_drewN ?_ _ | refine blk_drew ?_ | refine blk_alloc ?_ _)); refine blk_far ?_ NB208_209.out _; (with_reducible repeat (first | refine blk_drewN ?_ _ | refine blk_drew ?_ | refine blk_alloc ?_ _)); refine blk_far ?_ NB208_209.out _; (with_reducible repeat (first | refine blk_drewN ?_ _ | refine blk_drew ?_ | refine blk_alloc ?_ _)); exact BK208.out) Try.underlying57 rfl (by kernel_rfl)) rfl ?_
          exact ⟨_, by first | rfl | (simp [errW_none, errW_some] <;> rfl) | (simp [*, errW_none, errW_some] <;> rfl), by (with_reducible repeat (first | apply Kd.S_alloc | apply Kd.S_drewN | apply Kd.S_drew)); exact Kd.S_mono (Kd.S_far (p := ⟨gb208, 3, none⟩) (Kd.S_far (p := ⟨gb208, 2, none⟩) (Kd.S_far (p := ⟨gb208, 1, none⟩) (Kd.S_far (p := ⟨gb208, 0, none⟩) (Kd.S_far (p := ⟨gb209, 3, none⟩) (Kd.S_far (p := ⟨gb209, 2, none⟩) (Kd.S_types (Kd.S_types HO_210000.out BK209.out (by decide)) BK208.out (by decide)) (fun _ hk => hk.1.2) (.int .i64 (wrap64 ((x8_1.length : Int) + (x0_1.length : Int))))) (fun _ hk => hk.1.2) (.bool ((x0_1.length : Int) == 0))) (fun _ hk => hk.2) (.slice Ao64 x210000_1.length co64)) (fun _ hk => hk.2) (.int .i64 0)) (fun _ hk => hk.2) (.int .i64 (wrap64 ((x8_1.length : Int) + (x0_1.length : Int))))) (fun _ hk => hk.2) (.bool ((x0_1.length : Int) == 0))) (fun _ hk => hk.1.1.1), by repeat (first | (with_reducible first | exact HB.out | apply below_alloc | apply pw_below_drewN | apply below_drew1 | refine below_set ?_ GE208.out | refine below_set ?_ GE209.out) | exact HB.out)⟩
        · rw [if_neg c59] at H
          have c59b0 : (x9_1 == 0) = false := beq_eq_false_iff_ne.mpr c59
          have c59b1 : (x9_1 != 0) = true := bne_iff_ne.mpr c59
          simp only [Option.some.injEq, Prod.mk.injEq] at H
          obtain ⟨rfl, rfl, rfl, rfl⟩ := H
          obtain ⟨Ao66, co66, eo66⟩ := Kd.V_slice HO_0.out
          subst eo66
          obtain ⟨Ao67, co67, eo67⟩ := Kd.R_slice HO_8.out
          subst eo67
          have hnb68 := NB209_208.out
          have hnc68 := NB208_209.out
          have hcz69_0 : wr.cell? ⟨gb209, 0, none⟩ = some (u210000) := (blk_cell BK209.out 0).trans rfl
          have hcz69_1 : wr.cell? ⟨gb209, 1, none⟩ = some (.int .i64 0) := (blk_cell BK209.out 1).trans rfl
          have hcz69_2 : wr.cell? ⟨gb209, 2, none⟩ = some (.int .i64 x210002_1) := (blk_cell BK209.out 2).trans rfl
          have hcz69_3 : wr.cell? ⟨gb209, 3, none⟩ = some (.bool false) := (blk_cell BK209.out 3).trans rfl
          have hfz69_0 := blk_frozen BK209.out 0
          have hfz69_1 := blk_frozen BK209.out 1
          have hfz69_2 := blk_frozen BK209.out 2
          have hfz69_3 := blk_frozen BK209.out 3
          obtain ⟨Ao70, co70, eo70⟩ := Kd.S_slice HO_210000.out
          subst eo70
          have hcz71_0 : wr.cell? ⟨gb208, 0, none⟩ = some (.slice none 0 0) := (blk_cell BK208.out 0).trans rfl
          have hcz71_1 : wr.cell? ⟨gb208, 1, none⟩ = some (.int .i64 x209001_1) := (blk_cell BK208.out 1).trans rfl
          have hcz71_2 : wr.cell? ⟨gb208, 2, none⟩ = some (.int .i64 x209002_1) := (blk_cell BK208.out 2).trans rfl
          have hcz71_3 : wr.cell? ⟨gb208, 3, none⟩ = some (.bool x209003_1) := (blk_cell BK208.out 3).trans rfl
          have hfz71_0 := blk_frozen BK208.out 0
          have hfz71_1 := blk_frozen BK208.out 1
          have hfz71_2 := blk_frozen BK208.out 2
          have hfz71_3 := blk_frozen BK208.out 3
          go_wp2
          repeat (go_quiet (fail); try go_wp2)
          refine bodyPost_ret (results_cell_row rfl _ _ gb208 57 #[.slice Ao70 x210000_1.length co70, .int .i64 0, .int .i64 (wrap64 ((x8_1.length : Int) + (x0_1.length : Int))), .bool false] (0, 0) _ rfl (by (with_reducible repeat (first | refine blk_drewN ?_ _ | refine blk_drew ?_ | refine blk_alloc ?_ _)); refine blk_put (cs := #[.slice Ao70 x210000_1.length co70, .int .i64 0, .int .i64 (wrap64 ((x8_1.length : Int) + (x0_1.length : Int))), .bool x209003_1]) ?_ 3 _ rfl; (with_reducible repeat (first | refine blk_drewN ?_ _ | refine blk_drew ?_ | refine blk_alloc ?_ _)); refine blk_put (cs := #[.slice Ao70 x210000_1.length co70, .int .i64 0, .int .i64 x209002_1, .bool x209003_1]) ?_ 2 _ rfl; (with_reducible repeat (first | refine blk_drewN ?_ _ | refine blk_drew ?_ | refine blk_alloc ?_ _)); refine blk_put (cs := #[.slice Ao70 x210000_1.length co70, .int .i64 x209001_1, .int .i64 x209002_1, .bool x209003_1]) ?_ 1 _ rfl; (with_reducible repeat (first | refine blk_drewN ?_ _ | refine blk_drew ?_ | refine blk_alloc ?_ _)); refine blk_put (cs := #[.slice none 0 0, .int .i64 x209001_1, .int .i64 x209002_1, .bool x209003_1]) ?_ 0 _ rfl; (with_reducible repeat (first | refine blk_drewN ?_ _ | refine blk_drew ?_ | refine blk_alloc ?_ _)); refine blk_far ?_ NB208_209.out _; (with_reducible repeat (first | refine blk_drewN ?_ _ | refine blk_drew ?_ | refine blk_alloc ?_ _)); refine blk_far ?_ NB208_209.out _; (with_reducible repeat (first | refine blk_drewN ?_ _ | refine blk_drew ?_ | refine blk_alloc ?_ _)); exact BK208.out) Try.underlying57 rfl (by kernel_rfl)) rfl ?_
          exact ⟨_, by first | rfl | (simp [errW_none, errW_some] <;> rfl) | (simp [*, errW_none, errW_some] <;> rfl), by (with_reducible repeat (first | apply Kd.S_alloc | apply Kd.S_drewN | apply Kd.S_drew)); exact Kd.S_mono (Kd.S_far (p := ⟨gb208, 3, none⟩) (Kd.S_far (p := ⟨gb208, 2, none⟩) (Kd.S_far (p := ⟨gb208, 1, none⟩) (Kd.S_far (p := ⟨gb208, 0, none⟩) (Kd.S_far (p := ⟨gb209, 3, none⟩) (Kd.S_far (p := ⟨gb209, 2, none⟩) (Kd.S_types (Kd.S_types HO_210000.out BK209.out (by decide)) BK208.out (by decide)) (fun _ hk => hk.1.2) (.int .i64 (wrap64 ((x8_1.length : Int) + (x0_1.length : Int))))) (fun _ hk => hk.1.2) (.bool false)) (fun _ hk => hk.2) (.slice Ao70 x210000_1.length co70)) (fun _ hk => hk.2) (.int .i64 0)) (fun _ hk => hk.2) (.int .i64 (wrap64 ((x8_1.length : Int) + (x0_1.length : Int))))) (fun _ hk => hk.2) (.bool false)) (fun _ hk => hk.1.1.1), by repeat (first | (with_reducible first | exact HB.out | apply below_alloc | apply pw_below_drewN | apply below_drew1 | refine below_set ?_ GE208.out | refine below_set ?_ GE209.out) | exact HB.out)⟩

/-! ### truchmanref01_SameBytes: function 26 -/
def truchmanref01_SameBytes.l0 : Nat → List (List Int) → List (List Int) → Int → Option (Bool)
  | 0, _, _, _ => none
  | k + 1, x0, x1, x5 => if x5 < (x0.length : Int) then (if 0 ≤ x5 then (if x5 < (x1.length : Int) then (if (strOfNums (rd_L2 x0 x5)).toList = (strOfNums (rd_L2 x1 x5)).toList then (truchmanref01_SameBytes.l0 k x0 x1 (wrap64 (x5 + 1))) else (some false)) else (none)) else (none)) else (some true)
def truchmanref01_SameBytes.f (k : Nat) (l0 : List (List Int)) (l1 : List (List Int)) : Option (Bool) := if (l0.length : Int) = (l1.length : Int) then (truchmanref01_SameBytes.l0 k l0 l1 0) else (some false)
theorem truchmanref01_SameBytes.mono_l : ∀ k, (∀ y0 y1 y2, LeO (truchmanref01_SameBytes.l0 k y0 y1 y2) (truchmanref01_SameBytes.l0 (k + 1) y0 y1 y2))
  | 0 => fun _ _ _ r h => by simp [truchmanref01_SameBytes.l0] at h
  | k + 1 => by
    have ih0 := truchmanref01_SameBytes.mono_l k
    · intro y0 y1 y2
      unfold truchmanref01_SameBytes.l0
      repeat' first
      | (with_reducible exact ih0 _ _ _)
      | (with_reducible exact LeO.refl _)
      | (with_reducible exact LeO.none _)
      | (with_reducible refine LeO.ite ?_ ?_)
      | (with_reducible refine LeO.bind ?_ (fun _ => ?_))
      | exact ih0 _ _ _
      | exact LeO.none _
      | refine LeO.ite ?_ ?_
      | refine LeO.bind ?_ (fun _ => ?_)
theorem truchmanref01_SameBytes.mono : ∀ a0 a1 k, LeO (truchmanref01_SameBytes.f k a0 a1) (truchmanref01_SameBytes.f (k + 1) a0 a1) := by
  intro a0 a1 k
  have ih0 := truchmanref01_SameBytes.mono_l k
  unfold truchmanref01_SameBytes.f
  repeat' first
      | (with_reducible exact ih0 _ _ _)
      | (with_reducible exact LeO.refl _)
      | (with_reducible exact LeO.none _)
      | (with_reducible refine LeO.ite ?_ ?_)
      | (with_reducible refine LeO.bind ?_ (fun _ => ?_))
      | exact ih0 _ _ _
      | exact LeO.none _
      | refine LeO.ite ?_ ?_
      | refine LeO.bind ?_ (fun _ => ?_)
set_option maxHeartbeats 8000000 in
set_option maxRecDepth 100000 in
theorem truchmanref01_SameBytes.calls (k : Nat) (A0 : Option Addr) (c0 : Nat) (l0 : List (List Int)) (A1 : Option Addr) (c1 : Nat) (l1 : List (List Int)) (r : Bool) (w : World) (hr0 : Kd.C (Kd.slice 5 (Kd.int .u8)) w A0 l0.length l0) (hc0 : l0.length ≤ c0) (hr1 : Kd.C (Kd.slice 5 (Kd.int .u8)) w A1 l1.length l1) (hc1 : l1.length ≤ c1) (h : truchmanref01_SameBytes.f k l0 l1 = some r) :
    Calls Try.prog 26 #[.slice A0 l0.length c0, .slice A1 l1.length c1] w fun e w' => e = .returned (.bool r) ∧ Drawn0 w w' := by
  have HR0 := Aside0.mk hr0
  have HC0 := Aside0.mk hc0
  clear hr0 hc0
  have HR1 := Aside0.mk hr1
  have HC1 := Aside0.mk hc1
  clear hr1 hc1
  have H : (if (l0.length : Int) = (l1.length : Int) then (truchmanref01_SameBytes.l0 k l0 l1 0) else (some false)) = some r := h
  clear h
  by_cases c3 : (l0.length : Int) = (l1.length : Int)
  · rw [if_pos c3] at H
    have c3b0 : ((l0.length : Int) == (l1.length : Int)) = true := beq_iff_eq.mpr c3
    have c3b1 : ((l0.length : Int) != (l1.length : Int)) = false := bne_eq_false_iff_eq.mpr c3
    have c3b2 : (l0.length == l1.length) = true := by first | simpa using c3 | (simp at c3 ⊢; omega)
    clear c3
    have H' := Aside0.mk H
    clear H
    go_enter Try.func26, Try.ntmps26
    go_wp2
    repeat (go_quiet (fail); try go_wp2)
    go_loopg [5] k (fun kq v5 w' => ∃ (x5_1 : Int), v5 = .int .i64 x5_1 ∧ Aside0 (truchmanref01_SameBytes.l0 kq l0 l1 x5_1 = some r) ∧ Aside0 (kq ≤ k) ∧ Drawn0 w w')
    case atStart => exact ⟨(0), (by first | rfl | (simp; done) | (simp [*]; done)), H', ⟨Nat.le_refl _⟩, by repeat (first | exact Drawn0.refl _ | apply Drawn0.step)⟩
    case round =>
      clear H'
      try clear c1
      try clear c2
      try clear p2
      try clear c3
      try clear c3b0
      try clear c3b1
      try clear c3b2
      obtain ⟨x5_1, rfl, HA, HK1, ⟨m1, rfl⟩⟩ := hrel
      cases gk with
      | zero => exact absurd HA.out (by simp [truchmanref01_SameBytes.l0])
      | succ k1 =>
        have H := HA.out
        clear HA
        simp only [truchmanref01_SameBytes.l0] at H
        by_cases c4 : x5_1 < (l0.length : Int)
        · rw [if_pos c4] at H
          have c4b0 : decide (x5_1 < (l0.length : Int)) = true := decide_eq_true c4
          clear c4
          by_cases c5 : 0 ≤ x5_1
          · rw [if_pos c5] at H
            have c5b0 : decide (0 ≤ x5_1) = true := decide_eq_true c5
            clear c5
            by_cases c6 : x5_1 < (l1.length : Int)
            · rw [if_pos c6] at H
              have c6b0 : decide (x5_1 < (l1.length : Int)) = true := decide_eq_true c6
              clear c6
              by_cases c7 : (strOfNums (rd_L2 l0 x5_1)).toList = (strOfNums (rd_L2 l1 x5_1)).toList
              · rw [if_pos c7] at H
                have c7b0 : ((strOfNums (rd_L2 l0 x5_1)).toList == (strOfNums (rd_L2 l1 x5_1)).toList) = true := beq_iff_eq.mpr c7
                have c7b1 : ((strOfNums (rd_L2 l0 x5_1)).toList != (strOfNums (rd_L2 l1 x5_1)).toList) = false := bne_eq_false_iff_eq.mpr c7
                clear c7
                have H' := Aside0.mk H
                clear H
                have p236 : 0 ≤ (x5_1 : Int) := of_decide_eq_true (by first | (with_reducible assumption) | assumption)
                have q236 : x5_1 < (l0.length : Int) := of_decide_eq_true (by first | (with_reducible assumption) | assumption)
                obtain ⟨ad236, A236_0, c236_0, e236, hx236_0, hl236_0, hi236_0⟩ := at_L2 HR0.out x5_1 p236 q236
                cases e236
                have HR236_0 := Aside0.mk hi236_0
                have HC236_0 := Aside0.mk hl236_0
                clear hi236_0 hl236_0
                replace p236 := eq_true p236
                replace q236 := eq_true q236
                have hcv8 := fun nq_ : Nat => Kd.C_string (P := Try.prog) (w := w.drewN nq_) (A := A236_0) (c := c236_0) Try.underlying28 Try.underlying5 Try.underlying9 (Kd.C_drewN HR236_0.out nq_)
                have p237 : 0 ≤ (x5_1 : Int) := of_decide_eq_true (by first | (with_reducible assumption) | assumption)
                have q237 : x5_1 < (l1.length : Int) := of_decide_eq_true (by first | (with_reducible assumption) | assumption)
                obtain ⟨ad237, A237_0, c237_0, e237, hx237_0, hl237_0, hi237_0⟩ := at_L2 HR1.out x5_1 p237 q237
                cases e237
                have HR237_0 := Aside0.mk hi237_0
                have HC237_0 := Aside0.mk hl237_0
                clear hi237_0 hl237_0
                replace p237 := eq_true p237
                replace q237 := eq_true q237
                have hcv9 := fun nq_ : Nat => Kd.C_string (P := Try.prog) (w := w.drewN nq_) (A := A237_0) (c := c237_0) Try.underlying28 Try.underlying5 Try.underlying9 (Kd.C_drewN HR237_0.out nq_)
                go_wp2
                repeat (go_quiet (fail); try go_wp2)
                go_roundg k1
                case measure => have := HK1.out; omega
                case rel => exact ⟨(wrap64 (x5_1 + 1)), (by first | rfl | (simp; done) | (simp [*]; done)), H', ⟨by have := HK1.out; omega⟩, by repeat (first | exact Drawn0.refl _ | apply Drawn0.step)⟩
              · rw [if_neg c7] at H
                have c7b0 : ((strOfNums (rd_L2 l0 x5_1)).toList == (strOfNums (rd_L2 l1 x5_1)).toList) = false := beq_eq_false_iff_ne.mpr c7
                have c7b1 : ((strOfNums (rd_L2 l0 x5_1)).toList != (strOfNums (rd_L2 l1 x5_1)).toList) = true := bne_iff_ne.mpr c7
                obtain rfl := Option.some.inj H
                have p236 : 0 ≤ (x5_1 : Int) := of_decide_eq_true (by first | (with_reducible assumption) | assumption)
                have q236 : x5_1 < (l0.length : Int) := of_decide_eq_true (by first | (with_reducible assumption) | assumption)
                obtain ⟨ad236, A236_0, c236_0, e236, hx236_0, hl236_0, hi236_0⟩ := at_L2 HR0.out x5_1 p236 q236
                cases e236
                have HR236_0 := Aside0.mk hi236_0
                have HC236_0 := Aside0.mk hl236_0
                clear hi236_0 hl236_0
                replace p236 := eq_true p236
                replace q236 := eq_true q236
                have hcv10 := fun nq_ : Nat => Kd.C_string (P := Try.prog) (w := w.drewN nq_) (A := A236_0) (c := c236_0) Try.underlying28 Try.underlying5 Try.underlying9 (Kd.C_drewN HR236_0.out nq_)
                have p237 : 0 ≤ (x5_1 : Int) := of_decide_eq_true (by first | (with_reducible assumption) | assumption)
                have q237 : x5_1 < (l1.length : Int) := of_decide_eq_true (by first | (with_reducible assumption) | assumption)
                obtain ⟨ad237, A237_0, c237_0, e237, hx237_0, hl237_0, hi237_0⟩ := at_L2 HR1.out x5_1 p237 q237
                cases e237
                have HR237_0 := Aside0.mk hi237_0
                have HC237_0 := Aside0.mk hl237_0
                clear hi237_0 hl237_0
                replace p237 := eq_true p237
                replace q237 := eq_true q237
                have hcv11 := fun nq_ : Nat => Kd.C_string (P := Try.prog) (w := w.drewN nq_) (A := A237_0) (c := c237_0) Try.underlying28 Try.underlying5 Try.underlying9 (Kd.C_drewN HR237_0.out nq_)
                go_wp2
                repeat (go_quiet (fail); try go_wp2)
                go_ret
                exact ⟨by first | rfl | (simp; done) | (simp [*]; done), by repeat (first | exact Drawn0.refl _ | apply Drawn0.step)⟩
            · rw [if_neg c6] at H
              exact absurd H (by simp)
          · rw [if_neg c5] at H
            exact absurd H (by simp)
        · rw [if_neg c4] at H
          have c4b0 : decide (x5_1 < (l0.length : Int)) = false := decide_eq_false c4
          clear c4
          obtain rfl := Option.some.inj H
          go_wp2
          repeat (go_quiet (fail); try go_wp2)
          go_ret
          exact ⟨by first | rfl | (simp; done) | (simp [*]; done), by repeat (first | exact Drawn0.refl _ | apply Drawn0.step)⟩
  · rw [if_neg c3] at H
    have c3b0 : ((l0.length : Int) == (l1.length : Int)) = false := beq_eq_false_iff_ne.mpr c3
    have c3b1 : ((l0.length : Int) != (l1.length : Int)) = true := bne_iff_ne.mpr c3
    have c3b2 : (l0.length == l1.length) = false := by first | simpa using c3 | (simp at c3 ⊢; omega)
    obtain rfl := Option.some.inj H
    go_enter Try.func26, Try.ntmps26
    go_wp2
    repeat (go_quiet (fail); try go_wp2)
    go_ret
    exact ⟨by first | rfl | (simp; done) | (simp [*]; done), by repeat (first | exact Drawn0.refl _ | apply Drawn0.step)⟩

-- NOT PRINTED: function 27 (demark_Deframer_Errno)

-- NOT PRINTED: function 28 (demark_Deframer_Held)

-- NOT PRINTED: function 29 (demark_Deframer_Clean)

-- NOT PRINTED: function 30 (truchmanlaw04_lives)

-- NOT PRINTED: function 5 (truchmanlaw04_DemarkFeeds)

-- NOT PRINTED: function 6 (truchmanlaw04_DemarkRound)

-- NOT PRINTED: function 7 (truchmanlaw04_DemarkCuts)

-- NOT PRINTED: function 8 (truchmanlaw04_DemarkErrors)

-- NOT PRINTED: function 9 (truchmanlaw04_DemarkNews)

end Go.Proofs.Ytfoifcilacbipaa.P
