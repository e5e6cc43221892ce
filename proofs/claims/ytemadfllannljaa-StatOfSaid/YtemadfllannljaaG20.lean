/- Hand-made contracts of stat: Qid, Of. -/
import Derived.Test.YtemadfllannljaaG0
import Derived.Test.YtemadfllannljaaWMore
import Derived.Test.YtemadfllannljaaWEqStruct
import Derived.Deep.RegionHeld3
import Derived.Below
namespace Go.Proofs.Ytemadfllannljaa.G
open Go.RowKit Go.Proofs.YtemadfllannljaaW.PrintWords Go.Proofs.YtemadfllannljaaW.PrintLast Go.Proofs.YtemadfllannljaaW.PrintMore
set_option linter.unusedVariables false
set_option linter.unusedSimpArgs false

theorem bcell {W w1 : World} (hb : Below W.heap.size W w1) : (∀ b o, b < W.heap.size → w1.cell? ⟨b, o, none⟩ = W.cell? ⟨b, o, none⟩) ∧ (∀ b o, b < W.heap.size → w1.frozen? ⟨b, o, none⟩ = W.frozen? ⟨b, o, none⟩) :=
  ⟨fun b o h => hb.cell (p := ⟨b, o, none⟩) h, fun b o h => hb.frozen (p := ⟨b, o, none⟩) h⟩

theorem eqQid (d : Nat) (w : World) (x0 y0 : Bool) (x1 y1 x2 y2 : Int) :
    (Op.equalIn (d + 2) 38 (.agg #[.bool x0, .int .i64 x1, .int .i64 x2]) (.agg #[.bool y0, .int .i64 y1, .int .i64 y2])).run Try.prog w = .ok (x0 == y0 && (x1 == y1 && (x2 == y2))) w := by
  refine eqA_of Try.underlying38 (by kernel_rfl) ?_
  refine eqf_cons (by rfl) (by go_simp; rfl) (by go_simp; rfl) (by go_simp) ?_
  refine eqf_cons (by rfl) (by go_simp; rfl) (by go_simp; rfl) (by go_simp) ?_
  exact eqf_last (by rfl) (by go_simp; rfl) (by go_simp; rfl) (by go_simp)

set_option maxHeartbeats 8000000 in
set_option maxRecDepth 100000 in
theorem Qid_calls (i g k m z : Int) (w : World) :
    Calls Try.prog 11 #[.agg #[.int .i64 i, .int .i64 g, .int .i64 k, .int .i64 m, .int .i64 z]] w fun e w' => e = .returned (.agg #[.bool (decide (k = 1)), .int .i64 g, .int .i64 i]) ∧ Below w.heap.size w w' := by
  have hu1 := Try.underlying34
  have hu2 := Try.underlying38
  have hu3 := Try.underlying32
  rcases Classical.em (k = 1) with h | h
  · subst h
    go_enter Try.func11, Try.ntmps11
    go_wp2_with fail
    refine bodyPost_ret (v := .agg #[.bool true, .int .i64 g, .int .i64 i]) (by simp [results, Try.results11, go_sem]) rfl ⟨by simp, ?_⟩
    exact below_alloc (below_alloc (Below.refl _ _) _) _
  · have h' : (k == 1) = false := by simpa using h
    go_enter Try.func11, Try.ntmps11
    go_wp2_with fail
    refine bodyPost_ret (v := .agg #[.bool false, .int .i64 g, .int .i64 i]) (by simp [results, Try.results11, go_sem]) rfl ⟨by simp [h], ?_⟩
    exact below_alloc (below_alloc (Below.refl _ _) _) _

set_option maxHeartbeats 8000000 in
set_option maxRecDepth 100000 in
theorem Of_calls (s : ByteArray) (i g k m z : Int) (w : World) :
    Calls Try.prog 13 #[.string s, .agg #[.int .i64 i, .int .i64 g, .int .i64 k, .int .i64 m, .int .i64 z]] w fun e w' => e = .returned (.agg #[.bool (decide (k = 1)), .int .i64 g, .int .i64 i, .int .i64 (if k = 1 then Go.bits .or .i64 m 2147483648 else m), .int .i64 (if k = 1 then 0 else z), .string s]) ∧ Below w.heap.size w w' := by
  have hu1 := Try.underlying34
  have hu2 := Try.underlying38
  have hu3 := Try.underlying32
  have hu4 := Try.underlying41
  rcases Classical.em (k = 1) with h | h
  · subst h
    simp only [decide_true, if_true]
    go_enter Try.func13, Try.ntmps13
    go_wp2_with fail
    obtain ⟨w2, hw2⟩ : ∃ w2, w2 = ((w.alloc (.cells #[.int .i64 i, .int .i64 g, .int .i64 1, .int .i64 m, .int .i64 z] 34)).alloc (.cells #[.bool false, .int .i64 0, .int .i64 0, .int .i64 0, .int .i64 0, .string ⟨#[]⟩] 41)) := ⟨_, rfl⟩
    have hb2 : Below w.heap.size w w2 := by rw [hw2]; exact below_alloc (below_alloc (Below.refl _ _) _) _
    have hsz : w2.heap.size = w.heap.size + 1 + 1 := by rw [hw2]; simp
    have hblk : w2.heap[w.heap.size]? = some (.cells #[.int .i64 i, .int .i64 g, .int .i64 1, .int .i64 m, .int .i64 z] 34 (0, 0)) := by rw [hw2]; exact blk_alloc (heap_alloc_new w _) _
    have hblk2 : w2.heap[w.heap.size + 1]? = some (.cells #[.bool false, .int .i64 0, .int .i64 0, .int .i64 0, .int .i64 0, .string ⟨#[]⟩] 41 (0, 0)) := by rw [hw2]; have h := heap_alloc_new (w.alloc (.cells #[.int .i64 i, .int .i64 g, .int .i64 1, .int .i64 m, .int .i64 z] 34)) (.cells #[.bool false, .int .i64 0, .int .i64 0, .int .i64 0, .int .i64 0, .string ⟨#[]⟩] 41); simpa using h
    rw [← hw2]
    obtain ⟨ga, hga⟩ : ∃ ga, ga = w.heap.size := ⟨_, rfl⟩
    obtain ⟨gr, hgr⟩ : ∃ gr, gr = w.heap.size + 1 := ⟨_, rfl⟩
    have HS : Aside0 (∀ W, Below w2.heap.size w2 W → W.cell? ⟨ga, 0, none⟩ = some (.int .i64 i) ∧ W.cell? ⟨ga, 1, none⟩ = some (.int .i64 g) ∧ W.cell? ⟨ga, 2, none⟩ = some (.int .i64 1) ∧ W.cell? ⟨ga, 3, none⟩ = some (.int .i64 m) ∧ W.cell? ⟨ga, 4, none⟩ = some (.int .i64 z)) := ⟨fun W hW => by
      have hlt : w.heap.size < w2.heap.size := by omega
      have e : ∀ o, W.cell? ⟨ga, o, none⟩ = w2.cell? ⟨w.heap.size, o, none⟩ := fun o => by rw [hga]; exact hW.cell (p := ⟨w.heap.size, o, none⟩) hlt
      rw [e, e, e, e, e]
      exact ⟨(blk_cell hblk 0).trans rfl, (blk_cell hblk 1).trans rfl, (blk_cell hblk 2).trans rfl, (blk_cell hblk 3).trans rfl, (blk_cell hblk 4).trans rfl⟩⟩
    rw [← hgr, ← hga]
    have HB2 := Aside0.mk hb2
    have HR := Aside0.mk hblk2
    have HGR : Aside0 (gr < w2.heap.size ∧ ga < w2.heap.size ∧ w.heap.size ≤ gr) := ⟨by omega⟩
    have hH := hga
    clear hb2 hblk hblk2 hw2 hsz
    rw [← hgr] at HR
    have HGRe := Aside0.mk hgr
    have HGA := Aside0.mk hH
    clear hga hgr hH
    obtain ⟨c0, c1, c2, c3, c4⟩ := HS.out w2 (Below.refl _ _)
    refine wp_region_held_drew (S := fun W => W.cell? ⟨ga, 0, none⟩ = some (.int .i64 i) ∧ W.cell? ⟨ga, 1, none⟩ = some (.int .i64 g) ∧ W.cell? ⟨ga, 2, none⟩ = some (.int .i64 1) ∧ W.cell? ⟨ga, 3, none⟩ = some (.int .i64 m) ∧ W.cell? ⟨ga, 4, none⟩ = some (.int .i64 z)) (by kernel_rfl) (HS.out _ (below_drew (Below.refl _ _))) (fun hHeld => ?_)
    (refine wpAnyH_take (i := 0) (oi := _) (v := ?_) rfl (by kernel_rfl) (by kernel_rfl) (by kernel_rfl) (fun _ _ _ h => h) (Or.inl ⟨by rfl, ?_⟩) (by assumption) ?_; rotate_left; (intro w hSw; (try dsimp only at hSw); go_simp); try with_reducible rfl)
    (try simp only [Act.put, List.setIfInBounds_toArray, List.set_cons_zero, List.set_cons_succ])
    (refine wpAnyH_take (i := 2) (oi := _) (v := ?_) rfl (by kernel_rfl) (by kernel_rfl) (by kernel_rfl) (fun _ _ _ h => h) (Or.inl ⟨by rfl, ?_⟩) (by assumption) ?_; rotate_left; (intro w hSw; (try dsimp only at hSw); go_simp); try with_reducible rfl)
    (try simp only [Act.put, List.setIfInBounds_toArray, List.set_cons_zero, List.set_cons_succ])
    (refine wpAnyH_take (i := 3) (oi := _) (v := ?_) rfl (by kernel_rfl) (by kernel_rfl) (by kernel_rfl) (fun _ _ _ h => h) (Or.inl ⟨by rfl, ?_⟩) (by assumption) ?_; rotate_left; (intro w hSw; (try dsimp only at hSw); go_simp); try with_reducible rfl)
    (try simp only [Act.put, List.setIfInBounds_toArray, List.set_cons_zero, List.set_cons_succ])
    (refine wpAnyH_take (i := 4) (oi := _) (v := ?_) rfl (by kernel_rfl) (by kernel_rfl) (by kernel_rfl) (fun _ _ _ h => h) (Or.inl ⟨by rfl, ?_⟩) (by assumption) ?_; rotate_left; (intro w hSw; (try dsimp only at hSw); go_simp); try with_reducible rfl)
    (try simp only [Act.put, List.setIfInBounds_toArray, List.set_cons_zero, List.set_cons_succ])
    (refine wpAnyH_take (i := 5) (oi := _) (v := ?_) rfl (by kernel_rfl) (by kernel_rfl) (by kernel_rfl) (fun _ _ _ h => h) (Or.inl ⟨by rfl, ?_⟩) (by assumption) ?_; rotate_left; (intro w hSw; (try dsimp only at hSw); go_simp); try with_reducible rfl)
    (try simp only [Act.put, List.setIfInBounds_toArray, List.set_cons_zero, List.set_cons_succ])
    (refine wpAnyH_take (i := 6) (oi := _) (v := ?_) rfl (by kernel_rfl) (by kernel_rfl) (by kernel_rfl) (fun _ _ _ h => h) (Or.inl ⟨by rfl, ?_⟩) (by assumption) ?_; rotate_left; (intro w hSw; (try dsimp only at hSw); go_simp); try with_reducible rfl)
    (try simp only [Act.put, List.setIfInBounds_toArray, List.set_cons_zero, List.set_cons_succ])
    refine wpAnyH_ready (rs := [1, 8]) (by kernel_rfl) (by simp) (AllReadyH.cons (o := _) rfl (fun K hK => ?_) (AllReadyH.cons (o := _) rfl (fun K hK => ?_) AllReadyH.nil))
    · go_simp
      (go_at_call 11; refine (Qid_calls i g 1 m z _).mono ?_; rintro r wq ⟨rfl, hbq⟩)
      simp only [decide_true] at *
      have HQ := below_then (below_drew (Below.refl w2.heap.size w2)) (Nat.le_refl _) hbq
      refine hK.out _ _ (by exact HS.out _ HQ) (fun hHeld => ?_)
      clear hK K
      (try simp only [Act.put, List.setIfInBounds_toArray, List.set_cons_zero, List.set_cons_succ])
      (refine wpAnyH_take (i := 7) (oi := _) (v := ?_) rfl (by kernel_rfl) (by kernel_rfl) (by kernel_rfl) (fun _ _ _ h => h) (Or.inl ⟨by rfl, ?_⟩) (by assumption) ?_; rotate_left; (intro w hSw; (try dsimp only at hSw); go_simp); try with_reducible rfl)
      (try simp only [Act.put, List.setIfInBounds_toArray, List.set_cons_zero, List.set_cons_succ])
      refine wpAnyH_ready (rs := [8]) (by kernel_rfl) (by simp) (AllReadyH.cons (o := _) rfl (fun K hK => ?_) AllReadyH.nil)
      go_simp
      refine hK.out _ _ (by exact HS.out _ (below_alloc HQ _)) (fun hHeld => ?_)
      clear hK K
      (try simp only [Act.put, List.setIfInBounds_toArray, List.set_cons_zero, List.set_cons_succ])
      refine wpAnyH_ready (rs := [9]) (by kernel_rfl) (by simp) (AllReadyH.cons (o := _) rfl (fun K hK => ?_) AllReadyH.nil)
      go_simp
      refine hK.out _ _ (by exact HS.out _ (below_alloc HQ _)) (fun hHeld => ?_)
      clear hK K
      (try simp only [Act.put, List.setIfInBounds_toArray, List.set_cons_zero, List.set_cons_succ])
      refine wpAnyH_done (by kernel_rfl) ?_ _
      obtain ⟨wZ, hwZ⟩ : ∃ wZ, wZ = wq.alloc (.cells #[.bool true, .int .i64 g, .int .i64 i, .int .i64 m, .int .i64 z, .string s] 41) := ⟨_, rfl⟩
      have hbN : wZ.heap[wq.heap.size]? = some (.cells #[.bool true, .int .i64 g, .int .i64 i, .int .i64 m, .int .i64 z, .string s] 41 (0, 0)) := by rw [hwZ]; exact heap_alloc_new wq _
      have hbZ : Below w2.heap.size w2 wZ := by rw [hwZ]; exact below_alloc HQ _
      have hN : w2.heap.size ≤ wq.heap.size := HQ.size
      obtain ⟨gN, hgN⟩ : ∃ gN, gN = wq.heap.size := ⟨_, rfl⟩
      rw [← hgN] at hbN hN
      rw [← hwZ, ← hgN]
      clear hwZ hgN HQ hbq hHeld
      have hRZ : wZ.heap[gr]? = some (.cells #[.bool false, .int .i64 0, .int .i64 0, .int .i64 0, .int .i64 0, .string ⟨#[]⟩] 41 (0, 0)) := (hbZ.block gr HGR.out.1).trans HR.out
      have hgg : gr ≠ gN := by have := HGR.out.1; omega
      have hgg2 : gN ≠ gr := by omega
      obtain ⟨z0, z1, z2, z3, z4⟩ := HS.out wZ hbZ
      have k0 : wZ.cell? ⟨gN, 0, none⟩ = some (.bool true) := (blk_cell hbN 0).trans rfl
      have f0 := blk_frozen hbN 0
      have k1 : wZ.cell? ⟨gN, 1, none⟩ = some (.int .i64 g) := (blk_cell hbN 1).trans rfl
      have f1 := blk_frozen hbN 1
      have k2 : wZ.cell? ⟨gN, 2, none⟩ = some (.int .i64 i) := (blk_cell hbN 2).trans rfl
      have f2 := blk_frozen hbN 2
      have k3 : wZ.cell? ⟨gN, 3, none⟩ = some (.int .i64 m) := (blk_cell hbN 3).trans rfl
      have f3 := blk_frozen hbN 3
      have k4 : wZ.cell? ⟨gN, 4, none⟩ = some (.int .i64 z) := (blk_cell hbN 4).trans rfl
      have f4 := blk_frozen hbN 4
      have k5 : wZ.cell? ⟨gN, 5, none⟩ = some (.string s) := (blk_cell hbN 5).trans rfl
      have f5 := blk_frozen hbN 5
      have r0 : wZ.cell? ⟨gr, 0, none⟩ = some (.bool false) := (blk_cell hRZ 0).trans rfl
      have q0 := blk_frozen hRZ 0
      have r1 : wZ.cell? ⟨gr, 1, none⟩ = some (.int .i64 0) := (blk_cell hRZ 1).trans rfl
      have q1 := blk_frozen hRZ 1
      have r2 : wZ.cell? ⟨gr, 2, none⟩ = some (.int .i64 0) := (blk_cell hRZ 2).trans rfl
      have q2 := blk_frozen hRZ 2
      have r3 : wZ.cell? ⟨gr, 3, none⟩ = some (.int .i64 0) := (blk_cell hRZ 3).trans rfl
      have q3 := blk_frozen hRZ 3
      have r4 : wZ.cell? ⟨gr, 4, none⟩ = some (.int .i64 0) := (blk_cell hRZ 4).trans rfl
      have q4 := blk_frozen hRZ 4
      have r5 : wZ.cell? ⟨gr, 5, none⟩ = some (.string ⟨#[]⟩) := (blk_cell hRZ 5).trans rfl
      have q5 := blk_frozen hRZ 5
      clear c0 c1 c2 c3 c4
      have heq := fun (d : Nat) (W : World) => eqQid d W true false g g i i
      simp only [beq_self_eq_true, Bool.and_true, Bool.and_self] at heq
      go_wp2_with fail
      obtain ⟨wF, hwF⟩ : ∃ wF, wF = ((((((((wZ.setCell ⟨gN, 3, none⟩ (.int .i64 (Go.bits .or .i64 m 2147483648))).setCell ⟨gN, 4, none⟩ (.int .i64 0)).setCell ⟨gr, 0, none⟩ (.bool true)).setCell ⟨gr, 1, none⟩ (.int .i64 g)).setCell ⟨gr, 2, none⟩ (.int .i64 i)).setCell ⟨gr, 3, none⟩ (.int .i64 (Go.bits .or .i64 m 2147483648))).setCell ⟨gr, 4, none⟩ (.int .i64 0)).setCell ⟨gr, 5, none⟩ (.string s)) := ⟨_, rfl⟩
      have hF : wF.heap[gr]? = some (.cells #[.bool true, .int .i64 g, .int .i64 i, .int .i64 (Go.bits .or .i64 m 2147483648), .int .i64 0, .string s] 41 (0, 0)) := by rw [hwF]; exact (blk_put (cs' := #[.bool true, .int .i64 g, .int .i64 i, .int .i64 (Go.bits .or .i64 m 2147483648), .int .i64 0, .string s]) (blk_put (cs' := #[.bool true, .int .i64 g, .int .i64 i, .int .i64 (Go.bits .or .i64 m 2147483648), .int .i64 0, .string ⟨#[]⟩]) (blk_put (cs' := #[.bool true, .int .i64 g, .int .i64 i, .int .i64 (Go.bits .or .i64 m 2147483648), .int .i64 0, .string ⟨#[]⟩]) (blk_put (cs' := #[.bool true, .int .i64 g, .int .i64 i, .int .i64 0, .int .i64 0, .string ⟨#[]⟩]) (blk_put (cs' := #[.bool true, .int .i64 g, .int .i64 0, .int .i64 0, .int .i64 0, .string ⟨#[]⟩]) (blk_put (cs' := #[.bool true, .int .i64 0, .int .i64 0, .int .i64 0, .int .i64 0, .string ⟨#[]⟩]) (blk_far (blk_far hRZ (p := ⟨gN, 3, none⟩) hgg (.int .i64 (Go.bits .or .i64 m 2147483648))) (p := ⟨gN, 4, none⟩) hgg (.int .i64 0)) 0 (.bool true) rfl) 1 (.int .i64 g) rfl) 2 (.int .i64 i) rfl) 3 (.int .i64 (Go.bits .or .i64 m 2147483648)) rfl) 4 (.int .i64 0) rfl) 5 (.string s) rfl)
      have h0 := below_then HB2.out HB2.out.size hbZ
      have hg1 : w.heap.size ≤ gN := by have := HB2.out.size; omega
      have hg2 := HGR.out.2.2
      have hbF : Below w.heap.size w wF := by rw [hwF]; exact ((((((((h0.setCell hg1 _).setCell hg1 _).setCell hg2 _).setCell hg2 _).setCell hg2 _).setCell hg2 _).setCell hg2 _).setCell hg2 _)
      rw [← hwF]
      clear hwF h0 k0 k1 k2 k3 k4 k5 f0 f1 f2 f3 f4 f5 r0 r1 r2 r3 r4 r5 q0 q1 q2 q3 q4 q5 z0 z1 z2 z3 z4 heq
      have e0 : wF.cell? ⟨gr, 0, none⟩ = some (.bool true) := (blk_cell hF 0).trans rfl
      have e1 : wF.cell? ⟨gr, 1, none⟩ = some (.int .i64 g) := (blk_cell hF 1).trans rfl
      have e2 : wF.cell? ⟨gr, 2, none⟩ = some (.int .i64 i) := (blk_cell hF 2).trans rfl
      have e3 : wF.cell? ⟨gr, 3, none⟩ = some (.int .i64 (Go.bits .or .i64 m 2147483648)) := (blk_cell hF 3).trans rfl
      have e4 : wF.cell? ⟨gr, 4, none⟩ = some (.int .i64 0) := (blk_cell hF 4).trans rfl
      have e5 : wF.cell? ⟨gr, 5, none⟩ = some (.string s) := (blk_cell hF 5).trans rfl
      exact bodyPost_ret (v := .agg #[.bool true, .int .i64 g, .int .i64 i, .int .i64 (Go.bits .or .i64 m 2147483648), .int .i64 0, .string s]) (by simp [results, Try.results13, go_sem, e0, e1, e2, e3, e4, e5]) rfl ⟨rfl, hbF⟩
    · go_simp
      refine hK.out _ _ (by exact HS.out _ (below_alloc (below_drew (Below.refl _ _)) _)) (fun hHeld => ?_)
      clear hK K
      (try simp only [Act.put, List.setIfInBounds_toArray, List.set_cons_zero, List.set_cons_succ])
      refine wpAnyH_ready (rs := [1]) (by kernel_rfl) (by simp) (AllReadyH.cons (o := _) rfl (fun K hK => ?_) AllReadyH.nil)
      go_simp
      (go_at_call 11; refine (Qid_calls i g 1 m z _).mono ?_; rintro r wq ⟨rfl, hbq⟩)
      simp only [decide_true] at *
      have HQ := below_then (below_alloc (below_drew (Below.refl w2.heap.size w2)) _) (by simp) hbq
      refine hK.out _ _ (by exact HS.out _ HQ) (fun hHeld => ?_)
      clear hK K
      (try simp only [Act.put, List.setIfInBounds_toArray, List.set_cons_zero, List.set_cons_succ])
      (refine wpAnyH_take (i := 7) (oi := _) (v := ?_) rfl (by kernel_rfl) (by kernel_rfl) (by kernel_rfl) (fun _ _ _ h => h) (Or.inl ⟨by rfl, ?_⟩) (by assumption) ?_; rotate_left; (intro w hSw; (try dsimp only at hSw); go_simp); try with_reducible rfl)
      (try simp only [Act.put, List.setIfInBounds_toArray, List.set_cons_zero, List.set_cons_succ])
      have hb0 : wq.heap[w2.heap.size]? = some (.cells #[.bool false, .int .i64 0, .int .i64 0, .int .i64 0, .int .i64 0, .string ⟨#[]⟩] 41 (0, 0)) := (hbq.block w2.heap.size (by simp)).trans (heap_alloc_new w2.drew _)
      have k0 : wq.cell? ⟨w2.heap.size, 0, none⟩ = some (.bool false) := (blk_cell hb0 0).trans rfl
      have f0 := blk_frozen hb0 0
      have k1 : wq.cell? ⟨w2.heap.size, 1, none⟩ = some (.int .i64 0) := (blk_cell hb0 1).trans rfl
      have f1 := blk_frozen hb0 1
      have k2 : wq.cell? ⟨w2.heap.size, 2, none⟩ = some (.int .i64 0) := (blk_cell hb0 2).trans rfl
      have f2 := blk_frozen hb0 2
      have k3 : wq.cell? ⟨w2.heap.size, 3, none⟩ = some (.int .i64 0) := (blk_cell hb0 3).trans rfl
      have f3 := blk_frozen hb0 3
      have k4 : wq.cell? ⟨w2.heap.size, 4, none⟩ = some (.int .i64 0) := (blk_cell hb0 4).trans rfl
      have f4 := blk_frozen hb0 4
      have k5 : wq.cell? ⟨w2.heap.size, 5, none⟩ = some (.string ⟨#[]⟩) := (blk_cell hb0 5).trans rfl
      have f5 := blk_frozen hb0 5
      refine wpAnyH_ready (rs := [9]) (by kernel_rfl) (by simp) (AllReadyH.cons (o := _) rfl (fun K hK => ?_) AllReadyH.nil)
      go_simp
      have HQ2 : Below w2.heap.size w2 ((((((wq.setCell ⟨w2.heap.size, 0, none⟩ (.bool true)).setCell ⟨w2.heap.size, 1, none⟩ (.int .i64 g)).setCell ⟨w2.heap.size, 2, none⟩ (.int .i64 i)).setCell ⟨w2.heap.size, 3, none⟩ (.int .i64 m)).setCell ⟨w2.heap.size, 4, none⟩ (.int .i64 z)).setCell ⟨w2.heap.size, 5, none⟩ (.string s)) := (((((HQ.setCell (Nat.le_refl _) _).setCell (Nat.le_refl _) _).setCell (Nat.le_refl _) _).setCell (Nat.le_refl _) _).setCell (Nat.le_refl _) _).setCell (Nat.le_refl _) _
      refine hK.out _ _ (by exact HS.out _ HQ2) (fun hHeld => ?_)
      clear hK K
      (try simp only [Act.put, List.setIfInBounds_toArray, List.set_cons_zero, List.set_cons_succ])
      refine wpAnyH_done (by kernel_rfl) ?_ _
      obtain ⟨wZ, hwZ⟩ : ∃ wZ, wZ = ((((((wq.setCell ⟨w2.heap.size, 0, none⟩ (.bool true)).setCell ⟨w2.heap.size, 1, none⟩ (.int .i64 g)).setCell ⟨w2.heap.size, 2, none⟩ (.int .i64 i)).setCell ⟨w2.heap.size, 3, none⟩ (.int .i64 m)).setCell ⟨w2.heap.size, 4, none⟩ (.int .i64 z)).setCell ⟨w2.heap.size, 5, none⟩ (.string s)) := ⟨_, rfl⟩
      have hbN : wZ.heap[w2.heap.size]? = some (.cells #[.bool true, .int .i64 g, .int .i64 i, .int .i64 m, .int .i64 z, .string s] 41 (0, 0)) := by rw [hwZ]; exact (blk_put (cs := #[.bool true, .int .i64 g, .int .i64 i, .int .i64 m, .int .i64 z, .string ⟨#[]⟩]) (blk_put (cs := #[.bool true, .int .i64 g, .int .i64 i, .int .i64 m, .int .i64 0, .string ⟨#[]⟩]) (blk_put (cs := #[.bool true, .int .i64 g, .int .i64 i, .int .i64 0, .int .i64 0, .string ⟨#[]⟩]) (blk_put (cs := #[.bool true, .int .i64 g, .int .i64 0, .int .i64 0, .int .i64 0, .string ⟨#[]⟩]) (blk_put (cs := #[.bool true, .int .i64 0, .int .i64 0, .int .i64 0, .int .i64 0, .string ⟨#[]⟩]) (blk_put (cs := #[.bool false, .int .i64 0, .int .i64 0, .int .i64 0, .int .i64 0, .string ⟨#[]⟩]) hb0 0 (.bool true) rfl) 1 (.int .i64 g) rfl) 2 (.int .i64 i) rfl) 3 (.int .i64 m) rfl) 4 (.int .i64 z) rfl) 5 (.string s) rfl)
      have hbZ : Below w2.heap.size w2 wZ := by rw [hwZ]; exact HQ2
      have hN : w2.heap.size ≤ w2.heap.size := Nat.le_refl _
      obtain ⟨gN, hgN⟩ : ∃ gN, gN = w2.heap.size := ⟨_, rfl⟩
      have hN : w2.heap.size ≤ gN := by omega
      rw [← hgN] at hbN
      rw [← hwZ, ← hgN]
      clear hwZ hgN HQ HQ2 hbq hHeld hb0 k0 k1 k2 k3 k4 k5 f0 f1 f2 f3 f4 f5
      have hRZ : wZ.heap[gr]? = some (.cells #[.bool false, .int .i64 0, .int .i64 0, .int .i64 0, .int .i64 0, .string ⟨#[]⟩] 41 (0, 0)) := (hbZ.block gr HGR.out.1).trans HR.out
      have hgg : gr ≠ gN := by have := HGR.out.1; omega
      have hgg2 : gN ≠ gr := by omega
      obtain ⟨z0, z1, z2, z3, z4⟩ := HS.out wZ hbZ
      have k0 : wZ.cell? ⟨gN, 0, none⟩ = some (.bool true) := (blk_cell hbN 0).trans rfl
      have f0 := blk_frozen hbN 0
      have k1 : wZ.cell? ⟨gN, 1, none⟩ = some (.int .i64 g) := (blk_cell hbN 1).trans rfl
      have f1 := blk_frozen hbN 1
      have k2 : wZ.cell? ⟨gN, 2, none⟩ = some (.int .i64 i) := (blk_cell hbN 2).trans rfl
      have f2 := blk_frozen hbN 2
      have k3 : wZ.cell? ⟨gN, 3, none⟩ = some (.int .i64 m) := (blk_cell hbN 3).trans rfl
      have f3 := blk_frozen hbN 3
      have k4 : wZ.cell? ⟨gN, 4, none⟩ = some (.int .i64 z) := (blk_cell hbN 4).trans rfl
      have f4 := blk_frozen hbN 4
      have k5 : wZ.cell? ⟨gN, 5, none⟩ = some (.string s) := (blk_cell hbN 5).trans rfl
      have f5 := blk_frozen hbN 5
      have r0 : wZ.cell? ⟨gr, 0, none⟩ = some (.bool false) := (blk_cell hRZ 0).trans rfl
      have q0 := blk_frozen hRZ 0
      have r1 : wZ.cell? ⟨gr, 1, none⟩ = some (.int .i64 0) := (blk_cell hRZ 1).trans rfl
      have q1 := blk_frozen hRZ 1
      have r2 : wZ.cell? ⟨gr, 2, none⟩ = some (.int .i64 0) := (blk_cell hRZ 2).trans rfl
      have q2 := blk_frozen hRZ 2
      have r3 : wZ.cell? ⟨gr, 3, none⟩ = some (.int .i64 0) := (blk_cell hRZ 3).trans rfl
      have q3 := blk_frozen hRZ 3
      have r4 : wZ.cell? ⟨gr, 4, none⟩ = some (.int .i64 0) := (blk_cell hRZ 4).trans rfl
      have q4 := blk_frozen hRZ 4
      have r5 : wZ.cell? ⟨gr, 5, none⟩ = some (.string ⟨#[]⟩) := (blk_cell hRZ 5).trans rfl
      have q5 := blk_frozen hRZ 5
      clear c0 c1 c2 c3 c4
      have heq := fun (d : Nat) (W : World) => eqQid d W true false g g i i
      simp only [beq_self_eq_true, Bool.and_true, Bool.and_self] at heq
      go_wp2_with fail
      obtain ⟨wF, hwF⟩ : ∃ wF, wF = ((((((((wZ.setCell ⟨gN, 3, none⟩ (.int .i64 (Go.bits .or .i64 m 2147483648))).setCell ⟨gN, 4, none⟩ (.int .i64 0)).setCell ⟨gr, 0, none⟩ (.bool true)).setCell ⟨gr, 1, none⟩ (.int .i64 g)).setCell ⟨gr, 2, none⟩ (.int .i64 i)).setCell ⟨gr, 3, none⟩ (.int .i64 (Go.bits .or .i64 m 2147483648))).setCell ⟨gr, 4, none⟩ (.int .i64 0)).setCell ⟨gr, 5, none⟩ (.string s)) := ⟨_, rfl⟩
      have hF : wF.heap[gr]? = some (.cells #[.bool true, .int .i64 g, .int .i64 i, .int .i64 (Go.bits .or .i64 m 2147483648), .int .i64 0, .string s] 41 (0, 0)) := by rw [hwF]; exact (blk_put (cs' := #[.bool true, .int .i64 g, .int .i64 i, .int .i64 (Go.bits .or .i64 m 2147483648), .int .i64 0, .string s]) (blk_put (cs' := #[.bool true, .int .i64 g, .int .i64 i, .int .i64 (Go.bits .or .i64 m 2147483648), .int .i64 0, .string ⟨#[]⟩]) (blk_put (cs' := #[.bool true, .int .i64 g, .int .i64 i, .int .i64 (Go.bits .or .i64 m 2147483648), .int .i64 0, .string ⟨#[]⟩]) (blk_put (cs' := #[.bool true, .int .i64 g, .int .i64 i, .int .i64 0, .int .i64 0, .string ⟨#[]⟩]) (blk_put (cs' := #[.bool true, .int .i64 g, .int .i64 0, .int .i64 0, .int .i64 0, .string ⟨#[]⟩]) (blk_put (cs' := #[.bool true, .int .i64 0, .int .i64 0, .int .i64 0, .int .i64 0, .string ⟨#[]⟩]) (blk_far (blk_far hRZ (p := ⟨gN, 3, none⟩) hgg (.int .i64 (Go.bits .or .i64 m 2147483648))) (p := ⟨gN, 4, none⟩) hgg (.int .i64 0)) 0 (.bool true) rfl) 1 (.int .i64 g) rfl) 2 (.int .i64 i) rfl) 3 (.int .i64 (Go.bits .or .i64 m 2147483648)) rfl) 4 (.int .i64 0) rfl) 5 (.string s) rfl)
      have h0 := below_then HB2.out HB2.out.size hbZ
      have hg1 : w.heap.size ≤ gN := by have := HB2.out.size; omega
      have hg2 := HGR.out.2.2
      have hbF : Below w.heap.size w wF := by rw [hwF]; exact ((((((((h0.setCell hg1 _).setCell hg1 _).setCell hg2 _).setCell hg2 _).setCell hg2 _).setCell hg2 _).setCell hg2 _).setCell hg2 _)
      rw [← hwF]
      clear hwF h0 k0 k1 k2 k3 k4 k5 f0 f1 f2 f3 f4 f5 r0 r1 r2 r3 r4 r5 q0 q1 q2 q3 q4 q5 z0 z1 z2 z3 z4 heq
      have e0 : wF.cell? ⟨gr, 0, none⟩ = some (.bool true) := (blk_cell hF 0).trans rfl
      have e1 : wF.cell? ⟨gr, 1, none⟩ = some (.int .i64 g) := (blk_cell hF 1).trans rfl
      have e2 : wF.cell? ⟨gr, 2, none⟩ = some (.int .i64 i) := (blk_cell hF 2).trans rfl
      have e3 : wF.cell? ⟨gr, 3, none⟩ = some (.int .i64 (Go.bits .or .i64 m 2147483648)) := (blk_cell hF 3).trans rfl
      have e4 : wF.cell? ⟨gr, 4, none⟩ = some (.int .i64 0) := (blk_cell hF 4).trans rfl
      have e5 : wF.cell? ⟨gr, 5, none⟩ = some (.string s) := (blk_cell hF 5).trans rfl
      exact bodyPost_ret (v := .agg #[.bool true, .int .i64 g, .int .i64 i, .int .i64 (Go.bits .or .i64 m 2147483648), .int .i64 0, .string s]) (by simp [results, Try.results13, go_sem, e0, e1, e2, e3, e4, e5]) rfl ⟨rfl, hbF⟩
  · have hdk : decide (k = 1) = false := by simpa using h
    rw [hdk, if_neg h, if_neg h]
    go_enter Try.func13, Try.ntmps13
    go_wp2_with fail
    obtain ⟨w2, hw2⟩ : ∃ w2, w2 = ((w.alloc (.cells #[.int .i64 i, .int .i64 g, .int .i64 k, .int .i64 m, .int .i64 z] 34)).alloc (.cells #[.bool false, .int .i64 0, .int .i64 0, .int .i64 0, .int .i64 0, .string ⟨#[]⟩] 41)) := ⟨_, rfl⟩
    have hb2 : Below w.heap.size w w2 := by rw [hw2]; exact below_alloc (below_alloc (Below.refl _ _) _) _
    have hsz : w2.heap.size = w.heap.size + 1 + 1 := by rw [hw2]; simp
    have hblk : w2.heap[w.heap.size]? = some (.cells #[.int .i64 i, .int .i64 g, .int .i64 k, .int .i64 m, .int .i64 z] 34 (0, 0)) := by rw [hw2]; exact blk_alloc (heap_alloc_new w _) _
    have hblk2 : w2.heap[w.heap.size + 1]? = some (.cells #[.bool false, .int .i64 0, .int .i64 0, .int .i64 0, .int .i64 0, .string ⟨#[]⟩] 41 (0, 0)) := by rw [hw2]; have h := heap_alloc_new (w.alloc (.cells #[.int .i64 i, .int .i64 g, .int .i64 k, .int .i64 m, .int .i64 z] 34)) (.cells #[.bool false, .int .i64 0, .int .i64 0, .int .i64 0, .int .i64 0, .string ⟨#[]⟩] 41); simpa using h
    rw [← hw2]
    obtain ⟨ga, hga⟩ : ∃ ga, ga = w.heap.size := ⟨_, rfl⟩
    obtain ⟨gr, hgr⟩ : ∃ gr, gr = w.heap.size + 1 := ⟨_, rfl⟩
    have HS : Aside0 (∀ W, Below w2.heap.size w2 W → W.cell? ⟨ga, 0, none⟩ = some (.int .i64 i) ∧ W.cell? ⟨ga, 1, none⟩ = some (.int .i64 g) ∧ W.cell? ⟨ga, 2, none⟩ = some (.int .i64 k) ∧ W.cell? ⟨ga, 3, none⟩ = some (.int .i64 m) ∧ W.cell? ⟨ga, 4, none⟩ = some (.int .i64 z)) := ⟨fun W hW => by
      have hlt : w.heap.size < w2.heap.size := by omega
      have e : ∀ o, W.cell? ⟨ga, o, none⟩ = w2.cell? ⟨w.heap.size, o, none⟩ := fun o => by rw [hga]; exact hW.cell (p := ⟨w.heap.size, o, none⟩) hlt
      rw [e, e, e, e, e]
      exact ⟨(blk_cell hblk 0).trans rfl, (blk_cell hblk 1).trans rfl, (blk_cell hblk 2).trans rfl, (blk_cell hblk 3).trans rfl, (blk_cell hblk 4).trans rfl⟩⟩
    rw [← hgr, ← hga]
    have HB2 := Aside0.mk hb2
    have HR := Aside0.mk hblk2
    have HGR : Aside0 (gr < w2.heap.size ∧ ga < w2.heap.size ∧ w.heap.size ≤ gr) := ⟨by omega⟩
    have hH := hga
    clear hb2 hblk hblk2 hw2 hsz
    rw [← hgr] at HR
    have HGRe := Aside0.mk hgr
    have HGA := Aside0.mk hH
    clear hga hgr hH
    obtain ⟨c0, c1, c2, c3, c4⟩ := HS.out w2 (Below.refl _ _)
    refine wp_region_held_drew (S := fun W => W.cell? ⟨ga, 0, none⟩ = some (.int .i64 i) ∧ W.cell? ⟨ga, 1, none⟩ = some (.int .i64 g) ∧ W.cell? ⟨ga, 2, none⟩ = some (.int .i64 k) ∧ W.cell? ⟨ga, 3, none⟩ = some (.int .i64 m) ∧ W.cell? ⟨ga, 4, none⟩ = some (.int .i64 z)) (by kernel_rfl) (HS.out _ (below_drew (Below.refl _ _))) (fun hHeld => ?_)
    (refine wpAnyH_take (i := 0) (oi := _) (v := ?_) rfl (by kernel_rfl) (by kernel_rfl) (by kernel_rfl) (fun _ _ _ h => h) (Or.inl ⟨by rfl, ?_⟩) (by assumption) ?_; rotate_left; (intro w hSw; (try dsimp only at hSw); go_simp); try with_reducible rfl)
    (try simp only [Act.put, List.setIfInBounds_toArray, List.set_cons_zero, List.set_cons_succ])
    (refine wpAnyH_take (i := 2) (oi := _) (v := ?_) rfl (by kernel_rfl) (by kernel_rfl) (by kernel_rfl) (fun _ _ _ h => h) (Or.inl ⟨by rfl, ?_⟩) (by assumption) ?_; rotate_left; (intro w hSw; (try dsimp only at hSw); go_simp); try with_reducible rfl)
    (try simp only [Act.put, List.setIfInBounds_toArray, List.set_cons_zero, List.set_cons_succ])
    (refine wpAnyH_take (i := 3) (oi := _) (v := ?_) rfl (by kernel_rfl) (by kernel_rfl) (by kernel_rfl) (fun _ _ _ h => h) (Or.inl ⟨by rfl, ?_⟩) (by assumption) ?_; rotate_left; (intro w hSw; (try dsimp only at hSw); go_simp); try with_reducible rfl)
    (try simp only [Act.put, List.setIfInBounds_toArray, List.set_cons_zero, List.set_cons_succ])
    (refine wpAnyH_take (i := 4) (oi := _) (v := ?_) rfl (by kernel_rfl) (by kernel_rfl) (by kernel_rfl) (fun _ _ _ h => h) (Or.inl ⟨by rfl, ?_⟩) (by assumption) ?_; rotate_left; (intro w hSw; (try dsimp only at hSw); go_simp); try with_reducible rfl)
    (try simp only [Act.put, List.setIfInBounds_toArray, List.set_cons_zero, List.set_cons_succ])
    (refine wpAnyH_take (i := 5) (oi := _) (v := ?_) rfl (by kernel_rfl) (by kernel_rfl) (by kernel_rfl) (fun _ _ _ h => h) (Or.inl ⟨by rfl, ?_⟩) (by assumption) ?_; rotate_left; (intro w hSw; (try dsimp only at hSw); go_simp); try with_reducible rfl)
    (try simp only [Act.put, List.setIfInBounds_toArray, List.set_cons_zero, List.set_cons_succ])
    (refine wpAnyH_take (i := 6) (oi := _) (v := ?_) rfl (by kernel_rfl) (by kernel_rfl) (by kernel_rfl) (fun _ _ _ h => h) (Or.inl ⟨by rfl, ?_⟩) (by assumption) ?_; rotate_left; (intro w hSw; (try dsimp only at hSw); go_simp); try with_reducible rfl)
    (try simp only [Act.put, List.setIfInBounds_toArray, List.set_cons_zero, List.set_cons_succ])
    refine wpAnyH_ready (rs := [1, 8]) (by kernel_rfl) (by simp) (AllReadyH.cons (o := _) rfl (fun K hK => ?_) (AllReadyH.cons (o := _) rfl (fun K hK => ?_) AllReadyH.nil))
    · go_simp
      (go_at_call 11; refine (Qid_calls i g k m z _).mono ?_; (try rw [hdk]); rintro r wq ⟨rfl, hbq⟩)
      have HQ := below_then (below_drew (Below.refl w2.heap.size w2)) (Nat.le_refl _) hbq
      refine hK.out _ _ (by exact HS.out _ HQ) (fun hHeld => ?_)
      clear hK K
      (try simp only [Act.put, List.setIfInBounds_toArray, List.set_cons_zero, List.set_cons_succ])
      (refine wpAnyH_take (i := 7) (oi := _) (v := ?_) rfl (by kernel_rfl) (by kernel_rfl) (by kernel_rfl) (fun _ _ _ h => h) (Or.inl ⟨by rfl, ?_⟩) (by assumption) ?_; rotate_left; (intro w hSw; (try dsimp only at hSw); go_simp); try with_reducible rfl)
      (try simp only [Act.put, List.setIfInBounds_toArray, List.set_cons_zero, List.set_cons_succ])
      refine wpAnyH_ready (rs := [8]) (by kernel_rfl) (by simp) (AllReadyH.cons (o := _) rfl (fun K hK => ?_) AllReadyH.nil)
      go_simp
      refine hK.out _ _ (by exact HS.out _ (below_alloc HQ _)) (fun hHeld => ?_)
      clear hK K
      (try simp only [Act.put, List.setIfInBounds_toArray, List.set_cons_zero, List.set_cons_succ])
      refine wpAnyH_ready (rs := [9]) (by kernel_rfl) (by simp) (AllReadyH.cons (o := _) rfl (fun K hK => ?_) AllReadyH.nil)
      go_simp
      refine hK.out _ _ (by exact HS.out _ (below_alloc HQ _)) (fun hHeld => ?_)
      clear hK K
      (try simp only [Act.put, List.setIfInBounds_toArray, List.set_cons_zero, List.set_cons_succ])
      refine wpAnyH_done (by kernel_rfl) ?_ _
      obtain ⟨wZ, hwZ⟩ : ∃ wZ, wZ = wq.alloc (.cells #[.bool false, .int .i64 g, .int .i64 i, .int .i64 m, .int .i64 z, .string s] 41) := ⟨_, rfl⟩
      have hbN : wZ.heap[wq.heap.size]? = some (.cells #[.bool false, .int .i64 g, .int .i64 i, .int .i64 m, .int .i64 z, .string s] 41 (0, 0)) := by rw [hwZ]; exact heap_alloc_new wq _
      have hbZ : Below w2.heap.size w2 wZ := by rw [hwZ]; exact below_alloc HQ _
      have hN : w2.heap.size ≤ wq.heap.size := HQ.size
      obtain ⟨gN, hgN⟩ : ∃ gN, gN = wq.heap.size := ⟨_, rfl⟩
      rw [← hgN] at hbN hN
      rw [← hwZ, ← hgN]
      clear hwZ hgN HQ hbq hHeld
      have hRZ : wZ.heap[gr]? = some (.cells #[.bool false, .int .i64 0, .int .i64 0, .int .i64 0, .int .i64 0, .string ⟨#[]⟩] 41 (0, 0)) := (hbZ.block gr HGR.out.1).trans HR.out
      have hgg : gr ≠ gN := by have := HGR.out.1; omega
      have hgg2 : gN ≠ gr := by omega
      obtain ⟨z0, z1, z2, z3, z4⟩ := HS.out wZ hbZ
      have k0 : wZ.cell? ⟨gN, 0, none⟩ = some (.bool false) := (blk_cell hbN 0).trans rfl
      have f0 := blk_frozen hbN 0
      have k1 : wZ.cell? ⟨gN, 1, none⟩ = some (.int .i64 g) := (blk_cell hbN 1).trans rfl
      have f1 := blk_frozen hbN 1
      have k2 : wZ.cell? ⟨gN, 2, none⟩ = some (.int .i64 i) := (blk_cell hbN 2).trans rfl
      have f2 := blk_frozen hbN 2
      have k3 : wZ.cell? ⟨gN, 3, none⟩ = some (.int .i64 m) := (blk_cell hbN 3).trans rfl
      have f3 := blk_frozen hbN 3
      have k4 : wZ.cell? ⟨gN, 4, none⟩ = some (.int .i64 z) := (blk_cell hbN 4).trans rfl
      have f4 := blk_frozen hbN 4
      have k5 : wZ.cell? ⟨gN, 5, none⟩ = some (.string s) := (blk_cell hbN 5).trans rfl
      have f5 := blk_frozen hbN 5
      have r0 : wZ.cell? ⟨gr, 0, none⟩ = some (.bool false) := (blk_cell hRZ 0).trans rfl
      have q0 := blk_frozen hRZ 0
      have r1 : wZ.cell? ⟨gr, 1, none⟩ = some (.int .i64 0) := (blk_cell hRZ 1).trans rfl
      have q1 := blk_frozen hRZ 1
      have r2 : wZ.cell? ⟨gr, 2, none⟩ = some (.int .i64 0) := (blk_cell hRZ 2).trans rfl
      have q2 := blk_frozen hRZ 2
      have r3 : wZ.cell? ⟨gr, 3, none⟩ = some (.int .i64 0) := (blk_cell hRZ 3).trans rfl
      have q3 := blk_frozen hRZ 3
      have r4 : wZ.cell? ⟨gr, 4, none⟩ = some (.int .i64 0) := (blk_cell hRZ 4).trans rfl
      have q4 := blk_frozen hRZ 4
      have r5 : wZ.cell? ⟨gr, 5, none⟩ = some (.string ⟨#[]⟩) := (blk_cell hRZ 5).trans rfl
      have q5 := blk_frozen hRZ 5
      clear c0 c1 c2 c3 c4
      have heq := fun (d : Nat) (W : World) => eqQid d W false false g g i i
      simp only [beq_self_eq_true, Bool.and_true, Bool.and_self] at heq
      go_wp2_with fail
      obtain ⟨wF, hwF⟩ : ∃ wF, wF = ((((((wZ.setCell ⟨gr, 0, none⟩ (.bool false)).setCell ⟨gr, 1, none⟩ (.int .i64 g)).setCell ⟨gr, 2, none⟩ (.int .i64 i)).setCell ⟨gr, 3, none⟩ (.int .i64 m)).setCell ⟨gr, 4, none⟩ (.int .i64 z)).setCell ⟨gr, 5, none⟩ (.string s)) := ⟨_, rfl⟩
      have hF : wF.heap[gr]? = some (.cells #[.bool false, .int .i64 g, .int .i64 i, .int .i64 m, .int .i64 z, .string s] 41 (0, 0)) := by rw [hwF]; exact (blk_put (cs' := #[.bool false, .int .i64 g, .int .i64 i, .int .i64 m, .int .i64 z, .string s]) (blk_put (cs' := #[.bool false, .int .i64 g, .int .i64 i, .int .i64 m, .int .i64 z, .string ⟨#[]⟩]) (blk_put (cs' := #[.bool false, .int .i64 g, .int .i64 i, .int .i64 m, .int .i64 0, .string ⟨#[]⟩]) (blk_put (cs' := #[.bool false, .int .i64 g, .int .i64 i, .int .i64 0, .int .i64 0, .string ⟨#[]⟩]) (blk_put (cs' := #[.bool false, .int .i64 g, .int .i64 0, .int .i64 0, .int .i64 0, .string ⟨#[]⟩]) (blk_put (cs' := #[.bool false, .int .i64 0, .int .i64 0, .int .i64 0, .int .i64 0, .string ⟨#[]⟩]) hRZ 0 (.bool false) rfl) 1 (.int .i64 g) rfl) 2 (.int .i64 i) rfl) 3 (.int .i64 m) rfl) 4 (.int .i64 z) rfl) 5 (.string s) rfl)
      have h0 := below_then HB2.out HB2.out.size hbZ
      have hg1 : w.heap.size ≤ gN := by have := HB2.out.size; omega
      have hg2 := HGR.out.2.2
      have hbF : Below w.heap.size w wF := by rw [hwF]; exact ((((((h0.setCell hg2 _).setCell hg2 _).setCell hg2 _).setCell hg2 _).setCell hg2 _).setCell hg2 _)
      rw [← hwF]
      clear hwF h0 k0 k1 k2 k3 k4 k5 f0 f1 f2 f3 f4 f5 r0 r1 r2 r3 r4 r5 q0 q1 q2 q3 q4 q5 z0 z1 z2 z3 z4 heq
      have e0 : wF.cell? ⟨gr, 0, none⟩ = some (.bool false) := (blk_cell hF 0).trans rfl
      have e1 : wF.cell? ⟨gr, 1, none⟩ = some (.int .i64 g) := (blk_cell hF 1).trans rfl
      have e2 : wF.cell? ⟨gr, 2, none⟩ = some (.int .i64 i) := (blk_cell hF 2).trans rfl
      have e3 : wF.cell? ⟨gr, 3, none⟩ = some (.int .i64 m) := (blk_cell hF 3).trans rfl
      have e4 : wF.cell? ⟨gr, 4, none⟩ = some (.int .i64 z) := (blk_cell hF 4).trans rfl
      have e5 : wF.cell? ⟨gr, 5, none⟩ = some (.string s) := (blk_cell hF 5).trans rfl
      exact bodyPost_ret (v := .agg #[.bool false, .int .i64 g, .int .i64 i, .int .i64 m, .int .i64 z, .string s]) (by simp [results, Try.results13, go_sem, e0, e1, e2, e3, e4, e5]) rfl ⟨rfl, hbF⟩
    · go_simp
      refine hK.out _ _ (by exact HS.out _ (below_alloc (below_drew (Below.refl _ _)) _)) (fun hHeld => ?_)
      clear hK K
      (try simp only [Act.put, List.setIfInBounds_toArray, List.set_cons_zero, List.set_cons_succ])
      refine wpAnyH_ready (rs := [1]) (by kernel_rfl) (by simp) (AllReadyH.cons (o := _) rfl (fun K hK => ?_) AllReadyH.nil)
      go_simp
      (go_at_call 11; refine (Qid_calls i g k m z _).mono ?_; (try rw [hdk]); rintro r wq ⟨rfl, hbq⟩)
      have HQ := below_then (below_alloc (below_drew (Below.refl w2.heap.size w2)) _) (by simp) hbq
      refine hK.out _ _ (by exact HS.out _ HQ) (fun hHeld => ?_)
      clear hK K
      (try simp only [Act.put, List.setIfInBounds_toArray, List.set_cons_zero, List.set_cons_succ])
      (refine wpAnyH_take (i := 7) (oi := _) (v := ?_) rfl (by kernel_rfl) (by kernel_rfl) (by kernel_rfl) (fun _ _ _ h => h) (Or.inl ⟨by rfl, ?_⟩) (by assumption) ?_; rotate_left; (intro w hSw; (try dsimp only at hSw); go_simp); try with_reducible rfl)
      (try simp only [Act.put, List.setIfInBounds_toArray, List.set_cons_zero, List.set_cons_succ])
      have hb0 : wq.heap[w2.heap.size]? = some (.cells #[.bool false, .int .i64 0, .int .i64 0, .int .i64 0, .int .i64 0, .string ⟨#[]⟩] 41 (0, 0)) := (hbq.block w2.heap.size (by simp)).trans (heap_alloc_new w2.drew _)
      have k0 : wq.cell? ⟨w2.heap.size, 0, none⟩ = some (.bool false) := (blk_cell hb0 0).trans rfl
      have f0 := blk_frozen hb0 0
      have k1 : wq.cell? ⟨w2.heap.size, 1, none⟩ = some (.int .i64 0) := (blk_cell hb0 1).trans rfl
      have f1 := blk_frozen hb0 1
      have k2 : wq.cell? ⟨w2.heap.size, 2, none⟩ = some (.int .i64 0) := (blk_cell hb0 2).trans rfl
      have f2 := blk_frozen hb0 2
      have k3 : wq.cell? ⟨w2.heap.size, 3, none⟩ = some (.int .i64 0) := (blk_cell hb0 3).trans rfl
      have f3 := blk_frozen hb0 3
      have k4 : wq.cell? ⟨w2.heap.size, 4, none⟩ = some (.int .i64 0) := (blk_cell hb0 4).trans rfl
      have f4 := blk_frozen hb0 4
      have k5 : wq.cell? ⟨w2.heap.size, 5, none⟩ = some (.string ⟨#[]⟩) := (blk_cell hb0 5).trans rfl
      have f5 := blk_frozen hb0 5
      refine wpAnyH_ready (rs := [9]) (by kernel_rfl) (by simp) (AllReadyH.cons (o := _) rfl (fun K hK => ?_) AllReadyH.nil)
      go_simp
      have HQ2 : Below w2.heap.size w2 ((((((wq.setCell ⟨w2.heap.size, 0, none⟩ (.bool false)).setCell ⟨w2.heap.size, 1, none⟩ (.int .i64 g)).setCell ⟨w2.heap.size, 2, none⟩ (.int .i64 i)).setCell ⟨w2.heap.size, 3, none⟩ (.int .i64 m)).setCell ⟨w2.heap.size, 4, none⟩ (.int .i64 z)).setCell ⟨w2.heap.size, 5, none⟩ (.string s)) := (((((HQ.setCell (Nat.le_refl _) _).setCell (Nat.le_refl _) _).setCell (Nat.le_refl _) _).setCell (Nat.le_refl _) _).setCell (Nat.le_refl _) _).setCell (Nat.le_refl _) _
      refine hK.out _ _ (by exact HS.out _ HQ2) (fun hHeld => ?_)
      clear hK K
      (try simp only [Act.put, List.setIfInBounds_toArray, List.set_cons_zero, List.set_cons_succ])
      refine wpAnyH_done (by kernel_rfl) ?_ _
      obtain ⟨wZ, hwZ⟩ : ∃ wZ, wZ = ((((((wq.setCell ⟨w2.heap.size, 0, none⟩ (.bool false)).setCell ⟨w2.heap.size, 1, none⟩ (.int .i64 g)).setCell ⟨w2.heap.size, 2, none⟩ (.int .i64 i)).setCell ⟨w2.heap.size, 3, none⟩ (.int .i64 m)).setCell ⟨w2.heap.size, 4, none⟩ (.int .i64 z)).setCell ⟨w2.heap.size, 5, none⟩ (.string s)) := ⟨_, rfl⟩
      have hbN : wZ.heap[w2.heap.size]? = some (.cells #[.bool false, .int .i64 g, .int .i64 i, .int .i64 m, .int .i64 z, .string s] 41 (0, 0)) := by rw [hwZ]; exact (blk_put (cs := #[.bool false, .int .i64 g, .int .i64 i, .int .i64 m, .int .i64 z, .string ⟨#[]⟩]) (blk_put (cs := #[.bool false, .int .i64 g, .int .i64 i, .int .i64 m, .int .i64 0, .string ⟨#[]⟩]) (blk_put (cs := #[.bool false, .int .i64 g, .int .i64 i, .int .i64 0, .int .i64 0, .string ⟨#[]⟩]) (blk_put (cs := #[.bool false, .int .i64 g, .int .i64 0, .int .i64 0, .int .i64 0, .string ⟨#[]⟩]) (blk_put (cs := #[.bool false, .int .i64 0, .int .i64 0, .int .i64 0, .int .i64 0, .string ⟨#[]⟩]) (blk_put (cs := #[.bool false, .int .i64 0, .int .i64 0, .int .i64 0, .int .i64 0, .string ⟨#[]⟩]) hb0 0 (.bool false) rfl) 1 (.int .i64 g) rfl) 2 (.int .i64 i) rfl) 3 (.int .i64 m) rfl) 4 (.int .i64 z) rfl) 5 (.string s) rfl)
      have hbZ : Below w2.heap.size w2 wZ := by rw [hwZ]; exact HQ2
      have hN : w2.heap.size ≤ w2.heap.size := Nat.le_refl _
      obtain ⟨gN, hgN⟩ : ∃ gN, gN = w2.heap.size := ⟨_, rfl⟩
      have hN : w2.heap.size ≤ gN := by omega
      rw [← hgN] at hbN
      rw [← hwZ, ← hgN]
      clear hwZ hgN HQ HQ2 hbq hHeld hb0 k0 k1 k2 k3 k4 k5 f0 f1 f2 f3 f4 f5
      have hRZ : wZ.heap[gr]? = some (.cells #[.bool false, .int .i64 0, .int .i64 0, .int .i64 0, .int .i64 0, .string ⟨#[]⟩] 41 (0, 0)) := (hbZ.block gr HGR.out.1).trans HR.out
      have hgg : gr ≠ gN := by have := HGR.out.1; omega
      have hgg2 : gN ≠ gr := by omega
      obtain ⟨z0, z1, z2, z3, z4⟩ := HS.out wZ hbZ
      have k0 : wZ.cell? ⟨gN, 0, none⟩ = some (.bool false) := (blk_cell hbN 0).trans rfl
      have f0 := blk_frozen hbN 0
      have k1 : wZ.cell? ⟨gN, 1, none⟩ = some (.int .i64 g) := (blk_cell hbN 1).trans rfl
      have f1 := blk_frozen hbN 1
      have k2 : wZ.cell? ⟨gN, 2, none⟩ = some (.int .i64 i) := (blk_cell hbN 2).trans rfl
      have f2 := blk_frozen hbN 2
      have k3 : wZ.cell? ⟨gN, 3, none⟩ = some (.int .i64 m) := (blk_cell hbN 3).trans rfl
      have f3 := blk_frozen hbN 3
      have k4 : wZ.cell? ⟨gN, 4, none⟩ = some (.int .i64 z) := (blk_cell hbN 4).trans rfl
      have f4 := blk_frozen hbN 4
      have k5 : wZ.cell? ⟨gN, 5, none⟩ = some (.string s) := (blk_cell hbN 5).trans rfl
      have f5 := blk_frozen hbN 5
      have r0 : wZ.cell? ⟨gr, 0, none⟩ = some (.bool false) := (blk_cell hRZ 0).trans rfl
      have q0 := blk_frozen hRZ 0
      have r1 : wZ.cell? ⟨gr, 1, none⟩ = some (.int .i64 0) := (blk_cell hRZ 1).trans rfl
      have q1 := blk_frozen hRZ 1
      have r2 : wZ.cell? ⟨gr, 2, none⟩ = some (.int .i64 0) := (blk_cell hRZ 2).trans rfl
      have q2 := blk_frozen hRZ 2
      have r3 : wZ.cell? ⟨gr, 3, none⟩ = some (.int .i64 0) := (blk_cell hRZ 3).trans rfl
      have q3 := blk_frozen hRZ 3
      have r4 : wZ.cell? ⟨gr, 4, none⟩ = some (.int .i64 0) := (blk_cell hRZ 4).trans rfl
      have q4 := blk_frozen hRZ 4
      have r5 : wZ.cell? ⟨gr, 5, none⟩ = some (.string ⟨#[]⟩) := (blk_cell hRZ 5).trans rfl
      have q5 := blk_frozen hRZ 5
      clear c0 c1 c2 c3 c4
      have heq := fun (d : Nat) (W : World) => eqQid d W false false g g i i
      simp only [beq_self_eq_true, Bool.and_true, Bool.and_self] at heq
      go_wp2_with fail
      obtain ⟨wF, hwF⟩ : ∃ wF, wF = ((((((wZ.setCell ⟨gr, 0, none⟩ (.bool false)).setCell ⟨gr, 1, none⟩ (.int .i64 g)).setCell ⟨gr, 2, none⟩ (.int .i64 i)).setCell ⟨gr, 3, none⟩ (.int .i64 m)).setCell ⟨gr, 4, none⟩ (.int .i64 z)).setCell ⟨gr, 5, none⟩ (.string s)) := ⟨_, rfl⟩
      have hF : wF.heap[gr]? = some (.cells #[.bool false, .int .i64 g, .int .i64 i, .int .i64 m, .int .i64 z, .string s] 41 (0, 0)) := by rw [hwF]; exact (blk_put (cs' := #[.bool false, .int .i64 g, .int .i64 i, .int .i64 m, .int .i64 z, .string s]) (blk_put (cs' := #[.bool false, .int .i64 g, .int .i64 i, .int .i64 m, .int .i64 z, .string ⟨#[]⟩]) (blk_put (cs' := #[.bool false, .int .i64 g, .int .i64 i, .int .i64 m, .int .i64 0, .string ⟨#[]⟩]) (blk_put (cs' := #[.bool false, .int .i64 g, .int .i64 i, .int .i64 0, .int .i64 0, .string ⟨#[]⟩]) (blk_put (cs' := #[.bool false, .int .i64 g, .int .i64 0, .int .i64 0, .int .i64 0, .string ⟨#[]⟩]) (blk_put (cs' := #[.bool false, .int .i64 0, .int .i64 0, .int .i64 0, .int .i64 0, .string ⟨#[]⟩]) hRZ 0 (.bool false) rfl) 1 (.int .i64 g) rfl) 2 (.int .i64 i) rfl) 3 (.int .i64 m) rfl) 4 (.int .i64 z) rfl) 5 (.string s) rfl)
      have h0 := below_then HB2.out HB2.out.size hbZ
      have hg1 : w.heap.size ≤ gN := by have := HB2.out.size; omega
      have hg2 := HGR.out.2.2
      have hbF : Below w.heap.size w wF := by rw [hwF]; exact ((((((h0.setCell hg2 _).setCell hg2 _).setCell hg2 _).setCell hg2 _).setCell hg2 _).setCell hg2 _)
      rw [← hwF]
      clear hwF h0 k0 k1 k2 k3 k4 k5 f0 f1 f2 f3 f4 f5 r0 r1 r2 r3 r4 r5 q0 q1 q2 q3 q4 q5 z0 z1 z2 z3 z4 heq
      have e0 : wF.cell? ⟨gr, 0, none⟩ = some (.bool false) := (blk_cell hF 0).trans rfl
      have e1 : wF.cell? ⟨gr, 1, none⟩ = some (.int .i64 g) := (blk_cell hF 1).trans rfl
      have e2 : wF.cell? ⟨gr, 2, none⟩ = some (.int .i64 i) := (blk_cell hF 2).trans rfl
      have e3 : wF.cell? ⟨gr, 3, none⟩ = some (.int .i64 m) := (blk_cell hF 3).trans rfl
      have e4 : wF.cell? ⟨gr, 4, none⟩ = some (.int .i64 z) := (blk_cell hF 4).trans rfl
      have e5 : wF.cell? ⟨gr, 5, none⟩ = some (.string s) := (blk_cell hF 5).trans rfl
      exact bodyPost_ret (v := .agg #[.bool false, .int .i64 g, .int .i64 i, .int .i64 m, .int .i64 z, .string s]) (by simp [results, Try.results13, go_sem, e0, e1, e2, e3, e4, e5]) rfl ⟨rfl, hbF⟩
end Go.Proofs.Ytemadfllannljaa.G
