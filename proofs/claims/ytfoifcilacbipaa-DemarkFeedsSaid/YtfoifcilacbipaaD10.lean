/- Walks of law04's laws: DemarkNews. -/
import Derived.Test.YtfoifcilacbipaaD9
import Derived.Test.YtfoifcilacbipaaPx1
namespace Go.Proofs.Ytfoifcilacbipaa.G
open Go.RowKit Go.Proofs.Ytfoifcilacbipaa.P Go.Proofs.Ytfoifcilacbipaa.Pure Go.Proofs.YtfoifcilacbipaaW.PrintWords Go.Proofs.YtfoifcilacbipaaW.PrintLast Go.Proofs.YtfoifcilacbipaaW.PrintMore
set_option linter.unusedVariables false
set_option linter.unusedSimpArgs false

theorem around_eq (a m : Int) (ha : (Lit.int .i64 a).wf = true) (hm : 0 < m) (hm2 : m ≤ 9223372036854775807) : ∃ r : Nat, (r : Int) < m ∧ truchmanref01_Around.f a m = some (r : Int) := by
  have hw : -9223372036854775808 ≤ a ∧ a ≤ 9223372036854775807 := by
    simp [Lit.wf, IntKind.min, IntKind.max, IntKind.signed, IntKind.bits] at ha
    omega
  unfold truchmanref01_Around.f
  by_cases h : a < 0
  · rw [if_pos h, if_neg (by omega), wrap_id (a := a + 1) (by omega) (by omega), wrap_id (by omega) (by omega)]
    have h1 : Int.tmod (-(a + 1)) m = (-(a + 1)) % m := Int.tmod_eq_emod_of_nonneg (by omega)
    have h2 := Int.emod_nonneg (-(a + 1)) (show m ≠ 0 by omega)
    have h3 := Int.emod_lt_of_pos (-(a + 1)) hm
    exact ⟨((-(a + 1)) % m).toNat, by omega, by rw [h1]; congr 1; omega⟩
  · rw [if_neg h, if_neg (by omega)]
    have h1 : Int.tmod a m = a % m := Int.tmod_eq_emod_of_nonneg (by omega)
    have h2 := Int.emod_nonneg a (show m ≠ 0 by omega)
    have h3 := Int.emod_lt_of_pos a hm
    exact ⟨(a % m).toNat, by omega, by rw [h1]; congr 1; omega⟩

theorem Around_law (a m : Int) (w : World) (ha : (Lit.int .i64 a).wf = true) (hm : 0 < m) (hm2 : m ≤ 9223372036854775807) :
    Calls Try.prog 21 #[.int .i64 a, .int .i64 m] w fun e w' => ∃ r : Nat, (r : Int) < m ∧ e = .returned (.int .i64 (r : Int)) ∧ ∃ n, w' = w.drewN n := by
  obtain ⟨r, hr, he⟩ := around_eq a m ha hm hm2
  refine (truchmanref01_Around.calls a m (r : Int) w he).mono ?_
  rintro e w' ⟨rfl, n, rfl⟩
  exact ⟨r, hr, rfl, n, rfl⟩

theorem F_blk {k : IntKind} {w : World} {g : Nat} {xs : List Int} {t : Nat} (hx : xs.length ≤ 9223372036854775807) (hb : w.heap[g]? = some (.cells (xs.map (Value.int k)).toArray t (0, 0))) : Kd.F (Kd.int k) w (fun k => k = g) (some ⟨g, 0, none⟩) xs.length xs := by
  intro W2 hW
  have hb2 : W2.heap[g]? = some (.cells (xs.map (Value.int k)).toArray t (0, 0)) := by rw [hW g rfl (blk_lt hb)]; exact hb
  refine ⟨rfl, hx, fun _ => ⟨_, rfl, fun j p hj => ⟨[.int k p], rfl, rfl, fun i u hu => ?_⟩⟩⟩
  rcases i with _ | i
  · injection hu with hu
    subst hu
    rw [add_at, Nat.zero_add, Nat.add_zero, show (Kd.int k).sz = 1 from rfl, Nat.mul_one]
    refine (blk_cell hb2 j).trans ?_
    simp [hj]
  · simp at hu

theorem cell_of {w w' : World} {k i : Nat} (h : w'.heap[k]? = w.heap[k]?) : w'.cell? ⟨k, i, none⟩ = w.cell? ⟨k, i, none⟩ := by
  unfold World.cell?
  simp only [h]
theorem cell_lt {w : World} {k i : Nat} {v : Value} (h : w.cell? ⟨k, i, none⟩ = some v) : k < w.heap.size := by
  refine Classical.byContradiction fun hn => ?_
  have : w.heap[k]? = none := Array.getElem?_eq_none (by omega)
  unfold World.cell? at h
  simp [this] at h
theorem cell_below {w w' : World} {k i : Nat} {v : Value} (h : w.cell? ⟨k, i, none⟩ = some v) (hb : Below w.heap.size w w') : w'.cell? ⟨k, i, none⟩ = some v := (cell_of (hb.block k (cell_lt h))).trans h

set_option maxHeartbeats 8000000 in
set_option maxRecDepth 100000 in
theorem DemarkNews_walk (a0 : Int) (a1 : Int) (w : World)  (g0_ : (Lit.int .i64 a0).wf = true) (g1_ : (Lit.int .i64 a1).wf = true) : Calls Try.prog 9 #[.int .i64 a0, .int .i64 a1] w fun e w' => e = .returned (.bool true) ∧ Below w.heap.size w w' := by
  go_enter Try.func9, Try.ntmps9
  go_wp2_with fail
  refine (Around_law a0 4101 _ g0_ (by omega) (by omega)).mono ?_
  rintro r w1 ⟨x, hx, rfl, n1, rfl⟩
  go_wp2_with fail
  refine (Around_law a1 67 _ g1_ (by omega) (by omega)).mono ?_
  rintro r w1 ⟨y, hy, rfl, n2, rfl⟩
  go_wp2_with fail
  have HM : Aside0 (Kd.F (Kd.int .i64) (((w.drewN n1).alloc (.cells (([a0, (x : Int), 0, 1] : List Int).map (Value.int .i64)).toArray 3))) (fun k => k = w.heap.size) (some ⟨w.heap.size, 0, none⟩) ([a0, (x : Int), 0, 1] : List Int).length [a0, (x : Int), 0, 1]) := ⟨F_blk (by simp) (heap_alloc_new (w.drewN n1) _)⟩
  go_loopw [7] (fun v w' => ∃ i : Nat, v = .int .i64 (i : Int) ∧ Aside0 (i ≤ 4) ∧ Aside0 (Below w.heap.size w w') ∧ Aside0 (Kd.F (Kd.int .i64) w' (fun k => k = w.heap.size) (some ⟨w.heap.size, 0, none⟩) ([a0, (x : Int), 0, 1] : List Int).length [a0, (x : Int), 0, 1]) ∧ Aside0 (Kd.F (Kd.int .i64) w' (fun k => k = w.heap.size + 1) (some ⟨w.heap.size + 1, 0, none⟩) ([a1, 1, (y : Int), a1] : List Int).length [a1, 1, (y : Int), a1]) ∧ Aside0 (w.heap.size + 2 ≤ w'.heap.size)) (fun v _ => (4 - intOf v).toNat)
  case atStart =>
    refine ⟨0, rfl, ⟨by omega⟩, ?_, ?_, ?_, ?_⟩
    · exact ⟨below_alloc (pw_below_drewN (below_alloc (pw_below_drewN (Below.refl _ _) _) _) _) _⟩
    · exact ⟨Kd.F_alloc (Kd.F_drewN HM.out _) _⟩
    · have hsz : (((w.drewN n1).alloc (.cells (([a0, (x : Int), 0, 1] : List Int).map (Value.int .i64)).toArray 3)).drewN n2).heap.size = w.heap.size + 1 := by simp [World.alloc, World.drewN]
      have h := F_blk (k := .i64) (xs := [a1, 1, (y : Int), a1]) (by simp) (heap_alloc_new (((w.drewN n1).alloc (.cells (([a0, (x : Int), 0, 1] : List Int).map (Value.int .i64)).toArray 3)).drewN n2) (.cells (([a1, 1, (y : Int), a1] : List Int).map (Value.int .i64)).toArray 3))
      rw [hsz] at h
      exact ⟨h⟩
    · exact ⟨by simp [World.alloc, World.drewN]⟩
  case round =>
    obtain ⟨i, rfl, HI, HB, HM, HF, HS⟩ := hrel
    rcases Nat.lt_or_ge i 4 with hi | hi
    · have i0 : (0 : Int) ≤ (i : Int) := by omega
      obtain ⟨am, eam, hxm⟩ := Kd.at_int (Kd.F_now HM.out) (i : Int) i0 (by simp; omega)
      obtain ⟨af, eaf, hxf⟩ := Kd.at_int (Kd.F_now HF.out) (i : Int) i0 (by simp; omega)
      cases eam
      cases eaf
      rw [add_at, Nat.zero_add, Int.toNat_natCast] at hxm hxf
      obtain ⟨m, hm⟩ : ∃ m, m = rd [a0, (x : Int), 0, 1] (i : Int) := ⟨_, rfl⟩
      obtain ⟨f, hf⟩ : ∃ f, f = rd [a1, 1, (y : Int), a1] (i : Int) := ⟨_, rfl⟩
      rw [← hm] at hxm
      rw [← hf] at hxf
      have HXM := Aside0.mk hxm
      have HXF := Aside0.mk hxf
      clear hm hf
      go_wp2_with fail
      rcases Bool.eq_false_or_eq_true (dIn m f) with hin | hin
      · go_region_held3 (fun w' => w'.cell? ⟨w.heap.size, i, none⟩ = some (.int .i64 m) ∧ w'.cell? ⟨w.heap.size + 1, i, none⟩ = some (.int .i64 f))
          (first | exact HKa | exact ⟨HXM.out, HXF.out⟩)
          (first
            | (go_at_call 22; refine (New_law m f w.heap.size _ hin (by have := HS.out; show w.heap.size ≤ wr.heap.size; omega)).mono ?_; rintro r wa ⟨okD, rfl, hd, hok, hb⟩; have HKa : wa.cell? ⟨w.heap.size, i, none⟩ = some (.int .i64 m) ∧ wa.cell? ⟨w.heap.size + 1, i, none⟩ = some (.int .i64 f) := ⟨cell_below HXM.out (below_then (below_drew (Below.refl wr.heap.size wr)) (Nat.le_refl _) hb), cell_below HXF.out (below_then (below_drew (Below.refl wr.heap.size wr)) (Nat.le_refl _) hb)⟩))
        have HD := Aside0.mk hd
        have HOK := Aside0.mk hok
        have HB1 : Aside0 (Below wr.heap.size wr wa) := ⟨below_then (below_drew (Below.refl wr.heap.size wr)) (Nat.le_refl _) hb⟩
        obtain ⟨hka, hkb⟩ := HKa
        clear hd hok hb hxm hxf
        unfold dIn at hin
        simp only [Bool.and_eq_true, decide_eq_true_eq] at hin
        obtain ⟨⟨⟨m0, m1⟩, f0⟩, f1⟩ := hin
        go_wp2_with fail
        have e1 : dClean (dNew m f) = true := rfl
        refine (Clean_calls_d _ _ _ _ HD.out.1 (by simp [dNew]) (by simp [dNew])).mono ?_
        rw [e1]
        rintro r w2 ⟨rfl, hf2⟩
        have HD2 := Aside0.mk (DL_frm HD.out hf2 (fun _ _ h => h))
        have HF2 := Aside0.mk hf2
        clear hf2 e1
        go_wp2_with fail
        refine (Held_quiet _ _ _ _ HD2.out.1 (by simp [dNew]) (by simp [dNew])).mono ?_
        rw [show (((dNew m f).head.length : Int) + ((dNew m f).frag.length : Int)) = 0 from rfl]
        rintro r w3 ⟨rfl, hf3⟩
        have HD3 := Aside0.mk (DL_frm HD2.out hf3 (fun _ _ h => h))
        have HF3 := Aside0.mk hf3
        clear hf3
        go_wp2_with fail
        refine (Errno_calls_d _ _ _ _ HD3.out.1).mono ?_
        rw [show (dNew m f).e = 0 from rfl]
        rintro r w4 ⟨rfl, rfl⟩
        go_wp2_with fail
        have hs3 : w.heap.size ≤ w4.heap.size := Nat.le_trans HB.out.size (Nat.le_trans HB1.out.size (Nat.le_trans HF2.out.size HF3.out.size))
        refine (Feed_law w.heap.size okD _ _ 0 none 0 [] _ HD3.out hs3 (Nat.le_refl _) (by simp) (Kd.F_nil _ _ _)).mono ?_
        rw [show (dRun (dNew m f) []).out = [] from rfl]
        rintro r w5 ⟨vo, okE, rfl, hn, hd5, hs5, hfr5⟩
        obtain ⟨A5, c5, rfl⟩ := Kd.N_slice hn
        have HFR := Aside0.mk hfr5
        have hsz5 := Nat.le_trans HF2.out.size (Nat.le_trans HF3.out.size HFR.out.size)
        have HSZ := Aside0.mk hsz5
        clear hn hd5 hs5 hfr5 hs3 hsz5
        go_wp2_with fail
        have hfall : Frm (fun k => wr.heap.size ≤ k) wa w5 := (HF2.out.mono (fun _ _ h => h.elim)).trans ((HF3.out.mono (fun _ _ h => h.elim)).trans (HFR.out.mono (fun k _ h => HOK.out k h)))
        have hb5 : Below wr.heap.size wr w5 := Frm.below HB1.out hfall (Nat.le_refl _) (fun k h => h)
        go_roundw
        case rel => exact ⟨i + 1, rfl, ⟨hi⟩, ⟨below_then HB.out HB.out.size hb5⟩, ⟨Kd.F_below HM.out hb5⟩, ⟨Kd.F_below HF.out hb5⟩, ⟨Nat.le_trans HS.out hb5.size⟩⟩
        case measure => show ((4 : Int) - ((i : Int) + 1)).toNat < ((4 : Int) - (i : Int)).toNat; omega
      · have hor : m < 0 ∨ m > 4096 ∨ f < 1 ∨ f > 64 := by
          refine Classical.byContradiction fun hn => ?_
          have : dIn m f = true := by unfold dIn; simp only [Bool.and_eq_true, decide_eq_true_eq]; omega
          rw [this] at hin; cases hin
        go_region_held3 (fun w' => w'.cell? ⟨w.heap.size, i, none⟩ = some (.int .i64 m) ∧ w'.cell? ⟨w.heap.size + 1, i, none⟩ = some (.int .i64 f))
          (first | exact ⟨HXM.out, HXF.out⟩)
          (first
            | (go_at_call 22; refine (New_out m f _ hin).mono ?_; rintro r wa ⟨rfl, hwa⟩; rw [hwa]))
        clear hin
        have HB1 : Aside0 (Below wr.heap.size wr wr.drew) := ⟨below_drew (Below.refl wr.heap.size wr)⟩
        rcases Classical.em (m < 0) with q1 | q1
        · clear hor
          go_wp2_with fail
          go_roundw
          case rel => exact ⟨i + 1, rfl, ⟨hi⟩, ⟨below_then HB.out HB.out.size HB1.out⟩, ⟨Kd.F_below HM.out HB1.out⟩, ⟨Kd.F_below HF.out HB1.out⟩, ⟨Nat.le_trans HS.out HB1.out.size⟩⟩
          case measure => show ((4 : Int) - ((i : Int) + 1)).toNat < ((4 : Int) - (i : Int)).toNat; omega
        · rcases Classical.em (m > 4096) with q2 | q2
          · clear hor
            go_wp2_with fail
            go_roundw
            case rel => exact ⟨i + 1, rfl, ⟨hi⟩, ⟨below_then HB.out HB.out.size HB1.out⟩, ⟨Kd.F_below HM.out HB1.out⟩, ⟨Kd.F_below HF.out HB1.out⟩, ⟨Nat.le_trans HS.out HB1.out.size⟩⟩
            case measure => show ((4 : Int) - ((i : Int) + 1)).toNat < ((4 : Int) - (i : Int)).toNat; omega
          · rcases Classical.em (f < 1) with q3 | q3
            · clear hor
              go_wp2_with fail
              go_roundw
              case rel => exact ⟨i + 1, rfl, ⟨hi⟩, ⟨below_then HB.out HB.out.size HB1.out⟩, ⟨Kd.F_below HM.out HB1.out⟩, ⟨Kd.F_below HF.out HB1.out⟩, ⟨Nat.le_trans HS.out HB1.out.size⟩⟩
              case measure => show ((4 : Int) - ((i : Int) + 1)).toNat < ((4 : Int) - (i : Int)).toNat; omega
            · have q4 : f > 64 := by omega
              clear hor
              go_wp2_with fail
              go_roundw
              case rel => exact ⟨i + 1, rfl, ⟨hi⟩, ⟨below_then HB.out HB.out.size HB1.out⟩, ⟨Kd.F_below HM.out HB1.out⟩, ⟨Kd.F_below HF.out HB1.out⟩, ⟨Nat.le_trans HS.out HB1.out.size⟩⟩
              case measure => show ((4 : Int) - ((i : Int) + 1)).toNat < ((4 : Int) - (i : Int)).toNat; omega
    · have hie : i = 4 := by have := HI.out; omega
      subst hie
      go_wp2_with fail
      refine (lives04 _).mono ?_
      rintro r w2 ⟨rfl, hb2⟩
      go_wp2_with fail
      go_ret
      exact ⟨rfl, below_then HB.out HB.out.size hb2⟩
end Go.Proofs.Ytfoifcilacbipaa.G
