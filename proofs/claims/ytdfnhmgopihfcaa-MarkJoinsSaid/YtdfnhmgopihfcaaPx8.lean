-- Written by a program of this session (wip/tools), over the kit's printer; Lean checks it.
import Derived.Test.YtdfnhmgopihfcaaPx0
import Derived.Test.YtdfnhmgopihfcaaPx1
import Derived.Test.YtdfnhmgopihfcaaPx4
import Derived.Test.YtdfnhmgopihfcaaPx5
namespace Go.Proofs.Ytdfnhmgopihfcaa.P
open Go.RowKit Go.Proofs.YtdfnhmgopihfcaaW.PrintWords Go.Proofs.YtdfnhmgopihfcaaW.PrintLast Go.Proofs.YtdfnhmgopihfcaaW.PrintMore
attribute [local go_sem] max2_int min2_int max_two min_two max_three min_three max_four min_four   -- for this text's walks alone
set_option linter.unusedVariables false
set_option linter.unusedSimpArgs false

/-! ### truchmanref03_Good: function 35 -/
mutual
def truchmanref03_Good.j1 : Nat → List Int → List (List Int) → Option ((List (List Int)) × List Int)
  | 0, _, _ => none
  | k + 1, x1, x6 => truchmanref03_Good.l1 k x1 x6 ([] : List Int) 0
def truchmanref03_Good.l1 : Nat → List Int → List (List Int) → List Int → Int → Option ((List (List Int)) × List Int)
  | 0, _, _, _, _ => none
  | k + 1, x1, x6, x8, x9 => if x9 < (x1.length : Int) then (if x9 < 5 then (if 0 ≤ x9 then ((truchmanref01_Around.f (rd x1 x9) 20).bind fun t378 => (if x8.length < 17592186044416 then (truchmanref03_Good.l1 k x1 x6 (x8 ++ [wrap64 (1 + t378)]) (wrap64 (x9 + 1))) else (none))) else (none)) else (some (x6, x8))) else (some (x6, x8))
def truchmanref03_Good.l0 : Nat → List (List Int) → List Int → List (List Int) → Int → Option ((List (List Int)) × List Int)
  | 0, _, _, _, _ => none
  | k + 1, x0, x1, x6, x7 => if x7 < (x0.length : Int) then (if x7 < 5 then (if 0 ≤ x7 then ((truchmanref01_Few.f (rd_L1 x0 x7) 40).bind fun t371 => (if x6.length < 5864062014805 then (truchmanref03_Good.l0 k x0 x1 (x6 ++ [t371]) (wrap64 (x7 + 1))) else (none))) else (none)) else (truchmanref03_Good.j1 k x1 x6)) else (truchmanref03_Good.j1 k x1 x6)
end
def truchmanref03_Good.f (k : Nat) (l0 : List (List Int)) (l1 : List Int) : Option ((List (List Int)) × List Int) := truchmanref03_Good.l0 k l0 l1 ([] : List (List Int)) 0
theorem truchmanref03_Good.mono_l : ∀ k, (∀ y0 y1, LeO (truchmanref03_Good.j1 k y0 y1) (truchmanref03_Good.j1 (k + 1) y0 y1)) ∧ (∀ y0 y1 y2 y3, LeO (truchmanref03_Good.l1 k y0 y1 y2 y3) (truchmanref03_Good.l1 (k + 1) y0 y1 y2 y3)) ∧ (∀ y0 y1 y2 y3, LeO (truchmanref03_Good.l0 k y0 y1 y2 y3) (truchmanref03_Good.l0 (k + 1) y0 y1 y2 y3))
  | 0 => ⟨fun _ _ r h => by simp [truchmanref03_Good.j1] at h, fun _ _ _ _ r h => by simp [truchmanref03_Good.l1] at h, fun _ _ _ _ r h => by simp [truchmanref03_Good.l0] at h⟩
  | k + 1 => by
    obtain ⟨ih0, ih1, ih2⟩ := truchmanref03_Good.mono_l k
    refine ⟨?_, ?_, ?_⟩
    · intro y0 y1
      unfold truchmanref03_Good.j1
      repeat' first
      | (with_reducible exact ih0 _ _)
      | (with_reducible exact ih1 _ _ _ _)
      | (with_reducible exact ih2 _ _ _ _)
      | (with_reducible exact LeO.refl _)
      | (with_reducible exact LeO.none _)
      | (with_reducible refine LeO.ite ?_ ?_)
      | (with_reducible refine LeO.bind ?_ (fun _ => ?_))
      | exact ih0 _ _
      | exact ih1 _ _ _ _
      | exact ih2 _ _ _ _
      | exact LeO.none _
      | refine LeO.ite ?_ ?_
      | refine LeO.bind ?_ (fun _ => ?_)
    · intro y0 y1 y2 y3
      unfold truchmanref03_Good.l1
      repeat' first
      | (with_reducible exact ih0 _ _)
      | (with_reducible exact ih1 _ _ _ _)
      | (with_reducible exact ih2 _ _ _ _)
      | (with_reducible exact LeO.refl _)
      | (with_reducible exact LeO.none _)
      | (with_reducible refine LeO.ite ?_ ?_)
      | (with_reducible refine LeO.bind ?_ (fun _ => ?_))
      | exact ih0 _ _
      | exact ih1 _ _ _ _
      | exact ih2 _ _ _ _
      | exact LeO.none _
      | refine LeO.ite ?_ ?_
      | refine LeO.bind ?_ (fun _ => ?_)
    · intro y0 y1 y2 y3
      unfold truchmanref03_Good.l0
      repeat' first
      | (with_reducible exact ih0 _ _)
      | (with_reducible exact ih1 _ _ _ _)
      | (with_reducible exact ih2 _ _ _ _)
      | (with_reducible exact LeO.refl _)
      | (with_reducible exact LeO.none _)
      | (with_reducible refine LeO.ite ?_ ?_)
      | (with_reducible refine LeO.bind ?_ (fun _ => ?_))
      | exact ih0 _ _
      | exact ih1 _ _ _ _
      | exact ih2 _ _ _ _
      | exact LeO.none _
      | refine LeO.ite ?_ ?_
      | refine LeO.bind ?_ (fun _ => ?_)
theorem truchmanref03_Good.mono : ∀ a0 a1 k, LeO (truchmanref03_Good.f k a0 a1) (truchmanref03_Good.f (k + 1) a0 a1) := by
  intro a0 a1 k
  obtain ⟨ih0, ih1, ih2⟩ := truchmanref03_Good.mono_l k
  unfold truchmanref03_Good.f
  repeat' first
      | (with_reducible exact ih0 _ _)
      | (with_reducible exact ih1 _ _ _ _)
      | (with_reducible exact ih2 _ _ _ _)
      | (with_reducible exact LeO.refl _)
      | (with_reducible exact LeO.none _)
      | (with_reducible refine LeO.ite ?_ ?_)
      | (with_reducible refine LeO.bind ?_ (fun _ => ?_))
      | exact ih0 _ _
      | exact ih1 _ _ _ _
      | exact ih2 _ _ _ _
      | exact LeO.none _
      | refine LeO.ite ?_ ?_
      | refine LeO.bind ?_ (fun _ => ?_)
set_option maxHeartbeats 8000000 in
set_option maxRecDepth 100000 in
theorem truchmanref03_Good.calls (k : Nat) (A0 : Option Addr) (c0 : Nat) (l0 : List (List Int)) (A1 : Option Addr) (c1 : Nat) (l1 : List Int) (r1 : List (List Int)) (r2 : List Int) (w : World) (hr0 : Kd.C (Kd.slice 5 (Kd.int .u8)) w A0 l0.length l0) (hc0 : l0.length ≤ c0) (hr1 : Kd.C (Kd.int .i64) w A1 l1.length l1) (hc1 : l1.length ≤ c1) (h : truchmanref03_Good.f k l0 l1 = some (r1, r2)) :
    Calls Try.prog 35 #[.slice A0 l0.length c0, .slice A1 l1.length c1] w fun e w' => ∃ v0_ v1_ : Value, e = .returned (.tuple #[v0_, v1_]) ∧ Kd.S (Kd.slice 5 (Kd.int .u8)) 24 w' w.heap.size (fun _ => True) v0_ r1 ∧ Kd.R (Kd.int .i64) 3 w' w.heap.size (fun _ => True) v1_ r2 ∧ Below w.heap.size w w' := by
  have HR0 := Aside0.mk hr0
  have HC0 := Aside0.mk hc0
  clear hr0 hc0
  have HR1 := Aside0.mk hr1
  have HC1 := Aside0.mk hc1
  clear hr1 hc1
  have HB := Aside0.mk (Below.refl w.heap.size w)
  have H : (truchmanref03_Good.l0 k l0 l1 ([] : List (List Int)) 0) = some (r1, r2) := h
  clear h
  have HC3 := Aside0.mk H
  clear H
  go_enter Try.func35, Try.ntmps35
  go_upto_block 0 with (fail)
  go_cut [6] (fun v6 wc => ∃ (kq : Nat) (x6_2 : List (List Int)), Aside0 (truchmanref03_Good.j1 kq l1 x6_2 = some (r1, r2)) ∧ Aside0 (kq ≤ k) ∧ Aside0 (Kd.S (Kd.slice 5 (Kd.int .u8)) 24 wc w.heap.size (fun _ => True) v6 x6_2) ∧ Aside0 (Below w.heap.size w wc))
  case first =>
    have H := HC3.out
    clear HC3
    have H' := Aside0.mk H
    clear H
    go_wp2
    go_loopg [6, 7] k (fun kq v6 v7 w' => ∃ (x6_1 : List (List Int)) (x7_1 : Int), v7 = .int .i64 x7_1 ∧ Aside0 (truchmanref03_Good.l0 kq l0 l1 x6_1 x7_1 = some (r1, r2)) ∧ Aside0 (kq ≤ k) ∧ Aside0 (Kd.S (Kd.slice 5 (Kd.int .u8)) 24 w' w.heap.size (fun _ => True) v6 x6_1) ∧ Aside0 (Below w.heap.size w w'))
    case atStart => exact ⟨(([] : List (List Int))), (0), (by first | rfl | (simp; done) | (simp [*]; done)), H', ⟨Nat.le_refl _⟩, ⟨by first | exact Kd.S_nil _ _ _ _ _ | exact Kd.N_nil _ _ _ _ _ | exact Kd.V_nil _ _ _ _ _ | exact Kd.Q_nil _ _ _ _ _ | exact Kd.R_nil _ _ _ _ _⟩, ⟨by repeat (first | (with_reducible first | exact HB.out | apply below_alloc | apply pw_below_drewN | apply below_drew1) | exact HB.out)⟩⟩
    case round =>
      clear H'
      try clear c1
      try clear p2
      try clear c3
      obtain ⟨x6_1, x7_1, rfl, HA, HK1, HO_6, HB⟩ := hrel
      cases gk with
      | zero => exact absurd HA.out (by simp [truchmanref03_Good.l0])
      | succ k1 =>
        have H := HA.out
        clear HA
        simp only [truchmanref03_Good.l0] at H
        by_cases c4 : x7_1 < (l0.length : Int)
        · rw [if_pos c4] at H
          have c4b0 : decide (x7_1 < (l0.length : Int)) = true := decide_eq_true c4
          clear c4
          (first | rw [c4b0] | (simp only [i64_w, i32_w]; rw [c4b0]) | skip)
          by_cases c5 : x7_1 < 5
          · rw [if_pos c5] at H
            have c5b0 : decide (x7_1 < 5) = true := decide_eq_true c5
            clear c5
            by_cases c6 : 0 ≤ x7_1
            · rw [if_pos c6] at H
              have c6b0 : decide (0 ≤ x7_1) = true := decide_eq_true c6
              clear c6
              replace H := Option.bind_eq_some_iff.mp H
              obtain ⟨t371, A70, H⟩ := H
              replace H : (if x6_1.length < 5864062014805 then (truchmanref03_Good.l0 k1 l0 l1 (x6_1 ++ [t371]) (wrap64 (x7_1 + 1))) else (none)) = some (r1, r2) := H
              have A7 := Aside0.mk A70
              clear A70
              by_cases c8 : x6_1.length < 5864062014805
              · rw [if_pos c8] at H
                have LMc8 := Aside0.mk c8
                clear c8
                obtain ⟨y374, hy374⟩ : ∃ y_ : List (List Int), y_ = (x6_1 ++ [t371]) := ⟨_, rfl⟩
                replace H : (truchmanref03_Good.l0 k1 l0 l1 y374 (wrap64 (x7_1 + 1))) = some (r1, r2) := by first | (rw [hy374]; with_reducible exact H) | (have H2_ := (Option.bind_some _ _).symm.trans H; rw [hy374]; with_reducible exact H2_) | (have H2_ := (Option.bind_some _ _).symm.trans H; with_reducible exact H2_) | with_reducible exact H | (rw [hy374]; exact H) | exact H
                have Ny374 := Aside0.mk hy374
                clear hy374
                have H' := Aside0.mk H
                clear H
                have p370 : 0 ≤ (x7_1 : Int) := of_decide_eq_true (by first | (with_reducible assumption) | assumption)
                have q370 : x7_1 < (l0.length : Int) := of_decide_eq_true (by first | (with_reducible assumption) | assumption)
                obtain ⟨ad370, A370_0, c370_0, e370, hx370_0, hl370_0, hi370_0⟩ := at_L1 HR0.out x7_1 p370 q370
                cases e370
                replace hx370_0 := (HB.out.cell (World.block_lt_of_cell? w _ hx370_0)).trans hx370_0
                have HR370_0 := Aside0.mk hi370_0
                have HC370_0 := Aside0.mk hl370_0
                clear hi370_0 hl370_0
                replace p370 := eq_true p370
                replace q370 := eq_true q370
                go_wp2_with (first | ((with_reducible refine gate_callee (f := 14) rfl ?_); refine goesL_ (some 25) rfl rfl Try.func14 (by kernel_rfl) rfl #[.slice A370_0 (rd_L1 l0 x7_1).length c370_0, .int .i64 40] rfl (by (try simp only [List.map_toArray, List.map_cons, List.map_nil]); first | done | rfl | (simp only [List.length_drop, List.length_take]; rfl)) ?_; (with_reducible refine (truchmanref01_Few.calls _ _ (rd_L1 l0 x7_1) 40 t371 _ ?side1 ?side2 A7.out).mono ?_); (case side1 => repeat (first | exact (Kd.C_below HR370_0.out HB.out) | (with_reducible refine Kd.C_alloc ?_ _) | (with_reducible refine Kd.C_drewN ?_ _) | (with_reducible refine Kd.C_drew ?_))); (case side2 => exact HC370_0.out); rintro e w9 ⟨v372, rfl, ho0, hb⟩; refine ⟨_, rfl, ?_⟩; have n0_ := Aside0.mk (Kd.S_elder' (by (with_reducible repeat (first | apply Kd.S_alloc | apply Kd.S_drewN | apply Kd.S_drew)); exact HO_6.out) (Kd.R_base ho0) hb); have n1_ := Aside0.mk (Kd.R_lower ho0 (below_size (by repeat (first | (with_reducible first | exact HB.out | apply below_alloc | apply pw_below_drewN | apply below_drew1) | exact HB.out)))); have n2_ := Aside0.mk (below_step (by repeat (first | (with_reducible first | exact HB.out | apply below_alloc | apply pw_below_drewN | apply below_drew1) | exact HB.out)) hb); clear HO_6; clear HB; have HO_6 := n0_; have HO373 := n1_; have HB := n2_; clear n0_ n1_ n2_; (try clear hb); (try clear hb2); (try clear hk); (try clear hi); (try clear ho0); obtain ⟨Ao11, co11, eo11⟩ := Kd.R_slice HO373.out; subst eo11) | ((with_reducible refine gate_builtin (b := .append) (xs := #[.tmp 20, .tmp 26]) rfl ?_); at_builtin; refine Kd.S_append (Kd.slice 5 (Kd.int .u8)) (w0 := w) w.heap.size rfl (.tmp 20) (.tmp 26) 23 24 (.slice none 0 0) 24 rfl Try.underlying23 info24 rfl (by decide) (by omega) u6 x6_1 t371 [.slice Ao11 t371.length co11] (fun _ => True) (fun k_ => some k_ = (.slice Ao11 t371.length co11 : Value).ownBlock) rfl rfl ?aP (fun k_ hk_ => ((Kd.R_mono (ok' := fun k_ => ((fun _ => True)) k_ ∧ some k_ ≠ (u6 : Value).ownBlock) (Kd.R_apart' (HO373.out) (Kd.S_typed HO_6.out) (by decide)) (fun k_ hk => ⟨trivial, hk.2⟩))).1 k_ hk_.symm) ?aF ?aO ?aB ?aS ?aL ?_; (case aP => exact Kd.M_row (Kd.R_mono (Kd.R_tight rfl (Kd.R_mono (ok' := fun k_ => ((fun _ => True)) k_ ∧ some k_ ≠ (u6 : Value).ownBlock) (Kd.R_apart' (HO373.out) (Kd.S_typed HO_6.out) (by decide)) (fun k_ hk => ⟨trivial, hk.2⟩))) (fun _ h_ => h_))); (case aB => exact (by repeat (first | (with_reducible first | exact HB.out | apply below_alloc | apply pw_below_drewN | apply below_drew1) | exact HB.out))); (case aF => exact (fun _ _ => trivial)); (case aO => exact (by (with_reducible repeat (first | apply Kd.S_alloc | apply Kd.S_drewN | apply Kd.S_drew)); exact Kd.S_mono HO_6.out (fun k_ hk => ⟨trivial, fun e_ => hk.2 e_⟩))); (case aS => exact (below_size (by repeat (first | (with_reducible first | exact HB.out | apply below_alloc | apply pw_below_drewN | apply below_drew1) | exact HB.out)))); (case aL => have := LMc8.out; omega); intro v375 w10 ho hb hg hat; rw [← Ny374.out] at ho; have n0_ := Aside0.mk (hb); have n1_ := Aside0.mk (ho); clear HB; clear HO_6; clear HO373; have HB := n0_; have HO376 := n1_; clear n0_ n1_; clear ho hb hg hat))
                go_roundg k1
                case measure => have := HK1.out; omega
                case rel => exact ⟨(y374), (wrap64 (x7_1 + 1)), (by first | rfl | (simp; done) | (simp [*]; done)), H', ⟨by have := HK1.out; omega⟩, ⟨by (with_reducible repeat (first | apply Kd.S_alloc | apply Kd.S_drewN | apply Kd.S_drew)); exact HO376.out⟩, ⟨by repeat (first | (with_reducible first | exact HB.out | apply below_alloc | apply pw_below_drewN | apply below_drew1) | exact HB.out)⟩⟩
              · rw [if_neg c8] at H
                exact absurd H (by simp)
            · rw [if_neg c6] at H
              exact absurd H (by simp)
          · rw [if_neg c5] at H
            have c5b0 : decide (x7_1 < 5) = false := decide_eq_false c5
            clear c5
            have H' := Aside0.mk H
            clear H
            go_wp2
            go_meet
            case rel => exact ⟨_, (x6_1), H', ⟨by have := HK1.out; first | omega | exact Nat.le_refl _⟩, ⟨by (with_reducible repeat (first | apply Kd.S_alloc | apply Kd.S_drewN | apply Kd.S_drew)); exact HO_6.out⟩, ⟨by repeat (first | (with_reducible first | exact HB.out | apply below_alloc | apply pw_below_drewN | apply below_drew1) | exact HB.out)⟩⟩
        · rw [if_neg c4] at H
          have c4b0 : decide (x7_1 < (l0.length : Int)) = false := decide_eq_false c4
          clear c4
          (first | rw [c4b0] | (simp only [i64_w, i32_w]; rw [c4b0]) | skip)
          have H' := Aside0.mk H
          clear H
          go_wp2
          go_meet
          case rel => exact ⟨_, (x6_1), H', ⟨by have := HK1.out; first | omega | exact Nat.le_refl _⟩, ⟨by (with_reducible repeat (first | apply Kd.S_alloc | apply Kd.S_drewN | apply Kd.S_drew)); exact HO_6.out⟩, ⟨by repeat (first | (with_reducible first | exact HB.out | apply below_alloc | apply pw_below_drewN | apply below_drew1) | exact HB.out)⟩⟩
  case rest =>
    clear HC3
    try clear c1
    try clear p2
    try clear c3
    try clear p3
    try clear q3
    try clear hx3
    try clear c4
    try clear c4b0
    try clear c5
    try clear c5b0
    try clear c6
    try clear c6b0
    try clear p6
    try clear c8
    try clear hx370_0
    try clear p2
    try clear p370
    try clear q370
    obtain ⟨kq, x6_2, HA, HJ2, HO_6, HB⟩ := hcut
    cases kq with
    | zero => exact absurd HA.out (by simp [truchmanref03_Good.j1])
    | succ kj2 =>
      have H := HA.out
      clear HA
      simp only [truchmanref03_Good.j1] at H
      have H' := Aside0.mk H
      clear H
      go_wp2
      go_loopg [8, 9] kj2 (fun kq v8 v9 w' => ∃ (x8_2 : List Int) (x9_2 : Int), v9 = .int .i64 x9_2 ∧ Aside0 (truchmanref03_Good.l1 kq l1 x6_2 x8_2 x9_2 = some (r1, r2)) ∧ Aside0 (kq ≤ kj2) ∧ Aside0 (Kd.S (Kd.slice 5 (Kd.int .u8)) 24 w' w.heap.size (fun _ => True) u6 x6_2) ∧ Aside0 (Kd.R (Kd.int .i64) 3 w' w.heap.size (fun _ => True) v8 x8_2) ∧ Aside0 (Below w.heap.size w w'))
      case atStart => exact ⟨(([] : List Int)), (0), (by first | rfl | (simp; done) | (simp [*]; done)), H', ⟨Nat.le_refl _⟩, ⟨by (with_reducible repeat (first | apply Kd.S_alloc | apply Kd.S_drewN | apply Kd.S_drew)); exact HO_6.out⟩, ⟨by first | exact Kd.R_nil _ _ _ _ _ | exact Kd.N_nil _ _ _ _ _ | exact Kd.V_nil _ _ _ _ _ | exact Kd.Q_nil _ _ _ _ _ | exact Kd.S_nil _ _ _ _ _⟩, ⟨by repeat (first | (with_reducible first | exact HB.out | apply below_alloc | apply pw_below_drewN | apply below_drew1) | exact HB.out)⟩⟩
      case round =>
        clear H'
        try clear c1
        try clear p2
        try clear c3
        try clear p3
        try clear q3
        try clear hx3
        try clear c4
        try clear c4b0
        try clear c5
        try clear c5b0
        try clear c6
        try clear c6b0
        try clear p6
        try clear c8
        try clear hx370_0
        try clear p2
        try clear p3
        try clear p370
        try clear p6
        try clear q3
        try clear q370
        obtain ⟨x8_2, x9_2, rfl, HA, HK2, HO_6, HO_8, HB⟩ := hrel
        cases gk with
        | zero => exact absurd HA.out (by simp [truchmanref03_Good.l1])
        | succ k2 =>
          have H := HA.out
          clear HA
          simp only [truchmanref03_Good.l1] at H
          by_cases c12 : x9_2 < (l1.length : Int)
          · rw [if_pos c12] at H
            have c12b0 : decide (x9_2 < (l1.length : Int)) = true := decide_eq_true c12
            clear c12
            by_cases c13 : x9_2 < 5
            · rw [if_pos c13] at H
              have c13b0 : decide (x9_2 < 5) = true := decide_eq_true c13
              clear c13
              by_cases c14 : 0 ≤ x9_2
              · rw [if_pos c14] at H
                have c14b0 : decide (0 ≤ x9_2) = true := decide_eq_true c14
                clear c14
                replace H := Option.bind_eq_some_iff.mp H
                obtain ⟨t378, A150, H⟩ := H
                replace H : (if x8_2.length < 17592186044416 then (truchmanref03_Good.l1 k2 l1 x6_2 (x8_2 ++ [wrap64 (1 + t378)]) (wrap64 (x9_2 + 1))) else (none)) = some (r1, r2) := H
                have A15 := Aside0.mk A150
                clear A150
                by_cases c16 : x8_2.length < 17592186044416
                · rw [if_pos c16] at H
                  have LMc16 := Aside0.mk c16
                  clear c16
                  obtain ⟨y379, hy379⟩ : ∃ y_ : List Int, y_ = (x8_2 ++ [wrap64 (1 + t378)]) := ⟨_, rfl⟩
                  replace H : (truchmanref03_Good.l1 k2 l1 x6_2 y379 (wrap64 (x9_2 + 1))) = some (r1, r2) := by first | (rw [hy379]; with_reducible exact H) | (have H2_ := (Option.bind_some _ _).symm.trans H; rw [hy379]; with_reducible exact H2_) | (have H2_ := (Option.bind_some _ _).symm.trans H; with_reducible exact H2_) | with_reducible exact H | (rw [hy379]; exact H) | exact H
                  have Ny379 := Aside0.mk hy379
                  clear hy379
                  have H' := Aside0.mk H
                  clear H
                  have p377 : 0 ≤ (x9_2 : Int) := of_decide_eq_true (by first | (with_reducible assumption) | assumption)
                  have q377 : x9_2 < (l1.length : Int) := of_decide_eq_true (by first | (with_reducible assumption) | assumption)
                  obtain ⟨ad377, e377, hx377_0⟩ := Kd.at_int HR1.out x9_2 p377 q377
                  cases e377
                  replace hx377_0 := (HB.out.cell (World.block_lt_of_cell? w _ hx377_0)).trans hx377_0
                  replace p377 := eq_true p377
                  replace q377 := eq_true q377
                  go_wp2_with (first | ((with_reducible refine gate_callee (f := 23) rfl ?_); refine goesL_ (some 43) rfl rfl Try.func23 (by kernel_rfl) rfl #[.int .i64 (rd l1 x9_2), .int .i64 20] rfl (by (try simp only [List.map_toArray, List.map_cons, List.map_nil]); first | done | rfl | (simp only [List.length_drop, List.length_take]; rfl)) ?_; (with_reducible refine (truchmanref01_Around.calls (rd l1 x9_2) 20 t378 _ A15.out).mono ?_); rintro e w' ⟨rfl, ⟨nd, rfl⟩⟩; refine ⟨_, rfl, ?_⟩) | ((with_reducible refine gate_builtin (b := .append) (xs := #[.tmp 38, .tmp 45]) rfl ?_); at_builtin; refine Kd.R_append (Kd.int .i64) (w0 := w) w.heap.size rfl (.tmp 38) (.tmp 45) 40 3 (.int .i64 0) 8 rfl Try.underlying40 info3 rfl (by decide) (by omega) u8 x8_2 (wrap64 (1 + t378)) [.int .i64 (wrap64 (1 + t378))] (fun _ => True) (fun _ => False) rfl rfl ?aP (fun _ hk => hk.elim) ?aF ?aO ?aB ?aS ?aL ?_; (case aP => exact rfl); (case aB => exact (by repeat (first | (with_reducible first | exact HB.out | apply below_alloc | apply pw_below_drewN | apply below_drew1) | exact HB.out))); (case aF => exact (fun _ _ => trivial)); (case aO => exact (by (with_reducible repeat (first | apply Kd.R_alloc | apply Kd.R_drewN | apply Kd.R_drew)); exact HO_8.out)); (case aS => exact (below_size (by repeat (first | (with_reducible first | exact HB.out | apply below_alloc | apply pw_below_drewN | apply below_drew1) | exact HB.out)))); (case aL => have := LMc16.out; omega); intro v380 w17 ho hb hg hat; rw [← Ny379.out] at ho; have n0_ := Aside0.mk (Kd.S_over' (by (with_reducible repeat (first | apply Kd.S_alloc | apply Kd.S_drewN | apply Kd.S_drew)); exact HO_6.out) (Kd.R_typed (by (with_reducible repeat (first | apply Kd.R_alloc | apply Kd.R_drewN | apply Kd.R_drew)); exact HO_8.out)) (by decide) hg); have n1_ := Aside0.mk (hb); have n2_ := Aside0.mk (ho); clear HO_6; clear HB; clear HO_8; have HO_6 := n0_; have HB := n1_; have HO381 := n2_; clear n0_ n1_ n2_; clear ho hb hg hat))
                  go_roundg k2
                  case measure => have := HJ2.out; have := HK2.out; omega
                  case rel => exact ⟨(y379), (wrap64 (x9_2 + 1)), (by first | rfl | (simp; done) | (simp [*]; done)), H', ⟨by have := HJ2.out; have := HK2.out; omega⟩, ⟨by (with_reducible repeat (first | apply Kd.S_alloc | apply Kd.S_drewN | apply Kd.S_drew)); exact HO_6.out⟩, ⟨by (with_reducible repeat (first | apply Kd.R_alloc | apply Kd.R_drewN | apply Kd.R_drew)); exact HO381.out⟩, ⟨by repeat (first | (with_reducible first | exact HB.out | apply below_alloc | apply pw_below_drewN | apply below_drew1) | exact HB.out)⟩⟩
                · rw [if_neg c16] at H
                  exact absurd H (by simp)
              · rw [if_neg c14] at H
                exact absurd H (by simp)
            · rw [if_neg c13] at H
              have c13b0 : decide (x9_2 < 5) = false := decide_eq_false c13
              clear c13
              simp only [Option.some.injEq, Prod.mk.injEq] at H
              obtain ⟨rfl, rfl⟩ := H
              go_wp2
              go_ret2
              exact ⟨_, _, by first | rfl | (simp [errW_none, errW_some] <;> rfl) | (simp [*, errW_none, errW_some] <;> rfl), by (with_reducible repeat (first | apply Kd.S_alloc | apply Kd.S_drewN | apply Kd.S_drew)); exact HO_6.out, by (with_reducible repeat (first | apply Kd.R_alloc | apply Kd.R_drewN | apply Kd.R_drew)); exact HO_8.out, by repeat (first | (with_reducible first | exact HB.out | apply below_alloc | apply pw_below_drewN | apply below_drew1) | exact HB.out)⟩
          · rw [if_neg c12] at H
            have c12b0 : decide (x9_2 < (l1.length : Int)) = false := decide_eq_false c12
            clear c12
            simp only [Option.some.injEq, Prod.mk.injEq] at H
            obtain ⟨rfl, rfl⟩ := H
            go_wp2
            go_ret2
            exact ⟨_, _, by first | rfl | (simp [errW_none, errW_some] <;> rfl) | (simp [*, errW_none, errW_some] <;> rfl), by (with_reducible repeat (first | apply Kd.S_alloc | apply Kd.S_drewN | apply Kd.S_drew)); exact HO_6.out, by (with_reducible repeat (first | apply Kd.R_alloc | apply Kd.R_drewN | apply Kd.R_drew)); exact HO_8.out, by repeat (first | (with_reducible first | exact HB.out | apply below_alloc | apply pw_below_drewN | apply below_drew1) | exact HB.out)⟩

/-! ### mark_All: function 36 -/
def mark_All.l0 : Nat → List Int → List Int → List (List Int) → Int → Int → Option (List Int × Int)
  | 0, _, _, _, _, _ => none
  | k + 1, x0, x6, x12, x13, x14 => if x14 < x13 then (if 0 ≤ x14 then (if x14 < (x12.length : Int) then (if (x0.length : Int) > 0 then (if (x0.length : Int) = 0 then (none) else (if 0 ≤ (Int.tmod x14 (x0.length : Int)) then (if (Int.tmod x14 (x0.length : Int)) < (x0.length : Int) then ((mark_Mark.f k (rd_L1 x12 x14) (rd x0 (Int.tmod x14 (x0.length : Int)))).bind fun bt384 => (if bt384.2 = 0 then (if x6.length + bt384.1.length < 140737488355328 then (mark_All.l0 k x0 (x6 ++ bt384.1) x12 x13 (wrap64 (x14 + 1))) else (none)) else (some (([] : List Int), bt384.2)))) else (none)) else (none))) else ((mark_Mark.f k (rd_L1 x12 x14) 4096).bind fun bt391 => (if bt391.2 = 0 then (if x6.length + bt391.1.length < 140737488355328 then (mark_All.l0 k x0 (x6 ++ bt391.1) x12 x13 (wrap64 (x14 + 1))) else (none)) else (some (([] : List Int), bt391.2))))) else (none)) else (none)) else (some (x6, 0))
def mark_All.f (k : Nat) (l0 : List Int) (l1 : List (List Int)) : Option (List Int × Int) := mark_All.l0 k l0 ([] : List Int) l1 (l1.length : Int) 0
theorem mark_All.mono_l : ∀ k, (∀ y0 y1 y2 y3 y4, LeO (mark_All.l0 k y0 y1 y2 y3 y4) (mark_All.l0 (k + 1) y0 y1 y2 y3 y4))
  | 0 => fun _ _ _ _ _ r h => by simp [mark_All.l0] at h
  | k + 1 => by
    have ih0 := mark_All.mono_l k
    · intro y0 y1 y2 y3 y4
      unfold mark_All.l0
      repeat' first
      | (with_reducible exact ih0 _ _ _ _ _)
      | (with_reducible exact mark_Mark.mono _ _ _)
      | (with_reducible exact LeO.refl _)
      | (with_reducible exact LeO.none _)
      | (with_reducible refine LeO.ite ?_ ?_)
      | (with_reducible refine LeO.bind ?_ (fun _ => ?_))
      | exact ih0 _ _ _ _ _
      | exact mark_Mark.mono _ _ _
      | exact LeO.none _
      | refine LeO.ite ?_ ?_
      | refine LeO.bind ?_ (fun _ => ?_)
theorem mark_All.mono : ∀ a0 a1 k, LeO (mark_All.f k a0 a1) (mark_All.f (k + 1) a0 a1) := by
  intro a0 a1 k
  have ih0 := mark_All.mono_l k
  unfold mark_All.f
  repeat' first
      | (with_reducible exact ih0 _ _ _ _ _)
      | (with_reducible exact mark_Mark.mono _ _ _)
      | (with_reducible exact LeO.refl _)
      | (with_reducible exact LeO.none _)
      | (with_reducible refine LeO.ite ?_ ?_)
      | (with_reducible refine LeO.bind ?_ (fun _ => ?_))
      | exact ih0 _ _ _ _ _
      | exact mark_Mark.mono _ _ _
      | exact LeO.none _
      | refine LeO.ite ?_ ?_
      | refine LeO.bind ?_ (fun _ => ?_)
set_option maxHeartbeats 8000000 in
set_option maxRecDepth 100000 in
theorem mark_All.calls (k : Nat) (A0 : Option Addr) (c0 : Nat) (l0 : List Int) (A1 : Option Addr) (c1 : Nat) (l1 : List (List Int)) (r1 : List Int) (r2 : Int) (w : World) (hr0 : Kd.C (Kd.int .i64) w A0 l0.length l0) (hc0 : l0.length ≤ c0) (hr1 : Kd.C (Kd.slice 5 (Kd.int .u8)) w A1 l1.length l1) (hc1 : l1.length ≤ c1) (h : mark_All.f k l0 l1 = some (r1, r2)) :
    Calls Try.prog 36 #[.slice A0 l0.length c0, .slice A1 l1.length c1] w fun e w' => ∃ v0_ : Value, e = .returned (.tuple #[v0_, .int .i64 r2]) ∧ Kd.R (Kd.int .u8) 5 w' w.heap.size (fun _ => True) v0_ r1 ∧ Below w.heap.size w w' := by
  have HR0 := Aside0.mk hr0
  have HC0 := Aside0.mk hc0
  clear hr0 hc0
  have HR1 := Aside0.mk hr1
  have HC1 := Aside0.mk hc1
  clear hr1 hc1
  have HB := Aside0.mk (Below.refl w.heap.size w)
  have H : (mark_All.l0 k l0 ([] : List Int) l1 (l1.length : Int) 0) = some (r1, r2) := h
  clear h
  have H' := Aside0.mk H
  clear H
  go_enter Try.func36, Try.ntmps36
  go_wp2
  go_loopg [6, 14] k (fun kq v6 v14 w' => ∃ (x6_1 : List Int) (x14_1 : Int), v14 = .int .i64 x14_1 ∧ Aside0 (mark_All.l0 kq l0 x6_1 l1 (l1.length : Int) x14_1 = some (r1, r2)) ∧ Aside0 (kq ≤ k) ∧ Aside0 (Kd.R (Kd.int .u8) 5 w' w.heap.size (fun _ => True) v6 x6_1) ∧ Aside0 (Below w.heap.size w w'))
  case atStart => exact ⟨(([] : List Int)), (0), (by first | rfl | (simp; done) | (simp [*]; done)), H', ⟨Nat.le_refl _⟩, ⟨by first | exact Kd.R_nil _ _ _ _ _ | exact Kd.N_nil _ _ _ _ _ | exact Kd.V_nil _ _ _ _ _ | exact Kd.Q_nil _ _ _ _ _ | exact Kd.S_nil _ _ _ _ _⟩, ⟨by repeat (first | (with_reducible first | exact HB.out | apply below_alloc | apply pw_below_drewN | apply below_drew1) | exact HB.out)⟩⟩
  case round =>
    clear H'
    try clear c1
    try clear p2
    obtain ⟨x6_1, x14_1, rfl, HA, HK1, HO_6, HB⟩ := hrel
    cases gk with
    | zero => exact absurd HA.out (by simp [mark_All.l0])
    | succ k1 =>
      have H := HA.out
      clear HA
      simp only [mark_All.l0] at H
      by_cases c3 : x14_1 < (l1.length : Int)
      · rw [if_pos c3] at H
        have c3b0 : decide (x14_1 < (l1.length : Int)) = true := decide_eq_true c3
        clear c3
        by_cases c4 : 0 ≤ x14_1
        · rw [if_pos c4] at H
          have c4b0 : decide (0 ≤ x14_1) = true := decide_eq_true c4
          clear c4
          by_cases c5 : x14_1 < (l1.length : Int)
          · rw [if_pos c5] at H
            have c5b0 : decide (x14_1 < (l1.length : Int)) = true := decide_eq_true c5
            clear c5
            by_cases c6 : (l0.length : Int) > 0
            · rw [if_pos c6] at H
              have c6b0 : decide (0 < (l0.length : Int)) = true := decide_eq_true c6
              have c6b1 : decide (0 < l0.length) = true := decide_eq_true (by omega)
              clear c6
              by_cases c7 : (l0.length : Int) = 0
              · rw [if_pos c7] at H
                exact absurd H (by simp)
              · rw [if_neg c7] at H
                have c7b0 : ((l0.length : Int) == 0) = false := beq_eq_false_iff_ne.mpr c7
                have c7b1 : ((l0.length : Int) != 0) = true := bne_iff_ne.mpr c7
                have c7b2 : ¬ (l0 = []) := fun h_ => c7 (by rw [h_]; rfl)
                obtain ⟨ji8, hji8⟩ : ∃ j_ : Int, (Int.tmod x14_1 (l0.length : Int)) = j_ := ⟨_, rfl⟩
                replace H : (if 0 ≤ (ji8) then (if (ji8) < (l0.length : Int) then ((mark_Mark.f k1 (rd_L1 l1 x14_1) (rd l0 (ji8))).bind fun bt384 => (if bt384.2 = 0 then (if x6_1.length + bt384.1.length < 140737488355328 then (mark_All.l0 k1 l0 (x6_1 ++ bt384.1) l1 (l1.length : Int) (wrap64 (x14_1 + 1))) else (none)) else (some (([] : List Int), bt384.2)))) else (none)) else (none)) = some (r1, r2) := by first | (rw [hji8] at H; exact H) | (simp only [hji8] at H ⊢; exact H)
                by_cases c9 : 0 ≤ (ji8)
                · rw [if_pos c9] at H
                  have c9b0 : decide (0 ≤ (ji8)) = true := decide_eq_true c9
                  clear c9
                  by_cases c10 : (ji8) < (l0.length : Int)
                  · rw [if_pos c10] at H
                    have c10b0 : decide ((ji8) < (l0.length : Int)) = true := decide_eq_true c10
                    clear c10
                    replace H := Option.bind_eq_some_iff.mp H
                    obtain ⟨⟨t384, t387⟩, A110, H⟩ := H
                    replace H : (if t387 = 0 then (if x6_1.length + t384.length < 140737488355328 then (mark_All.l0 k1 l0 (x6_1 ++ t384) l1 (l1.length : Int) (wrap64 (x14_1 + 1))) else (none)) else (some (([] : List Int), t387))) = some (r1, r2) := H
                    have A11 := Aside0.mk A110
                    clear A110
                    by_cases c12 : t387 = 0
                    · rw [if_pos c12] at H
                      have c12b0 : (t387 == 0) = true := beq_iff_eq.mpr c12
                      have c12b1 : (t387 != 0) = false := bne_eq_false_iff_eq.mpr c12
                      clear c12
                      by_cases c13 : x6_1.length + t384.length < 140737488355328
                      · rw [if_pos c13] at H
                        have LMc13 := Aside0.mk c13
                        clear c13
                        obtain ⟨y388, hy388⟩ : ∃ y_ : List Int, y_ = (x6_1 ++ t384) := ⟨_, rfl⟩
                        replace H : (mark_All.l0 k1 l0 y388 l1 (l1.length : Int) (wrap64 (x14_1 + 1))) = some (r1, r2) := by first | (rw [hy388]; with_reducible exact H) | (have H2_ := (Option.bind_some _ _).symm.trans H; rw [hy388]; with_reducible exact H2_) | (have H2_ := (Option.bind_some _ _).symm.trans H; with_reducible exact H2_) | with_reducible exact H | (rw [hy388]; exact H) | exact H
                        have Ny388 := Aside0.mk hy388
                        clear hy388
                        have H' := Aside0.mk H
                        clear H
                        have p382 : 0 ≤ (x14_1 : Int) := of_decide_eq_true (by first | (with_reducible assumption) | assumption)
                        have q382 : x14_1 < (l1.length : Int) := of_decide_eq_true (by first | (with_reducible assumption) | assumption)
                        obtain ⟨ad382, A382_0, c382_0, e382, hx382_0, hl382_0, hi382_0⟩ := at_L1 HR1.out x14_1 p382 q382
                        cases e382
                        replace hx382_0 := (HB.out.cell (World.block_lt_of_cell? w _ hx382_0)).trans hx382_0
                        have HR382_0 := Aside0.mk hi382_0
                        have HC382_0 := Aside0.mk hl382_0
                        clear hi382_0 hl382_0
                        replace p382 := eq_true p382
                        replace q382 := eq_true q382
                        have p383 : 0 ≤ ((ji8) : Int) := of_decide_eq_true (by first | (with_reducible assumption) | assumption)
                        have q383 : (ji8) < (l0.length : Int) := of_decide_eq_true (by first | (with_reducible assumption) | assumption)
                        obtain ⟨ad383, e383, hx383_0⟩ := Kd.at_int HR0.out (ji8) p383 q383
                        cases e383
                        replace hx383_0 := (HB.out.cell (World.block_lt_of_cell? w _ hx383_0)).trans hx383_0
                        replace p383 := eq_true p383
                        replace q383 := eq_true q383
                        go_wp2_with (first | ((with_reducible refine gate_callee (f := 28) rfl ?_); refine goesL_ (some 32) rfl rfl Try.func28 (by kernel_rfl) rfl #[.slice A382_0 (rd_L1 l1 x14_1).length c382_0, .int .i64 (rd l0 (ji8))] rfl (by (try simp only [List.map_toArray, List.map_cons, List.map_nil]); first | done | (simp only [hji8]; rfl) | rfl | (simp only [List.length_drop, List.length_take]; rfl)) ?_; (with_reducible refine (mark_Mark.calls k1 (fun k_ => k_ < w.heap.size) _ _ (rd_L1 l1 x14_1) (rd l0 (ji8)) t384 t387 _ ?side1 A11.out).mono ?_); (case side1 => exact Kd.V_mk HC382_0.out (Kd.F_below (Kd.C_F (Kd.heap_int .u8) HR382_0.out) (by repeat (first | (with_reducible first | exact HB.out | apply below_alloc | apply pw_below_drewN | apply below_drew1) | exact HB.out)))); rintro e w14 ⟨v385, rfl, ho0, hb⟩; refine ⟨_, rfl, ?_⟩; have n0_ := Aside0.mk (Kd.R_elder' (by (with_reducible repeat (first | apply Kd.R_alloc | apply Kd.R_drewN | apply Kd.R_drew)); exact HO_6.out) (Kd.R_base ho0) hb); have n1_ := Aside0.mk (Kd.R_lower (Kd.R_new' (Kd.R_mono (ok' := fun k_ => True) ho0 (fun _ hk_ => trivial)) (Kd.R_lt (by (with_reducible repeat (first | apply Kd.R_alloc | apply Kd.R_drewN | apply Kd.R_drew)); exact HO_6.out))) (below_size (by repeat (first | (with_reducible first | exact HB.out | apply below_alloc | apply pw_below_drewN | apply below_drew1) | exact HB.out)))); have n2_ := Aside0.mk (below_step (by repeat (first | (with_reducible first | exact HB.out | apply below_alloc | apply pw_below_drewN | apply below_drew1) | exact HB.out)) hb); clear HO_6; clear HB; have HO_6 := n0_; have HO386 := n1_; have HB := n2_; clear n0_ n1_ n2_; (try clear hb); (try clear hb2); (try clear hk); (try clear hi); (try clear ho0); obtain ⟨Ao16, co16, eo16⟩ := Kd.R_slice HO386.out; subst eo16) | ((with_reducible refine gate_builtin (b := .append) (xs := #[.tmp 38, .tmp 39]) rfl ?_); at_builtin; refine Kd.R_append_rows (Kd.int .u8) (w0 := w) w.heap.size rfl (.tmp 38) (.tmp 39) 24 5 (.int .u8 0) 1 rfl Try.underlying24 info5 rfl (by decide) (by omega) u6 x6_1 t384 _ _ _ (fun k_ => some k_ ≠ (.slice Ao16 t384.length co16 : Value).ownBlock) (fun _ => False) rfl rfl ?aO ?aR (fun _ _ h => h) (fun _ h => h.elim) ?aF ?aB ?aS ?aL ?_; (case aR => repeat (first | exact (Kd.R_reads' HO386.out).2.2 | (with_reducible refine Kd.C_alloc ?_ _) | (with_reducible refine Kd.C_drewN ?_ _) | (with_reducible refine Kd.C_drew ?_))); (case aB => exact (by repeat (first | (with_reducible first | exact HB.out | apply below_alloc | apply pw_below_drewN | apply below_drew1) | exact HB.out))); (case aF => exact (fun k_ hk => Kd.fresh' (Kd.R_lt (by (with_reducible repeat (first | apply Kd.R_alloc | apply Kd.R_drewN | apply Kd.R_drew)); exact HO386.out)) k_ hk)); (case aO => exact (by (with_reducible repeat (first | apply Kd.R_alloc | apply Kd.R_drewN | apply Kd.R_drew)); exact Kd.R_mono HO_6.out (fun _ hk => hk.2))); (case aS => exact (below_size (by repeat (first | (with_reducible first | exact HB.out | apply below_alloc | apply pw_below_drewN | apply below_drew1) | exact HB.out)))); (case aL => have := LMc13.out; omega); intro v389 w15 ho hb hg hat; rw [← Ny388.out] at ho; have n0_ := Aside0.mk (Kd.R_after (ok := (fun _ => True)) (by (with_reducible repeat (first | apply Kd.R_alloc | apply Kd.R_drewN | apply Kd.R_drew)); exact HO386.out) hg hat); have n1_ := Aside0.mk (hb); have n2_ := Aside0.mk (ho); clear HO386; clear HB; clear HO_6; have HO386 := n0_; have HB := n1_; have HO390 := n2_; clear n0_ n1_ n2_; clear ho hb hg hat))
                        go_roundg k1
                        case measure => have := HK1.out; omega
                        case rel => exact ⟨(y388), (wrap64 (x14_1 + 1)), (by first | rfl | (simp; done) | (simp [*]; done)), H', ⟨by have := HK1.out; omega⟩, ⟨by (with_reducible repeat (first | apply Kd.R_alloc | apply Kd.R_drewN | apply Kd.R_drew)); exact Kd.R_mono HO390.out (fun _ hk => trivial)⟩, ⟨by repeat (first | (with_reducible first | exact HB.out | apply below_alloc | apply pw_below_drewN | apply below_drew1) | exact HB.out)⟩⟩
                      · rw [if_neg c13] at H
                        exact absurd H (by simp)
                    · rw [if_neg c12] at H
                      have c12b0 : (t387 == 0) = false := beq_eq_false_iff_ne.mpr c12
                      have c12b1 : (t387 != 0) = true := bne_iff_ne.mpr c12
                      simp only [Option.some.injEq, Prod.mk.injEq] at H
                      obtain ⟨rfl, rfl⟩ := H
                      have p382 : 0 ≤ (x14_1 : Int) := of_decide_eq_true (by first | (with_reducible assumption) | assumption)
                      have q382 : x14_1 < (l1.length : Int) := of_decide_eq_true (by first | (with_reducible assumption) | assumption)
                      obtain ⟨ad382, A382_0, c382_0, e382, hx382_0, hl382_0, hi382_0⟩ := at_L1 HR1.out x14_1 p382 q382
                      cases e382
                      replace hx382_0 := (HB.out.cell (World.block_lt_of_cell? w _ hx382_0)).trans hx382_0
                      have HR382_0 := Aside0.mk hi382_0
                      have HC382_0 := Aside0.mk hl382_0
                      clear hi382_0 hl382_0
                      replace p382 := eq_true p382
                      replace q382 := eq_true q382
                      have p383 : 0 ≤ ((ji8) : Int) := of_decide_eq_true (by first | (with_reducible assumption) | assumption)
                      have q383 : (ji8) < (l0.length : Int) := of_decide_eq_true (by first | (with_reducible assumption) | assumption)
                      obtain ⟨ad383, e383, hx383_0⟩ := Kd.at_int HR0.out (ji8) p383 q383
                      cases e383
                      replace hx383_0 := (HB.out.cell (World.block_lt_of_cell? w _ hx383_0)).trans hx383_0
                      replace p383 := eq_true p383
                      replace q383 := eq_true q383
                      go_wp2_with (first | ((with_reducible refine gate_callee (f := 28) rfl ?_); refine goesL_ (some 32) rfl rfl Try.func28 (by kernel_rfl) rfl #[.slice A382_0 (rd_L1 l1 x14_1).length c382_0, .int .i64 (rd l0 (ji8))] rfl (by (try simp only [List.map_toArray, List.map_cons, List.map_nil]); first | done | (simp only [hji8]; rfl) | rfl | (simp only [List.length_drop, List.length_take]; rfl)) ?_; (with_reducible refine (mark_Mark.calls k1 (fun k_ => k_ < w.heap.size) _ _ (rd_L1 l1 x14_1) (rd l0 (ji8)) t384 t387 _ ?side1 A11.out).mono ?_); (case side1 => exact Kd.V_mk HC382_0.out (Kd.F_below (Kd.C_F (Kd.heap_int .u8) HR382_0.out) (by repeat (first | (with_reducible first | exact HB.out | apply below_alloc | apply pw_below_drewN | apply below_drew1) | exact HB.out)))); rintro e w17 ⟨v385, rfl, ho0, hb⟩; refine ⟨_, rfl, ?_⟩; have n0_ := Aside0.mk (Kd.R_elder' (by (with_reducible repeat (first | apply Kd.R_alloc | apply Kd.R_drewN | apply Kd.R_drew)); exact HO_6.out) (Kd.R_base ho0) hb); have n1_ := Aside0.mk (Kd.R_lower (Kd.R_new' (Kd.R_mono (ok' := fun k_ => True) ho0 (fun _ hk_ => trivial)) (Kd.R_lt (by (with_reducible repeat (first | apply Kd.R_alloc | apply Kd.R_drewN | apply Kd.R_drew)); exact HO_6.out))) (below_size (by repeat (first | (with_reducible first | exact HB.out | apply below_alloc | apply pw_below_drewN | apply below_drew1) | exact HB.out)))); have n2_ := Aside0.mk (below_step (by repeat (first | (with_reducible first | exact HB.out | apply below_alloc | apply pw_below_drewN | apply below_drew1) | exact HB.out)) hb); clear HO_6; clear HB; have HO_6 := n0_; have HO386 := n1_; have HB := n2_; clear n0_ n1_ n2_; (try clear hb); (try clear hb2); (try clear hk); (try clear hi); (try clear ho0)))
                      go_ret2
                      exact ⟨_, by first | rfl | (simp [errW_none, errW_some] <;> rfl) | (simp only [← hji8]; first | rfl | (simp [errW_none, errW_some] <;> rfl)) | (simp [*, errW_none, errW_some] <;> rfl), by first | exact Kd.R_nil _ _ _ _ _ | exact Kd.N_nil _ _ _ _ _ | exact Kd.V_nil _ _ _ _ _ | exact Kd.Q_nil _ _ _ _ _ | exact Kd.S_nil _ _ _ _ _, by repeat (first | (with_reducible first | exact HB.out | apply below_alloc | apply pw_below_drewN | apply below_drew1) | exact HB.out)⟩
                  · rw [if_neg c10] at H
                    exact absurd H (by simp)
                · rw [if_neg c9] at H
                  exact absurd H (by simp)
            · rw [if_neg c6] at H
              have c6b0 : decide (0 < (l0.length : Int)) = false := decide_eq_false c6
              have c6b1 : decide (0 < l0.length) = false := decide_eq_false (by omega)
              clear c6
              replace H := Option.bind_eq_some_iff.mp H
              obtain ⟨⟨t391, t394⟩, A180, H⟩ := H
              replace H : (if t394 = 0 then (if x6_1.length + t391.length < 140737488355328 then (mark_All.l0 k1 l0 (x6_1 ++ t391) l1 (l1.length : Int) (wrap64 (x14_1 + 1))) else (none)) else (some (([] : List Int), t394))) = some (r1, r2) := H
              have A18 := Aside0.mk A180
              clear A180
              by_cases c19 : t394 = 0
              · rw [if_pos c19] at H
                have c19b0 : (t394 == 0) = true := beq_iff_eq.mpr c19
                have c19b1 : (t394 != 0) = false := bne_eq_false_iff_eq.mpr c19
                clear c19
                by_cases c20 : x6_1.length + t391.length < 140737488355328
                · rw [if_pos c20] at H
                  have LMc20 := Aside0.mk c20
                  clear c20
                  obtain ⟨y395, hy395⟩ : ∃ y_ : List Int, y_ = (x6_1 ++ t391) := ⟨_, rfl⟩
                  replace H : (mark_All.l0 k1 l0 y395 l1 (l1.length : Int) (wrap64 (x14_1 + 1))) = some (r1, r2) := by first | (rw [hy395]; with_reducible exact H) | (have H2_ := (Option.bind_some _ _).symm.trans H; rw [hy395]; with_reducible exact H2_) | (have H2_ := (Option.bind_some _ _).symm.trans H; with_reducible exact H2_) | with_reducible exact H | (rw [hy395]; exact H) | exact H
                  have Ny395 := Aside0.mk hy395
                  clear hy395
                  have H' := Aside0.mk H
                  clear H
                  have p382 : 0 ≤ (x14_1 : Int) := of_decide_eq_true (by first | (with_reducible assumption) | assumption)
                  have q382 : x14_1 < (l1.length : Int) := of_decide_eq_true (by first | (with_reducible assumption) | assumption)
                  obtain ⟨ad382, A382_0, c382_0, e382, hx382_0, hl382_0, hi382_0⟩ := at_L1 HR1.out x14_1 p382 q382
                  cases e382
                  replace hx382_0 := (HB.out.cell (World.block_lt_of_cell? w _ hx382_0)).trans hx382_0
                  have HR382_0 := Aside0.mk hi382_0
                  have HC382_0 := Aside0.mk hl382_0
                  clear hi382_0 hl382_0
                  replace p382 := eq_true p382
                  replace q382 := eq_true q382
                  go_wp2_with (first | ((with_reducible refine gate_callee (f := 28) rfl ?_); refine goesL_ (some 32) rfl rfl Try.func28 (by kernel_rfl) rfl #[.slice A382_0 (rd_L1 l1 x14_1).length c382_0, .int .i64 4096] rfl (by (try simp only [List.map_toArray, List.map_cons, List.map_nil]); first | done | rfl | (simp only [List.length_drop, List.length_take]; rfl)) ?_; (with_reducible refine (mark_Mark.calls k1 (fun k_ => k_ < w.heap.size) _ _ (rd_L1 l1 x14_1) 4096 t391 t394 _ ?side1 A18.out).mono ?_); (case side1 => exact Kd.V_mk HC382_0.out (Kd.F_below (Kd.C_F (Kd.heap_int .u8) HR382_0.out) (by repeat (first | (with_reducible first | exact HB.out | apply below_alloc | apply pw_below_drewN | apply below_drew1) | exact HB.out)))); rintro e w21 ⟨v392, rfl, ho0, hb⟩; refine ⟨_, rfl, ?_⟩; have n0_ := Aside0.mk (Kd.R_elder' (by (with_reducible repeat (first | apply Kd.R_alloc | apply Kd.R_drewN | apply Kd.R_drew)); exact HO_6.out) (Kd.R_base ho0) hb); have n1_ := Aside0.mk (Kd.R_lower (Kd.R_new' (Kd.R_mono (ok' := fun k_ => True) ho0 (fun _ hk_ => trivial)) (Kd.R_lt (by (with_reducible repeat (first | apply Kd.R_alloc | apply Kd.R_drewN | apply Kd.R_drew)); exact HO_6.out))) (below_size (by repeat (first | (with_reducible first | exact HB.out | apply below_alloc | apply pw_below_drewN | apply below_drew1) | exact HB.out)))); have n2_ := Aside0.mk (below_step (by repeat (first | (with_reducible first | exact HB.out | apply below_alloc | apply pw_below_drewN | apply below_drew1) | exact HB.out)) hb); clear HO_6; clear HB; have HO_6 := n0_; have HO393 := n1_; have HB := n2_; clear n0_ n1_ n2_; (try clear hb); (try clear hb2); (try clear hk); (try clear hi); (try clear ho0); obtain ⟨Ao23, co23, eo23⟩ := Kd.R_slice HO393.out; subst eo23) | ((with_reducible refine gate_builtin (b := .append) (xs := #[.tmp 38, .tmp 39]) rfl ?_); at_builtin; refine Kd.R_append_rows (Kd.int .u8) (w0 := w) w.heap.size rfl (.tmp 38) (.tmp 39) 24 5 (.int .u8 0) 1 rfl Try.underlying24 info5 rfl (by decide) (by omega) u6 x6_1 t391 _ _ _ (fun k_ => some k_ ≠ (.slice Ao23 t391.length co23 : Value).ownBlock) (fun _ => False) rfl rfl ?aO ?aR (fun _ _ h => h) (fun _ h => h.elim) ?aF ?aB ?aS ?aL ?_; (case aR => repeat (first | exact (Kd.R_reads' HO393.out).2.2 | (with_reducible refine Kd.C_alloc ?_ _) | (with_reducible refine Kd.C_drewN ?_ _) | (with_reducible refine Kd.C_drew ?_))); (case aB => exact (by repeat (first | (with_reducible first | exact HB.out | apply below_alloc | apply pw_below_drewN | apply below_drew1) | exact HB.out))); (case aF => exact (fun k_ hk => Kd.fresh' (Kd.R_lt (by (with_reducible repeat (first | apply Kd.R_alloc | apply Kd.R_drewN | apply Kd.R_drew)); exact HO393.out)) k_ hk)); (case aO => exact (by (with_reducible repeat (first | apply Kd.R_alloc | apply Kd.R_drewN | apply Kd.R_drew)); exact Kd.R_mono HO_6.out (fun _ hk => hk.2))); (case aS => exact (below_size (by repeat (first | (with_reducible first | exact HB.out | apply below_alloc | apply pw_below_drewN | apply below_drew1) | exact HB.out)))); (case aL => have := LMc20.out; omega); intro v396 w22 ho hb hg hat; rw [← Ny395.out] at ho; have n0_ := Aside0.mk (Kd.R_after (ok := (fun _ => True)) (by (with_reducible repeat (first | apply Kd.R_alloc | apply Kd.R_drewN | apply Kd.R_drew)); exact HO393.out) hg hat); have n1_ := Aside0.mk (hb); have n2_ := Aside0.mk (ho); clear HO393; clear HB; clear HO_6; have HO393 := n0_; have HB := n1_; have HO397 := n2_; clear n0_ n1_ n2_; clear ho hb hg hat))
                  go_roundg k1
                  case measure => have := HK1.out; omega
                  case rel => exact ⟨(y395), (wrap64 (x14_1 + 1)), (by first | rfl | (simp; done) | (simp [*]; done)), H', ⟨by have := HK1.out; omega⟩, ⟨by (with_reducible repeat (first | apply Kd.R_alloc | apply Kd.R_drewN | apply Kd.R_drew)); exact Kd.R_mono HO397.out (fun _ hk => trivial)⟩, ⟨by repeat (first | (with_reducible first | exact HB.out | apply below_alloc | apply pw_below_drewN | apply below_drew1) | exact HB.out)⟩⟩
                · rw [if_neg c20] at H
                  exact absurd H (by simp)
              · rw [if_neg c19] at H
                have c19b0 : (t394 == 0) = false := beq_eq_false_iff_ne.mpr c19
                have c19b1 : (t394 != 0) = true := bne_iff_ne.mpr c19
                simp only [Option.some.injEq, Prod.mk.injEq] at H
                obtain ⟨rfl, rfl⟩ := H
                have p382 : 0 ≤ (x14_1 : Int) := of_decide_eq_true (by first | (with_reducible assumption) | assumption)
                have q382 : x14_1 < (l1.length : Int) := of_decide_eq_true (by first | (with_reducible assumption) | assumption)
                obtain ⟨ad382, A382_0, c382_0, e382, hx382_0, hl382_0, hi382_0⟩ := at_L1 HR1.out x14_1 p382 q382
                cases e382
                replace hx382_0 := (HB.out.cell (World.block_lt_of_cell? w _ hx382_0)).trans hx382_0
                have HR382_0 := Aside0.mk hi382_0
                have HC382_0 := Aside0.mk hl382_0
                clear hi382_0 hl382_0
                replace p382 := eq_true p382
                replace q382 := eq_true q382
                go_wp2_with (first | ((with_reducible refine gate_callee (f := 28) rfl ?_); refine goesL_ (some 32) rfl rfl Try.func28 (by kernel_rfl) rfl #[.slice A382_0 (rd_L1 l1 x14_1).length c382_0, .int .i64 4096] rfl (by (try simp only [List.map_toArray, List.map_cons, List.map_nil]); first | done | rfl | (simp only [List.length_drop, List.length_take]; rfl)) ?_; (with_reducible refine (mark_Mark.calls k1 (fun k_ => k_ < w.heap.size) _ _ (rd_L1 l1 x14_1) 4096 t391 t394 _ ?side1 A18.out).mono ?_); (case side1 => exact Kd.V_mk HC382_0.out (Kd.F_below (Kd.C_F (Kd.heap_int .u8) HR382_0.out) (by repeat (first | (with_reducible first | exact HB.out | apply below_alloc | apply pw_below_drewN | apply below_drew1) | exact HB.out)))); rintro e w24 ⟨v392, rfl, ho0, hb⟩; refine ⟨_, rfl, ?_⟩; have n0_ := Aside0.mk (Kd.R_elder' (by (with_reducible repeat (first | apply Kd.R_alloc | apply Kd.R_drewN | apply Kd.R_drew)); exact HO_6.out) (Kd.R_base ho0) hb); have n1_ := Aside0.mk (Kd.R_lower (Kd.R_new' (Kd.R_mono (ok' := fun k_ => True) ho0 (fun _ hk_ => trivial)) (Kd.R_lt (by (with_reducible repeat (first | apply Kd.R_alloc | apply Kd.R_drewN | apply Kd.R_drew)); exact HO_6.out))) (below_size (by repeat (first | (with_reducible first | exact HB.out | apply below_alloc | apply pw_below_drewN | apply below_drew1) | exact HB.out)))); have n2_ := Aside0.mk (below_step (by repeat (first | (with_reducible first | exact HB.out | apply below_alloc | apply pw_below_drewN | apply below_drew1) | exact HB.out)) hb); clear HO_6; clear HB; have HO_6 := n0_; have HO393 := n1_; have HB := n2_; clear n0_ n1_ n2_; (try clear hb); (try clear hb2); (try clear hk); (try clear hi); (try clear ho0)))
                go_ret2
                exact ⟨_, by first | rfl | (simp [errW_none, errW_some] <;> rfl) | (simp [*, errW_none, errW_some] <;> rfl), by first | exact Kd.R_nil _ _ _ _ _ | exact Kd.N_nil _ _ _ _ _ | exact Kd.V_nil _ _ _ _ _ | exact Kd.Q_nil _ _ _ _ _ | exact Kd.S_nil _ _ _ _ _, by repeat (first | (with_reducible first | exact HB.out | apply below_alloc | apply pw_below_drewN | apply below_drew1) | exact HB.out)⟩
          · rw [if_neg c5] at H
            exact absurd H (by simp)
        · rw [if_neg c4] at H
          exact absurd H (by simp)
      · rw [if_neg c3] at H
        have c3b0 : decide (x14_1 < (l1.length : Int)) = false := decide_eq_false c3
        clear c3
        simp only [Option.some.injEq, Prod.mk.injEq] at H
        obtain ⟨rfl, rfl⟩ := H
        go_wp2
        go_ret2
        exact ⟨_, by first | rfl | (simp [errW_none, errW_some] <;> rfl) | (simp [*, errW_none, errW_some] <;> rfl), by (with_reducible repeat (first | apply Kd.R_alloc | apply Kd.R_drewN | apply Kd.R_drew)); exact HO_6.out, by repeat (first | (with_reducible first | exact HB.out | apply below_alloc | apply pw_below_drewN | apply below_drew1) | exact HB.out)⟩

/-! ### truchmanref03_Size: function 37 -/
def truchmanref03_Size.f (l0 : List Int) (a1 : Int) : Option (Int) := if (l0.length : Int) = 0 then (some 4096) else (if 0 ≤ (Int.tmod a1 (l0.length : Int)) then (if (Int.tmod a1 (l0.length : Int)) < (l0.length : Int) then (some (rd l0 (Int.tmod a1 (l0.length : Int)))) else (none)) else (none))
set_option maxHeartbeats 8000000 in
set_option maxRecDepth 100000 in
theorem truchmanref03_Size.calls (A0 : Option Addr) (c0 : Nat) (l0 : List Int) (a1 : Int) (r : Int) (w : World) (hr0 : Kd.C (Kd.int .i64) w A0 l0.length l0) (hc0 : l0.length ≤ c0) (h : truchmanref03_Size.f l0 a1 = some r) :
    Calls Try.prog 37 #[.slice A0 l0.length c0, .int .i64 a1] w fun e w' => e = .returned (.int .i64 r) ∧ Drawn0 w w' := by
  have HR0 := Aside0.mk hr0
  have HC0 := Aside0.mk hc0
  clear hr0 hc0
  have H : (if (l0.length : Int) = 0 then (some 4096) else (if 0 ≤ (Int.tmod a1 (l0.length : Int)) then (if (Int.tmod a1 (l0.length : Int)) < (l0.length : Int) then (some (rd l0 (Int.tmod a1 (l0.length : Int)))) else (none)) else (none))) = some r := h
  clear h
  by_cases c3 : (l0.length : Int) = 0
  · rw [if_pos c3] at H
    have c3b0 : ((l0.length : Int) == 0) = true := beq_iff_eq.mpr c3
    have c3b1 : ((l0.length : Int) != 0) = false := bne_eq_false_iff_eq.mpr c3
    clear c3
    obtain rfl := Option.some.inj H
    go_enter Try.func37, Try.ntmps37
    go_wp2
    go_ret
    exact ⟨by first | rfl | (simp; done) | (simp [*]; done), by repeat (first | exact Drawn0.refl _ | apply Drawn0.step)⟩
  · rw [if_neg c3] at H
    have c3b0 : ((l0.length : Int) == 0) = false := beq_eq_false_iff_ne.mpr c3
    have c3b1 : ((l0.length : Int) != 0) = true := bne_iff_ne.mpr c3
    have c3b2 : ¬ (l0 = []) := fun h_ => c3 (by rw [h_]; rfl)
    obtain ⟨ji4, hji4⟩ : ∃ j_ : Int, (Int.tmod a1 (l0.length : Int)) = j_ := ⟨_, rfl⟩
    replace H : (if 0 ≤ (ji4) then (if (ji4) < (l0.length : Int) then (some (rd l0 (ji4))) else (none)) else (none)) = some r := by first | (rw [hji4] at H; exact H) | (simp only [hji4] at H ⊢; exact H)
    by_cases c5 : 0 ≤ (ji4)
    · rw [if_pos c5] at H
      have c5b0 : decide (0 ≤ (ji4)) = true := decide_eq_true c5
      clear c5
      by_cases c6 : (ji4) < (l0.length : Int)
      · rw [if_pos c6] at H
        have c6b0 : decide ((ji4) < (l0.length : Int)) = true := decide_eq_true c6
        clear c6
        obtain rfl := Option.some.inj H
        have p398 : 0 ≤ ((ji4) : Int) := of_decide_eq_true (by first | (with_reducible assumption) | assumption)
        have q398 : (ji4) < (l0.length : Int) := of_decide_eq_true (by first | (with_reducible assumption) | assumption)
        obtain ⟨ad398, e398, hx398_0⟩ := Kd.at_int HR0.out (ji4) p398 q398
        cases e398
        replace p398 := eq_true p398
        replace q398 := eq_true q398
        go_enter Try.func37, Try.ntmps37
        go_wp2
        go_ret
        exact ⟨by first | rfl | (simp; done) | (simp only [← hji4] <;> (first | rfl | simp)) | (simp [*]; done), by repeat (first | exact Drawn0.refl _ | apply Drawn0.step)⟩
      · rw [if_neg c6] at H
        exact absurd H (by simp)
    · rw [if_neg c5] at H
      exact absurd H (by simp)

end Go.Proofs.Ytdfnhmgopihfcaa.P
