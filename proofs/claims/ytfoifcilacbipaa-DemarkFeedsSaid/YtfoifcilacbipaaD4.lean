/- The hand-made contracts of demark.Deframer, fourth part: number. -/
import Derived.Test.YtfoifcilacbipaaD3
import Derived.Laws.BitsLemmas
namespace Go.Proofs.Ytfoifcilacbipaa.G
open Go.RowKit Go.Proofs.YtfoifcilacbipaaW.PrintWords Go.Proofs.YtfoifcilacbipaaW.PrintLast Go.Proofs.YtfoifcilacbipaaW.PrintMore
set_option linter.unusedVariables false
set_option linter.unusedSimpArgs false

/-- What is known of a deframer's numbers. -/
structure Bnd (s : DSt) : Prop where mk ::
  n0 : 0 ≤ s.n
  n1 : s.n ≤ 1000000
  out : s.out.length ≤ 1000000
  frag : s.frag.length ≤ 1000000
  head : s.head.length ≤ 3
  most0 : 0 ≤ s.most
  most1 : s.most ≤ 1000000
  left0 : -1000000 ≤ s.left
  left1 : s.left ≤ 10000000000

theorem andNot31 (n : Nat) (h : (n : Int) < 4294967296) : Go.bits .andNot .u32 (n : Int) 2147483648 = ((n % 2147483648 : Nat) : Int) := by
  have h2 : ((2147483648 : Nat) : Int) = 2147483648 := rfl
  rw [← h2]
  simp only [Go.bits, BitVec.ofInt_natCast, BitVec.toNat_and, BitVec.toNat_not, BitVec.toNat_ofNat]
  have e1 : 2 ^ IntKind.u32.bits - 1 - 2147483648 % 2 ^ IntKind.u32.bits = 2 ^ 31 - 1 := by decide
  have e2 : n % 2 ^ IntKind.u32.bits = n := Nat.mod_eq_of_lt (by show n < 4294967296; omega)
  rw [e1, e2, Nat.and_two_pow_sub_one_eq_mod, IntKind.wrap_u32]
  omega
set_option maxHeartbeats 8000000 in
set_option maxRecDepth 100000 in
theorem number_calls_d (ok : Nat → Prop) (g : Nat) (s : DSt) (c : Int) (w : World) (h : DF ok w g s) (hs : Bnd s) (hnew : ∀ k, w.heap.size ≤ k → ok k) :
    Calls Try.prog 42 #[.pointer (some ⟨g, 0, none⟩), .int .u8 c] w fun r w' => r = .returned (.tuple #[]) ∧ DF ok w' g (dNumber s c) ∧ Frm ok w w' := by
  have hu := Try.underlying86
  have hmf : ∀ (fn : Fn) (first cap : Array Value) (w : World), (Instr.makeFunc fn first cap).run Try.prog w = .ok (.func fn first cap) w := fun _ _ _ _ => rfl
  have HMF := Aside0.mk hmf
  clear hmf
  obtain ⟨hg, vh, vr, vo, hb, hrows⟩ := h
  obtain ⟨Ah, ch, rfl⟩ := Kd.R_slice hrows.1
  obtain ⟨Ar, cr, rfl⟩ := Kd.R_slice hrows.2.1
  have c3 : w.cell? ⟨g, 3, none⟩ = some (.slice Ah s.head.length ch) := (blk_cell hb 3).trans rfl
  have HB := Aside0.mk hb
  have HR := Aside0.mk hrows
  have HNE := Aside0.mk (DRows_ne hrows)
  have HGL := Aside0.mk (blk_lt hb)
  have HW := Aside0.mk hnew
  have HS := Aside0.mk hs
  have hhd := hs.head
  clear hb hrows hnew hs
  rcases Nat.lt_or_ge (s.head.length + 1) 4 with h4 | h4
  · have HSt : Aside0 (dNumber s c = { s with head := s.head ++ [c] }) := ⟨by unfold dNumber; rw [if_pos h4]⟩
    have k1 : (s.head.length : Int) + 1 < 4 := by omega
    clear h4
    go_enter Try.func42, Try.ntmps42
    go_wp2_with (first | ((with_reducible refine gate_builtin (b := .append) (xs := #[.tmp 9, .tmp 11]) rfl ?_); at_builtin; refine Kd.R_append (Kd.int .u8) (w0 := w) 0 rfl (.tmp 9) (.tmp 11) 28 5 (.int .u8 0) 1 rfl Try.underlying28 infoU8r rfl (by decide) (by omega) (.slice Ah s.head.length ch) s.head c [.int .u8 c] (fun k => ok k ∧ k ≠ g) (fun _ => False) rfl rfl ?aP (fun _ hk => hk.elim) ?aF ?aO ?aB ?aS ?aL ?_; (case aP => exact rfl); (case aF => exact (fun k hk => ⟨HW.out k hk, by have := HGL.out; omega⟩)); (case aO => exact HR.out.1); (case aB => exact Below.refl 0 _); (case aS => exact Nat.zero_le _); (case aL => omega); intro v1 w1 hr1 hb1 hg1 hat1; obtain ⟨A1, c1, rfl, hl1, _⟩ := Kd.R_reads hr1; have hgb := (hg1.block g HGL.out HNE.out.1).trans HB.out; have c3' : w1.cell? ⟨g, 3, none⟩ = some (.slice Ah s.head.length ch) := (blk_cell hgb 3).trans rfl; have z3' := blk_frozen hgb 3; have HGB := Aside0.mk hgb; have HD1 := Aside0.mk (DRows_head HR.out hg1 hat1 hr1); have HF1 := Aside0.mk ((Frm.refl ok w).grown hg1 (fun k hk _ => (HR.out.1.1 k hk).1)); have HS1 := Aside0.mk hg1.size; clear hgb hr1 hb1 hg1 hat1 hl1))
    refine bodyPost_ret (results_none rfl _ _ _) rfl ?_
    rw [HSt.out]
    have hlen : (s.head ++ [c]).length = s.head.length + 1 := by simp
    refine ⟨rfl, ⟨hg, .slice A1 (s.head.length + 1) c1, .slice Ar s.frag.length cr, vo, blk_put HGB.out 3 (.slice A1 (s.head.length + 1) c1) rfl, ?_⟩, HF1.out.set g 3 hg _⟩
    have h := HD1.out
    rw [hlen] at h
    exact DRows_set h 3 _
  · have k1 : 4 ≤ (s.head.length : Int) + 1 := by omega
    obtain ⟨hd, hhd2⟩ : ∃ hd, hd = s.head ++ [c] := ⟨_, rfl⟩
    have hlen : hd.length = s.head.length + 1 := by rw [hhd2]; simp
    have HHD := Aside0.mk (And.intro hhd2 hlen)
    clear hhd2 hlen
    go_enter Try.func42, Try.ntmps42
    go_wp2_with (first | ((with_reducible refine gate_builtin (b := .append) (xs := #[.tmp 9, .tmp 11]) rfl ?_); at_builtin; refine Kd.R_append (Kd.int .u8) (w0 := w) 0 rfl (.tmp 9) (.tmp 11) 28 5 (.int .u8 0) 1 rfl Try.underlying28 infoU8r rfl (by decide) (by omega) (.slice Ah s.head.length ch) s.head c [.int .u8 c] (fun k => ok k ∧ k ≠ g) (fun _ => False) rfl rfl ?aP (fun _ hk => hk.elim) ?aF ?aO ?aB ?aS ?aL ?_; (case aP => exact rfl); (case aF => exact (fun k hk => ⟨HW.out k hk, by have := HGL.out; omega⟩)); (case aO => exact HR.out.1); (case aB => exact Below.refl 0 _); (case aS => exact Nat.zero_le _); (case aL => omega); intro v1 w1 hr1 hb1 hg1 hat1; rw [← HHD.out.1] at hr1; obtain ⟨A1, c1, rfl, hl1, hrr1⟩ := Kd.R_reads hr1; have hgb := (hg1.block g HGL.out HNE.out.1).trans HB.out; have c3' : w1.cell? ⟨g, 3, none⟩ = some (.slice Ah s.head.length ch) := (blk_cell hgb 3).trans rfl; have z3' := blk_frozen hgb 3; have HGB := Aside0.mk hgb; have HL1 := Aside0.mk hl1; have HD1 := Aside0.mk (DRows_head HR.out hg1 hat1 hr1); have HF1 := Aside0.mk ((Frm.refl ok w).grown hg1 (fun k hk _ => (HR.out.1.1 k hk).1)); have HS1 := Aside0.mk hg1.size; have HR1 := Aside0.mk hr1; have hdl : 4 ≤ (hd.length : Int) := (by have := HHD.out.2; omega); clear hgb hr1 hb1 hg1 hat1 hl1 hrr1))
    have HD2 : Aside0 (DF ok (w1.setCell ⟨g, 3, none⟩ (.slice A1 hd.length c1)) g { s with head := hd }) := ⟨⟨hg, .slice A1 hd.length c1, .slice Ar s.frag.length cr, vo, blk_put HGB.out 3 (.slice A1 hd.length c1) rfl, by
      exact DRows_set HD1.out 3 _⟩⟩
    have HF2 := Aside0.mk (HF1.out.set g 3 hg (.slice A1 hd.length c1))
    have HHR : Aside0 (Kd.R (Kd.int .u8) 5 (w1.setCell ⟨g, 3, none⟩ (.slice A1 hd.length c1)) 0 (fun k => ok k ∧ k ≠ g) (.slice A1 hd.length c1) hd) := ⟨Kd.R_far (p := ⟨g, 3, none⟩) HR1.out (fun _ hk => hk.2) _⟩
    have HS2 : Aside0 (w.heap.size ≤ (w1.setCell ⟨g, 3, none⟩ (.slice A1 hd.length c1)).heap.size) := ⟨by have := HS1.out; simp; omega⟩
    obtain ⟨w2, hw2⟩ : ∃ w2, w2 = w1.setCell ⟨g, 3, none⟩ (.slice A1 hd.length c1) := ⟨_, rfl⟩
    rw [← hw2] at HD2 HF2 HHR HS2 ⊢
    clear hw2 HD1 HF1 HGB HR1 HS1 HB HR c3' z3' c3
    have hdl2 : hd.length ≤ 4 := by have := HHD.out.2; omega
    refine (Read_calls A1 c1 hd w2 (Kd.R_reads' HHR.out).2.2 HL1.out (by omega)).mono ?_
    rintro r w3 ⟨q, rfl, hq, hq', hrd, hB3⟩
    have HD3 : Aside0 (DF (fun k => ok k ∧ k < w2.heap.size) w3 g { s with head := hd }) := ⟨DF_frm (DF_bound HD2.out) (Frm.of_below (ok := fun _ => False) hB3) (fun _ _ _ h => h)⟩
    have HRD := Aside0.mk hrd
    have HQ := Aside0.mk hq
    have HF3 := Aside0.mk (HF2.out.trans (Frm.of_below hB3))
    have HS3 := Aside0.mk (Nat.le_trans HS2.out hB3.size)
    clear hrd hq hq' hB3 HD2 HF2 HHR
    go_wp2_with fail
    refine (U32R_calls _ q 0 hd w3 HRD.out).mono ?_
    rintro r w4 ⟨rfl, _, hm4⟩
    rw [show valN 0 (takeO 0 hd 4) % 4294967296 = num4 hd from rfl]
    have hqok : q < w3.heap.size → ok q := fun _ => HW.out q (Nat.le_trans HS2.out HQ.out)
    have HD4 : Aside0 (DF ok w4 g { s with head := hd }) := ⟨DF_mono (DF_frm HD3.out (Frm.of_mov (ok := fun k => k = q) hm4 (fun _ => rfl)) (fun k hk _ e => by have h1 := hk.2; have h2 := HQ.out; omega)) (fun k hk => hk.1)⟩
    have HF4 := Aside0.mk (HF3.out.trans (Frm.of_mov hm4 hqok))
    have HS4 := Aside0.mk (Nat.le_trans HS3.out hm4.size)
    clear hm4 HD3 HRD HF3 hqok
    obtain ⟨v, hv⟩ : ∃ v, v = num4 hd := ⟨_, rfl⟩
    have hv0 : 0 ≤ v ∧ v < 4294967296 := by rw [hv]; unfold num4; omega
    rw [← hv]
    have HV := Aside0.mk hv
    clear hv
    obtain ⟨hv1, hv2⟩ := hv0
    obtain ⟨lf, hlf⟩ : ∃ lf : Int, lf = v % 2147483648 := ⟨_, rfl⟩
    have hlf2 : 0 ≤ lf ∧ lf < 2147483648 := by omega
    have e1 : Go.bits .andNot .u32 v 2147483648 = lf := by
      obtain ⟨n, rfl⟩ := Int.eq_ofNat_of_zero_le hv1
      rw [andNot31 n hv2, hlf]
      omega
    have HLF := Aside0.mk hlf
    obtain ⟨lf0, lf1⟩ := hlf2
    clear hlf
    obtain ⟨_, vh4, vr4, vo4, hb4, hrows4⟩ := HD4.out
    obtain ⟨Ah4, ch4, rfl⟩ := Kd.R_slice hrows4.1
    obtain ⟨Ar4, cr4, rfl⟩ := Kd.R_slice hrows4.2.1
    have d0 : w4.cell? ⟨g, 0, none⟩ = some (.int .i64 s.most) := (blk_cell hb4 0).trans rfl
    have d1 : w4.cell? ⟨g, 1, none⟩ = some (.int .i64 s.frags) := (blk_cell hb4 1).trans rfl
    have d2 : w4.cell? ⟨g, 2, none⟩ = some (nextV g s.mode) := (blk_cell hb4 2).trans rfl
    have d3 : w4.cell? ⟨g, 3, none⟩ = some (.slice Ah4 hd.length ch4) := (blk_cell hb4 3).trans rfl
    have d4 : w4.cell? ⟨g, 4, none⟩ = some (.slice Ar4 s.frag.length cr4) := (blk_cell hb4 4).trans rfl
    have d5 : w4.cell? ⟨g, 5, none⟩ = some (.int .i64 s.left) := (blk_cell hb4 5).trans rfl
    have d6 : w4.cell? ⟨g, 6, none⟩ = some (.int .i64 s.n) := (blk_cell hb4 6).trans rfl
    have d7 : w4.cell? ⟨g, 7, none⟩ = some (.bool s.ends) := (blk_cell hb4 7).trans rfl
    have y2 := blk_frozen hb4 2
    have y3 := blk_frozen hb4 3
    have y5 := blk_frozen hb4 5
    have y6 := blk_frozen hb4 6
    have y7 := blk_frozen hb4 7
    have HB4 := Aside0.mk hb4
    have HR4 := Aside0.mk hrows4
    clear hb4 hrows4
    have n0 := HS.out.n0
    have n1 := HS.out.n1
    go_wp2_with fail
    have hw5 : w4.heap.size = w4.heap.size := rfl
    obtain ⟨bb, hbb⟩ : ∃ bb, bb = decide (2147483648 ≤ v) := ⟨_, rfl⟩
    rw [← hbb]
    have HBB := Aside0.mk hbb
    obtain ⟨s1, hs1⟩ : ∃ s1 : DSt, s1 = { s with head := [], n := s.n + 1, ends := bb, left := lf } := ⟨_, rfl⟩
    have HD5 : Aside0 (DF ok ((((w4.setCell ⟨g, 3, none⟩ (.slice none 0 0)).setCell ⟨g, 6, none⟩ (.int .i64 (s.n + 1))).setCell ⟨g, 7, none⟩ (.bool bb)).setCell ⟨g, 5, none⟩ (.int .i64 lf)) g s1) := ⟨⟨hg, .slice none 0 0, .slice Ar4 s.frag.length cr4, vo4, by
      rw [hs1]
      exact blk_put (blk_put (blk_put (blk_put HB4.out 3 (.slice none 0 0) rfl) 6 (.int .i64 (s.n + 1)) rfl) 7 (.bool bb) rfl) 5 (.int .i64 lf) rfl, by
      rw [hs1]
      have h := DRows_set (DRows_set (DRows_set (DRows_set HR4.out 3 (.slice none 0 0)) 6 (.int .i64 (s.n + 1))) 7 (.bool bb)) 5 (.int .i64 lf)
      exact ⟨Kd.R_nil _ _ _ _ _, Kd.R_mono h.2.1 (fun k hk => ⟨hk.1, by simp [Value.ownBlock]⟩), Kd.N_mono h.2.2 (fun k hk => ⟨⟨hk.1.1, by simp [Value.ownBlock]⟩, hk.2⟩)⟩⟩⟩
    have HF5 := Aside0.mk ((((HF4.out.set g 3 hg (.slice none 0 0)).set g 6 hg (.int .i64 (s.n + 1))).set g 7 hg (.bool bb)).set g 5 hg (.int .i64 lf))
    have HS5 : Aside0 (w.heap.size ≤ ((((w4.setCell ⟨g, 3, none⟩ (.slice none 0 0)).setCell ⟨g, 6, none⟩ (.int .i64 (s.n + 1))).setCell ⟨g, 7, none⟩ (.bool bb)).setCell ⟨g, 5, none⟩ (.int .i64 lf)).heap.size) := ⟨by have := HS4.out; simp; omega⟩
    generalize ((((w4.setCell ⟨g, 3, none⟩ (.slice none 0 0)).setCell ⟨g, 6, none⟩ (.int .i64 (s.n + 1))).setCell ⟨g, 7, none⟩ (.bool bb)).setCell ⟨g, 5, none⟩ (.int .i64 lf)) = w5 at HD5 HF5 HS5 ⊢
    clear hbb hw5 HF4 HD4 HB4 HR4 d0 d1 d2 d3 d4 d5 d6 d7 y2 y3 y5 y6 y7 e1 hv1 hv2
    obtain ⟨_, vh5, vr5, vo5, hb5, hrows5⟩ := HD5.out
    obtain ⟨Ar5, cr5, rfl⟩ := Kd.R_slice hrows5.2.1
    have q1 : s1.frags = s.frags ∧ s1.most = s.most ∧ s1.frag = s.frag ∧ s1.n = s.n + 1 ∧ s1.left = lf ∧ s1.out = s.out := by rw [hs1]; exact ⟨rfl, rfl, rfl, rfl, rfl, rfl⟩
    obtain ⟨q1, q2, q3, q4, q5, q6⟩ := q1
    have d0 : w5.cell? ⟨g, 0, none⟩ = some (.int .i64 s.most) := by rw [← q2]; exact (blk_cell hb5 0).trans rfl
    have d1 : w5.cell? ⟨g, 1, none⟩ = some (.int .i64 s.frags) := by rw [← q1]; exact (blk_cell hb5 1).trans rfl
    have d2 : w5.cell? ⟨g, 2, none⟩ = some (nextV g s1.mode) := (blk_cell hb5 2).trans rfl
    have d4 : w5.cell? ⟨g, 4, none⟩ = some (.slice Ar5 s.frag.length cr5) := by rw [← q3]; exact (blk_cell hb5 4).trans rfl
    have d5 : w5.cell? ⟨g, 5, none⟩ = some (.int .i64 lf) := by rw [← q5]; exact (blk_cell hb5 5).trans rfl
    have d6 : w5.cell? ⟨g, 6, none⟩ = some (.int .i64 (s.n + 1)) := by rw [← q4]; exact (blk_cell hb5 6).trans rfl
    have y2 := blk_frozen hb5 2
    have HB5 := Aside0.mk hb5
    have HR5 := Aside0.mk hrows5
    have HNew : Aside0 (∀ k, w5.heap.size ≤ k → ok k) := ⟨fun k hk => HW.out k (Nat.le_trans HS5.out hk)⟩
    obtain ⟨s2, hs2⟩ : ∃ s2 : DSt, s2 = { s1 with mode := 1 } := ⟨_, rfl⟩
    have HS2' := Aside0.mk hs2
    have HDN : Aside0 (dNumber s c = if s1.n > s1.frags then dFail s1 5 else if s1.left > s1.most - s1.frag.length then dFail s1 4 else if s1.left = 0 then dOver s1 else s2) := ⟨by
      rw [hs2]
      unfold dNumber
      rw [if_neg (by omega), ← HHD.out.1, ← HV.out, hs1, HBB.out, HLF.out]⟩
    rw [q1, q2, q3, q4, q5] at HDN
    have m0 := HS.out.most0
    have m1 := HS.out.most1
    have f1 := HS.out.frag
    have e0 : IntKind.i64.wrap (s.most - (s.frag.length : Int)) = s.most - (s.frag.length : Int) := by rw [IntKind.wrap_i64]; omega
    have HOL : Aside0 (s1.out.length ≤ 1000000) := ⟨by rw [q6]; exact HS.out.out⟩
    clear hs2 hb5 hrows5 hs1 q1 q2 q3 q4 q5 q6
    rcases Classical.em (s.n + 1 > s.frags) with t1 | t1
    · have k2 : decide (s.n + 1 > s.frags) = true := decide_eq_true t1
      have k3 : decide (s.frags < s.n + 1) = true := decide_eq_true t1
      rw [if_pos t1] at HDN
      go_quiet (fail)
      go_wp2_with fail
      refine (fail_calls_d ok g s1 5 _ (DF_below HD5.out (pw_below_drewN (Below.refl _ _) _))).mono ?_
      rintro r w6 ⟨rfl, hd6, hf6⟩
      have HD6 := Aside0.mk hd6
      have HF6 := Aside0.mk ((HF5.out.drewN _).trans hf6)
      clear hd6 hf6
      go_wp2_with fail
      go_end0
      rw [HDN.out]
      exact ⟨rfl, HD6.out, HF6.out⟩
    · have k2 : decide (s.n + 1 > s.frags) = false := decide_eq_false t1
      have k3 : decide (s.frags < s.n + 1) = false := decide_eq_false t1
      have k4 : s.n + 1 ≤ s.frags := by omega
      rw [if_neg t1] at HDN
      clear t1
      rcases Classical.em (lf > s.most - (s.frag.length : Int)) with t2 | t2
      · have k5 : decide (lf > s.most - (s.frag.length : Int)) = true := decide_eq_true t2
        have k6 : decide (s.most - (s.frag.length : Int) < lf) = true := decide_eq_true t2
        rw [if_pos t2] at HDN
        go_quiet (fail)
        go_wp2_with fail
        go_quiet (fail)
        go_wp2_with fail
        refine (fail_calls_d ok g s1 4 _ (DF_below HD5.out (pw_below_drewN (Below.refl _ _) _))).mono ?_
        rintro r w6 ⟨rfl, hd6, hf6⟩
        have HD6 := Aside0.mk hd6
        have HF6 := Aside0.mk ((HF5.out.drewN _).trans hf6)
        clear hd6 hf6
        go_wp2_with fail
        go_end0
        rw [HDN.out]
        exact ⟨rfl, HD6.out, HF6.out⟩
      · have k5 : decide (lf > s.most - (s.frag.length : Int)) = false := decide_eq_false t2
        have k6 : decide (s.most - (s.frag.length : Int) < lf) = false := decide_eq_false t2
        have k7 : lf ≤ s.most - (s.frag.length : Int) := by omega
        rw [if_neg t2] at HDN
        clear t2
        rcases Classical.em (lf = 0) with t3 | t3
        · have k8 : (lf == 0) = true := beq_iff_eq.mpr t3
          rw [if_pos t3] at HDN
          clear t3
          go_quiet (fail)
          go_wp2_with fail
          go_quiet (fail)
          go_wp2_with fail
          refine (over_calls ok g s1 _ (DF_below HD5.out (pw_below_drewN (Below.refl _ _) _)) HOL.out (fun k hk => HNew.out k hk)).mono ?_
          rintro r w6 ⟨rfl, hd6, hf6⟩
          have HD6 := Aside0.mk hd6
          have HF6 := Aside0.mk ((HF5.out.drewN _).trans hf6)
          clear hd6 hf6
          go_wp2_with fail
          go_end0
          rw [HDN.out]
          exact ⟨rfl, HD6.out, HF6.out⟩
        · have k8 : (lf == 0) = false := beq_eq_false_iff_ne.mpr t3
          rw [if_neg t3] at HDN
          clear t3
          go_quiet (fail)
          go_wp2_with fail
          go_quiet (fail)
          have hmf := HMF.out
          go_wp2_with fail
          go_end0
          rw [HDN.out, HS2'.out]
          refine ⟨rfl, ⟨hg, vh5, .slice Ar5 s1.frag.length cr5, vo5, blk_put HB5.out 2 (nextV g 1) rfl, ?_⟩, (HF5.out.drewN _).set g 2 hg _⟩
          exact DRows_set (s := { s1 with mode := 1 }) HR5.out 2 (nextV g 1)
end Go.Proofs.Ytfoifcilacbipaa.G
