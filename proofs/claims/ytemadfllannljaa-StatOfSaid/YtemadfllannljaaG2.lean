/- The hand-made contract of bytes.Clone: a row of its own with the same bytes, nil or not. -/
import Derived.Test.YtemadfllannljaaG0
import Derived.WalkSpells
namespace Go.Proofs.Ytemadfllannljaa.G
open Go.RowKit Go.Proofs.YtemadfllannljaaW.PrintWords Go.Proofs.YtemadfllannljaaW.PrintLast Go.Proofs.YtemadfllannljaaW.PrintMore
set_option linter.unusedVariables false
set_option linter.unusedSimpArgs false

theorem infoU8' : (Try.prog.info? 5).map (fun i => (i.zero, i.size, i.bytes)) = some (some (.int .u8 0), 1, 1) := by kernel_rfl

set_option maxHeartbeats 8000000 in
set_option maxRecDepth 100000 in
theorem clone_calls (A0 : Option Addr) (c0 : Nat) (l0 : List Int) (w : World) (hr0 : Kd.C (Kd.int .u8) w A0 l0.length l0) (hc0 : l0.length ≤ c0) (hl : l0.length ≤ 1000000000000) :
    Calls Try.prog 36 #[.slice A0 l0.length c0] w fun e w' => ∃ v0_ : Value, e = .returned v0_ ∧ Kd.R (Kd.int .u8) 5 w' w.heap.size (fun _ => True) v0_ l0 ∧ Below w.heap.size w w' := by
  have HR := Aside0.mk hr0
  have HL := Aside0.mk hl
  have HB := Aside0.mk (Below.refl w.heap.size w)
  clear hr0 hl hc0
  have heq := fun w => Lib.run_eql_slice_nil (P := Try.prog) w 46 5 A0 l0.length c0 0 0 Try.underlying46
  cases A0 with
  | none =>
    have h0 : l0 = [] := by
      have h := (Kd.reads_of_C (d := (0 : Int)) HR.out).2.2
      rcases Nat.eq_zero_or_pos l0.length with h1 | h1
      · exact List.eq_nil_of_length_eq_zero h1
      · obtain ⟨ad, e1, _⟩ := h h1; cases e1
    have H0 := Aside0.mk h0
    clear h0
    go_enter Try.func36, Try.ntmps36
    go_wp2
    go_ret
    exact ⟨_, rfl, by rw [H0.out]; exact Kd.R_nil _ _ _ _ _, HB.out⟩
  | some ad =>
    go_enter Try.func36, Try.ntmps36
    go_wp2_with (first | ((with_reducible refine gate_dst (N := 5) rfl ?_); refine Kd.R_lit (Kd.int .u8) _ 5 ?hg (N := 5) ?hd (xs := ([] : List Int)) (inner := []) (ok := fun _ => True) (okp := fun _ => True) ?hr ?hp (fun _ hk => hk) trivial (Below.refl _ _) (Nat.le_refl _) (by simp) ?_; (case hd => rfl); (case hg => rfl); (case hr => first | (go_simp; done) | (go_simp; rfl)); (case hp => exact (Reps.none _ _)); intro v1 w1 hr1 hb1 _ _; have n0_ := Aside0.mk (Kd.R_lower hr1 (below_size (by repeat (first | (with_reducible first | exact HB.out | apply below_alloc | apply pw_below_drewN | apply below_drew1) | exact HB.out)))); have n1_ := Aside0.mk (below_step (by repeat (first | (with_reducible first | exact HB.out | apply below_alloc | apply pw_below_drewN | apply below_drew1) | exact HB.out)) hb1); have n2_ := Aside0.mk (Kd.C_below HR.out hb1); clear HR HB hr1 hb1; have HO := n0_; have HB := n1_; have HR := n2_; clear n0_ n1_ n2_) | ((with_reducible refine gate_builtin (b := .append) (xs := #[.tmp 5, .tmp 6]) rfl ?_); at_builtin; refine Kd.R_append_rows (Kd.int .u8) (w0 := w) w.heap.size rfl (.tmp 5) (.tmp 6) 46 5 (.int .u8 0) 1 rfl Try.underlying46 infoU8' rfl (by decide) (by omega) v1 ([] : List Int) l0 _ _ _ (fun _ => True) (fun _ => False) rfl rfl ?aO ?aR (fun _ _ h => h) (fun _ h => h.elim) ?aF ?aB ?aS ?aL ?_; (case aR => exact HR.out); (case aB => exact (by repeat (first | (with_reducible first | exact HB.out | apply below_alloc | apply pw_below_drewN | apply below_drew1) | exact HB.out))); (case aF => exact (fun _ _ => trivial)); (case aO => exact HO.out); (case aS => exact (below_size (by repeat (first | (with_reducible first | exact HB.out | apply below_alloc | apply pw_below_drewN | apply below_drew1) | exact HB.out)))); (case aL => have := HL.out; simp only [List.length_nil]; omega); intro v2 w2 hr2 hb2 _ _; have n0_ := Aside0.mk hr2; have n1_ := Aside0.mk hb2; clear HO HB hr2 hb2; have HO := n0_; have HB := n1_; clear n0_ n1_))
    go_ret
    exact ⟨_, rfl, by simpa using HO.out, HB.out⟩
end Go.Proofs.Ytemadfllannljaa.G
