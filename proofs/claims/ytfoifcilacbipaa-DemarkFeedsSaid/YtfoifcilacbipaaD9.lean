/- Walks of law04's laws, first part: Feed in a law's terms; lives. -/
import Derived.Test.YtfoifcilacbipaaD8
import Derived.Test.YtfoifcilacbipaaPx3
import Derived.Deep.DeepMust
namespace Go.Proofs.Ytfoifcilacbipaa.G
open Go.RowKit Go.Proofs.Ytfoifcilacbipaa.P Go.Proofs.Ytfoifcilacbipaa.Pure Go.Proofs.YtfoifcilacbipaaW.PrintWords Go.Proofs.YtfoifcilacbipaaW.PrintLast Go.Proofs.YtfoifcilacbipaaW.PrintMore
set_option linter.unusedVariables false
set_option linter.unusedSimpArgs false

theorem DF_in {ok : Nat → Prop} {w : World} {g : Nat} {s : DSt} (h : DF ok w g s) : ok g := h.1

/-- What a law knows of a deframer: its blocks are of the law's own, and are there. -/
def DL (B : Nat) (okD : Nat → Prop) (w : World) (g : Nat) (s : DSt) (N : Nat) : Prop :=
  DF okD w g s ∧ (∀ k, okD k → B ≤ k ∧ k < w.heap.size) ∧ DInv s N

theorem DL_frm {B : Nat} {okD ok : Nat → Prop} {w w' : World} {g : Nat} {s : DSt} {N : Nat} (h : DL B okD w g s N) (m : Frm ok w w') (hd : ∀ k, okD k → ¬ ok k) : DL B okD w' g s N :=
  ⟨DF_frm h.1 m (fun k hk _ => hd k hk), fun k hk => ⟨(h.2.1 k hk).1, Nat.lt_of_lt_of_le (h.2.1 k hk).2 m.size⟩, h.2.2⟩
theorem DL_below {B : Nat} {okD : Nat → Prop} {w w' : World} {g : Nat} {s : DSt} {N : Nat} (h : DL B okD w g s N) (m : Below w.heap.size w w') : DL B okD w' g s N :=
  DL_frm (ok := fun _ => False) h (Frm.of_below m) (fun _ _ h => h)

theorem New_law (m f : Int) (B : Nat) (w : World) (h : dIn m f = true) (hB : B ≤ w.heap.size) :
    Calls Try.prog 22 #[.int .i64 m, .int .i64 f] w fun r w' => ∃ okD, r = .returned (.tuple #[.pointer (some ⟨w.heap.size, 0, none⟩), .int .i64 0]) ∧ DL B okD w' w.heap.size (dNew m f) 0 ∧ (∀ k, okD k → w.heap.size ≤ k) ∧ Below w.heap.size w w' := by
  refine (New_in m f w h).mono ?_
  rintro r w' ⟨rfl, hd, hb⟩
  exact ⟨_, rfl, ⟨DF_bound hd, fun k hk => ⟨Nat.le_trans hB hk.1, hk.2⟩, dInv_new h⟩, fun k hk => hk.1, hb⟩

theorem Feed_law (B : Nat) (okD : Nat → Prop) (g : Nat) (s : DSt) (N : Nat) (A : Option Addr) (c : Nat) (xs : List Int) (w : World) (h : DL B okD w g s N) (hB : B ≤ w.heap.size) (hc : xs.length ≤ c) (hxl : N + xs.length ≤ 1000000) (hf : Kd.F (Kd.int .u8) w (fun k => ¬ okD k ∧ k < w.heap.size) A xs.length xs) :
    Calls Try.prog 24 #[.pointer (some ⟨g, 0, none⟩), .slice A xs.length c] w fun r w' => ∃ (vo : Value) (okE : Nat → Prop), r = .returned vo ∧ Kd.N (Kd.slice 5 (Kd.int .u8)) 28 w' 0 (fun k => (okD k ∨ w.heap.size ≤ k) ∧ k < w'.heap.size ∧ ¬ okE k) vo (dRun s xs).out ∧ DL B okE w' g { dRun s xs with out := [] } 0 ∧ (∀ k, okE k → okD k ∨ w.heap.size ≤ k) ∧ Frm okD w w' := by
  refine (Feed_calls (fun k => okD k ∨ w.heap.size ≤ k) g s A c xs w (DF_mono h.1 (fun k hk => .inl hk)) hc (by omega) (Kd.F_mono hf (fun k hk hn => hn.elim hk.1 (fun h => by have := hk.2; omega))) (fun i hi => dInv_bnd (dInv_run (xs.take i) h.2.2) (by rw [List.length_take]; omega)) (fun k hk => .inr hk)).mono ?_
  rintro r w' ⟨vo, ok2, rfl, hn, hd, hs, hnew, hfr⟩
  refine ⟨vo, fun k => ok2 k ∧ k < w'.heap.size, rfl, Kd.N_mono hn (fun k hk => ⟨hk.1, hk.2.1, fun h => hk.2.2 h.1⟩), ⟨DF_bound hd, fun k hk => ⟨(hs k hk.1).elim (fun h2 => (h.2.1 k h2).1) (fun h2 => Nat.le_trans hB h2), hk.2⟩, dInv_out (dInv_run xs h.2.2) []⟩, fun k hk => hs k hk.1, hfr.mono (fun k hk h => h.elim id (fun h => absurd hk (by omega)))⟩

theorem C_one {W : World} {A : Option Addr} {c : Nat} {ys : List Int} (hc : ys.length ≤ c) (hC : Kd.C (Kd.int .u8) W A ys.length ys) :
    Kd.C (Kd.slice 5 (Kd.int .u8)) (W.alloc (.cells #[.slice A ys.length c] 28)) (some ⟨W.heap.size, 0, none⟩) ([ys] : List (List Int)).length [ys] := by
  refine ⟨rfl, by simp, fun _ => ⟨_, rfl, fun j p hj => ?_⟩⟩
  rcases j with _ | j
  · injection hj with hj
    subst hj
    refine ⟨[.slice A ys.length c], rfl, ⟨A, c, rfl, hc, Kd.C_alloc hC _⟩, fun i u hu => ?_⟩
    rcases i with _ | i
    · injection hu with hu
      subst hu
      exact (blk_cell (heap_alloc_new W _) 0).trans rfl
    · simp at hu
  · simp at hj

theorem sameB_l0 (l : List (List Int)) (hl : l.length ≤ 1000000000) (d : Nat) : ∀ i : Nat, i + d = l.length → Ev (fun k => truchmanref01_SameBytes.l0 k l l (i : Int)) true := by
  induction d with
  | zero =>
    intro i hi
    refine Ev.step (f := fun _ => some true) (fun k => ?_) (Ev.now _)
    simp only [truchmanref01_SameBytes.l0]
    rw [if_neg (by omega)]
  | succ d ih =>
    intro i hi
    refine Ev.step (f := fun k => truchmanref01_SameBytes.l0 k l l ((i + 1 : Nat) : Int)) (fun k => ?_) (ih (i + 1) (by omega))
    simp only [truchmanref01_SameBytes.l0]
    rw [if_pos (by omega), if_pos (by omega), if_pos (by omega), if_pos trivial, wrap_id (by omega) (by omega)]
    rfl
theorem sameB_ev (l : List (List Int)) (hl : l.length ≤ 1000000000) : Ev (fun k => truchmanref01_SameBytes.f k l l) true := by
  refine Ev.congr (f := fun k => truchmanref01_SameBytes.l0 k l l ((0 : Nat) : Int)) (fun k => ?_) (sameB_l0 l hl l.length 0 (by omega))
  unfold truchmanref01_SameBytes.f
  rw [if_pos rfl]
  rfl
theorem SameBytes_law (A0 : Option Addr) (c0 : Nat) (A1 : Option Addr) (c1 : Nat) (l : List (List Int)) (hl : l.length ≤ 1000000000) (w : World) (hr0 : Kd.C (Kd.slice 5 (Kd.int .u8)) w A0 l.length l) (hc0 : l.length ≤ c0) (hr1 : Kd.C (Kd.slice 5 (Kd.int .u8)) w A1 l.length l) (hc1 : l.length ≤ c1) :
    Calls Try.prog 26 #[.slice A0 l.length c0, .slice A1 l.length c1] w fun e w' => e = .returned (.bool true) ∧ ∃ n, w' = w.drewN n := by
  obtain ⟨k, hk⟩ := (sameB_ev l hl).rounds
  refine (truchmanref01_SameBytes.calls k A0 c0 l A1 c1 l true w hr0 hc0 hr1 hc1 hk).mono ?_
  rintro e w' ⟨rfl, n, rfl⟩
  exact ⟨rfl, n, rfl⟩

theorem reps_u8 (W : World) (base : Nat) (ok : Nat → Prop) : ∀ xs : List Int, Reps ((Kd.int .u8).M W base ok) (Kd.int .u8).sz xs (xs.map (Value.int .u8))
  | [] => Reps.none _ _
  | x :: xs => Reps.one (show Kd.M (Kd.int .u8) W base ok x [.int .u8 x] from rfl) (reps_u8 W base ok xs)

set_option maxHeartbeats 8000000 in
set_option maxRecDepth 100000 in
theorem lives04 (w : World) : Calls Try.prog 30 #[] w fun e w' => e = .returned (.bool true) ∧ Below w.heap.size w w' := by
  go_enter Try.func30, Try.ntmps30
  go_wp2_with fail
  refine (New_law 10 3 w.heap.size _ rfl (Nat.le_refl _)).mono ?_
  rintro r w1 ⟨okD, rfl, hd, hok, hb⟩
  have HD := Aside0.mk hd
  have HB := Aside0.mk hb
  have HO := Aside0.mk hok
  clear hd hb hok
  go_wp2_with (first | ((with_reducible refine gate_dst (N := 15) rfl ?_); refine Kd.V_lit8 _ 5 ?hg (N := 15) ?hd (xs := ([0, 0, 0, 1, 97, 128, 0, 0, 1, 98] : List Int)) (inner := ([0, 0, 0, 1, 97, 128, 0, 0, 1, 98] : List Int).map (Value.int .u8)) (ok := fun _ => True) (okp := fun _ => True) ?hr ?hp (fun _ hk => hk) trivial (Below.refl _ _) (Nat.le_refl _) (by simp) 28 rfl rfl (fun _ => rfl) Try.underlying28 Try.underlying5 ?_; (case hd => rfl); (case hg => rfl); (case hr => first | (go_simp; done) | (go_simp; rfl)); (case hp => exact reps_u8 _ _ _ _); intro v2 w2 hv2 hb2 _ _; have HV2 := Aside0.mk hv2; have HB2 := Aside0.mk hb2; clear hv2 hb2; obtain ⟨A2, c2, rfl⟩ := Kd.V_slice HV2.out))
  have HD2 := Aside0.mk (DL_below HD.out HB2.out)
  have HO2 : Aside0 (∀ k, okD k → k < w1.heap.size) := ⟨fun k hk => (HD.out.2.1 k hk).2⟩
  refine (Feed_law w.heap.size okD _ _ 0 A2 c2 ([0, 0, 0, 1, 97, 128, 0, 0, 1, 98] : List Int) w2 HD2.out (Nat.le_trans HB.out.size HB2.out.size) (Kd.V_reads' HV2.out).2.1 (by simp) (Kd.F_mono (Kd.V_F HV2.out) (fun k hk => ⟨fun h => by have := HO2.out k h; have := hk.2.1; omega, hk.2.2⟩))).mono ?_
  rintro r w3 ⟨vo, okE, rfl, hn, hd, hs, hfr⟩
  have hrun : (dRun (dNew 10 3) ([0, 0, 0, 1, 97, 128, 0, 0, 1, 98] : List Int)).out = [[97, 98]] := by decide +kernel
  rw [hrun] at hn
  obtain ⟨A3, c3, rfl⟩ := Kd.N_slice hn
  have HN := Aside0.mk hn
  have HD3 := Aside0.mk hd
  have HF3 := Aside0.mk hfr
  clear hn hd hs hfr hrun
  go_wp2_with (first | ((with_reducible refine gate_dst (N := 19) rfl ?_); refine Kd.V_lit8 _ 5 ?hg (N := 19) ?hd (xs := ([97, 98] : List Int)) (inner := ([97, 98] : List Int).map (Value.int .u8)) (ok := fun _ => True) (okp := fun _ => True) ?hr ?hp (fun _ hk => hk) trivial (Below.refl _ _) (Nat.le_refl _) (by simp) 28 rfl rfl (fun _ => rfl) Try.underlying28 Try.underlying5 ?_; (case hd => rfl); (case hg => rfl); (case hr => first | (go_simp; done) | (go_simp; rfl)); (case hp => exact reps_u8 _ _ _ _); intro v4 w4 hv4 hb4 _ _; have HV4 := Aside0.mk hv4; have HB4 := Aside0.mk hb4; clear hv4 hb4; obtain ⟨A4, c4, rfl⟩ := Kd.V_slice HV4.out))
  have HN4 := Aside0.mk (Kd.N_alloc (Kd.N_below HN.out HB4.out) (.cells #[.slice A4 2 c4] 28))
  refine (SameBytes_law _ _ _ _ [[97, 98]] (by simp) _ (Kd.N_reads' HN4.out).2.2 (Kd.N_reads' HN4.out).2.1 (C_one (Kd.V_reads' HV4.out).2.1 (Kd.V_reads' HV4.out).2.2) (by simp)).mono ?_
  rintro r w5 ⟨rfl, n5, rfl⟩
  go_wp2_with fail
  have HD5 := Aside0.mk (DL_below (DL_below (DL_below HD3.out HB4.out) (below_alloc (Below.refl _ _) (.cells #[.slice A4 2 c4] 28))) (pw_below_drewN (Below.refl _ _) n5))
  refine (Clean_calls_d _ _ _ _ HD5.out.1 (by have := HD5.out.2.2.head; omega) (by have := HD5.out.2.2.frag; have := HD5.out.2.2.most1; omega)).mono ?_
  rintro r w6 ⟨rfl, hf6⟩
  have HF6 := Aside0.mk hf6
  clear hf6
  rw [show dClean { dRun (dNew 10 3) ([0, 0, 0, 1, 97, 128, 0, 0, 1, 98] : List Int) with out := [] } = true by decide +kernel]
  go_wp2_with fail
  go_ret
  have b2 := below_then HB.out HB.out.size HB2.out
  have b3 := Frm.below b2 HF3.out (Nat.le_refl _) (fun k hk => HO.out k hk)
  have b4 := below_then b3 b3.size HB4.out
  have b5 := pw_below_drewN (below_alloc b4 (.cells #[.slice A4 2 c4] 28)) n5
  exact ⟨rfl, Frm.below b5 HF6.out (Nat.le_refl _) (fun k hk => hk.elim)⟩
end Go.Proofs.Ytfoifcilacbipaa.G
