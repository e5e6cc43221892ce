/- XdrPads, walked by hand. -/
import Derived.Test.YtdfnhmgopihfcaaL4
namespace Go.Proofs.Ytdfnhmgopihfcaa.H
open Go.RowKit Go.Proofs.Ytdfnhmgopihfcaa.P Go.Proofs.Ytdfnhmgopihfcaa.G Go.Proofs.Ytdfnhmgopihfcaa.Pure Go.Proofs.YtdfnhmgopihfcaaW.PrintWords Go.Proofs.YtdfnhmgopihfcaaW.PrintLast Go.Proofs.YtdfnhmgopihfcaaW.PrintMore
set_option linter.unusedVariables false
set_option linter.unusedSimpArgs false

theorem txN_of {e : Int} {xs : List Int} {n : Nat} (h : readU32 e xs = (n : Int)) : txN e xs = n := by unfold txN; rw [h]; rfl
theorem pads_odd (own : List Int) (r1 : Nat) (cc : Int) (hn : own.length ≤ 60) (hr : r1 < G.padN own.length) (hc : cc ≠ 0) :
    textE 0 ((textB own).set (4 + own.length + r1) cc) 60 = 2 ∧ textL 0 ((textB own).set (4 + own.length + r1) cc) 60 = [] ∧ textO 0 ((textB own).set (4 + own.length + r1) cc) 60 = [] := by
  obtain ⟨l1, hl1⟩ : ∃ l1, l1 = (own ++ List.replicate (G.padN own.length) (0 : Int)).set (own.length + r1) cc := ⟨_, rfl⟩
  have hb : (textB own).set (4 + own.length + r1) cc = beN (own.length : Int) 4 ++ l1 := by
    unfold textB
    rw [List.append_assoc, List.set_append_right _ _ (by rw [beN_length]; omega), beN_length, hl1]
    congr 2
    omega
  rw [hb]
  obtain ⟨h1, h2, h3⟩ := readU32_be own.length (by omega) l1
  have hl : l1.length = own.length + G.padN own.length := by rw [hl1]; simp
  have h4 := text4 (most := 60) h1 (by rw [h2]; omega) (by rw [txN_of h2, h3, hl]; exact Nat.le_refl _)
  rw [txN_of h2, h3] at h4
  have hall : (((l1.drop own.length).take (G.padN own.length)).all (· == 0)) = false := by
    refine Bool.eq_false_iff.mpr fun hall => hc ?_
    have hm : cc ∈ (l1.drop own.length).take (G.padN own.length) := by
      refine List.mem_of_getElem? (i := r1) ?_
      rw [List.getElem?_take_of_lt hr, List.getElem?_drop, hl1, List.getElem?_set_self (by simp; omega)]
    have := List.all_eq_true.mp hall cc hm
    simpa using this
  rw [hall] at h4
  exact h4
theorem pads_cut (own : List Int) (r3 : Nat) (hn : own.length ≤ 60) (hr : r3 < (textB own).length) :
    textE 0 ((textB own).take r3) 60 = 3 ∧ textL 0 ((textB own).take r3) 60 = [] ∧ textO 0 ((textB own).take r3) 60 = [] := by
  have hlen := textB_length own
  by_cases h4 : r3 < 4
  · have hl : ((textB own).take r3).length < 4 := by rw [List.length_take]; omega
    have he : takeE 0 ((textB own).take r3) 4 = 3 := by unfold takeE; rw [if_pos rfl, if_pos hl]
    have h := text1 (xs := (textB own).take r3) (e := 0) 60 (by rw [he]; decide)
    rw [he] at h
    exact h
  · obtain ⟨l1, hl1⟩ : ∃ l1, l1 = (own ++ List.replicate (G.padN own.length) (0 : Int)).take (r3 - 4) := ⟨_, rfl⟩
    have hb : (textB own).take r3 = beN (own.length : Int) 4 ++ l1 := by
      unfold textB
      rw [List.append_assoc, List.take_append, List.take_of_length_le (by rw [beN_length]; omega), beN_length, hl1]
      rfl
    rw [hb]
    obtain ⟨h1, h2, h3⟩ := readU32_be own.length (by omega) l1
    have hl : l1.length < own.length + G.padN own.length := by
      rw [hl1, List.length_take, List.length_append, List.length_replicate]
      have : G.padN own.length = Pure.padN own.length := rfl
      omega
    exact text3 (most := 60) h1 (by rw [h2]; omega) (by rw [txN_of h2, h3]; exact hl)

theorem bytes_of {l : List Int} (h : ∀ x ∈ l, (Lit.int .u8 x).wf = true) : Bytes l := fun x hx => by
  have := h x hx
  simp [Lit.wf, IntKind.min, IntKind.max, IntKind.signed, IntKind.bits] at this
  omega

def pOwn (l0 : List Int) : List Int := if (l0.take 29).length % 4 = 0 then l0.take 29 ++ [1] else l0.take 29
theorem pOwn_len (l0 : List Int) : 1 ≤ (pOwn l0).length ∧ (pOwn l0).length ≤ 29 ∧ (pOwn l0).length % 4 ≠ 0 := by
  unfold pOwn
  have h := List.length_take_le 29 l0
  split
  · rw [List.length_append, List.length_singleton]; omega
  · omega

set_option maxHeartbeats 8000000 in
set_option maxRecDepth 100000 in
theorem XdrPads_walk (a0 : Option Addr) (c0 : Nat) (l0 : List Int) (a1 a2 a3 : Int) (w : World) (hr0 : Kd.C (Kd.int .u8) w a0 l0.length l0) (hc0 : l0.length ≤ c0) (hw1 : (Lit.int .i64 a1).wf = true) (hw2 : (Lit.int .u8 a2).wf = true) (hw3 : (Lit.int .i64 a3).wf = true) (hby : Bytes l0) :
    Calls Try.prog 8 #[.slice a0 l0.length c0, .int .i64 a1, .int .u8 a2, .int .i64 a3] w fun e w' => e = .returned (.bool true) ∧ Below w.heap.size w w' := by
  have HBY := Aside0.mk hby
  clear hby
  obtain ⟨c', hc'⟩ : ∃ c' : Int, c' = if a2 = 0 then 1 else a2 := ⟨_, rfl⟩
  have HC := Aside0.mk hc'
  clear hc'
  have HO := Aside0.mk (pOwn_len l0)
  go_enter Try.func8, Try.ntmps8
  go_wp2_with fail
  refine (few_new a0 c0 l0 29 w hr0 hc0 (by decide)).mono ?_
  rintro r w1 ⟨A2, k2, rfl, hR1, hB1⟩
  have HB1 := Aside0.mk hB1
  obtain ⟨own, hown1⟩ : ∃ own, own = l0.take 29 := ⟨_, rfl⟩
  rw [← hown1] at hR1 ⊢
  have HR1 := Aside0.mk hR1.2
  have HK1 := Aside0.mk hR1.1
  have HW1 := Aside0.mk hown1
  clear hown1 hR1 hB1
  have hl29 : own.length ≤ 29 := by rw [HW1.out]; exact List.length_take_le _ _
  refine Or.elim (Classical.em (own.length % 4 = 0)) (fun h4 => ?wa) (fun h4 => ?wb)
  case' wa =>
    have c1 : ((own.length : Int) % 4 == 0) = true := beq_iff_eq.mpr (by omega)
    have HP : Aside0 (pOwn l0 = own ++ [1]) := ⟨by unfold pOwn; rw [← HW1.out, if_pos h4]⟩
    clear h4
    go_wp2_with (first | ((with_reducible refine gate_builtin (b := .append) (xs := #[.tmp 23, .tmp 24]) rfl ?_); at_builtin; refine Kd.R_append (Kd.int .u8) (w0 := w) w.heap.size rfl (.tmp 23) (.tmp 24) 24 5 (.int .u8 0) 1 rfl Try.underlying24 infoU8r rfl (by decide) (by omega) (.slice A2 own.length k2) own 1 [.int .u8 1] (fun _ => True) (fun _ => False) rfl rfl ?aP (fun _ hk => hk.elim) ?aF ?aO ?aB ?aS ?aL ?_; (case aP => exact rfl); (case aF => exact (fun _ _ => trivial)); (case aO => exact HR1.out); (case aB => exact HB1.out); (case aS => exact HB1.out.size); (case aL => omega); intro v1 w2 hr1 hb1 _ _; obtain ⟨A3, k3, rfl, hl3, _⟩ := Kd.R_reads hr1; have HR2 := Aside0.mk hr1; have HK2 := Aside0.mk hl3; have HB2 := Aside0.mk hb1; obtain ⟨ow2, how2⟩ : ∃ ow2, ow2 = own ++ [1] := ⟨_, rfl⟩; rw [← how2] at HR2 HP HK2 ⊢; clear hr1 hb1 how2 hl3 HR1 HB1 HK1 c1))
  case' wb =>
    have c1 : ((own.length : Int) % 4 == 0) = false := beq_eq_false_iff_ne.mpr (by omega)
    have HP : Aside0 (pOwn l0 = own) := ⟨by unfold pOwn; rw [← HW1.out, if_neg h4]⟩
    clear h4
    obtain ⟨A3, hA3⟩ : ∃ A3, A3 = A2 := ⟨_, rfl⟩
    obtain ⟨k3, hk3⟩ : ∃ k3, k3 = k2 := ⟨_, rfl⟩
    obtain ⟨ow2, how2⟩ : ∃ ow2, ow2 = own := ⟨_, rfl⟩
    subst hA3 hk3 how2
    have HR2 := HR1
    have HK2 := HK1
    have HB2 := HB1
    obtain ⟨w2, hw2_⟩ : ∃ w2, w2 = w1 := ⟨_, rfl⟩
    subst hw2_
    clear HR1 HK1 HB1
    go_wp2_with fail
  all_goals
    have HL : Aside0 (1 ≤ ow2.length ∧ ow2.length ≤ 29 ∧ ow2.length % 4 ≠ 0) := ⟨by rw [← HP.out]; exact HO.out⟩
    refine (text_new A3 k3 ow2 w2 (Kd.R_reads' HR2.out).2.2 HK2.out (by have := HL.out; omega)).mono ?_
    rintro r w3 ⟨A4, k4, rfl, hR4, hB4⟩
    obtain ⟨b, hb⟩ : ∃ b, b = textB ow2 := ⟨_, rfl⟩
    rw [← hb] at hR4 ⊢
    have HB3 := Aside0.mk (HB2.out.trans (hB4.mono HB2.out.size))
    have HR4 := Aside0.mk hR4.F
    have HK4 := Aside0.mk hR4.1
    have HLB : Aside0 (b.length = 4 + ow2.length + Pure.padN ow2.length) := ⟨by rw [hb]; exact textB_length _⟩
    have HBt := Aside0.mk hb
    have hb1 : 4 + ow2.length < b.length := by have := HLB.out; have := HL.out; unfold Pure.padN at *; omega
    have hb2 : b.length ≤ 36 := by have := HLB.out; have := HL.out; unfold Pure.padN at *; omega
    clear hR4 hB4 hb
    rcases Classical.em (a2 = 0) with hz | hz
    case' inl =>
      obtain ⟨cc, hcc⟩ : ∃ cc : Int, cc = 1 := ⟨_, rfl⟩
      have c2 : (a2 == 0) = true := beq_iff_eq.mpr hz
      have HCC : Aside0 (cc ≠ 0 ∧ 0 ≤ cc ∧ cc ≤ 255) := ⟨by omega⟩
      have HC1 := Aside0.mk hcc
      clear hcc hz
      obtain ⟨r1, hr1, her1⟩ := around_eq a1 ((b.length : Int) - 4 - (ow2.length : Int)) hw1 (by omega) (by omega)
      have HA1 := Aside0.mk her1
      clear her1
      go_wp2_with fail
      refine (around_new a1 _ (r1 : Int) _ HA1.out).mono ?_
      rintro r w5 ⟨rfl, n5, rfl⟩
      go_wp2_with fail
      rw [show (Value.int .u8 1) = .int .u8 cc from by rw [HC1.out]]
    case' inr =>
      obtain ⟨cc, hcc⟩ : ∃ cc : Int, cc = a2 := ⟨_, rfl⟩
      have c2 : (a2 == 0) = false := beq_eq_false_iff_ne.mpr hz
      have HCC : Aside0 (cc ≠ 0 ∧ 0 ≤ cc ∧ cc ≤ 255) := ⟨by rw [hcc]; refine ⟨hz, ?_⟩; have := hw2; simp [Lit.wf, IntKind.min, IntKind.max, IntKind.signed, IntKind.bits] at this; omega⟩
      clear hz
      subst hcc
      obtain ⟨r1, hr1, her1⟩ := around_eq a1 ((b.length : Int) - 4 - (ow2.length : Int)) hw1 (by omega) (by omega)
      have HA1 := Aside0.mk her1
      clear her1
      go_wp2_with fail
      refine (around_new a1 _ (r1 : Int) _ HA1.out).mono ?_
      rintro r w5 ⟨rfl, n5, rfl⟩
      go_wp2_with fail
    all_goals
      obtain ⟨K, hK⟩ : ∃ K : Nat, K = 4 + ow2.length + r1 := ⟨_, rfl⟩
      have HKK := Aside0.mk hK
      clear hK
      have HR5 := Aside0.mk (Kd.F_drewN HR4.out n5)
      have HB5 := Aside0.mk (pw_below_drewN HB3.out n5)
      refine (few_new A4 k4 b 60 _ (Kd.F_now HR5.out) HK4.out (by decide)).mono ?_
      rintro r w6 ⟨A6, k6, rfl, hR6, hB6⟩
      have htk : b.take 60 = b := List.take_of_length_le (by omega)
      rw [htk] at hR6 ⊢
      clear htk
      obtain ⟨g, cap, hv, hg1, hg2, cells, hcells⟩ := Kd.R_form hR6.2 (by omega)
      injection hv with hvA _ hvC
      subst hvA hvC
      have hp := HKK.out
      have hk1 : 4 + ow2.length + r1 < b.length := by omega
      obtain ⟨ad, had, hx⟩ := F_cell (Kd.R_F hR6.2) (4 + ow2.length + r1) hk1
      cases had
      rw [add_plain] at hx
      have hz := blk_frozen hcells (4 + ow2.length + r1)
      have i0 : (0 : Int) ≤ 4 + (ow2.length : Int) + (r1 : Int) := by omega
      have i1 : 4 + (ow2.length : Int) + (r1 : Int) < (b.length : Int) := by omega
      have hput := (Kd.R_put hR6.2 ((4 + ow2.length + r1 : Nat) : Int) cc).1
      rw [Int.toNat_natCast] at hput
      obtain ⟨odd, hodd⟩ : ∃ odd, odd = b.set (4 + ow2.length + r1) cc := ⟨_, rfl⟩
      rw [← hodd] at hput
      have hol : odd.length = b.length := by rw [hodd, List.length_set]
      have HPUT := Aside0.mk hput
      have HOL := Aside0.mk hol
      have HODD := Aside0.mk hodd
      have HK6 := Aside0.mk hR6.1
      have HR6 := Aside0.mk (Kd.F_far (p := ⟨g, 4 + ow2.length + r1, none⟩) (Kd.F_below HR5.out hB6) (fun k hk => by show k ≠ g; have := hk.2; have h1 := hg1; simp at h1; omega) (Value.int .u8 cc))
      have HB6 := Aside0.mk ((HB5.out.trans (hB6.mono HB5.out.size)).setCell (p := ⟨g, 4 + ow2.length + r1, none⟩) (Nat.le_trans HB5.out.size hg1) (Value.int .u8 cc))
      clear hput hol hodd hR6 hB6 hcells hg1 hg2 hp
      go_wp2_with fail
      have hrd := Read_calls (some ⟨g, 0, none⟩) k6 odd _ (Kd.R_reads' HPUT.out).2.2 (by rw [HOL.out]; exact HK6.out) (by rw [HOL.out]; omega)
      rw [HOL.out] at hrd
      refine hrd.mono ?_
      rintro r w7 ⟨g7, rfl, hg7, hg7', hrd7, hB7⟩
      have HRD := Aside0.mk hrd7
      have HG7 := Aside0.mk (And.intro hg7 hg7')
      have HGW7 := Aside0.mk (Nat.le_trans HB6.out.size hg7)
      have HR7 := Aside0.mk (Kd.F_below HR6.out hB7)
      have HB7 := Aside0.mk (HB6.out.trans (hB7.mono HB6.out.size))
      have HLT := Aside0.mk hB7.size
      clear hrd hrd7 hB7 hg7 hg7' HR6 HB6 HPUT hx hz
      obtain ⟨r3, hr3, her3⟩ := around_eq a3 (b.length : Int) hw3 (by omega) (by omega)
      have HA3 := Aside0.mk her3
      clear her3
      go_wp2_with fail
      refine (around_new a3 _ (r3 : Int) _ HA3.out).mono ?_
      rintro r w8 ⟨rfl, n8, rfl⟩
      have htl : (b.take r3).length = r3 := by rw [List.length_take]; omega
      have HTL := Aside0.mk htl
      have HR8 : Aside0 (Kd.F (Kd.int .u8) (w7.drewN n8) _ A4 (b.take r3).length (b.take r3)) := ⟨Kd.F_take (Kd.F_drewN HR7.out n8) (by omega)⟩
      have HB8 := Aside0.mk (pw_below_drewN HB7.out n8)
      have HRD8 := Aside0.mk (RD_below HRD.out (pw_below_drewN (Below.refl _ _) n8))
      have r30 : (0 : Int) ≤ (r3 : Int) := by omega
      have r31 : (r3 : Int) ≤ (b.length : Int) := by omega
      have r32 : (r3 : Int) ≤ (k4 : Int) := by have := HK4.out; omega
      clear htl HR7 HRD HB7
      go_wp2_with fail
      have hrq := Read_calls A4 k4 (b.take r3) (w7.drewN n8) (Kd.F_now HR8.out) (by rw [HTL.out]; omega) (by rw [HTL.out]; omega)
      rw [HTL.out] at hrq
      refine hrq.mono ?_
      rintro r w9 ⟨g9, rfl, hg9, hg9', hrd9, hB9⟩
      have HRQ := Aside0.mk hrd9
      have HG9 := Aside0.mk (And.intro hg9 hg9')
      have HGW9 := Aside0.mk (Nat.le_trans HB8.out.size hg9)
      have HRD9 := Aside0.mk (RD_below HRD8.out hB9)
      have HB9 := Aside0.mk (HB8.out.trans (hB9.mono HB8.out.size))
      clear hrq hrd9 hB9 hg9 hg9' HRD8 HB8 HR8
      have HPO := Aside0.mk (pads_odd ow2 r1 cc (by have := HL.out; omega) (by have := hr1; have := HLB.out; show r1 < Pure.padN ow2.length; omega) HCC.out.1)
      have HPC := Aside0.mk (pads_cut ow2 r3 (by have := HL.out; omega) (by rw [← HBt.out]; omega))
      rw [← HBt.out] at HPC
      rw [← HBt.out, ← HODD.out] at HPO
      go_wp2_with fail
      refine (TextR_calls _ g7 0 odd 60 _ HRD9.out).mono ?_
      rintro r w10 ⟨v10, rfl, ⟨A10, k10, rfl, _, _⟩, hrd10, hm10⟩
      rw [HPO.out.1, HPO.out.2.1] at hrd10
      rw [HPO.out.2.2]
      have HRD10 := Aside0.mk hrd10
      have HRQ10 := Aside0.mk (RD_mov HRQ.out hm10 (fun h => by have h1 := h.1; have h2 := HG7.out.2; have h3 := HB9.out; simp at h1; omega))
      have HB10 := Aside0.mk (Mov.below HB9.out hm10 (Nat.le_refl _) HGW7.out)
      clear hrd10 hm10 HRD9 HRQ HB9
      go_wp2_with fail
      refine (TextR_calls _ g9 0 (b.take r3) 60 _ HRQ10.out).mono ?_
      rintro r w11 ⟨v11, rfl, ⟨A11, k11, rfl, _, _⟩, hrq11, hm11⟩
      rw [HPC.out.1, HPC.out.2.1] at hrq11
      rw [HPC.out.2.2]
      have HRQ11 := Aside0.mk hrq11
      have HRD11 := Aside0.mk (RD_mov HRD10.out hm11 (fun h => by have h1 := h.2; have h2 := HG9.out.1; simp at h2; omega))
      have HB11 := Aside0.mk (Mov.below HB10.out hm11 (Nat.le_refl _) HGW9.out)
      clear hrq11 hm11 HRQ10 HRD10 HB10
      go_wp2_with fail
      refine (ErrnoR_calls _ g7 2 [] _ HRD11.out).mono ?_
      rintro r w12 ⟨rfl, rfl⟩
      go_wp2_with fail
      refine (U32R_calls _ g7 2 [] _ HRD11.out).mono ?_
      rintro r w13 ⟨rfl, hrd13, hm13⟩
      have HRD13 : Aside0 (RD _ w13 g7 2 []) := ⟨hrd13⟩
      have HRQ13 := Aside0.mk (RD_mov HRQ11.out hm13 (fun h => by have h1 := h.1; have h2 := HG7.out.2; simp at h1; omega))
      have HB13 := Aside0.mk (Mov.below HB11.out hm13 (Nat.le_refl _) HGW7.out)
      rw [show valN 0 (takeO 2 [] 4) % 4294967296 = 0 from rfl]
      clear hrd13 hm13 HRD11 HRQ11 HB11
      go_wp2_with fail
      refine (ErrnoR_calls _ g7 2 [] _ HRD13.out).mono ?_
      rintro r w14 ⟨rfl, rfl⟩
      go_wp2_with fail
      refine (ErrnoR_calls _ g9 3 [] _ HRQ13.out).mono ?_
      rintro r w14 ⟨rfl, rfl⟩
      go_wp2_with fail
      refine (LeftR_calls _ g9 3 [] _ HRQ13.out).mono ?_
      rintro r w14 ⟨rfl, rfl⟩
      go_wp2_with fail
      refine (lives_new _).mono ?_
      rintro r w15 ⟨rfl, hB15⟩
      have HB15 := Aside0.mk (HB13.out.trans (hB15.mono HB13.out.size))
      clear hB15 HB13
      go_wp2_with fail
      go_ret
      exact ⟨rfl, HB15.out⟩

theorem XdrPads_full (A0 : Option Addr) (c0 : Nat) (l0 : List Int) (a1 : Int) (a2 : Int) (a3 : Int) (w : World) (hr0 : Kd.C (Kd.int .u8) w A0 l0.length l0) (hc0 : l0.length ≤ c0) (g0_ : l0.length ≤ maxLen) (g1_ : l0.length * 1 ≤ 140737488351232) (g2_ : (∀ x ∈ l0, (Lit.int .u8 x).wf = true)) (g3_ : (Lit.int .i64 a1).wf = true) (g4_ : (Lit.int .u8 a2).wf = true) (g5_ : (Lit.int .i64 a3).wf = true) :
    Calls Try.prog 8 #[.slice A0 l0.length c0, .int .i64 a1, .int .u8 a2, .int .i64 a3] w fun e w' => e = .returned (.bool true) ∧ Below w.heap.size w w' :=
  XdrPads_walk A0 c0 l0 a1 a2 a3 w hr0 hc0 g3_ g4_ g5_ (bytes_of g2_)
end Go.Proofs.Ytdfnhmgopihfcaa.H
