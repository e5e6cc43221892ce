/- The hand-made contracts of demark.Deframer, fifth part: Feed, Errno, Held, Clean, New. -/
import Derived.Test.YtfoifcilacbipaaD4
namespace Go.Proofs.Ytfoifcilacbipaa.G
open Go.RowKit Go.Proofs.YtfoifcilacbipaaW.PrintWords Go.Proofs.YtfoifcilacbipaaW.PrintLast Go.Proofs.YtfoifcilacbipaaW.PrintMore
set_option linter.unusedVariables false
set_option linter.unusedSimpArgs false

def dRun (s : DSt) (xs : List Int) : DSt := xs.foldl dStep s
theorem dRun_snoc (s : DSt) (xs : List Int) (c : Int) : dRun s (xs ++ [c]) = dStep (dRun s xs) c := by simp [dRun]

set_option maxHeartbeats 8000000 in
set_option maxRecDepth 100000 in
theorem nothing_calls (c : Int) (w : World) : Calls Try.prog 50 #[.int .u8 c] w fun r w' => r = .returned (.tuple #[]) ∧ w' = w := by
  go_enter Try.func50, Try.ntmps50
  go_wp2_with fail
  go_end0
  exact ⟨rfl, rfl⟩

theorem DF_next {ok : Nat → Prop} {w : World} {g : Nat} {s : DSt} (h : DF ok w g s) : w.cell? ⟨g, 2, none⟩ = some (nextV g s.mode) := by
  obtain ⟨hg, vh, vr, vo, hb, _⟩ := h
  exact (blk_cell hb 2).trans rfl

theorem DF_hand {ok : Nat → Prop} {w : World} {g : Nat} {s : DSt} {vh vr vo : Value} (hg : ok g) (hb : w.heap[g]? = some (.cells (DBlk g s vh vr vo) 86 (0, 0))) (hr : DRows ok w g s vh vr vo) (hnew : ∀ k, w.heap.size ≤ k → ok k) :
    ∃ ok2 : Nat → Prop, Kd.N (Kd.slice 5 (Kd.int .u8)) 28 (w.setCell ⟨g, 8, none⟩ (.slice none 0 0)) 0 (fun k => ok k ∧ k < (w.setCell ⟨g, 8, none⟩ (.slice none 0 0)).heap.size ∧ ¬ ok2 k) vo s.out ∧ DF ok2 (w.setCell ⟨g, 8, none⟩ (.slice none 0 0)) g { s with out := [] } ∧ (∀ k, ok2 k → ok k) ∧ (∀ k, (w.setCell ⟨g, 8, none⟩ (.slice none 0 0)).heap.size ≤ k → ok2 k) := by
  have hsz : (w.setCell ⟨g, 8, none⟩ (.slice none 0 0)).heap.size = w.heap.size := by simp [World.setCell]
  rw [hsz]
  refine ⟨fun k => (ok k ∧ (k = g ∨ some k = vh.ownBlock ∨ some k = vr.ownBlock)) ∨ w.heap.size ≤ k, ?_, ⟨.inl ⟨hg, .inl rfl⟩, vh, vr, .slice none 0 0, blk_put hb 8 (.slice none 0 0) rfl, ?_⟩, ?_, fun k hk => .inr hk⟩
  · refine (Kd.N_mono (Kd.N_bound (DRows_set hr 8 (.slice none 0 0)).2.2) (fun k hk => ?_))
    rw [hsz] at hk
    obtain ⟨⟨⟨⟨h1, h2⟩, h3⟩, h4⟩, h5⟩ := hk
    refine ⟨h1, h5, fun hn => ?_⟩
    rcases hn with ⟨_, rfl | h | h⟩ | h
    · exact h2 rfl
    · exact h3 h
    · exact h4 h
    · omega
  · refine ⟨Kd.R_mono (Kd.R_tight2 rfl (DRows_set hr 8 (.slice none 0 0)).1) (fun k hk => ⟨.inl ⟨hk.2.1, .inr (.inl hk.1)⟩, hk.2.2⟩), Kd.R_mono (Kd.R_tight2 rfl (DRows_set hr 8 (.slice none 0 0)).2.1) (fun k hk => ⟨⟨.inl ⟨hk.2.1.1, .inr (.inr hk.1)⟩, hk.2.1.2⟩, hk.2.2⟩), Kd.N_nil _ _ _ _ _⟩
  · rintro k (⟨h, _⟩ | h)
    · exact h
    · exact hnew k h

set_option maxHeartbeats 8000000 in
set_option maxRecDepth 100000 in
theorem Feed_calls (ok : Nat → Prop) (g : Nat) (s : DSt) (A : Option Addr) (c : Nat) (xs : List Int) (w : World) (h : DF ok w g s) (hc : xs.length ≤ c) (hxl : xs.length ≤ 1000000) (hf : Kd.F (Kd.int .u8) w (fun k => ¬ ok k) A xs.length xs) (hs : ∀ i, i ≤ xs.length → Bnd (dRun s (xs.take i))) (hnew : ∀ k, w.heap.size ≤ k → ok k) :
    Calls Try.prog 24 #[.pointer (some ⟨g, 0, none⟩), .slice A xs.length c] w fun r w' => ∃ (vo : Value) (ok2 : Nat → Prop), r = .returned vo ∧ Kd.N (Kd.slice 5 (Kd.int .u8)) 28 w' 0 (fun k => ok k ∧ k < w'.heap.size ∧ ¬ ok2 k) vo (dRun s xs).out ∧ DF ok2 w' g { dRun s xs with out := [] } ∧ (∀ k, ok2 k → ok k) ∧ (∀ k, w'.heap.size ≤ k → ok2 k) ∧ Frm ok w w' := by
  have hu := Try.underlying86
  have HF := Aside0.mk hf
  have HS := Aside0.mk hs
  have HW := Aside0.mk hnew
  have HD := Aside0.mk h
  clear hf hs hnew h
  go_enter Try.func24, Try.ntmps24
  go_wp2_with fail
  go_loopw [10] (fun v w' => ∃ i : Nat, v = .int .i64 (i : Int) ∧ Aside0 (i ≤ xs.length) ∧ Aside0 (DF ok w' g (dRun s (xs.take i))) ∧ Aside0 (Frm ok w w')) (fun v _ => (xs.length - intOf v).toNat)
  case atStart => exact ⟨0, rfl, ⟨Nat.zero_le _⟩, ⟨HD.out⟩, ⟨Frm.refl ok w⟩⟩
  case round =>
    obtain ⟨i, rfl, HI, HDi, HFi⟩ := hrel
    rcases Nat.lt_or_ge i xs.length with hi | hi
    · have i0 : (0 : Int) ≤ (i : Int) := by omega
      obtain ⟨ad, had, hx⟩ := F_cell' (Kd.F_step HF.out (fun k hk hlt => HFi.out.block k hlt hk)) i hi
      subst had
      obtain ⟨x, hxx⟩ : ∃ x, x = rd xs (i : Int) := ⟨_, rfl⟩
      rw [← hxx] at hx
      have HX : Aside0 (xs.take (i + 1) = xs.take i ++ [x]) := ⟨by
        rw [List.take_succ_eq_append_getElem hi, hxx]
        unfold rd
        rw [Int.toNat_natCast, List.getD_eq_getElem?_getD, List.getElem?_eq_getElem hi]
        rfl⟩
      have hnx := DF_next HDi.out
      have HNew : Aside0 (∀ k, wr.heap.size ≤ k → ok k) := ⟨fun k hk => HW.out k (Nat.le_trans HFi.out.size hk)⟩
      have HBd := Aside0.mk (HS.out i (Nat.le_of_lt hi))
      obtain ⟨t, ht⟩ : ∃ t, t = dRun s (xs.take i) := ⟨_, rfl⟩
      rw [← ht] at HDi hnx HBd
      have HST : Aside0 (dRun s (xs.take (i + 1)) = dStep t x) := ⟨by rw [HX.out, dRun_snoc, ht]⟩
      clear hxx ht
      obtain ⟨m, hm⟩ : ∃ m, m = t.mode := ⟨_, rfl⟩
      rw [← hm] at hnx
      have HM := Aside0.mk hm
      clear hm
      rcases m with _ | _ | m
      case' zero =>
        have HQ : Aside0 (dStep t x = dNumber t x) := ⟨by unfold dStep; rw [← HM.out]; rfl⟩
        unfold nextV at hnx
        go_wp2_with fail
        refine (number_calls_d ok g t x _ HDi.out HBd.out (fun k hk => HNew.out k hk)).mono ?_
        rintro r w6 ⟨rfl, hd6, hf6⟩
        have HD6 := Aside0.mk hd6
        have HF6 := Aside0.mk (HFi.out.trans hf6)
        clear hd6 hf6
        go_wp2_with fail
        go_roundw
        case rel => exact ⟨i + 1, rfl, ⟨hi⟩, ⟨by rw [HST.out, HQ.out]; exact HD6.out⟩, HF6⟩
        case measure => show ((xs.length : Int) - ((i : Int) + 1)).toNat < ((xs.length : Int) - (i : Int)).toNat; omega
      case' succ.zero =>
        have HQ : Aside0 (dStep t x = dBody t x) := ⟨by unfold dStep; rw [← HM.out]; rfl⟩
        unfold nextV at hnx
        go_wp2_with fail
        refine (body_calls ok g t x _ HDi.out HBd.out.out HBd.out.frag ⟨HBd.out.left0, HBd.out.left1⟩ (fun k hk => HNew.out k hk)).mono ?_
        rintro r w6 ⟨rfl, hd6, hf6⟩
        have HD6 := Aside0.mk hd6
        have HF6 := Aside0.mk (HFi.out.trans hf6)
        clear hd6 hf6
        go_wp2_with fail
        go_roundw
        case rel => exact ⟨i + 1, rfl, ⟨hi⟩, ⟨by rw [HST.out, HQ.out]; exact HD6.out⟩, HF6⟩
        case measure => show ((xs.length : Int) - ((i : Int) + 1)).toNat < ((xs.length : Int) - (i : Int)).toNat; omega
      case' succ.succ =>
        have HQ : Aside0 (dStep t x = t) := ⟨by unfold dStep; rw [← HM.out]; rfl⟩
        unfold nextV at hnx
        go_wp2_with fail
        refine (nothing_calls x _).mono ?_
        rintro r w6 ⟨rfl, rfl⟩
        go_wp2_with fail
        go_roundw
        case rel => exact ⟨i + 1, rfl, ⟨hi⟩, ⟨by rw [HST.out, HQ.out]; exact HDi.out⟩, HFi⟩
        case measure => show ((xs.length : Int) - ((i : Int) + 1)).toNat < ((xs.length : Int) - (i : Int)).toNat; omega
    · have hie : i = xs.length := by have := HI.out; omega
      subst hie
      have HDx : Aside0 (DF ok wr g (dRun s xs)) := ⟨by have := HDi.out; rw [List.take_length] at this; exact this⟩
      clear HDi
      obtain ⟨t, ht⟩ : ∃ t, t = dRun s xs := ⟨_, rfl⟩
      rw [← ht] at HDx
      have HT := Aside0.mk ht
      clear ht
      obtain ⟨hg, vh, vr, vo, hb, hrows⟩ := HDx.out
      obtain ⟨Ao, co, rfl⟩ := Kd.N_slice hrows.2.2
      have c8 : wr.cell? ⟨g, 8, none⟩ = some (.slice Ao t.out.length co) := (blk_cell hb 8).trans rfl
      have z8 := blk_frozen hb 8
      have HB := Aside0.mk hb
      have HR := Aside0.mk hrows
      clear hb hrows
      go_wp2_with fail
      obtain ⟨ok2, e1, e2, e3, e4⟩ := DF_hand hg HB.out HR.out (fun k hk => HW.out k (Nat.le_trans HFi.out.size hk))
      go_ret
      rw [← HT.out]
      exact ⟨_, ok2, rfl, e1, e2, e3, e4, HFi.out.set g 8 hg _⟩
end Go.Proofs.Ytfoifcilacbipaa.G
