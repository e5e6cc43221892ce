/- The document's reader reads a text as the program's does; and the program's reader is made. -/
import Derived.Test.YtdfnhmgopihfcaaG6
namespace Go.Proofs.Ytdfnhmgopihfcaa.G
open Go.RowKit Go.Proofs.YtdfnhmgopihfcaaW.PrintWords Go.Proofs.YtdfnhmgopihfcaaW.PrintLast Go.Proofs.YtdfnhmgopihfcaaW.PrintMore
set_option linter.unusedVariables false
set_option linter.unusedSimpArgs false

theorem infoU8r : (Try.prog.info? 5).map (fun i => (i.zero, i.size, i.bytes)) = some (some (.int .u8 0), 1, 1) := by kernel_rfl

set_option maxHeartbeats 8000000 in
set_option maxRecDepth 100000 in
/-- A reader is made: bytes of its own. -/
theorem Read_calls (A0 : Option Addr) (c0 : Nat) (l0 : List Int) (w : World) (hr0 : Kd.C (Kd.int .u8) w A0 l0.length l0) (hc0 : l0.length ≤ c0) (hl : l0.length ≤ 1000000000000) :
    Calls Try.prog 30 #[.slice A0 l0.length c0] w fun r w' => ∃ g, r = .returned (.pointer (some ⟨g, 0, none⟩)) ∧ w.heap.size ≤ g ∧ g < w'.heap.size ∧ RD (fun k => w.heap.size ≤ k ∧ k < w'.heap.size) w' g 0 l0 ∧ Below w.heap.size w w' := by
  have HR := Aside0.mk hr0
  have HL := Aside0.mk hl
  have HB := Aside0.mk (Below.refl w.heap.size w)
  clear hr0 hl hc0
  go_enter Try.func30, Try.ntmps30
  go_wp2_with (first | ((with_reducible refine gate_builtin (b := .append) (xs := #[.const (.slice none 0 0), .tmp 3]) rfl ?_); at_builtin; refine Kd.R_append_rows (Kd.int .u8) (w0 := w) w.heap.size rfl (.const (.slice none 0 0)) (.tmp 3) 24 5 (.int .u8 0) 1 rfl Try.underlying24 infoU8r rfl (by decide) (by omega) (.slice none 0 0) ([] : List Int) l0 _ _ _ (fun _ => True) (fun _ => False) rfl rfl ?aO ?aR (fun _ _ h => h) (fun _ h => h.elim) ?aF ?aB ?aS ?aL ?_; (case aR => exact HR.out); (case aB => exact HB.out); (case aF => exact (fun _ _ => trivial)); (case aO => exact (Kd.R_nil _ _ _ _ (fun _ => True))); (case aS => exact Nat.le_refl _); (case aL => have := HL.out; simp; omega); intro v1 w1 ho hb hg hat; rw [List.nil_append] at ho; obtain ⟨A1, c1, rfl, hl1, _⟩ := Kd.R_reads ho; have HO := Aside0.mk ho; have HB1 := Aside0.mk hb; have HL1 := Aside0.mk hl1; clear ho hb hg hat hl1))
  go_ret
  refine ⟨w1.heap.size, rfl, HB1.out.size, by simp, ⟨⟨HB1.out.size, by simp⟩, A1, c1, heap_alloc_new w1 _, HL1.out, ?_⟩, HB1.out.alloc HB1.out.size _⟩
  refine Kd.F_alloc (Kd.F_mono (Kd.R_F (Kd.R_bound HO.out)) (fun k hk => ?_)) _
  have h3 := hk.2.2.1
  exact ⟨⟨hk.2.1, by simp; omega⟩, by omega⟩

theorem Part_nil (ok : Nat → Prop) (g : Nat) (w : World) : Part ok g w (.slice none 0 0) [] := ⟨none, 0, rfl, Nat.le_refl _, Kd.F_nil _ _ _⟩
theorem padN_lt (n : Nat) : padN n < 4 := by unfold padN; omega
theorem padN_mod (n : Nat) : (n + padN n) % 4 = 0 := by unfold padN; omega
theorem padN_least (n k : Nat) (h1 : n ≤ k) (h2 : k < n + padN n) : k % 4 ≠ 0 := by unfold padN at h2; omega

set_option maxHeartbeats 8000000 in
set_option maxRecDepth 100000 in
theorem TextW_calls (ok : Nat → Prop) (h : Nat) (e : Int) (xs : List Int) (most : Int) (w : World) (H : RF ok w h e xs) :
    Calls Try.prog 43 #[.pointer (some ⟨h, 0, none⟩), .int .i64 most] w fun r w' => ∃ v, r = .returned v ∧ Part ok h w' v (textO e xs most) ∧ RF ok w' h (textE e xs most) (textL e xs most) ∧ Mov h w w' := by
  have hu := Try.underlying67
  obtain ⟨n, hn⟩ : ∃ n : Nat, readU32 e xs = (n : Int) := ⟨(readU32 e xs).toNat, by have := readU32_range e xs; omega⟩
  have hnb : n ≤ 4294967296 := by have := readU32_range e xs; omega
  have htn : txN e xs = n := by unfold txN; rw [hn]; rfl
  have HN := Aside0.mk hn
  have HT := Aside0.mk htn
  clear hn htn
  go_enter Try.func43, Try.ntmps43
  go_wp2_with fail
  refine (U32W_calls ok h e xs w H).mono ?_
  rintro r w1 ⟨rfl, hr, hm⟩
  rw [HN.out]
  have HM := Aside0.mk hm
  have hc2 := RF_e hr
  have hz2 := RF_frozen hr 2
  have HR := Aside0.mk hr
  clear hr hm
  obtain ⟨e1, he1⟩ : ∃ e1, e1 = takeE e xs 4 := ⟨_, rfl⟩
  obtain ⟨l1, hl1⟩ : ∃ l1, l1 = takeL e xs 4 := ⟨_, rfl⟩
  rw [← he1] at hc2
  have HE1 := Aside0.mk he1
  have HL1 := Aside0.mk hl1
  clear he1 hl1
  refine Or.elim (Classical.em (e1 = 0)) (fun he => ?wa) (fun he => ?wb)
  case wb =>
    have c1 : (e1 != 0) = true := bne_iff_ne.mpr he
    have HX : Aside0 (textE e xs most = takeE e xs 4 ∧ textL e xs most = [] ∧ textO e xs most = []) := ⟨text1 most (by rw [← HE1.out]; exact he)⟩
    have HL : Aside0 (takeL e xs 4 = []) := ⟨takeL_ne (by rw [← HE1.out]; exact he)⟩
    clear he
    go_wp2_with fail
    go_ret
    rw [HX.out.1, HX.out.2.1, HX.out.2.2]
    exact ⟨_, rfl, Part_nil _ _ _, by have h1 := HR.out; rw [HL.out] at h1; exact h1, HM.out⟩
  case wa =>
    have HE0 : Aside0 (takeE e xs 4 = 0) := ⟨HE1.out.symm.trans he⟩
    subst he
    refine Or.elim (Classical.em ((n : Int) > most)) (fun hq => ?wc) (fun hq => ?wd)
    case wc =>
      have c2 : decide ((n : Int) > most) = true := decide_eq_true hq
      have c3 : decide (most < (n : Int)) = true := decide_eq_true hq
      have HX : Aside0 (textE e xs most = 4 ∧ textL e xs most = [] ∧ textO e xs most = []) := ⟨text2 HE0.out (by rw [HN.out]; exact hq)⟩
      clear hq
      go_wp2_with fail
      go_ret
      rw [HX.out.1, HX.out.2.1, HX.out.2.2]
      exact ⟨_, rfl, Part_nil _ _ _, RF_setE HR.out 4 (by decide), HM.out.set _ _⟩
    case wd =>
      have hq2 : (n : Int) ≤ most := by omega
      have HQ : Aside0 (readU32 e xs ≤ most) := ⟨by rw [HN.out]; exact hq2⟩
      clear hq
      have hp4 := padN_lt n
      go_wp2_with fail
      go_loop [6] (fun v => ∃ k : Nat, v = .int .i64 (k : Int) ∧ n ≤ k ∧ k ≤ n + padN n) (fun v => (n + padN n - intOf v).toNat)
      case atStart => exact ⟨n, rfl, Nat.le_refl _, Nat.le_add_right _ _⟩
      case round =>
        obtain ⟨k, rfl, hk1, hk2⟩ := hrel
        refine Or.elim (Classical.em (k < n + padN n)) (fun hk => ?we) (fun hk => ?wf)
        case we =>
          have c4 : ((k : Int) % 4 != 0) = true := bne_iff_ne.mpr (by have := padN_least n k hk1 hk; omega)
          have k0 : (0 : Int) ≤ (k : Int) := by omega
          go_wp2_with fail
          go_round
          case rel => exact ⟨k + 1, by simp, by omega, by omega⟩
          case measure => simp [intOf]; omega
        case wf =>
          have hk3 : k = n + padN n := by omega
          have hm4 := padN_mod n
          have c4 : ((k : Int) % 4 != 0) = false := bne_eq_false_iff_eq.mpr (by omega)
          have k0 : (0 : Int) ≤ (k : Int) := by omega
          have HK : Aside0 (k = n + padN n) := ⟨hk3⟩
          clear hk3 hm4 hk
          go_wp2_with fail
          obtain ⟨B, J, hrb, hJ, hmx, hB, hs⟩ := HR.out
          have hkb : k ≤ 8589934592 := by have := HK.out; omega
          refine (short_calls ok h B J _ k _ hrb hJ hkb).mono ?_
          rintro r w2 ⟨rfl, hr2, hm2⟩
          rw [shortE_take hs k] at hr2 ⊢
          rw [HE0.out] at hs hr2 ⊢
          have hlx : takeL e xs 4 = B.drop J := by rcases hs with h1 | h1; exact h1.2; exact absurd rfl h1.1
          have HB := Aside0.mk (And.intro hB hlx)
          clear hB hlx hs hrb
          refine Or.elim (Classical.em (k ≤ B.length - J)) (fun hs => ?wg) (fun hs => ?wh)
          case wh =>
            have hE : takeE 0 (takeL e xs 4) k = 3 := by rw [HB.out.2]; unfold takeE; rw [if_pos rfl, if_pos (by rw [List.length_drop]; omega)]
            have HX : Aside0 (textE e xs most = 3 ∧ textL e xs most = [] ∧ textO e xs most = []) := ⟨text3 HE0.out (by have := HQ.out; omega) (by rw [HT.out, HB.out.2, List.length_drop]; have := HK.out; omega)⟩
            rw [hE] at hr2 ⊢
            have HR2 := Aside0.mk hr2
            have HM2 := Aside0.mk (HM.out.trans hm2)
            clear hE hr2 hm2 hs
            go_wp2_with fail
            go_ret
            rw [HX.out.1, HX.out.2.1, HX.out.2.2]
            exact ⟨_, rfl, Part_nil _ _ _, ⟨B, J, HR2.out, hJ, hmx, HB.out.1, .inr ⟨by decide, rfl⟩⟩, HM2.out⟩
          case wg =>
            have hE : takeE 0 (takeL e xs 4) k = 0 := by rw [HB.out.2]; unfold takeE; rw [if_pos rfl, if_neg (by rw [List.length_drop]; omega)]
            have HX := Aside0.mk (text4 (most := most) HE0.out (by have := HQ.out; omega) (by rw [HT.out, HB.out.2, List.length_drop]; have := HK.out; omega))
            rw [HT.out, HB.out.2] at HX
            obtain ⟨ps, hps⟩ : ∃ ps, ps = ((B.drop J).drop n).take (padN n) := ⟨_, rfl⟩
            rw [← hps] at HX
            have hpl : ps.length = padN n := by rw [hps, List.length_take, List.length_drop, List.length_drop]; have := HK.out; omega
            have hpj : ∀ j, j < padN n → ps[j]? = some (rd B ((J + (n + j) : Nat) : Int)) := by
              intro j hj
              have hlt : J + (n + j) < B.length := by have := HK.out; omega
              rw [hps, List.getElem?_take_of_lt hj, List.getElem?_drop, List.getElem?_drop]
              unfold rd
              rw [Int.toNat_natCast, List.getD_eq_getElem?_getD, List.getElem?_eq_getElem hlt]
              rfl
            rw [hE] at hr2 ⊢
            obtain ⟨hb, A, c, hc', hl, hf⟩ := id hr2
            have hc0 : w2.cell? ⟨h, 0, none⟩ = some (.slice A B.length c) := (blk_cell hc' 0).trans rfl
            have hc1 : w2.cell? ⟨h, 1, none⟩ = some (.int .i64 (J : Int)) := (blk_cell hc' 1).trans rfl
            have hc2' : w2.cell? ⟨h, 2, none⟩ = some (.int .i64 0) := (blk_cell hc' 2).trans rfl
            have hz1 := blk_frozen hc' 1
            have hz2' := blk_frozen hc' 2
            have HF := Aside0.mk hf
            have HR2 := Aside0.mk hr2
            have HM2 := Aside0.mk (HM.out.trans hm2)
            have HP := Aside0.mk (And.intro hps (And.intro hpl hpj))
            have hJB : J + k ≤ B.length := by omega
            clear hE hr2 hm2 hs hps hpl hpj hf hc' hb
            go_wp2_with fail
            go_loopw [7] (fun v w' => ∃ j : Nat, v = .int .i64 ((n + j : Nat) : Int) ∧ Aside0 (j ≤ padN n) ∧ Aside0 ((ps.take j).all (· == 0) = true) ∧ Aside0 (∃ m, w' = w2.drewN m)) (fun v _ => (k - intOf v).toNat)
            case atStart => exact ⟨0, by simp, ⟨Nat.zero_le _⟩, ⟨rfl⟩, ⟨0, rfl⟩⟩
            case round =>
              obtain ⟨j, rfl, HJ, HA, HW⟩ := hrel
              obtain ⟨m, rfl⟩ := HW.out
              obtain ⟨i, hi⟩ : ∃ i : Nat, i = n + j := ⟨_, rfl⟩
              rw [← hi]
              have HI := Aside0.mk hi
              clear hi
              refine Or.elim (Classical.em (i < k)) (fun hik => ?wi) (fun hik => ?wj)
              case wi =>
                obtain ⟨q, hq⟩ : ∃ q : Nat, q = J + i := ⟨_, rfl⟩
                obtain ⟨ad, rfl, hx⟩ := F_cell HF.out q (by omega)
                have s1 : IntKind.i64.wrap ((J : Int) + (i : Int)) = (q : Int) := by rw [IntKind.wrap_i64]; omega
                have q0 : (0 : Int) ≤ (q : Int) := by omega
                have q1 : (q : Int) < (B.length : Int) := by omega
                have hpq : ps[j]? = some (rd B (q : Int)) := by rw [HP.out.2.2 j (by have := HI.out; have := HK.out; omega), hq, HI.out]
                generalize rd B (q : Int) = p at hx hpq
                have HPQ := Aside0.mk hpq
                have HD : Aside0 (ps.take (j + 1) = ps.take j ++ [p]) := ⟨by rw [List.take_add_one, hpq]; rfl⟩
                have HQ2 := Aside0.mk hq
                have HIK := Aside0.mk hik
                clear hpq hq
                refine Or.elim (Classical.em (p = 0)) (fun hp => ?wk) (fun hp => ?wl)
                case wk =>
                  have c6 : (p != 0) = false := bne_eq_false_iff_eq.mpr hp
                  have HZ := Aside0.mk hp
                  clear hp
                  go_wp2_with fail
                  go_quiet (fail)
                  clear s1
                  go_wp2_with fail
                  go_roundw
                  case rel => exact ⟨j + 1, by have := HI.out; first | (congr 1; omega) | simp_all, ⟨by have := HI.out; have := HIK.out; have := HK.out; omega⟩, ⟨by rw [HD.out, List.all_append, HA.out, HZ.out]; rfl⟩, ⟨_, by first | rfl | exact World.drewN_drewN ..⟩⟩
                  case measure => simp [intOf]; omega
                case wl =>
                  have c6 : (p != 0) = true := bne_iff_ne.mpr hp
                  have HZ : Aside0 (ps.all (· == 0) = false) := ⟨by
                    refine Bool.eq_false_iff.mpr fun hall => hp ?_
                    have := List.all_eq_true.mp hall p (List.mem_of_getElem? HPQ.out)
                    simpa using this⟩
                  clear hp
                  go_wp2_with fail
                  go_quiet (fail)
                  clear s1
                  go_wp2_with fail
                  go_ret
                  rw [HX.out.1, HX.out.2.1, HX.out.2.2, HZ.out]
                  exact ⟨_, rfl, Part_nil _ _ _, ⟨B, J, RB_setE (RB_drewN HR2.out _) 2, hJ, hmx, HB.out.1, .inr ⟨by decide, rfl⟩⟩, (HM2.out.drewN _).set _ _⟩
              case wj =>
                have hik2 : k ≤ i := by omega
                have hjn : j = padN n := by have := HI.out; have := HJ.out; have := HK.out; omega
                have hall : ps.take j = ps := List.take_of_length_le (by rw [HP.out.2.1]; omega)
                have HA2 : Aside0 (ps.all (· == 0) = true) := ⟨by rw [← hall]; exact HA.out⟩
                obtain ⟨q, hq⟩ : ∃ q : Nat, q = J + n := ⟨_, rfl⟩
                have s1 : IntKind.i64.wrap ((J : Int) + (n : Int)) = (q : Int) := by rw [IntKind.wrap_i64]; have := HK.out; omega
                obtain ⟨i0, hi0, _, hsz, _⟩ := info_parts infoU8r
                obtain ⟨A', hcut, hA', hC'⟩ := print_mid_of (P := Try.prog) (Value.int .u8) 0 24 5 .i64 .i64 Try.underlying24 hi0 hsz A c B (J : Int) (q : Int) (by omega) (by omega) (by have := HK.out; omega) hl
                have hcut2 : (((B.take q).drop J).length : Int) = (n : Int) := by rw [List.length_drop, List.length_take]; have := HK.out; omega
                have HQ2 := Aside0.mk hq
                simp only [Int.toNat_natCast] at hcut hA' hC'
                have HA' := Aside0.mk (And.intro hA' hC')
                clear hq hall hjn hik hi0 hsz hA' hC'
                go_wp2_with fail
                go_wp2_with fail
                go_quiet (fail)
                go_wp2_with fail
                go_ret
                rw [HX.out.1, HX.out.2.1, HX.out.2.2, HA2.out]
                simp only [if_true]
                have hq := HQ2.out
                have hkk := HK.out
                refine ⟨_, rfl, ?_, ⟨B, J + k, RB_setI (RB_drewN HR2.out _) (J + k), by omega, hmx, HB.out.1, .inl ⟨rfl, by rw [hkk, List.drop_drop]⟩⟩, (HM2.out.drewN _).set _ _⟩
                have hL : ((B.drop J).take n) = (B.take q).drop J := by rw [hq, List.drop_take]; simp
                rw [hL]
                refine ⟨A', c - J, by simp [List.length_drop, List.length_take], HA'.out.2, ?_⟩
                refine Kd.F_far (p := ⟨h, 1, none⟩) (Kd.F_drewN ?_ _) (fun _ hk => hk.2) _
                exact Kd.F_imp HF.out (fun W' hC => Kd.C_of_reads (h1 := fun _ => rfl) (HA'.out.1 _ (Kd.reads_of_C hC)))
end Go.Proofs.Ytdfnhmgopihfcaa.G
