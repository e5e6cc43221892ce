/- Walk of law06's RpcSame. -/
import Derived.Test.YtfoifcilacbipaaH23
import Derived.Test.YtfoifcilacbipaaPx1
import Derived.Deep.RegionHeld3
import Derived.Test.YtfoifcilacbipaaPx2
namespace Go.Proofs.Ytfoifcilacbipaa.G
open Go.RowKit Go.Proofs.Ytfoifcilacbipaa.P Go.Proofs.YtfoifcilacbipaaW.PrintWords Go.Proofs.YtfoifcilacbipaaW.PrintLast Go.Proofs.YtfoifcilacbipaaW.PrintMore
set_option linter.unusedVariables false
set_option linter.unusedSimpArgs false

theorem Short_law (s : ByteArray) (m : Nat) (hm : m ≤ 1000000) : ∃ t : ByteArray, t.size ≤ m ∧ ∀ w : World, Calls Try.prog 10 #[.string s, .int .i64 (m : Int)] w fun e w' => e = .returned (.string t) ∧ ∃ n, w' = w.drewN n := by
  by_cases h : (s.size : Int) > (m : Int)
  · refine ⟨s.extract 0 m, by simp; omega, fun w => (truchmanref01_Short.calls s (m : Int) (s.extract 0 m) w ?_).mono ?_⟩
    · unfold truchmanref01_Short.f
      rw [if_pos h, if_pos (by omega), if_pos (by omega)]
      rfl
    · rintro e w' ⟨rfl, n, rfl⟩
      exact ⟨rfl, n, rfl⟩
  · refine ⟨s, by omega, fun w => (truchmanref01_Short.calls s (m : Int) s w ?_).mono ?_⟩
    · unfold truchmanref01_Short.f
      rw [if_neg h]
    · rintro e w' ⟨rfl, n, rfl⟩
      exact ⟨rfl, n, rfl⟩

theorem sameM_eq (r1 : Bool) (x1 p1 : Int) (s1 : ByteArray) (r2 : Bool) (x2 p2 : Int) (s2 : ByteArray) : sameM r1 x1 p1 s1 r2 x2 p2 s2 = (r1 == r2 && (x1 == x2 && (p1 == p2 && (s1.toList == s2.toList)))) := by
  rw [beq_str]
  unfold sameM
  rw [Bool.and_assoc, Bool.and_assoc]
  have h : ∀ a b : Int, decide (a = b) = (a == b) := fun a b => by rw [Bool.eq_iff_iff]; simp
  rw [h, h]
  cases r1 <;> cases r2 <;> simp

set_option maxHeartbeats 8000000 in
set_option maxRecDepth 100000 in
theorem RpcSame_walk (a0_0 : Bool) (a0_1 : Int) (a0_2 : Int) (a0_3 : ByteArray) (a1_0 : Bool) (a1_1 : Int) (a1_2 : Int) (a1_3 : ByteArray) (w : World)  (g0_ : (Lit.int .u32 a0_1).wf = true) (g1_ : (Lit.int .u32 a0_2).wf = true) (g2_ : a0_3.size ≤ maxLen) (g3_ : (Lit.int .u32 a1_1).wf = true) (g4_ : (Lit.int .u32 a1_2).wf = true) (g5_ : a1_3.size ≤ maxLen) :
    Calls Try.prog 3 #[.agg #[.bool a0_0, .int .u32 a0_1, .int .u32 a0_2, .string a0_3], .agg #[.bool a1_0, .int .u32 a1_1, .int .u32 a1_2, .string a1_3]] w fun e w' => e = .returned (.bool true) ∧ Below w.heap.size w w' := by
  have hu := Try.underlying24
  clear g0_ g1_ g2_ g3_ g4_ g5_
  go_enter Try.func3, Try.ntmps3
  obtain ⟨s0, hs0, hc0⟩ := Short_law a0_3 12 (by omega)
  obtain ⟨s1, hs1, hc1⟩ := Short_law a1_3 12 (by omega)
  have HC0 := Aside0.mk hc0
  have HC1 := Aside0.mk hc1
  have HS0 := Aside0.mk hs0
  have HS1 := Aside0.mk hs1
  clear hc0 hc1 hs0 hs1
  go_wp2_with fail
  refine (HC0.out _).mono ?_
  rintro e w1 ⟨rfl, n1, rfl⟩
  go_wp2_with fail
  refine (HC1.out _).mono ?_
  rintro e w1 ⟨rfl, n2, rfl⟩
  go_wp2_with fail
  obtain ⟨wX, hwX⟩ : ∃ wX, wX = ((((((((((w.alloc (.cells #[.bool a0_0, .int .u32 a0_1, .int .u32 a0_2, .string a0_3] 24)).alloc (.cells #[.bool a1_0, .int .u32 a1_1, .int .u32 a1_2, .string a1_3] 24)).drewN n1).setCell ⟨w.heap.size, 3, none⟩ (.string s0)).drewN n2).setCell ⟨w.heap.size + 1, 3, none⟩ (.string s1)).alloc (.cells #[.bool a1_0, .int .u32 a0_1, .int .u32 a0_2, .string s0] 24)).alloc (.cells #[.bool a0_0, .int .u32 a1_1, .int .u32 a0_2, .string s0] 24)).alloc (.cells #[.bool a0_0, .int .u32 a0_1, .int .u32 a1_2, .string s0] 24)).alloc (.cells #[.bool a0_0, .int .u32 a0_1, .int .u32 a0_2, .string s1] 24)) := ⟨_, rfl⟩
  rw [← hwX]
  have hbX : Below w.heap.size w wX := by
    rw [hwX]
    exact below_alloc (below_alloc (below_alloc (below_alloc (((pw_below_drewN ((pw_below_drewN (below_alloc (below_alloc (Below.refl _ _) _) _) n1).setCell (by simp) _) n2)).setCell (by simp) _) _) _) _) _
  have hsz : w.heap.size + 1 + 1 + 1 + 1 + 1 + 1 = wX.heap.size := by rw [hwX]; simp
  rw [hsz]
  clear hsz
  obtain ⟨wA, hwA⟩ : ∃ wA, wA = wX.alloc (.cells #[.bool a0_0, .int .u32 a0_1, .int .u32 a0_2, .string s0, .bool a1_0, .int .u32 a1_1, .int .u32 a1_2, .string s1, .bool a1_0, .int .u32 a0_1, .int .u32 a0_2, .string s0, .bool a0_0, .int .u32 a1_1, .int .u32 a0_2, .string s0, .bool a0_0, .int .u32 a0_1, .int .u32 a1_2, .string s0, .bool a0_0, .int .u32 a0_1, .int .u32 a0_2, .string s1] 24) := ⟨_, rfl⟩
  rw [← hwA]
  have hblk : wA.heap[wX.heap.size]? = some (.cells #[.bool a0_0, .int .u32 a0_1, .int .u32 a0_2, .string s0, .bool a1_0, .int .u32 a1_1, .int .u32 a1_2, .string s1, .bool a1_0, .int .u32 a0_1, .int .u32 a0_2, .string s0, .bool a0_0, .int .u32 a1_1, .int .u32 a0_2, .string s0, .bool a0_0, .int .u32 a0_1, .int .u32 a1_2, .string s0, .bool a0_0, .int .u32 a0_1, .int .u32 a0_2, .string s1] 24 (0, 0)) := by rw [hwA]; exact heap_alloc_new wX _
  have hbA : Below w.heap.size w wA := by rw [hwA]; exact below_alloc hbX _
  obtain ⟨ga, hga⟩ : ∃ ga, ga = wX.heap.size := ⟨_, rfl⟩
  rw [← hga] at hblk ⊢
  have HALL : Aside0 (∀ i : Nat, i < 6 → ∃ (b : Bool) (x p : Int) (s : ByteArray), s.size ≤ 12 ∧ wA.cell? ⟨ga, i * 4, none⟩ = some (.bool b) ∧ wA.cell? ⟨ga, i * 4 + 1, none⟩ = some (.int .u32 x) ∧ wA.cell? ⟨ga, i * 4 + 2, none⟩ = some (.int .u32 p) ∧ wA.cell? ⟨ga, i * 4 + 3, none⟩ = some (.string s)) := ⟨fun i hi => by
    have H0 := HS0.out
    have H1 := HS1.out
    rcases i with _ | _ | _ | _ | _ | _ | i
    · exact ⟨_, _, _, _, H0, (blk_cell hblk 0).trans rfl, (blk_cell hblk 1).trans rfl, (blk_cell hblk 2).trans rfl, (blk_cell hblk 3).trans rfl⟩
    · exact ⟨_, _, _, _, H1, (blk_cell hblk 4).trans rfl, (blk_cell hblk 5).trans rfl, (blk_cell hblk 6).trans rfl, (blk_cell hblk 7).trans rfl⟩
    · exact ⟨_, _, _, _, H0, (blk_cell hblk 8).trans rfl, (blk_cell hblk 9).trans rfl, (blk_cell hblk 10).trans rfl, (blk_cell hblk 11).trans rfl⟩
    · exact ⟨_, _, _, _, H0, (blk_cell hblk 12).trans rfl, (blk_cell hblk 13).trans rfl, (blk_cell hblk 14).trans rfl, (blk_cell hblk 15).trans rfl⟩
    · exact ⟨_, _, _, _, H0, (blk_cell hblk 16).trans rfl, (blk_cell hblk 17).trans rfl, (blk_cell hblk 18).trans rfl, (blk_cell hblk 19).trans rfl⟩
    · exact ⟨_, _, _, _, H1, (blk_cell hblk 20).trans rfl, (blk_cell hblk 21).trans rfl, (blk_cell hblk 22).trans rfl, (blk_cell hblk 23).trans rfl⟩
    · omega⟩
  have HGA : Aside0 (ga < wA.heap.size) := ⟨blk_lt hblk⟩
  have HBA := Aside0.mk hbA
  clear hwX hwA hblk hga hbA hbX
  go_loopw [10] (fun iv w' => ∃ i : Nat, i ≤ 6 ∧ iv = .int .i64 (i : Int) ∧ Aside0 (Below wA.heap.size wA w')) (fun iv _ => (6 - intOf iv).toNat)
  case atStart => exact ⟨0, by omega, rfl, ⟨Below.refl _ _⟩⟩
  case round =>
    obtain ⟨i, hi, rfl, HB⟩ := hrel
    rcases Nat.lt_or_ge i 6 with hi6 | hi6
    · have hi6' : (i : Int) < 6 := by omega
      go_wp2_with fail
      have HB0 := HB
      clear HB
      obtain ⟨b, x, p, s, hs, hc0, hc1, hc2, hc3⟩ := HALL.out i hi6
      have HI := Aside0.mk hs
      have HIC := Aside0.mk (And.intro hc0 (And.intro hc1 (And.intro hc2 hc3)))
      clear hs hc0 hc1 hc2 hc3
      go_loopw [11] (fun kv w' => ∃ k : Nat, k ≤ 6 ∧ kv = .int .i64 (k : Int) ∧ Aside0 (Below wA.heap.size wA w')) (fun kv _ => (6 - intOf kv).toNat)
      case atStart => exact ⟨0, by omega, rfl, HB0⟩
      case round =>
        clear HB0
        obtain ⟨k, hk, rfl, HB⟩ := hrel
        rcases Nat.lt_or_ge k 6 with hk6 | hk6
        · have hk6' : (k : Int) < 6 := by omega
          obtain ⟨b', x', p', s', hs', hd0, hd1, hd2, hd3⟩ := HALL.out k hk6
          have HS : Aside0 (∀ W, Below wA.heap.size wA W → W.cell? ⟨ga, i * 4, none⟩ = some (.bool b) ∧ W.cell? ⟨ga, i * 4 + 1, none⟩ = some (.int .u32 x) ∧ W.cell? ⟨ga, i * 4 + 2, none⟩ = some (.int .u32 p) ∧ W.cell? ⟨ga, i * 4 + 3, none⟩ = some (.string s) ∧ W.cell? ⟨ga, k * 4, none⟩ = some (.bool b') ∧ W.cell? ⟨ga, k * 4 + 1, none⟩ = some (.int .u32 x') ∧ W.cell? ⟨ga, k * 4 + 2, none⟩ = some (.int .u32 p') ∧ W.cell? ⟨ga, k * 4 + 3, none⟩ = some (.string s')) := ⟨fun W hW => by
            have e : ∀ o, W.cell? ⟨ga, o, none⟩ = wA.cell? ⟨ga, o, none⟩ := fun o => hW.cell (p := ⟨ga, o, none⟩) HGA.out
            rw [e, e, e, e, e, e, e, e]
            exact ⟨HIC.out.1, HIC.out.2.1, HIC.out.2.2.1, HIC.out.2.2.2, hd0, hd1, hd2, hd3⟩⟩
          have HK := Aside0.mk hs'
          clear hs' hd0 hd1 hd2 hd3
          have hi0 : (0 : Int) ≤ (i : Int) := by omega
          have hk0 : (0 : Int) ≤ (k : Int) := by omega
          obtain ⟨v, hv⟩ : ∃ v : Bool, v = (b == b' && (x == x' && (p == p' && (s.toList == s'.toList)))) := ⟨_, rfl⟩
          have heq : ∀ (d : Nat) (w : World), (Op.equalIn (d + 2) 24 (.agg #[.bool b, .int .u32 x, .int .u32 p, .string s]) (.agg #[.bool b', .int .u32 x', .int .u32 p', .string s'])).run Try.prog w = .ok v w := fun d w => by rw [hv]; exact eqA24 d w b b' x x' p p' s s'
          have HSM : Aside0 (∀ A1 n1 c1 A2 n2 c2 (w : World), Kd.C (Kd.int .u8) w A1 n1 (bsL s) → Kd.C (Kd.int .u8) w A2 n2 (bsL s') → Calls Try.prog 11 #[.agg #[.bool b, .int .u32 x, .int .u32 p, .slice A1 n1 c1], .agg #[.bool b', .int .u32 x', .int .u32 p', .slice A2 n2 c2]] w fun e w' => e = .returned (.bool v) ∧ Below w.heap.size w w') := ⟨fun A1 n1 c1 A2 n2 c2 w h1 h2 => by rw [hv, ← sameM_eq]; exact Same_calls b x p s A1 n1 c1 b' x' p' s' A2 n2 c2 w h1 h2⟩
          clear hv
          go_wp2_with fail
          go_region_held3 (fun w' => w'.cell? ⟨ga, i * 4, none⟩ = some (.bool b) ∧ w'.cell? ⟨ga, i * 4 + 1, none⟩ = some (.int .u32 x) ∧ w'.cell? ⟨ga, i * 4 + 2, none⟩ = some (.int .u32 p) ∧ w'.cell? ⟨ga, i * 4 + 3, none⟩ = some (.string s) ∧ w'.cell? ⟨ga, k * 4, none⟩ = some (.bool b') ∧ w'.cell? ⟨ga, k * 4 + 1, none⟩ = some (.int .u32 x') ∧ w'.cell? ⟨ga, k * 4 + 2, none⟩ = some (.int .u32 p') ∧ w'.cell? ⟨ga, k * 4 + 3, none⟩ = some (.string s'))
            (first | exact HS.out _ HBc | exact HS.out _ HBb | exact HS.out _ HBa | exact HS.out _ (below_drew HB.out) | exact HS.out _ HB.out)
            (first | (go_at_call 11; (with_reducible refine (HSM.out _ _ _ _ _ _ _ ?hq1 ?hq2).mono ?_); (case hq1 => exact (Kd.C_below (Kd.F_now hfa) hbb)); (case hq2 => exact (Kd.F_now hfb)); rintro r wc ⟨rfl, hbc⟩; have HBc := below_then HBb HBb.size hbc) | (go_at_call 12; (with_reducible refine (of_calls b x p s _ (by have := HI.out; omega)).mono ?_); rintro r wa ⟨Aa, ca, rfl, hla, hfa, hba⟩; have HBa := below_then (below_drew HB.out) (below_drew HB.out).size hba) | (go_at_call 12; (with_reducible refine (of_calls b' x' p' s' _ (by have := HK.out; omega)).mono ?_); rintro r wb ⟨Ab, cb, rfl, hlb, hfb, hbb⟩; have HBb := below_then HBa HBa.size hbb))
          all_goals
            clear hfa hfb hba hbb hbc hla hlb
            have HBC := Aside0.mk HBc
            clear HBa HBb HBc HB heq
            go_wp2_with fail
            go_roundw
            case rel => exact ⟨k + 1, by omega, by go_num, HBC⟩
            case measure => simp [intOf]; omega
        · obtain rfl : k = 6 := by omega
          go_wp2_with fail
          go_roundw
          case rel => exact ⟨i + 1, by omega, by go_num, HB⟩
          case measure => simp [intOf]; omega
    · obtain rfl : i = 6 := by omega
      go_wp2_with fail
      obtain ⟨kf, hkf⟩ := lives_ev.rounds
      refine (truchmanlaw06_lives.calls kf true _ hkf).mono ?_
      rintro r w5 ⟨rfl, hb5⟩
      have HB5 := Aside0.mk (below_then HB.out HB.out.size hb5)
      clear hb5
      go_wp2_with fail
      go_ret
      exact ⟨rfl, below_then HBA.out HBA.out.size HB5.out⟩
end Go.Proofs.Ytfoifcilacbipaa.G
