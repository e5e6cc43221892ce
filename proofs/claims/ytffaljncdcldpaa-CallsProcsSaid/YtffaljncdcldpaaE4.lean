/- Hand-made contracts of calls: in, May. -/
import Derived.Test.YtffaljncdcldpaaE3
namespace Go.Proofs.Ytffaljncdcldpaa.G
open Go.RowKit Go.Proofs.YtffaljncdcldpaaW.PrintWords Go.Proofs.YtffaljncdcldpaaW.PrintLast Go.Proofs.YtffaljncdcldpaaW.PrintMore
set_option linter.unusedVariables false
set_option linter.unusedSimpArgs false

theorem in_calls (n h : Int) (w : World) : Calls Try.prog 42 #[.int .i64 n, .int .i64 h] w fun e w' => e = .returned (.bool (decide (0 ≤ n) && decide (n ≤ h))) ∧ w' = w := by
  rcases Classical.em (0 ≤ n) with h0 | h0
  · have e : decide (0 ≤ n) = true := decide_eq_true h0
    rw [e, Bool.true_and]
    go_enter Try.func42, Try.ntmps42
    go_wp2_with fail
    go_ret
    exact ⟨rfl, rfl⟩
  · have e : decide (0 ≤ n) = false := decide_eq_false h0
    rw [e, Bool.false_and]
    go_enter Try.func42, Try.ntmps42
    go_wp2_with fail
    go_ret
    exact ⟨rfl, rfl⟩

/-- What is own of Data. -/
def ownD (p : Int) (la : List Int) : List Int := if p = 7 then la else []
def ownS (a : AR) : AR :=
  ⟨a.p, if a.p = 6 ∨ a.p = 16 ∨ a.p = 7 then a.o else 0, if a.p = 6 ∨ a.p = 16 then a.c else 0, if a.p = 2 then a.z else 0, if a.p = 8 ∨ a.p = 9 then a.m else 0,
    if (fieldsB a.p).size = 0 then 0 else a.i, if (fieldsB a.p).size = 0 then 0 else a.g, if a.p = 14 then a.i2 else 0, if a.p = 14 then a.g2 else 0,
    if a.p = 3 ∨ a.p = 12 ∨ a.p = 13 ∨ a.p = 8 ∨ a.p = 9 ∨ a.p = 14 then a.n else ⟨#[]⟩, if a.p = 14 then a.n2 else ⟨#[]⟩, if a.p = 7 then a.dA else none, if a.p = 7 then a.dN else 0, if a.p = 7 then a.dC else 0⟩
theorem fieldsB_none {p : Int} (h1 : p ≠ 1) (h2 : p ≠ 2) (h3 : p ≠ 3) (h4 : p ≠ 12) (h5 : p ≠ 13) (h6 : p ≠ 6) (h7 : p ≠ 16) (h8 : p ≠ 7) (h9 : p ≠ 8) (h10 : p ≠ 9) (h11 : p ≠ 14) : fieldsB p = ⟨#[]⟩ := by unfold fieldsB; simp [h1, h2, h3, h4, h5, h6, h7, h8, h9, h10, h11]
theorem ownA_eq (a : AR) : ownA a = ownS a := by
  obtain ⟨p, o, c, z, m, i, g, i2, g2, n, n2, dA, dN, dC⟩ := a
  rcases p_cases p with rfl | rfl | rfl | rfl | rfl | rfl | rfl | rfl | rfl | rfl | rfl | ⟨h1, h2, h3, h4, h5, h6, h7, h8, h9, h10, h11⟩
  all_goals first
    | rfl
    | skip
  have hf := fieldsB_none h1 h2 h3 h4 h5 h6 h7 h8 h9 h10 h11
  unfold ownA ownS
  simp only [hf]
  simp [h1, h2, h3, h4, h5, h6, h7, h8, h9, h10, h11]
  rfl
theorem ownD_C {w : World} {a : AR} {la : List Int} (h : Kd.C (Kd.int .u8) w a.dA a.dN la) : Kd.C (Kd.int .u8) w (ownA a).dA (ownA a).dN (ownD a.p la) := by
  rw [ownA_eq]
  unfold ownS ownD
  simp only
  by_cases h7 : a.p = 7
  · rw [if_pos h7, if_pos h7, if_pos h7]; exact h
  · rw [if_neg h7, if_neg h7, if_neg h7]; exact Kd.C_nil _ _

def inW (x : Int) : Bool := decide (0 ≤ x) && decide (x ≤ 4294967295)
def words7 (a : AR) : List Int := [a.i, a.g, a.i2, a.g2, a.z, a.c, a.m]
def smallA (a : AR) : Bool := decide (a.n.size ≤ 64) && (decide (a.n2.size ≤ 64) && (decide (a.dN ≤ 2048) && (decide (0 ≤ a.o) && decide (a.o ≤ 4611686018427387904))))
def mayA (a : AR) (la : List Int) : Bool := (words7 a).all inW && (smallA a && (decide ((fieldsB a.p).size ≠ 0) && sameA a (ownA a) la (ownD a.p la)))

theorem beq_empty (s : ByteArray) : (s.toList == []) = decide (s.size = 0) := by
  rw [ByteArray.toList_eq, Bool.eq_iff_iff, beq_iff_eq, decide_eq_true_eq]
  constructor
  · intro h
    have : s.data.toList.length = 0 := by rw [h]; rfl
    simpa using this
  · intro h
    apply List.eq_nil_of_length_eq_zero
    simpa using h

set_option maxHeartbeats 16000000 in
set_option maxRecDepth 100000 in
theorem May_calls (a : AR) (la : List Int) (w : World) (h1 : Kd.C (Kd.int .u8) w a.dA a.dN la) (hn1 : a.n.size ≤ maxLen) (hn2 : a.n2.size ≤ maxLen) :
    Calls Try.prog 16 #[.agg #[.int .i64 a.p, .int .i64 a.o, .int .i64 a.c, .int .i64 a.z, .int .i64 a.m, .int .i64 a.i, .int .i64 a.g, .int .i64 a.i2, .int .i64 a.g2, .string a.n, .string a.n2, .slice a.dA a.dN a.dC]] w fun e w' => e = .returned (.bool (mayA a la)) ∧ Below w.heap.size w w' := by
  have hu1 := Try.underlying26
  have hu2 := Try.underlying23
  have H1 := Aside0.mk h1
  have HN := Aside0.mk (And.intro hn1 hn2)
  clear h1 hn1 hn2
  go_enter Try.func16, Try.ntmps16
  go_wp2_with fail
  obtain ⟨w2, hw2⟩ : ∃ w2, w2 = w.alloc (.cells #[.int .i64 a.p, .int .i64 a.o, .int .i64 a.c, .int .i64 a.z, .int .i64 a.m, .int .i64 a.i, .int .i64 a.g, .int .i64 a.i2, .int .i64 a.g2, .string a.n, .string a.n2, .slice a.dA a.dN a.dC] 26) := ⟨_, rfl⟩
  have hs2 : w2.heap.size = w.heap.size + 1 := by rw [hw2]; exact asz _ _
  have hbA : w2.heap[w.heap.size]? = some (.cells #[.int .i64 a.p, .int .i64 a.o, .int .i64 a.c, .int .i64 a.z, .int .i64 a.m, .int .i64 a.i, .int .i64 a.g, .int .i64 a.i2, .int .i64 a.g2, .string a.n, .string a.n2, .slice a.dA a.dN a.dC] 26 (0, 0)) := by rw [hw2]; exact heap_alloc_new w _
  have hb2 : Below w.heap.size w w2 := by rw [hw2]; exact below_alloc (Below.refl _ _) _
  rw [← hw2]
  obtain ⟨w3, hw3⟩ : ∃ w3, w3 = w2.alloc (.cells #[.int .i64 a.i, .int .i64 a.g, .int .i64 a.i2, .int .i64 a.g2, .int .i64 a.z, .int .i64 a.c, .int .i64 a.m] 3) := ⟨_, rfl⟩
  have hbL : w3.heap[w2.heap.size]? = some (.cells #[.int .i64 a.i, .int .i64 a.g, .int .i64 a.i2, .int .i64 a.g2, .int .i64 a.z, .int .i64 a.c, .int .i64 a.m] 3 (0, 0)) := by rw [hw3]; exact heap_alloc_new w2 _
  have hb3 : Below w2.heap.size w2 w3 := by rw [hw3]; exact below_alloc (Below.refl _ _) _
  rw [← hw3]
  obtain ⟨ga, hga⟩ : ∃ ga, ga = w.heap.size := ⟨_, rfl⟩
  obtain ⟨gl, hgl⟩ : ∃ gl, gl = w.heap.size + 1 := ⟨_, rfl⟩
  rw [← hgl, ← hga]
  rw [hs2, ← hgl] at hbL
  rw [← hga] at hbA
  have hA3 := (hb3.block ga (by omega)).trans hbA
  have HG : Aside0 (ga < w3.heap.size ∧ gl < w3.heap.size ∧ w.heap.size ≤ w3.heap.size) := ⟨by have := blk_lt hA3; have := blk_lt hbL; have := hb3.size; omega⟩
  have HA := Aside0.mk hA3
  have HL : Aside0 (∀ i : Nat, i < 7 → w3.cell? ⟨gl, i, none⟩ = some (.int .i64 ((words7 a).getD i 0))) := ⟨fun i hi => by
    rcases i with _ | _ | _ | _ | _ | _ | _ | i
    · exact (blk_cell hbL 0).trans rfl
    · exact (blk_cell hbL 1).trans rfl
    · exact (blk_cell hbL 2).trans rfl
    · exact (blk_cell hbL 3).trans rfl
    · exact (blk_cell hbL 4).trans rfl
    · exact (blk_cell hbL 5).trans rfl
    · exact (blk_cell hbL 6).trans rfl
    · omega⟩
  have HB3 := Aside0.mk (below_then hb2 hb2.size hb3)
  have H13 := Aside0.mk (Kd.C_below H1.out HB3.out)
  clear hw2 hw3 hs2 hbA hb2 hbL hb3 hga hgl hA3
  go_loop [26] (fun iv => ∃ i : Nat, i ≤ 7 ∧ iv = .int .i64 (i : Int) ∧ Aside0 (∀ j, j < i → inW ((words7 a).getD j 0) = true)) (fun iv => (7 - intOf iv).toNat)
  case atStart => exact ⟨0, by omega, rfl, ⟨fun j hj => by omega⟩⟩
  case round =>
    obtain ⟨i, hi, rfl, HI⟩ := hrel
    rcases Nat.lt_or_ge i 7 with hi7 | hi7
    · have hi7' : (i : Int) < 7 := by omega
      have hc := HL.out i hi7
      obtain ⟨v, hv⟩ : ∃ v, v = (words7 a).getD i 0 := ⟨_, rfl⟩
      rw [← hv] at hc
      have HV := Aside0.mk hv
      clear hv
      go_wp2_with fail
      refine (in_calls v 4294967295 _).mono ?_
      obtain ⟨b, hb⟩ : ∃ b, b = inW v := ⟨_, rfl⟩
      have hb' : (decide (0 ≤ v) && decide (v ≤ 4294967295)) = b := hb.symm
      rw [hb']
      rintro e w' ⟨rfl, rfl⟩
      have HBB := Aside0.mk hb
      clear hb hb' hc
      cases b
      · go_wp2_with fail
        go_ret
        refine ⟨?_, HB3.out⟩
        have hall : (words7 a).all inW = false := by
          rw [List.all_eq_false]
          refine ⟨(words7 a).getD i 0, ?_, by rw [← HV.out, ← HBB.out]; simp⟩
          rw [List.getD_eq_getElem?_getD, List.getElem?_eq_getElem (show i < (words7 a).length from hi7)]
          exact List.getElem_mem _
        unfold mayA
        rw [hall]
        rfl
      · go_wp2_with fail
        go_round
        case rel => exact ⟨i + 1, by omega, by go_num, ⟨fun j hj => by
          rcases Nat.lt_or_ge j i with h | h
          · exact HI.out j h
          · obtain rfl : j = i := by omega
            rw [← HV.out, ← HBB.out]⟩⟩
        case measure => simp [intOf]; omega
    · obtain rfl : i = 7 := by omega
      have hall : (words7 a).all inW = true := by
        rw [List.all_eq_true]
        intro x hx
        obtain ⟨j, hj, rfl⟩ := List.getElem_of_mem hx
        have h := HI.out j hj
        rw [List.getD_eq_getElem?_getD, List.getElem?_eq_getElem hj] at h
        exact h
      have hmay : mayA a la = (smallA a && (decide ((fieldsB a.p).size ≠ 0) && sameA a (ownA a) la (ownD a.p la))) := by unfold mayA; rw [hall]; rfl
      clear HI HL
      have k0 : w3.cell? ⟨ga, 0, none⟩ = some (.int .i64 a.p) := (blk_cell HA.out 0).trans rfl
      have k1 : w3.cell? ⟨ga, 1, none⟩ = some (.int .i64 a.o) := (blk_cell HA.out 1).trans rfl
      have k2 : w3.cell? ⟨ga, 2, none⟩ = some (.int .i64 a.c) := (blk_cell HA.out 2).trans rfl
      have k3 : w3.cell? ⟨ga, 3, none⟩ = some (.int .i64 a.z) := (blk_cell HA.out 3).trans rfl
      have k4 : w3.cell? ⟨ga, 4, none⟩ = some (.int .i64 a.m) := (blk_cell HA.out 4).trans rfl
      have k5 : w3.cell? ⟨ga, 5, none⟩ = some (.int .i64 a.i) := (blk_cell HA.out 5).trans rfl
      have k6 : w3.cell? ⟨ga, 6, none⟩ = some (.int .i64 a.g) := (blk_cell HA.out 6).trans rfl
      have k7 : w3.cell? ⟨ga, 7, none⟩ = some (.int .i64 a.i2) := (blk_cell HA.out 7).trans rfl
      have k8 : w3.cell? ⟨ga, 8, none⟩ = some (.int .i64 a.g2) := (blk_cell HA.out 8).trans rfl
      have k9 : w3.cell? ⟨ga, 9, none⟩ = some (.string a.n) := (blk_cell HA.out 9).trans rfl
      have k10 : w3.cell? ⟨ga, 10, none⟩ = some (.string a.n2) := (blk_cell HA.out 10).trans rfl
      have k11 : w3.cell? ⟨ga, 11, none⟩ = some (.slice a.dA a.dN a.dC) := (blk_cell HA.out 11).trans rfl
      obtain ⟨b1, hb1⟩ : ∃ b, b = decide (a.n.size ≤ 64) := ⟨_, rfl⟩
      obtain ⟨b2, hb2⟩ : ∃ b, b = decide (a.n2.size ≤ 64) := ⟨_, rfl⟩
      obtain ⟨b3, hb3⟩ : ∃ b, b = decide (a.dN ≤ 2048) := ⟨_, rfl⟩
      obtain ⟨b4, hb4⟩ : ∃ b, b = (decide (0 ≤ a.o) && decide (a.o ≤ 4611686018427387904)) := ⟨_, rfl⟩
      have hsm : smallA a = (b1 && (b2 && (b3 && b4))) := by unfold smallA; rw [hb1, hb2, hb3, hb4]
      rw [hsm] at hmay
      have HIN : Aside0 (∀ W, Calls Try.prog 42 #[.int .i64 a.o, .int .i64 4611686018427387904] W fun e w' => e = .returned (.bool b4) ∧ w' = W) := ⟨fun W => by rw [hb4]; exact in_calls _ _ _⟩
      have t1 : decide ((a.n.size : Int) ≤ 64) = b1 := by rw [hb1]; exact decide_eq_decide.2 (by omega)
      have t2 : decide ((a.n2.size : Int) ≤ 64) = b2 := by rw [hb2]; exact decide_eq_decide.2 (by omega)
      have t3 : decide ((a.dN : Int) ≤ 2048) = b3 := by rw [hb3]; exact decide_eq_decide.2 (by omega)
      clear hb1 hb2 hb3 hb4 hsm hall hi hi7
      have HM := Aside0.mk hmay
      clear hmay
      cases b1
      · go_wp2_with fail
        go_quiet (fail)
        go_wp2_with fail
        go_ret
        exact ⟨by rw [HM.out]; rfl, pw_below_drewN HB3.out _⟩
      · skip
        cases b2
        · go_wp2_with fail
          go_quiet (fail)
          go_wp2_with fail
          go_ret
          exact ⟨by rw [HM.out]; rfl, pw_below_drewN HB3.out _⟩
        · skip
          cases b3
          · go_wp2_with fail
            go_quiet (fail)
            go_wp2_with fail
            go_ret
            exact ⟨by rw [HM.out]; rfl, pw_below_drewN HB3.out _⟩
          · skip
            cases b4
            · go_wp2_with fail
              refine (HIN.out _).mono ?_
              rintro e w4 ⟨rfl, hw4⟩
              rw [hw4]
              clear hw4
              go_wp2_with fail
              go_quiet (fail)
              go_wp2_with fail
              go_ret
              exact ⟨by rw [HM.out]; rfl, pw_below_drewN HB3.out _⟩
            · go_wp2_with fail
              refine (HIN.out _).mono ?_
              rintro e w4 ⟨rfl, hw4⟩
              rw [hw4]
              clear hw4
              go_wp2_with fail
              obtain ⟨s, hs⟩ : ∃ s, s = fieldsB a.p := ⟨_, rfl⟩
              have HF : Aside0 (∀ W, Calls Try.prog 41 #[.int .i64 a.p] W fun e w' => e = .returned (.string s) ∧ w' = W) := ⟨fun W => by rw [hs]; exact fields_calls _ _⟩
              have hm2 : mayA a la = (decide (s.size ≠ 0) && sameA a (ownA a) la (ownD a.p la)) := by rw [HM.out, hs]; rfl
              have HM2 := Aside0.mk hm2
              clear hs hm2
              rcases Classical.em (s.size = 0) with e0 | e0
              · have hz : (s.toList == []) = true := by rw [beq_empty]; exact decide_eq_true e0
                have hz2 : s.toList = [] := beq_iff_eq.1 hz
                go_quiet ((go_at_call 41; exact Calls.quiet_of_same (HF.out _)))
                go_wp2_with fail
                go_ret
                exact ⟨by rw [HM2.out, e0]; rfl, pw_below_drewN HB3.out _⟩
              · have hz : (s.toList == []) = false := by rw [beq_empty]; exact decide_eq_false e0
                have hz2 : s.toList.isEmpty = false := by (cases h : s.toList with | nil => rw [h] at hz; exact absurd hz (by simp) | cons x y => rfl)
                have HS : Aside0 (∀ w', Below w3.heap.size w3 w' → w'.cell? ⟨ga, 0, none⟩ = some (.int .i64 a.p) ∧ w'.cell? ⟨ga, 1, none⟩ = some (.int .i64 a.o) ∧ w'.cell? ⟨ga, 2, none⟩ = some (.int .i64 a.c) ∧ w'.cell? ⟨ga, 3, none⟩ = some (.int .i64 a.z) ∧ w'.cell? ⟨ga, 4, none⟩ = some (.int .i64 a.m) ∧ w'.cell? ⟨ga, 5, none⟩ = some (.int .i64 a.i) ∧ w'.cell? ⟨ga, 6, none⟩ = some (.int .i64 a.g) ∧ w'.cell? ⟨ga, 7, none⟩ = some (.int .i64 a.i2) ∧ w'.cell? ⟨ga, 8, none⟩ = some (.int .i64 a.g2) ∧ w'.cell? ⟨ga, 9, none⟩ = some (.string a.n) ∧ w'.cell? ⟨ga, 10, none⟩ = some (.string a.n2) ∧ w'.cell? ⟨ga, 11, none⟩ = some (.slice a.dA a.dN a.dC)) := ⟨fun W hW => by
                  have e : ∀ o, W.cell? ⟨ga, o, none⟩ = w3.cell? ⟨ga, o, none⟩ := fun o => hW.cell (p := ⟨ga, o, none⟩) HG.out.1
                  rw [e, e, e, e, e, e, e, e, e, e, e, e]
                  exact ⟨k0, k1, k2, k3, k4, k5, k6, k7, k8, k9, k10, k11⟩⟩
                go_region_held3 (fun w' => w'.cell? ⟨ga, 0, none⟩ = some (.int .i64 a.p) ∧ w'.cell? ⟨ga, 1, none⟩ = some (.int .i64 a.o) ∧ w'.cell? ⟨ga, 2, none⟩ = some (.int .i64 a.c) ∧ w'.cell? ⟨ga, 3, none⟩ = some (.int .i64 a.z) ∧ w'.cell? ⟨ga, 4, none⟩ = some (.int .i64 a.m) ∧ w'.cell? ⟨ga, 5, none⟩ = some (.int .i64 a.i) ∧ w'.cell? ⟨ga, 6, none⟩ = some (.int .i64 a.g) ∧ w'.cell? ⟨ga, 7, none⟩ = some (.int .i64 a.i2) ∧ w'.cell? ⟨ga, 8, none⟩ = some (.int .i64 a.g2) ∧ w'.cell? ⟨ga, 9, none⟩ = some (.string a.n) ∧ w'.cell? ⟨ga, 10, none⟩ = some (.string a.n2) ∧ w'.cell? ⟨ga, 11, none⟩ = some (.slice a.dA a.dN a.dC)) (first | exact HS.out _ HBc | exact HS.out _ HBb | exact HS.out _ (below_drew (Below.refl _ _)) | exact HS.out _ (Below.refl _ _)) (first | (go_at_call 41; (with_reducible refine (HF.out _).mono ?_); rintro e w5 ⟨rfl, hw5⟩; rw [hw5]; clear hw5) | (go_at_call 43; refine (own_calls a _).mono ?_; rintro r wb ⟨rfl, hbb⟩; have HBb := below_then (below_drew (Below.refl w3.heap.size w3)) (Nat.le_refl _) hbb) | (go_at_call 20; refine (Same_calls a (ownA a) la (ownD a.p la) _ (Kd.C_below H13.out HBb) (ownD_C (Kd.C_below H13.out HBb))).mono ?_; rintro r wc ⟨rfl, hbc⟩; have HBc := below_then HBb HBb.size hbc))
                all_goals
                  go_wp2_with fail
                  go_ret
                  exact ⟨by rw [HM2.out, decide_eq_true e0]; rfl, below_then HB3.out HB3.out.size HBc⟩
end Go.Proofs.Ytffaljncdcldpaa.G
