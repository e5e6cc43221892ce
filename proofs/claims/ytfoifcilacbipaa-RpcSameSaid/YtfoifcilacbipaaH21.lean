/- Hand-made contracts of law06: a string's bytes as a row of its own; of, Same. -/
import Derived.Test.YtfoifcilacbipaaG3
import Derived.Lib.ConvBytes
import Derived.Laws.EntriesVeiled
namespace Go.Proofs.Ytfoifcilacbipaa.G
open Go.RowKit Go.Proofs.YtfoifcilacbipaaW.PrintWords Go.Proofs.YtfoifcilacbipaaW.PrintLast Go.Proofs.YtfoifcilacbipaaW.PrintMore
set_option linter.unusedVariables false
set_option linter.unusedSimpArgs false

/-- A string's bytes, as numbers. -/
def bsL (s : ByteArray) : List Int := s.data.toList.map (fun b => (b.toNat : Int))
theorem bsL_length (s : ByteArray) : (bsL s).length = s.size := by unfold bsL; rw [List.length_map]; rfl
theorem bsL_get (s : ByteArray) (j : Nat) (hj : j < s.size) : (bsL s)[j]? = some ((s.data.toList.getD j 0).toNat : Int) := by
  have h : j < s.data.toList.length := by simpa using hj
  simp [bsL, List.getD_eq_getElem?_getD, List.getElem?_eq_getElem h]
theorem str_bsL (s : ByteArray) : strOfNums (bsL s) = s := by
  unfold strOfNums bsL
  rw [List.map_map]
  have h : ((fun n : Int => UInt8.ofNat n.toNat) ∘ fun b : UInt8 => (b.toNat : Int)) = id := by
    funext b
    simp
  first
  | (rw [h]; simp)
  | skip

theorem conv_C (w : World) (e : TypeId) (s : ByteArray) (hs : s.size ≤ maxLen) : Kd.F (Kd.int .u8) (Lib.bytesWorld w e s) (fun k => k = w.heap.size) (some ⟨w.heap.size, 0, none⟩) (bsL s).length (bsL s) := by
  intro W' hW
  have hb : W'.heap[w.heap.size]? = some (.cells (Lib.bytesCells w e s) e ((Lib.bytesCells w e s).size, (Lib.bytesCells w e s).size + 1)) := (hW w.heap.size rfl (by rw [Lib.bytesWorld_size]; omega)).trans (Lib.bytesWorld_at_new w e s)
  refine ⟨rfl, by rw [bsL_length]; simpa [maxLen] using hs, fun hn => ⟨_, rfl, fun j p hj => ⟨[.int .u8 p], rfl, rfl, fun i u hu => ?_⟩⟩⟩
  rcases i with _ | i
  · have hu' : Value.int .u8 p = u := by simpa using hu
    subst hu'
    have hjl : j < s.size := by
      have := (List.getElem?_eq_some_iff.1 hj).1
      rw [bsL_length] at this
      exact this
    have ha : (⟨w.heap.size, 0, none⟩ : Addr).add (j * (Kd.int .u8).sz + 0) = ⟨w.heap.size, j, none⟩ := by
      rw [show j * (Kd.int .u8).sz + 0 = j from by rw [show (Kd.int .u8).sz = 1 from rfl]; omega]
      exact add_plain _ _
    have h1 : (Lib.bytesWorld w e s).cell? ⟨w.heap.size, j, none⟩ = some (.int .u8 (s.data.toList.getD j 0).toNat) := Lib.bytesWorld_cell w e s j hjl
    have h2 : W'.cell? ⟨w.heap.size, j, none⟩ = (Lib.bytesWorld w e s).cell? ⟨w.heap.size, j, none⟩ := by
      simp only [World.cell?, hb, Lib.bytesWorld_at_new]
    rw [ha, h2, h1]
    rw [bsL_get s j hjl] at hj
    injection hj with hj
    rw [← hj]
  · simp at hu

theorem bcell {W w1 : World} (hb : Below W.heap.size W w1) : (∀ b o, b < W.heap.size → w1.cell? ⟨b, o, none⟩ = W.cell? ⟨b, o, none⟩) ∧ (∀ b o, b < W.heap.size → w1.frozen? ⟨b, o, none⟩ = W.frozen? ⟨b, o, none⟩) :=
  ⟨fun b o h => hb.cell (p := ⟨b, o, none⟩) h, fun b o h => hb.frozen (p := ⟨b, o, none⟩) h⟩

theorem beq_str (a b : ByteArray) : (a.toList == b.toList) = decide (a = b) := by
  rw [ByteArray.toList_eq, ByteArray.toList_eq, Bool.eq_iff_iff, beq_iff_eq, decide_eq_true_eq]
  constructor
  · intro h
    cases a
    cases b
    simpa using Array.toList_inj.1 h
  · rintro rfl; rfl

theorem asz (w : World) (o : Obj) : (w.alloc o).heap.size = w.heap.size + 1 := by simp
theorem ssz (w : World) (p : Addr) (u : Value) : (w.setCell p u).heap.size = w.heap.size := by simp

theorem conv_below (w : World) (e : TypeId) (s : ByteArray) : Below w.heap.size w (Lib.bytesWorld w e s) := ⟨rfl, rfl, rfl, by rw [Lib.bytesWorld_size]; omega, fun k hk => Lib.bytesWorld_at_old w e s k hk⟩

/-- A string's conversion, in a walk. -/
theorem conv_arm {P : Program} {ops : Array Oper} {rest : List Oper} {o : Oper} {a : Act} {W : World} {Q : Exit → Act → World → Prop} (hgd : o.guard = none) (src dst e : TypeId) (x : Operand) (ho : o.op = .convert src dst x) (s : ByteArray) (hev : a.eval x = .string s) (hsz : s.size ≤ maxLen)
    {u : TypeDesc} (hs : P.underlying src = some u) (hd : P.underlying dst = some (.slice e)) (he : P.underlying e = some (.int .u8))
    (h : ∀ c w', (bsL s).length ≤ c → Kd.F (Kd.int .u8) w' (fun k => k = W.heap.size) (some ⟨W.heap.size, 0, none⟩) (bsL s).length (bsL s) → Below W.heap.size W w' → W.heap.size < w'.heap.size → wpList P ops Q rest (a.put o.dst (.slice (some ⟨W.heap.size, 0, none⟩) (bsL s).length c)) w') : wpList P ops Q (o :: rest) a W := by
  have hrun : (execOp a.eval o).run P W = .ok (.value (.slice (some ⟨W.heap.size, 0, none⟩) s.size (grownCap W s.size 0 e))) (Lib.bytesWorld W e s) := by
    have hc := Lib.run_convert_string_bytes (P := P) W src dst e s hs hd he
    simp only [execOp, ho, hev]
    simp [hc]
  refine Kd.event_run hgd hrun ?_
  have h1 := h (grownCap W s.size 0 e) _ (by rw [bsL_length]; exact grownCap_ge _ _ _ _) (conv_C W e s hsz) (conv_below W e s) (by rw [Lib.bytesWorld_size]; omega)
  rw [bsL_length] at h1
  exact h1

set_option maxHeartbeats 8000000 in
set_option maxRecDepth 100000 in
theorem of_calls (r : Bool) (x p : Int) (s : ByteArray) (w : World) (hs : s.size ≤ 1000) :
    Calls Try.prog 12 #[.agg #[.bool r, .int .u32 x, .int .u32 p, .string s]] w fun e w' => ∃ (A : Option Addr) (c : Nat), e = .returned (.agg #[.bool r, .int .u32 x, .int .u32 p, .slice A (bsL s).length c]) ∧ (bsL s).length ≤ c ∧ Kd.F (Kd.int .u8) w' (fun k => w.heap.size ≤ k ∧ k < w'.heap.size) A (bsL s).length (bsL s) ∧ Below w.heap.size w w' := by
  have hu1 := Try.underlying24
  have hu2 := Try.underlying30
  have HS := Aside0.mk hs
  clear hs
  obtain ⟨l, hl⟩ : ∃ l, l = bsL s := ⟨_, rfl⟩
  rw [← hl]
  have HL := Aside0.mk hl
  clear hl
  go_enter Try.func12, Try.ntmps12
  go_wp2_with (first | ((with_reducible refine gate_dst (N := 11) rfl ?_); refine conv_arm rfl 9 28 5 (.tmp 10) rfl s rfl ?hz Try.underlying9 Try.underlying28 Try.underlying5 ?_; (case hz => have := HS.out; simp only [maxLen]; omega); intro c w1 hc hf hb hlt; rw [← HL.out] at hc hf ⊢; have HC := Aside0.mk hc; have HF := Aside0.mk hf; have HB := Aside0.mk hb; have HLT := Aside0.mk hlt; obtain ⟨hcl, hfz⟩ := bcell hb; clear hc hf hb hlt))
  go_wp2_with fail
  refine bodyPost_ret (v := .agg #[.bool r, .int .u32 x, .int .u32 p, .slice (some ⟨w.heap.size + 1 + 1, 0, none⟩) l.length c]) (by simp [results, Try.results12, go_sem, hcl]) rfl ⟨_, c, rfl, HC.out, ?_, ?_⟩
  · have hne : ∀ k, k = ((w.alloc (.cells #[.bool r, .int .u32 x, .int .u32 p, .string s] 24)).alloc (.cells #[.bool false, .int .u32 0, .int .u32 0, .slice none 0 0] 30)).heap.size → k ≠ w.heap.size + 1 := fun k hk => by rw [hk, asz, asz]; omega
    have h1 := Kd.F_far (Kd.F_far (Kd.F_far (Kd.F_far HF.out (p := ⟨w.heap.size + 1, 0, none⟩) hne (.bool r)) (p := ⟨w.heap.size + 1, 1, none⟩) hne (.int .u32 x)) (p := ⟨w.heap.size + 1, 2, none⟩) hne (.int .u32 p)) (p := ⟨w.heap.size + 1, 3, none⟩) hne (.slice (some ⟨w.heap.size + 1 + 1, 0, none⟩) l.length c)
    rw [asz, asz] at h1
    have hlt := HLT.out
    rw [asz, asz] at hlt
    refine Kd.F_mono h1 (fun k hk => ⟨by omega, ?_⟩)
    rw [hk, ssz, ssz, ssz, ssz]
    exact hlt
  · have hb := HB.out
    have h0 : Below w.heap.size w w1 := below_then (below_alloc (below_alloc (Below.refl _ _) _) _) (by rw [asz, asz]; omega) hb
    exact (((h0.setCell (by simp) _).setCell (by simp) _).setCell (by simp) _).setCell (by simp) _

/-- Whether two are the same. -/
def sameM (r1 : Bool) (x1 p1 : Int) (s1 : ByteArray) (r2 : Bool) (x2 p2 : Int) (s2 : ByteArray) : Bool := ((decide (r1 = r2) && decide (x1 = x2)) && decide (p1 = p2)) && decide (s1 = s2)

set_option maxHeartbeats 8000000 in
set_option maxRecDepth 100000 in
theorem Equal_calls (A1 : Option Addr) (n1 c1 : Nat) (s1 : ByteArray) (A2 : Option Addr) (n2 c2 : Nat) (s2 : ByteArray) (w : World) (h1 : Kd.C (Kd.int .u8) w A1 n1 (bsL s1)) (h2 : Kd.C (Kd.int .u8) w A2 n2 (bsL s2)) :
    Calls Try.prog 31 #[.slice A1 n1 c1, .slice A2 n2 c2] w fun e w' => e = .returned (.bool (decide (s1 = s2))) ∧ w' = w := by
  have hcv1 := fun c => Kd.C_string (P := Try.prog) (src := 28) (dst := 9) (c := c) Try.underlying28 Try.underlying5 Try.underlying9 h1
  have hcv2 := fun c => Kd.C_string (P := Try.prog) (src := 28) (dst := 9) (c := c) Try.underlying28 Try.underlying5 Try.underlying9 h2
  rw [str_bsL] at hcv1 hcv2
  clear h1 h2
  go_enter Try.func31, Try.ntmps31
  go_wp2_with fail
  go_ret
  exact ⟨by rw [beq_str]; rfl, rfl⟩

set_option maxHeartbeats 8000000 in
set_option maxRecDepth 100000 in
theorem Same_calls (r1 : Bool) (x1 p1 : Int) (s1 : ByteArray) (A1 : Option Addr) (n1 c1 : Nat) (r2 : Bool) (x2 p2 : Int) (s2 : ByteArray) (A2 : Option Addr) (n2 c2 : Nat) (w : World) (h1 : Kd.C (Kd.int .u8) w A1 n1 (bsL s1)) (h2 : Kd.C (Kd.int .u8) w A2 n2 (bsL s2)) :
    Calls Try.prog 11 #[.agg #[.bool r1, .int .u32 x1, .int .u32 p1, .slice A1 n1 c1], .agg #[.bool r2, .int .u32 x2, .int .u32 p2, .slice A2 n2 c2]] w fun e w' => e = .returned (.bool (sameM r1 x1 p1 s1 r2 x2 p2 s2)) ∧ Below w.heap.size w w' := by
  have hu2 := Try.underlying30
  have H1 := Aside0.mk h1
  have H2 := Aside0.mk h2
  clear h1 h2
  have fin : ∀ b, sameM r1 x1 p1 s1 r2 x2 p2 s2 = b → Ending.returned (.bool b) = .returned (.bool (sameM r1 x1 p1 s1 r2 x2 p2 s2)) := fun b h => by rw [h]
  go_enter Try.func11, Try.ntmps11
  rcases Classical.em (r1 = r2) with e1 | e1
  · rcases Classical.em (x1 = x2) with e2 | e2
    · rcases Classical.em (p1 = p2) with e3 | e3
      · have hv : sameM r1 x1 p1 s1 r2 x2 p2 s2 = decide (s1 = s2) := by unfold sameM; simp [e1, e2, e3]
        rw [hv]
        subst e1 e2 e3
        clear fin hv
        go_wp2_with fail
        refine (Equal_calls A1 n1 c1 s1 A2 n2 c2 s2 _ (Kd.C_below H1.out (below_alloc (below_alloc (Below.refl _ _) _) _)) (Kd.C_below H2.out (below_alloc (below_alloc (Below.refl _ _) _) _))).mono ?_
        rintro e w' ⟨rfl, rfl⟩
        go_wp2_with fail
        go_ret
        exact ⟨rfl, below_alloc (below_alloc (Below.refl _ _) _) _⟩
      · have hv : sameM r1 x1 p1 s1 r2 x2 p2 s2 = false := by unfold sameM; simp [e3]
        rw [hv]
        subst e1 e2
        clear fin hv
        go_wp2_with fail
        go_ret
        exact ⟨rfl, below_alloc (below_alloc (Below.refl _ _) _) _⟩
    · have hv : sameM r1 x1 p1 s1 r2 x2 p2 s2 = false := by unfold sameM; simp [e2]
      rw [hv]
      subst e1
      clear fin hv
      go_wp2_with fail
      go_ret
      exact ⟨rfl, below_alloc (below_alloc (Below.refl _ _) _) _⟩
  · have hv : sameM r1 x1 p1 s1 r2 x2 p2 s2 = false := by unfold sameM; simp [e1]
    rw [hv]
    have e1' : decide (r1 = r2) = false := by simpa using e1
    clear fin hv
    go_wp2_with fail
    go_ret
    exact ⟨rfl, below_alloc (below_alloc (Below.refl _ _) _) _⟩
end Go.Proofs.Ytfoifcilacbipaa.G
