/- A string's bytes as a row of its own: the conversion, in a walk. -/
import Derived.Test.YtffaljncdcldpaaG0
import Derived.Test.YtffaljncdcldpaaWMore
import Derived.Lib.ConvBytes
import Derived.Laws.EntriesVeiled
import Derived.Below
namespace Go.Proofs.Ytffaljncdcldpaa.G
open Go.RowKit Go.Proofs.YtffaljncdcldpaaW.PrintWords Go.Proofs.YtffaljncdcldpaaW.PrintLast Go.Proofs.YtffaljncdcldpaaW.PrintMore
set_option linter.unusedVariables false
set_option linter.unusedSimpArgs false

/-- A string's bytes, as numbers. -/
def bsL (s : ByteArray) : List Int := s.data.toList.map (fun b => (b.toNat : Int))
theorem bsL_length (s : ByteArray) : (bsL s).length = s.size := by unfold bsL; rw [List.length_map]; rfl
theorem bsL_get (s : ByteArray) (j : Nat) (hj : j < s.size) : (bsL s)[j]? = some ((s.data.toList.getD j 0).toNat : Int) := by
  have h : j < s.data.toList.length := by simpa using hj
  simp [bsL, List.getD_eq_getElem?_getD, List.getElem?_eq_getElem h]
theorem str_bsL (s : ByteArray) : strOfNums (bsL s) = s := by
  unfold strOfNums bsL
  rw [List.map_map]
  have h : ((fun n : Int => UInt8.ofNat n.toNat) ∘ fun b : UInt8 => (b.toNat : Int)) = id := by
    funext b
    simp
  first
  | (rw [h]; simp)
  | skip

theorem conv_C (w : World) (e : TypeId) (s : ByteArray) (hs : s.size ≤ maxLen) : Kd.F (Kd.int .u8) (Lib.bytesWorld w e s) (fun k => k = w.heap.size) (some ⟨w.heap.size, 0, none⟩) (bsL s).length (bsL s) := by
  intro W' hW
  have hb : W'.heap[w.heap.size]? = some (.cells (Lib.bytesCells w e s) e ((Lib.bytesCells w e s).size, (Lib.bytesCells w e s).size + 1)) := (hW w.heap.size rfl (by rw [Lib.bytesWorld_size]; omega)).trans (Lib.bytesWorld_at_new w e s)
  refine ⟨rfl, by rw [bsL_length]; simpa [maxLen] using hs, fun hn => ⟨_, rfl, fun j p hj => ⟨[.int .u8 p], rfl, rfl, fun i u hu => ?_⟩⟩⟩
  rcases i with _ | i
  · have hu' : Value.int .u8 p = u := by simpa using hu
    subst hu'
    have hjl : j < s.size := by
      have := (List.getElem?_eq_some_iff.1 hj).1
      rw [bsL_length] at this
      exact this
    have ha : (⟨w.heap.size, 0, none⟩ : Addr).add (j * (Kd.int .u8).sz + 0) = ⟨w.heap.size, j, none⟩ := by
      rw [show j * (Kd.int .u8).sz + 0 = j from by rw [show (Kd.int .u8).sz = 1 from rfl]; omega]
      exact add_plain _ _
    have h1 : (Lib.bytesWorld w e s).cell? ⟨w.heap.size, j, none⟩ = some (.int .u8 (s.data.toList.getD j 0).toNat) := Lib.bytesWorld_cell w e s j hjl
    have h2 : W'.cell? ⟨w.heap.size, j, none⟩ = (Lib.bytesWorld w e s).cell? ⟨w.heap.size, j, none⟩ := by
      simp only [World.cell?, hb, Lib.bytesWorld_at_new]
    rw [ha, h2, h1]
    rw [bsL_get s j hjl] at hj
    injection hj with hj
    rw [← hj]
  · simp at hu

theorem beq_str (a b : ByteArray) : (a.toList == b.toList) = decide (a = b) := by
  rw [ByteArray.toList_eq, ByteArray.toList_eq, Bool.eq_iff_iff, beq_iff_eq, decide_eq_true_eq]
  constructor
  · intro h
    cases a
    cases b
    simpa using Array.toList_inj.1 h
  · rintro rfl; rfl

theorem conv_below (w : World) (e : TypeId) (s : ByteArray) : Below w.heap.size w (Lib.bytesWorld w e s) := ⟨rfl, rfl, rfl, by rw [Lib.bytesWorld_size]; omega, fun k hk => Lib.bytesWorld_at_old w e s k hk⟩

/-- A string's conversion, in a walk. -/
theorem conv_arm {P : Program} {ops : Array Oper} {rest : List Oper} {o : Oper} {a : Act} {W : World} {Q : Exit → Act → World → Prop} (hgd : o.guard = none) (src dst e : TypeId) (x : Operand) (ho : o.op = .convert src dst x) (s : ByteArray) (hev : a.eval x = .string s) (hsz : s.size ≤ maxLen)
    {u : TypeDesc} (hs : P.underlying src = some u) (hd : P.underlying dst = some (.slice e)) (he : P.underlying e = some (.int .u8))
    (h : ∀ c w', (bsL s).length ≤ c → Kd.F (Kd.int .u8) w' (fun k => k = W.heap.size) (some ⟨W.heap.size, 0, none⟩) (bsL s).length (bsL s) → Below W.heap.size W w' → W.heap.size < w'.heap.size → wpList P ops Q rest (a.put o.dst (.slice (some ⟨W.heap.size, 0, none⟩) (bsL s).length c)) w') : wpList P ops Q (o :: rest) a W := by
  have hrun : (execOp a.eval o).run P W = .ok (.value (.slice (some ⟨W.heap.size, 0, none⟩) s.size (grownCap W s.size 0 e))) (Lib.bytesWorld W e s) := by
    have hc := Lib.run_convert_string_bytes (P := P) W src dst e s hs hd he
    simp only [execOp, ho, hev]
    simp [hc]
  refine Kd.event_run hgd hrun ?_
  have h1 := h (grownCap W s.size 0 e) _ (by rw [bsL_length]; exact grownCap_ge _ _ _ _) (conv_C W e s hsz) (conv_below W e s) (by rw [Lib.bytesWorld_size]; omega)
  rw [bsL_length] at h1
  exact h1

end Go.Proofs.Ytffaljncdcldpaa.G
