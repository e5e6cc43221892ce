/- Words of this session beside the printed ones: the bytes of a constant text, as a row that is only read. -/
import Derived.Test.YtffaljncdcldpaaProg
import Derived.Test.YtffaljncdcldpaaWMore
import Derived.Lib.SlBytesConst
namespace Go.Proofs.YtffaljncdcldpaaW.PrintWords.Kd
open Go.RowKit Go.Proofs.YtffaljncdcldpaaW.PrintWords Go.Proofs.YtffaljncdcldpaaW.PrintLast Go.Proofs.YtffaljncdcldpaaW.PrintMore
set_option linter.unusedVariables false
set_option linter.unusedSimpArgs false

/-- A literal of bytes, and its conversion to its own type, which lays a mark: what came of it is only read. -/
theorem V_lit8 {P : Program} {ops : Array Oper} {rest : List Oper} {o o2 : Oper} {a : Act} {Q : Exit → Act → World → Prop}  {w0 W : World} (base e : Nat) (hgd : o.guard = none) {N : Tmp} (_hd : o.dst = some N) {xs : List Int} {inner : List Value} {ok okp : Nat → Prop}
    (hrun : (execOp a.eval o).run P W = .ok (.value (.slice (some ⟨W.heap.size, 0, none⟩) xs.length xs.length)) (W.alloc (.cells inner.toArray e)))
    (hrep : Reps ((Kd.int .u8).M W base okp) (Kd.int .u8).sz xs inner) (hok : ∀ k, okp k → ok k) (hfresh : ok W.heap.size) (HB : Below base w0 W) (hbase : base ≤ W.heap.size) (hm : xs.length ≤ 9223372036854775807)
    (t : TypeId) (ho2 : o2.op = .convert t t (.tmp N)) (hg2 : o2.guard = none) (hev : ∀ v, (a.put o.dst v).eval (.tmp N) = v) (ht : P.underlying t = some (.slice e)) (he : P.underlying e = some (.int .u8))
    (h : ∀ v1 w1, V (Kd.int .u8) e w1 base (fun k => ok k ∧ base ≤ k ∧ k < w1.heap.size) v1 xs → Below base w0 w1 → True → True → wpList P ops Q rest ((a.put o.dst v1).put o2.dst v1) w1) : wpList P ops Q (o :: o2 :: rest) a W := by
  refine event_run hgd hrun ?_
  have hrun2 : (execOp (a.put o.dst (.slice (some ⟨W.heap.size, 0, none⟩) xs.length xs.length)).eval o2).run P (W.alloc (.cells inner.toArray e)) = .ok (.value (.slice (some ⟨W.heap.size, 0, none⟩) xs.length xs.length)) (W.alloc (.cells inner.toArray e (inner.toArray.size, inner.toArray.size + 1))) := by
    have hc := Lib.run_convert_bytes_const (P := P) W t e inner.toArray xs.length xs.length ht he
    simp only [execOp, ho2, hev]
    simp [hc]
  refine event_run hg2 hrun2 (h _ _ ?_ (HB.alloc hbase _) trivial trivial)
  have hblk : ∀ W' : World, W'.heap[W.heap.size]? = (W.alloc (.cells inner.toArray e (inner.toArray.size, inner.toArray.size + 1))).heap[W.heap.size]? → W'.heap[W.heap.size]? = some (.cells inner.toArray e (inner.toArray.size, inner.toArray.size + 1)) := fun W' h => by
    rw [h]; exact heap_alloc_new W _
  refine ⟨_, _, rfl, Nat.le_refl _, fun W' hW => ⟨rfl, hm, fun hn => ⟨_, rfl, fun j p hj => ⟨[.int .u8 p], rfl, rfl, fun i u hu => ?_⟩⟩⟩⟩
  have hb := hblk W' (hW W.heap.size ⟨hfresh, hbase, by simp⟩ (by simp))
  cases i with
  | succ i => simp at hu
  | zero =>
    have hu' : Value.int .u8 p = u := by simpa using hu
    subst hu'
    have h2 := hrep.2 j p hj
    have h3 : (inner.drop (j * 1)).take 1 = [.int .u8 p] := h2
    rw [Nat.mul_one] at h3
    have h5 : inner[j]? = some (.int .u8 p) := by
      have := congrArg (fun l : List Value => l[0]?) h3
      simpa [List.getElem?_take, List.getElem?_drop] using this
    have ha : (⟨W.heap.size, 0, none⟩ : Addr).add (j * (Kd.int .u8).sz + 0) = ⟨W.heap.size, j, none⟩ := by
      rw [show j * (Kd.int .u8).sz + 0 = j from by rw [show (Kd.int .u8).sz = 1 from rfl]; omega]
      exact add_plain _ _
    rw [ha, cell_of_row W' W.heap.size j inner.toArray e _ hb]
    simpa using h5
end Go.Proofs.YtffaljncdcldpaaW.PrintWords.Kd
