/- The hand-made contracts of codes: the table of rows lies in the one variable; find, by its two predicates. -/
import Derived.Test.YtemadfllannljaaDoorG0
import Derived.WalkKit
namespace Go.Proofs.YtemadfllannljaaDoor.G
open Go.RowKit Go.Proofs.YtemadfllannljaaDoorW.PrintWords Go.Proofs.YtemadfllannljaaDoorW.PrintLast Go.Proofs.YtemadfllannljaaDoorW.PrintMore
set_option linter.unusedVariables false
set_option linter.unusedSimpArgs false

def errs : List Int := [0, 8, 9, 10, 11, 12, 13, 14, 15, 16, 20, 17, 18, 19, 22, 21, 7, 5, 2]
def stats : List Int := [0, 70, 2, 17, 20, 21, 66, 28, 27, 63, 10003, 10101, 10102, 10103, 10104, 5, 10105, 10106, 10107]
def texts : List ByteArray := [(⟨#[111, 107]⟩ : ByteArray), (⟨#[115, 116, 97, 108, 101]⟩ : ByteArray), (⟨#[110, 111, 32, 115, 117, 99, 104, 32, 110, 97, 109, 101]⟩ : ByteArray), (⟨#[110, 97, 109, 101, 32, 101, 120, 105, 115, 116, 115]⟩ : ByteArray), (⟨#[110, 111, 116, 32, 97, 32, 100, 105, 114, 101, 99, 116, 111, 114, 121]⟩ : ByteArray), (⟨#[105, 115, 32, 97, 32, 100, 105, 114, 101, 99, 116, 111, 114, 121]⟩ : ByteArray), (⟨#[110, 111, 116, 32, 101, 109, 112, 116, 121]⟩ : ByteArray), (⟨#[110, 111, 32, 115, 112, 97, 99, 101]⟩ : ByteArray), (⟨#[116, 111, 111, 32, 98, 105, 103]⟩ : ByteArray), (⟨#[98, 97, 100, 32, 110, 97, 109, 101]⟩ : ByteArray), (⟨#[98, 97, 100, 32, 99, 111, 111, 107, 105, 101]⟩ : ByteArray), (⟨#[98, 97, 100, 32, 102, 105, 100]⟩ : ByteArray), (⟨#[102, 105, 100, 32, 105, 110, 32, 117, 115, 101]⟩ : ByteArray), (⟨#[98, 97, 100, 32, 109, 111, 100, 101]⟩ : ByteArray), (⟨#[102, 108, 117, 115, 104, 101, 100]⟩ : ByteArray), (⟨#[105, 47, 111, 32, 101, 114, 114, 111, 114]⟩ : ByteArray), (⟨#[116, 97, 103, 32, 105, 110, 32, 117, 115, 101]⟩ : ByteArray), (⟨#[116, 111, 111, 32, 109, 97, 110, 121, 32, 114, 101, 113, 117, 101, 115, 116, 115]⟩ : ByteArray), (⟨#[98, 97, 100, 32, 109, 101, 115, 115, 97, 103, 101]⟩ : ByteArray)]
/-- The table's cells, three a row. -/
def tabA : Array Value := #[.int .i64 0, .int .u32 0, .string (⟨#[111, 107]⟩ : ByteArray), .int .i64 8, .int .u32 70, .string (⟨#[115, 116, 97, 108, 101]⟩ : ByteArray), .int .i64 9, .int .u32 2, .string (⟨#[110, 111, 32, 115, 117, 99, 104, 32, 110, 97, 109, 101]⟩ : ByteArray), .int .i64 10, .int .u32 17, .string (⟨#[110, 97, 109, 101, 32, 101, 120, 105, 115, 116, 115]⟩ : ByteArray), .int .i64 11, .int .u32 20, .string (⟨#[110, 111, 116, 32, 97, 32, 100, 105, 114, 101, 99, 116, 111, 114, 121]⟩ : ByteArray), .int .i64 12, .int .u32 21, .string (⟨#[105, 115, 32, 97, 32, 100, 105, 114, 101, 99, 116, 111, 114, 121]⟩ : ByteArray), .int .i64 13, .int .u32 66, .string (⟨#[110, 111, 116, 32, 101, 109, 112, 116, 121]⟩ : ByteArray), .int .i64 14, .int .u32 28, .string (⟨#[110, 111, 32, 115, 112, 97, 99, 101]⟩ : ByteArray), .int .i64 15, .int .u32 27, .string (⟨#[116, 111, 111, 32, 98, 105, 103]⟩ : ByteArray), .int .i64 16, .int .u32 63, .string (⟨#[98, 97, 100, 32, 110, 97, 109, 101]⟩ : ByteArray), .int .i64 20, .int .u32 10003, .string (⟨#[98, 97, 100, 32, 99, 111, 111, 107, 105, 101]⟩ : ByteArray), .int .i64 17, .int .u32 10101, .string (⟨#[98, 97, 100, 32, 102, 105, 100]⟩ : ByteArray), .int .i64 18, .int .u32 10102, .string (⟨#[102, 105, 100, 32, 105, 110, 32, 117, 115, 101]⟩ : ByteArray), .int .i64 19, .int .u32 10103, .string (⟨#[98, 97, 100, 32, 109, 111, 100, 101]⟩ : ByteArray), .int .i64 22, .int .u32 10104, .string (⟨#[102, 108, 117, 115, 104, 101, 100]⟩ : ByteArray), .int .i64 21, .int .u32 5, .string (⟨#[105, 47, 111, 32, 101, 114, 114, 111, 114]⟩ : ByteArray), .int .i64 7, .int .u32 10105, .string (⟨#[116, 97, 103, 32, 105, 110, 32, 117, 115, 101]⟩ : ByteArray), .int .i64 5, .int .u32 10106, .string (⟨#[116, 111, 111, 32, 109, 97, 110, 121, 32, 114, 101, 113, 117, 101, 115, 116, 115]⟩ : ByteArray), .int .i64 2, .int .u32 10107, .string (⟨#[98, 97, 100, 32, 109, 101, 115, 115, 97, 103, 101]⟩ : ByteArray)]
/-- The variable holds the table. -/
def Tab (w : World) : Prop := ∃ t fr, w.heap[0]? = some (.cells tabA t fr)
theorem Tab_below {n : Nat} {w w' : World} (h : Tab w) (hn : 0 < n) (hb : Below n w w') : Tab w' := by
  obtain ⟨t, fr, e⟩ := h
  exact ⟨t, fr, (hb.block 0 hn).trans e⟩
theorem Tab_pos {w : World} (h : Tab w) : 0 < w.heap.size := by
  obtain ⟨t, fr, e⟩ := h
  exact blk_lt e
theorem Tab_at {w w' : World} (h : Tab w) (hb : Below w.heap.size w w') : Tab w' := Tab_below h (Tab_pos h) hb

set_option maxHeartbeats 8000000 in
set_option maxRecDepth 100000 in
theorem is_err (e s : Int) (t : ByteArray) (n : Int) (b : Nat) (w : World) (hb : w.heap[b]? = some (.cells #[.int .i64 n] 22 (0, 0))) :
    Calls Tryd.prog 27 #[.agg #[.int .i64 e, .int .u32 s, .string t], .pointer (some ⟨b, 0, none⟩)] w fun r w' => r = .returned (.bool (e == n)) ∧ Below w.heap.size w w' := by
  have hu := Tryd.underlying38
  have HB := Aside0.mk (Below.refl w.heap.size w)
  have BKB := Aside0.mk hb
  clear hb
  go_enter Tryd.func27, Tryd.ntmps27
  go_wp2_with (first | ((with_reducible refine gate_dst (N := 2) rfl ?_); refine box_event ?hg (N := 2) ?hd (cs := #[.int .i64 e, .int .u32 s, .string t]) (t := 38) ?hr ?_; (case hd => rfl); (case hg => rfl); (case hr => first | (go_simp; done) | (go_simp; rfl)); intro gb hg w2 hbox hb; have n0_ := Aside0.mk (below_step (by repeat (first | (with_reducible first | exact HB.out | apply below_alloc | apply pw_below_drewN | apply below_drew1) | exact HB.out)) hb); have n1_ := Aside0.mk (blk_below BKB.out hb); have hcz0 : w2.cell? ⟨gb, 0, none⟩ = some (.int .i64 e) := (blk_cell hbox 0).trans rfl; have hcb : w2.cell? ⟨b, 0, none⟩ = some (.int .i64 n) := (blk_cell n1_.out 0).trans rfl; clear HB; have HB := n0_; clear n0_ n1_ hb hbox hg))
  all_goals go_ret
  all_goals exact ⟨by first | rfl | simp, (by repeat (first | (with_reducible first | exact HB.out | apply below_alloc | apply pw_below_drewN | apply below_drew1) | exact HB.out))⟩

set_option maxHeartbeats 8000000 in
set_option maxRecDepth 100000 in
theorem is_status (e s : Int) (t : ByteArray) (n : Int) (b : Nat) (w : World) (hb : w.heap[b]? = some (.cells #[.int .u32 n] 25 (0, 0))) :
    Calls Tryd.prog 25 #[.agg #[.int .i64 e, .int .u32 s, .string t], .pointer (some ⟨b, 0, none⟩)] w fun r w' => r = .returned (.bool (s == n)) ∧ Below w.heap.size w w' := by
  have hu := Tryd.underlying38
  have HB := Aside0.mk (Below.refl w.heap.size w)
  have BKB := Aside0.mk hb
  clear hb
  go_enter Tryd.func25, Tryd.ntmps25
  go_wp2_with (first | ((with_reducible refine gate_dst (N := 2) rfl ?_); refine box_event ?hg (N := 2) ?hd (cs := #[.int .i64 e, .int .u32 s, .string t]) (t := 38) ?hr ?_; (case hd => rfl); (case hg => rfl); (case hr => first | (go_simp; done) | (go_simp; rfl)); intro gb hg w2 hbox hb; have n0_ := Aside0.mk (below_step (by repeat (first | (with_reducible first | exact HB.out | apply below_alloc | apply pw_below_drewN | apply below_drew1) | exact HB.out)) hb); have n1_ := Aside0.mk (blk_below BKB.out hb); have hcz0 : w2.cell? ⟨gb, 1, none⟩ = some (.int .u32 s) := (blk_cell hbox 1).trans rfl; have hcb : w2.cell? ⟨b, 0, none⟩ = some (.int .u32 n) := (blk_cell n1_.out 0).trans rfl; clear HB; have HB := n0_; clear n0_ n1_ hb hbox hg))
  all_goals go_ret
  all_goals exact ⟨by first | rfl | simp, (by repeat (first | (with_reducible first | exact HB.out | apply below_alloc | apply pw_below_drewN | apply below_drew1) | exact HB.out))⟩

def eOf (i : Nat) : Int := errs.getD i 0
def sOf (i : Nat) : Int := stats.getD i 0
def tOf (i : Nat) : ByteArray := texts.getD i ⟨#[]⟩
def rowC (i : Nat) : Array Value := #[.int .i64 (eOf i), .int .u32 (sOf i), .string (tOf i)]

set_option maxRecDepth 100000 in
theorem run_index (i : Nat) (h : i < 19) (w : World) : (Instr.index 39 (.agg tabA) (.int .i64 (i : Int))).run Tryd.prog w = .ok (.agg (rowC i)) w := by
  have hs : i = 0 ∨ i = 1 ∨ i = 2 ∨ i = 3 ∨ i = 4 ∨ i = 5 ∨ i = 6 ∨ i = 7 ∨ i = 8 ∨ i = 9 ∨ i = 10 ∨ i = 11 ∨ i = 12 ∨ i = 13 ∨ i = 14 ∨ i = 15 ∨ i = 16 ∨ i = 17 ∨ i = 18 := by omega
  rcases hs with h | h | h | h | h | h | h | h | h | h | h | h | h | h | h | h | h | h | h <;> (subst h; show _ = _; kernel_rfl)

theorem at_index {ops : Array Oper} {rest : List Oper} {o : Oper} {a : Act} {Q : Exit → Act → World → Prop} {W : World} (hgd : o.guard = none) (x y : Operand) (ho : o.op = .index 39 x y)
    (i : Nat) (h19 : i < 19) (hx : a.eval x = .agg tabA) (hy : a.eval y = .int .i64 (i : Int)) (h : wpList Tryd.prog ops Q rest (a.put o.dst (.agg #[.int .i64 (eOf i), .int .u32 (sOf i), .string (tOf i)])) W) : wpList Tryd.prog ops Q (o :: rest) a W := by
  refine Kd.event_run (v := .agg (rowC i)) (w1 := W) hgd ?_ h
  unfold execOp
  simp [ho, hx, hy, run_index i h19 W, rowC]

/-- Where the first row is for which it holds; 15, if there is none. -/
def findFrom (p : Nat → Bool) : Nat → Nat → Nat
  | 0, _ => 15
  | d + 1, i => if p i then i else findFrom p d (i + 1)
theorem findFrom_lt (p : Nat → Bool) : ∀ d i, i + d ≤ 19 → findFrom p d i < 19 := by
  intro d
  induction d with
  | zero => intro i _; simp only [findFrom]; omega
  | succ d ih =>
    intro i h
    simp only [findFrom]
    split
    · omega
    · exact ih (i + 1) (by omega)

end Go.Proofs.YtemadfllannljaaDoor.G
