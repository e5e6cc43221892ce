/- Words for calls.Write: what stays outside of a footprint; a map of the call's own, written and asked. -/
import Derived.Test.YtffaljncdcldpaaE4
import Derived.Test.YtffaljncdcldpaaG1
import Derived.MapKept
namespace Go.Proofs.Ytffaljncdcldpaa.G
open Go.RowKit Go.Proofs.YtffaljncdcldpaaW.PrintWords Go.Proofs.YtffaljncdcldpaaW.PrintLast Go.Proofs.YtffaljncdcldpaaW.PrintMore
set_option linter.unusedVariables false
set_option linter.unusedSimpArgs false

structure Frm (ok : Nat → Prop) (w w' : World) : Prop where mk ::
  os : w'.os = w.os
  tape : w'.tape = w.tape
  output : w'.output = w.output
  size : w.heap.size ≤ w'.heap.size
  block : ∀ k, k < w.heap.size → ¬ ok k → w'.heap[k]? = w.heap[k]?
theorem Frm.refl (ok : Nat → Prop) (w : World) : Frm ok w w := ⟨rfl, rfl, rfl, Nat.le_refl _, fun _ _ _ => rfl⟩
theorem Frm.trans {ok : Nat → Prop} {a b c : World} (h : Frm ok a b) (k : Frm ok b c) : Frm ok a c :=
  ⟨k.os.trans h.os, k.tape.trans h.tape, k.output.trans h.output, Nat.le_trans h.size k.size, fun i hi hg => (k.block i (Nat.lt_of_lt_of_le hi h.size) hg).trans (h.block i hi hg)⟩
theorem Frm.mono {ok ok' : Nat → Prop} {w w' : World} (h : Frm ok w w') (hm : ∀ k, k < w.heap.size → ok k → ok' k) : Frm ok' w w' := ⟨h.os, h.tape, h.output, h.size, fun k hk hn => h.block k hk (fun ho => hn (hm k hk ho))⟩
theorem Frm.of_below {ok : Nat → Prop} {w w' : World} (h : Below w.heap.size w w') : Frm ok w w' := ⟨h.os, h.tape, h.output, h.size, fun k hk _ => h.block k hk⟩
theorem Frm.set {ok : Nat → Prop} {a w : World} (h : Frm ok a w) (g j : Nat) (hg : ok g) (u : Value) : Frm ok a (w.setCell ⟨g, j, none⟩ u) :=
  h.trans ⟨rfl, rfl, rfl, by simp, fun k hk hn => Below.heap_setCell w ⟨g, j, none⟩ u k (fun e => hn (by have : k = g := e; rw [this]; exact hg))⟩
theorem Frm.below {ok : Nat → Prop} {B : Nat} {w0 w w' : World} (h : Below B w0 w) (m : Frm ok w w') (hB : B ≤ w0.heap.size) (hg : ∀ k, ok k → B ≤ k) : Below B w0 w' :=
  ⟨m.os.trans h.os, m.tape.trans h.tape, m.output.trans h.output, Nat.le_trans h.size m.size, fun k hk => (m.block k (Nat.lt_of_lt_of_le hk (Nat.le_trans hB h.size)) (fun ho => by have := hg k ho; omega)).trans (h.block k hk)⟩

theorem event_skip {P : Program} {ops : Array Oper} {rest : List Oper} {o : Oper} {a : Act} {Q : Exit → Act → World → Prop} {W w1 : World} (hgd : o.guard = none) (hrun : (execOp a.eval o).run P W = .ok .skip w1) (h : wpList P ops Q rest (a.put o.dst undef) w1) : wpList P ops Q (o :: rest) a W := by
  refine wpList_plain hgd fun K hK => ?_
  unfold Oper.wp
  rw [hrun]
  exact hK _ _ h

theorem isKey_int (k : IntKind) (n : Int) : MapKept.IsKey (.int k) (.int k n) := by simp [MapKept.IsKey]

theorem run_ins {P : Program} {W : World} {T kt et : TypeId} {b : Nat} {es : Array MapEntry} {c : Nat} {k : Int} {v : Value} (hT : P.underlying T = some (.map kt et)) (hk : P.underlying kt = some (.int .i32)) (hb : W.heap[b]? = some (.map es c))
    (hf : Instr.findNow (.int .i32) (.int .i32 k) es.toList 0 = some none) :
    (Instr.mapUpdate T (.map (some b)) (.int .i32 k) v).run P W = .ok () { W with heap := W.heap.setIfInBounds b (.map (es.push { key := .int .i32 k, val := v, born := c }) (c + 1)) } := by
  unfold Instr.mapUpdate
  have h1 := MapKept.run_checkKey (P := P) (w := W) hk (isKey_int .i32 k) false 9999
  have h2 := MapKept.run_findKey (P := P) (w := W) hk hf
  have h3 := MapKept.run_setObj_map (P := P) (w := W) (.map (es.push { key := .int .i32 k, val := v, born := c }) (c + 1)) hb
  simp only [Sem.run_bind, run_underlying hT, Result.andThen]
  have hg : (getObj b).run P W = .ok (.map es c) W := by simp [getObj, Sem.run, hb]
  simp only [hg, Sem.run_bind, h1, h2, h3, Result.andThen]

/-- A key more, in a walk. -/
theorem ins_arm {P : Program} {ops : Array Oper} {rest : List Oper} {o : Oper} {a : Act} {W : World} {Q : Exit → Act → World → Prop} (hgd : o.guard = none) (T : TypeId) (m x : Operand) (k : Int) (ho : o.op = .insert T m (.const (.int .i32 k)) x) (b : Nat) (hm : a.eval m = .map (some b)) {kt et : TypeId} (es : Array MapEntry) (c : Nat) (v : Value) (hv : a.eval x = v)
    (hT : P.underlying T = some (.map kt et)) (hk : P.underlying kt = some (.int .i32)) (hb : W.heap[b]? = some (.map es c)) (hf : Instr.findNow (.int .i32) (.int .i32 k) es.toList 0 = some none)
    (h : ∀ w', w'.heap[b]? = some (.map (es.push { key := .int .i32 k, val := v, born := c }) (c + 1)) → Frm (fun j => j = b) W w' → wpList P ops Q rest (a.put o.dst undef) w') : wpList P ops Q (o :: rest) a W := by
  have hr := run_ins (P := P) (v := v) hT hk hb hf
  have hrun : (execOp a.eval o).run P W = .ok .skip { W with heap := W.heap.setIfInBounds b (.map (es.push { key := .int .i32 k, val := v, born := c }) (c + 1)) } := by
    have hc : a.eval (.const (.int .i32 k)) = .int .i32 k := rfl
    simp only [execOp, ho, hm, hv, hc]
    simp [hr]
  have h2 := MapKept.heap_set (o' := .map (es.push { key := .int .i32 k, val := v, born := c }) (c + 1)) hb
  exact event_skip hgd hrun (h _ h2.1 ⟨rfl, rfl, rfl, by simp, fun j _ hj => h2.2 j hj⟩)

theorem run_look {P : Program} {W : World} {T kt et : TypeId} {b : Nat} {es : Array MapEntry} {c : Nat} {k : Int} {v : Value} {i : Nat} (hT : P.underlying T = some (.map kt et)) (hk : P.underlying kt = some (.int .i32)) (hb : W.heap[b]? = some (.map es c))
    (hf : Instr.findNow (.int .i32) (.int .i32 k) es.toList 0 = some (some (i, v))) :
    (Instr.lookup T (.map (some b)) (.int .i32 k) false).run P W = .ok v W := by
  unfold Instr.lookup
  have h1 := MapKept.run_checkKey (P := P) (w := W) hk (isKey_int .i32 k) es.isEmpty 9999
  have h2 := MapKept.run_findKey (P := P) (w := W) hk hf
  have hg : (getObj b).run P W = .ok (.map es c) W := by simp [getObj, Sem.run, hb]
  simp only [Sem.run_bind, run_underlying hT, Result.andThen]
  simp only [hg, Sem.run_bind, Sem.run_pure, h1, h2, Result.andThen]
  rfl
end Go.Proofs.Ytffaljncdcldpaa.G
