/- XdrReads: the row's words: an array of two whole numbers is read as two numbers. -/
import Derived.Test.YtdfnhmgopihfcaaR0
import Derived.Test.YtdfnhmgopihfcaaH3
import Derived.OpenShut
namespace Go.Proofs.Ytdfnhmgopihfcaa.Row
open Go.RowKit Go.Proofs.Ytdfnhmgopihfcaa.H Go.Proofs.YtdfnhmgopihfcaaW.PrintWords Go.Proofs.YtdfnhmgopihfcaaW.PrintLast Go.Proofs.YtdfnhmgopihfcaaW.PrintMore
set_option linter.unusedVariables false
set_option linter.unusedSimpArgs false

theorem opens_kd2 {P : Program} {t e : TypeId} (ht : P.underlying t = some (.array 2 e)) (he : P.underlying e = some (.int .i64)) (hc : P.cellsOf e = 1) (hc2 : P.cellsOf t = 2) : Opens P t kd2 (fun p => (Lit.int .i64 p.1).wf = true ∧ (Lit.int .i64 p.2).wf = true) := by
  intro H enc w fuel cs x hx
  obtain ⟨xs, m, rfl, _, hl, hxl, hf⟩ := DataW.trod_array ht hx
  rw [hc2] at hl
  have h0 := hf 0 (by omega)
  have h1 := hf 1 (by omega)
  rw [hc] at h0 h1
  rw [List.getElem?_eq_getElem (by omega)] at h0 h1
  obtain ⟨a, hk0, hw0⟩ := opens_int he enc w m _ _ h0
  obtain ⟨b, hk1, hw1⟩ := opens_int he enc w m _ _ h1
  refine ⟨(a, b), ⟨[.int .i64 a], [.int .i64 b], ?_, rfl, rfl⟩, hw0, hw1⟩
  have e0 : (cs.drop (0 * 1)).take 1 = [Value.int .i64 a] := hk0
  have e1 : (cs.drop (1 * 1)).take 1 = [Value.int .i64 b] := hk1
  simp at e0 e1
  match cs, hl with
  | [c0, c1], _ =>
    simp at e0 e1
    rw [e0, e1]
    rfl
end Go.Proofs.Ytdfnhmgopihfcaa.Row
