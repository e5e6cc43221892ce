/- Words of this session for rows: a struct that comes in, field by field. -/
import Derived.Test.YtemadfllannljaaR0
namespace Go.Proofs.Ytemadfllannljaa.Row
open Go.RowKit Go.ChangeShapes Go.WideShapes Go.Proofs.YtemadfllannljaaW.PrintWords Go.Proofs.YtemadfllannljaaW.PrintLast Go.Proofs.YtemadfllannljaaW.PrintMore
set_option linter.unusedVariables false
set_option linter.unusedSimpArgs false

theorem okWide_struct {P : Program} {w : World} {r : Reach} {base : Nat} {t : TypeId} {v : Value} {fs : Array Field} (ht : P.underlying t = some (.struct fs)) (h : Value.okWide P w r base t v) : ∃ cs, v = .agg cs := by
  unfold Value.okWide at h
  rw [ht] at h
  obtain ⟨cs, rfl, _⟩ := h
  exact ⟨cs, rfl⟩

theorem trod_field {P : Program} {H : Type} {enc : TypeId × Value → H} {w : World} {fuel : Nat} {t : TypeId} {cs : List Value} {x : DataW H × List MemPlace} {fs : Array Field} (ht : P.underlying t = some (.struct fs))
    (h : DataW.trod enc P w 0 (fun _ => true) true fuel t cs = some x) (i : Nat) (f : Field) (hf : fs[i]? = some f) (ft : TypeId) (o k : Nat) (h1 : f.type = ft) (h2 : f.offset = o) (h3 : P.cellsOf ft = k) :
    ∃ n y, DataW.trod enc P w 0 (fun _ => true) true n ft ((cs.drop o).take k) = some y := by
  obtain ⟨xs, n, _, _, _, hlen, hfl⟩ := DataW.trod_struct ht h
  have h4 := hfl i f hf
  rw [h1, h2, h3] at h4
  have hi : i < xs.length := by
    rw [hlen]
    exact (Array.getElem?_eq_some_iff.1 hf).1
  exact ⟨n, xs[i], by rw [h4]; exact List.getElem?_eq_getElem hi⟩

theorem trod_len {P : Program} {H : Type} {enc : TypeId × Value → H} {w : World} {fuel : Nat} {t : TypeId} {cs : List Value} {x : DataW H × List MemPlace} {fs : Array Field} (ht : P.underlying t = some (.struct fs))
    (h : DataW.trod enc P w 0 (fun _ => true) true fuel t cs = some x) (n : Nat) (hn : P.cellsOf t = n) : cs.length = n := by
  obtain ⟨_, _, _, _, hl, _⟩ := DataW.trod_struct ht h
  rw [← hn]
  exact hl

theorem cut_at {α : Type} (L : List α) (o k : Nat) : L.drop o = (L.drop o).take k ++ L.drop (o + k) := by
  rw [← List.drop_drop, List.take_append_drop]
end Go.Proofs.Ytemadfllannljaa.Row
