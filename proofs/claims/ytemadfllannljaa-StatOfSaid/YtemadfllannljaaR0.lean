/- Words of this session for rows: what can be read as data of a type is read as the printed kinds tell it, type by type. -/
import Derived.Test.YtemadfllannljaaProg
import Derived.Test.YtemadfllannljaaWMore
import Derived.ChangeArms
import Derived.ChangeSlices
import Derived.ChangeSame
namespace Go.Proofs.Ytemadfllannljaa.Row
open Go.RowKit Go.Proofs.YtemadfllannljaaW.PrintWords Go.Proofs.YtemadfllannljaaW.PrintLast Go.Proofs.YtemadfllannljaaW.PrintMore
set_option linter.unusedVariables false
set_option linter.unusedSimpArgs false

/-- Whatever is read as data of type t is told by the kind d, and is good. -/
def Opens (P : Program) (t : TypeId) {α : Type} (d : Kd α) (G : α → Prop) : Prop :=
  ∀ {H : Type} (enc : TypeId × Value → H) (w : World) (fuel : Nat) (cs : List Value) (x : DataW H × List MemPlace),
    DataW.trod enc P w 0 (fun _ => true) true fuel t cs = some x → ∃ a, d.K w a cs ∧ G a

theorem opens_int {P : Program} {t : TypeId} {k : IntKind} (h : P.underlying t = some (.int k)) : Opens P t (Kd.int k) (fun n => (Lit.int k n).wf = true) := by
  intro H enc w fuel cs x hx
  cases fuel with
  | zero => simp [DataW.trod] at hx
  | succ n =>
    unfold DataW.trod at hx
    rw [h] at hx
    split at hx <;> simp_all
    rename_i k' n' hk
    obtain ⟨⟨rfl, hw⟩, _⟩ := hx
    exact ⟨_, rfl, hw⟩

theorem opens_bool {P : Program} {t : TypeId} (h : P.underlying t = some .bool) : Opens P t Kd.bool (fun _ => True) := by
  intro H enc w fuel cs x hx
  cases fuel with
  | zero => simp [DataW.trod] at hx
  | succ n =>
    unfold DataW.trod at hx
    rw [h] at hx
    split at hx <;> simp_all
    first
    | (cases ‹Bool› <;> first | exact .inl rfl | exact .inr rfl)
    | exact ⟨_, rfl⟩

theorem opens_string {P : Program} {t : TypeId} (h : P.underlying t = some .string) : Opens P t Kd.string (fun s => s.size ≤ maxLen) := by
  intro H enc w fuel cs x hx
  cases fuel with
  | zero => simp [DataW.trod] at hx
  | succ n =>
    unfold DataW.trod at hx
    rw [h] at hx
    split at hx <;> simp_all
    exact ⟨_, rfl, hx.1⟩

theorem mapM_some {α : Type} (f : Nat → Option α) : ∀ (l : List Nat) (cs : List α), l.mapM f = some cs → cs.length = l.length ∧ ∀ (i : Nat) (a : α), cs[i]? = some a → ∃ j : Nat, l[i]? = some j ∧ f j = some a := by
  intro l
  induction l with
  | nil => intro cs h; simp at h; subst h; simp
  | cons b l ih =>
    intro cs h
    rw [List.mapM_cons] at h
    cases hb : f b with
    | none => simp [hb] at h
    | some c =>
      cases hl : l.mapM f with
      | none => simp [hb, hl] at h
      | some cs' =>
        simp [hb, hl] at h
        subst h
        obtain ⟨h1, h2⟩ := ih cs' hl
        refine ⟨by simp [h1], fun i a hi => ?_⟩
        cases i with
        | zero => simp at hi; subst hi; exact ⟨b, rfl, hb⟩
        | succ i => simp at hi; obtain ⟨j, hj, hf⟩ := h2 i a hi; exact ⟨j, by simpa using hj, hf⟩

theorem cells?_at {w : World} {base : Nat} {a : Addr} {n : Nat} {cs : List Value} (h : w.cells? base a n = some cs) : cs.length = n ∧ ∀ i u, cs[i]? = some u → w.cell? (a.add i) = some u := by
  unfold World.cells? at h
  split at h
  · obtain ⟨h1, h2⟩ := mapM_some _ _ _ h
    refine ⟨by simpa using h1, fun i u hi => ?_⟩
    obtain ⟨j, hj, hf⟩ := h2 i u hi
    have hji : j = i := by
      have h3 := List.getElem?_eq_some_iff.1 hj
      obtain ⟨h4, h5⟩ := h3
      simpa using h5.symm
    subst hji
    exact hf
  · cases h

theorem addr_add_add (a : Addr) (i j : Nat) : (a.add i).add j = a.add (i + j) := by
  unfold Addr.add
  by_cases hi : i = 0 <;> by_cases hj : j = 0 <;> simp [hi, hj, Nat.add_assoc]

theorem opens_slice {P : Program} {t e : TypeId} {α : Type} {d : Kd α} {G : α → Prop} (ht : P.underlying t = some (.slice e)) (hc : P.cellsOf e = d.sz) (he : Opens P e d G) :
    Opens P t (Kd.slice e d) (fun xs => xs.length ≤ maxLen ∧ ∀ y ∈ xs, G y) := by
  intro H enc w fuel cs x hx
  rcases DataW.trod_slice ht hx with ⟨rfl, _⟩ | ⟨a, len, cap, elems, rest, n, _, rfl, _, _, hl, hm, hlen, hel, _, _⟩
  · exact ⟨[], ⟨none, 0, rfl, Nat.le_refl _, Kd.C_nil d w⟩, by simp [maxLen], by simp⟩
  · have each : ∀ i, i < len → ∃ y : α, ∃ c : List Value, d.K w y c ∧ G y ∧ ∀ j u, c[j]? = some u → w.cell? (a.add (i * d.sz + j)) = some u := by
      intro i hi
      have h1 := hel i hi
      have hlt : i < elems.length := by omega
      rw [List.getElem?_eq_getElem hlt] at h1
      obtain ⟨c, hc1, hc2⟩ := Option.bind_eq_some_iff.1 h1
      obtain ⟨y, hK, hG⟩ := he enc w n c _ hc2
      refine ⟨y, c, hK, hG, fun j u hj => ?_⟩
      have h2 := (cells?_at hc1).2 j u hj
      rw [addr_add_add, hc] at h2
      exact h2
    have hys : ∀ m, m ≤ len → ∃ ys : List α, ys.length = m ∧ ∀ (i : Nat) (y : α), ys[i]? = some y → ∃ c : List Value, d.K w y c ∧ G y ∧ ∀ j u, c[j]? = some u → w.cell? (a.add (i * d.sz + j)) = some u := by
      intro m
      induction m with
      | zero => exact fun _ => ⟨[], rfl, by simp⟩
      | succ m ih =>
        intro hle
        obtain ⟨ys, hl1, hy1⟩ := ih (by omega)
        obtain ⟨y, hy⟩ := each m (by omega)
        refine ⟨ys ++ [y], by simp [hl1], fun i z hz => ?_⟩
        by_cases him : i < ys.length
        · rw [List.getElem?_append_left him] at hz
          exact hy1 i z hz
        · rw [List.getElem?_append_right (by omega)] at hz
          have h0 : i - ys.length = 0 := by
            rcases Nat.eq_zero_or_pos (i - ys.length) with h | h
            · exact h
            · rw [List.getElem?_eq_none (by simp; omega)] at hz; cases hz
          rw [h0] at hz
          simp at hz
          subst hz
          have : i = m := by omega
          subst this
          exact hy
    obtain ⟨ys, hl1, hy1⟩ := hys len (Nat.le_refl _)
    subst hl1
    refine ⟨ys, ⟨some a, cap, rfl, hl, rfl, by simp only [maxLen] at hm; omega, fun _ => ⟨a, rfl, fun j p hj => ?_⟩⟩, by omega, fun y hy => ?_⟩
    · obtain ⟨c, hK, _, hcell⟩ := hy1 j p hj
      exact ⟨c, d.K_len hK, hK, hcell⟩
    · obtain ⟨i, hi⟩ := List.getElem?_of_mem hy
      obtain ⟨c, _, hG, _⟩ := hy1 i y hi
      exact hG
end Go.Proofs.Ytemadfllannljaa.Row
