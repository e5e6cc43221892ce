/- The listed variable: what the row's condition says of the table's cells; a world that meets it. -/
import Derived.Test.YtemadfllannljaaDoorG9
import Derived.Test.YtemadfllannljaaDoorRows
import Derived.ProofKit
import Derived.LaidMore
import Derived.LaidLaws
import Derived.ChangeVars
import Derived.Stop.Joined
namespace Go.Proofs.YtemadfllannljaaDoor.R
open Go.RowKit Go.Proofs.YtemadfllannljaaDoorW.PrintWords

def laid : List (String × DataW Unit) := [("truchman/codes.rows", Rows.laid_truchman_codes_rows)]
theorem gRows : Tryd.prog.globalNamed "truchman/codes.rows" = some 0 := by kernel_rfl
theorem tRows : (Tryd.prog.globals[0]?).map (·.type) = some 39 := by kernel_rfl
theorem cArr : Tryd.prog.cellsOf 39 = 57 := by kernel_rfl
theorem cRow : Tryd.prog.cellsOf 38 = 3 := by kernel_rfl
theorem cInt : Tryd.prog.cellsOf 3 = 1 := by kernel_rfl
theorem cU32 : Tryd.prog.cellsOf 25 = 1 := by kernel_rfl
theorem cStr : Tryd.prog.cellsOf 9 = 1 := by kernel_rfl

theorem mapM_at {α β : Type} (f : α → Option β) : ∀ (xs : List α) (ys : List β), xs.mapM f = some ys → ∀ (i : Nat) (x : α), xs[i]? = some x → ∃ y, f x = some y ∧ ys[i]? = some y
  | [], _, _, i, x, hx => by simp at hx
  | a :: xs, ys, h, i, x, hx => by
    simp only [List.mapM_cons, Option.bind_eq_bind, Option.bind_eq_some_iff, Option.pure_def, Option.some.injEq] at h
    obtain ⟨y, hy, zs, hz, rfl⟩ := h
    cases i with
    | zero => simp at hx; subst hx; exact ⟨y, hy, rfl⟩
    | succ i => simpa using mapM_at f xs zs hz i x (by simpa using hx)

theorem int_of {H : Type} {enc : TypeId × Value → H} {P : Program} {w : World} {base : Nat} {sp : Nat → Bool} {held : Bool} {fuel : Nat} {t : TypeId} {k : IntKind} {c : Value} {y : DataW H × List MemPlace}
    (ht : P.underlying t = some (.int k)) (h : DataW.trod enc P w base sp held fuel t [c] = some y) : ∃ n, c = .int k n ∧ y = (.lit (.int k n), []) := by
  cases fuel with
  | zero => simp [DataW.trod] at h
  | succ fuel =>
    cases c <;> simp [DataW.trod, ht] at h
    rename_i k' n
    obtain ⟨⟨rfl, _⟩, rfl⟩ := h
    exact ⟨n, rfl, rfl⟩
theorem str_of {H : Type} {enc : TypeId × Value → H} {P : Program} {w : World} {base : Nat} {sp : Nat → Bool} {held : Bool} {fuel : Nat} {t : TypeId} {c : Value} {y : DataW H × List MemPlace}
    (ht : P.underlying t = some .string) (h : DataW.trod enc P w base sp held fuel t [c] = some y) : ∃ s, c = .string s ∧ y = (.lit (.string s.data.toList), []) := by
  cases fuel with
  | zero => simp [DataW.trod] at h
  | succ fuel =>
    cases c <;> simp [DataW.trod, ht] at h
    rename_i s
    obtain ⟨_, rfl⟩ := h
    exact ⟨s, rfl, rfl⟩

theorem row_of {H : Type} {enc : TypeId × Value → H} {w : World} {base : Nat} {sp : Nat → Bool} {held : Bool} {fuel : Nat} {l : List Value} {y : DataW H × List MemPlace}
    (h : DataW.trod enc Tryd.prog w base sp held fuel 38 l = some y) : ∃ e s t, l = [.int .i64 e, .int .u32 s, .string t] ∧ y.1 = .agg [.lit (.int .i64 e), .lit (.int .u32 s), .lit (.string t.data.toList)] := by
  cases fuel with
  | zero => simp [DataW.trod] at h
  | succ fuel =>
    unfold DataW.trod at h
    rw [Tryd.underlying38] at h
    simp only [cRow] at h
    split at h
    · rename_i hl
      obtain ⟨c0, c1, c2, rfl⟩ : ∃ c0 c1 c2, l = [c0, c1, c2] := by
        match l, hl with
        | [a, b, c], _ => exact ⟨a, b, c, rfl⟩
      simp only [Option.map_eq_some_iff, List.mapM_cons, List.mapM_nil, Option.bind_eq_bind, Option.bind_eq_some_iff, Option.pure_def, Option.some.injEq, cInt, cU32, cStr] at h
      obtain ⟨xs, ⟨y0, h0, _, ⟨y1, h1, _, ⟨y2, h2, _, rfl, rfl⟩, rfl⟩, rfl⟩, hx⟩ := h
      obtain ⟨n0, rfl, rfl⟩ := int_of Tryd.underlying3 h0
      obtain ⟨n1, rfl, rfl⟩ := int_of Tryd.underlying25 h1
      obtain ⟨n2, rfl, rfl⟩ := str_of Tryd.underlying9 h2
      exact ⟨n0, n1, n2, rfl, by rw [← hx]; rfl⟩
    · cases h

def rowD (i : Nat) : DataW Unit := .agg [.lit (.int .i64 (G.eOf i)), .lit (.int .u32 (G.sOf i)), .lit (.string (G.tOf i).data.toList)]
theorem laid_eq : (Rows.laid_truchman_codes_rows : DataW Unit) = .agg ((List.range 19).map rowD) := by rfl
theorem tab_at (i : Nat) (h : i < 19) : (G.tabA.toList.drop (i * 3)).take 3 = [.int .i64 (G.eOf i), .int .u32 (G.sOf i), .string (G.tOf i)] := by
  have hs : i = 0 ∨ i = 1 ∨ i = 2 ∨ i = 3 ∨ i = 4 ∨ i = 5 ∨ i = 6 ∨ i = 7 ∨ i = 8 ∨ i = 9 ∨ i = 10 ∨ i = 11 ∨ i = 12 ∨ i = 13 ∨ i = 14 ∨ i = 15 ∨ i = 16 ∨ i = 17 ∨ i = 18 := by omega
  rcases hs with h | h | h | h | h | h | h | h | h | h | h | h | h | h | h | h | h | h | h <;> (subst h; rfl)

theorem cells_of {w : World} {base : Nat} {sp : Nat → Bool} {held : Bool} {fuel : Nat} {l : List Value} {p : List MemPlace}
    (h : DataW.trod (fun _ => ()) Tryd.prog w base sp held fuel 39 l = some (Rows.laid_truchman_codes_rows, p)) : l = G.tabA.toList := by
  cases fuel with
  | zero => simp [DataW.trod] at h
  | succ fuel =>
    unfold DataW.trod at h
    rw [Tryd.underlying39] at h
    simp only [cArr, cRow] at h
    split at h
    · rename_i hl
      simp only [Option.map_eq_some_iff] at h
      obtain ⟨xs, hm, hx⟩ := h
      rw [laid_eq] at hx
      simp only [Prod.mk.injEq, DataW.agg.injEq] at hx
      have key : ∀ i, i < 19 → (l.drop (i * 3)).take 3 = (G.tabA.toList.drop (i * 3)).take 3 := by
        intro i hi
        obtain ⟨y, hy, hyi⟩ := mapM_at _ _ _ hm i i (by simp [hi])
        obtain ⟨e, s, t, e1, e2⟩ := row_of hy
        have hr : (xs.map (·.1))[i]? = some y.1 := by simp [hyi]
        rw [hx.1] at hr
        have hr2 : rowD i = y.1 := by simpa [hi] using hr
        rw [e2] at hr2
        unfold rowD at hr2
        simp only [DataW.agg.injEq, List.cons.injEq, DataW.lit.injEq, Lit.int.injEq, Lit.string.injEq, true_and, and_true] at hr2
        obtain ⟨h0, h1, h2⟩ := hr2
        have h3 : G.tOf i = t := by
          apply ByteArray.ext
          exact Array.ext' h2
        rw [e1, tab_at i hi, h0, h1, h3]
      apply List.ext_getElem?
      intro j
      by_cases hj : j < 57
      · have hk := congrArg (fun z => z[j % 3]?) (key (j / 3) (by omega))
        simp only [List.getElem?_take, List.getElem?_drop] at hk
        rw [if_pos (by omega), if_pos (by omega), show j / 3 * 3 + j % 3 = j by omega] at hk
        exact hk
      · rw [List.getElem?_eq_none (by omega), List.getElem?_eq_none (by
          have : G.tabA.toList.length = 57 := by decide
          omega)]
    · cases h

/-- WHAT THE CONDITION GIVES THE WALKS. -/
theorem tab_of {W : World} (h : laidMet Tryd.prog laid W) : G.Tab W := by
  obtain ⟨ps, ⟨g, t, cs, fuel, p, q, hg, ht, hvar, hd, _, _⟩, _⟩ := h
  obtain rfl := Option.some.inj (gRows.symm.trans hg)
  obtain rfl := Option.some.inj (tRows.symm.trans ht)
  have hc := cells_of hd
  have hc2 : cs = G.tabA := by
    have := congrArg List.toArray hc
    simpa using this
  subst hc2
  unfold World.var? at hvar
  rw [gRows] at hvar
  simp only [Option.bind_some] at hvar
  split at hvar
  · rename_i c t fr hh
    obtain rfl := Option.some.inj hvar
    exact ⟨t, fr, hh⟩
  · cases hvar

/-- The door's own heap meets the condition. -/
theorem door_met (os : Os) (args : Array Value) : laidMet Tryd.prog laid ((World.doorLaid Tryd.prog 400 os).forCall (fun _ _ => 0) ⟨#[], args, []⟩).memory :=
  laidMet_of_run' 8 (by kernel_rfl) (by kernel_rfl)

end Go.Proofs.YtemadfllannljaaDoor.R
