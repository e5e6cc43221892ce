/- The hand-made contracts of xdr's laying: a number's bytes behind others. -/
import Derived.Test.YtffaljncdcldpaaProg
import Derived.Test.YtffaljncdcldpaaWMore
import Derived.ArgAppend
namespace Go.Proofs.Ytffaljncdcldpaa.G
open Go.RowKit Go.Proofs.YtffaljncdcldpaaW.PrintWords Go.Proofs.YtffaljncdcldpaaW.PrintLast Go.Proofs.YtffaljncdcldpaaW.PrintMore
set_option linter.unusedVariables false
set_option linter.unusedSimpArgs false

/-- A number's so many bytes, the greatest part first. -/
def beN (n : Int) : Nat → List Int
  | 0 => []
  | k + 1 => ((n / 2 ^ (8 * k)) % 256) :: beN n k

theorem beN_length (n : Int) (k : Nat) : (beN n k).length = k := by
  induction k with
  | zero => rfl
  | succ k ih => simp [beN, ih]

theorem infoU8 : (Try.prog.info? 5).map (fun i => (i.zero, i.size, i.bytes)) = some (some (.int .u8 0), 1, 1) := by kernel_rfl

/-- append of one byte to a slice that came in and is full. -/
theorem tight_append {P : Program} {ops : Array Oper} {rest : List Oper} {o : Oper} {a : Act} {Q : Exit → Act → World → Prop} {w0 W : World} (base : Nat) (hgd : o.guard = none) (s x : Operand) (t e : TypeId)
    (ho : o.op = .call { callee := .builtin .append, args := #[s, x], argTypes := #[t, t] })
    (ht : P.underlying t = some (.slice e)) (hinfo : (P.info? e).map (fun i => (i.zero, i.size, i.bytes)) = some (some (.int .u8 0), 1, 1))
    (A : Option Addr) (xs : List Int) (p : Int) (hs : a.eval s = .slice A xs.length xs.length) (hx : a.eval x = .slice (some ⟨W.heap.size, 0, none⟩) 1 1)
    (HC : Kd.C (Kd.int .u8) W A xs.length xs) (HB : Below base w0 W) (hbase : base ≤ W.heap.size) (hl : xs.length + 1 ≤ 140737488355328)
    (h : ∀ v1 w1, (Kd.int .u8).R e w1 base (fun _ => True) v1 (xs ++ [p]) → Below base w0 w1 → wpList P ops Q rest (a.put o.dst v1) w1) :
    wpList P ops Q (o :: rest) a (W.alloc (.cells #[.int .u8 p] e)) := by
  obtain ⟨i0, hi, hzz⟩ := Option.map_eq_some_iff.1 hinfo
  simp only [Prod.mk.injEq] at hzz
  obtain ⟨hz0, hz1, hz2⟩ := hzz
  have HC' : Kd.C (Kd.int .u8) (W.alloc (.cells #[.int .u8 p] e)) A xs.length xs := Kd.C_below HC (below_alloc (Below.refl _ _) _)
  have HR := Kd.reads_of_C (d := (0 : Int)) HC'
  refine wpList_append_grows (W.alloc (.cells #[.int .u8 p] e)) hgd s x t ho e i0 (.int .u8 0) 1 1 ht hi hz0 hz1 hz2 rfl (by decide) A xs.length xs.length (encs (Value.int .u8) xs) hs ?_ (by simp [encs]) ?_
    ⟨W.heap.size, 0, none⟩ 1 1 [.int .u8 p] hx rfl (by simpa using World.news_of_block (cs := #[.int .u8 p]) (t := e) (fr := (0, 0)) (heap_alloc_new W (.cells #[.int .u8 p] e))) (by simp [Value.oneCell'])
    (by omega) (by simp only [maxLen]; omega) (by omega) ?_
  · intro hA
    have h0 := HR.2.2
    rcases Nat.eq_zero_or_pos xs.length with h1 | h1
    · exact ⟨h1, h1⟩
    · obtain ⟨ad, e1, _⟩ := h0 h1
      rw [hA] at e1; cases e1
  · intro b hb j u hj
    have hlt : j < xs.length := by
      have := (List.getElem?_eq_some_iff.1 hj).1
      simpa [encs] using this
    obtain ⟨ad, e1, hc⟩ := HR.2.2 (by omega)
    rw [hb] at e1; injection e1 with e1; subst e1
    rw [hc j hlt]
    simp [encs, List.getElem?_eq_getElem hlt, List.getD_eq_getElem?_getD] at hj ⊢
    exact hj
  · intro v' w' hown hg
    have hb1 : Below base w0 (W.alloc (.cells #[.int .u8 p] e)) := HB.alloc hbase _
    refine h v' w' ?_ (hb1.grown hg (by simp; omega) (by simp))
    have he : encs (Value.int .u8) xs ++ [.int .u8 p] = encs (Value.int .u8) (xs ++ [p]) := by simp [encs]
    have hlen : (xs ++ [p]).length = xs.length + 1 := by simp
    rw [he, ← hlen] at hown
    exact Kd.R_lower (Kd.R_of_own (enc := Value.int .u8) (h1 := fun _ => rfl) hown (fun _ _ => trivial)) (by simp; omega)

/-- What a number's bytes are put behind: what came in, cut so that it is full, or what has been put so far. -/
def Cur (w w' : World) (s j : Nat) (A0 : Option Addr) (l0 : List Int) (v : Value) (xs : List Int) : Prop :=
  (j = s ∧ xs = l0 ∧ v = .slice A0 l0.length l0.length ∧ Kd.C (Kd.int .u8) w' A0 l0.length l0) ∨ (j < s ∧ Kd.R (Kd.int .u8) 5 w' w.heap.size (fun _ => True) v xs)

set_option maxHeartbeats 8000000 in
set_option maxRecDepth 100000 in
theorem number_calls (A0 : Option Addr) (c0 : Nat) (l0 : List Int) (a1 : Int) (s : Nat) (w : World)
    (hr0 : Kd.C (Kd.int .u8) w A0 l0.length l0) (hc0 : l0.length ≤ c0) (h1 : 1 ≤ s) (h8 : s ≤ 8) (hl : l0.length ≤ 1000000000000) :
    Calls Try.prog 71 #[.slice A0 l0.length c0, .int .u64 a1, .int .i64 (s : Int)] w fun e w' => ∃ v0_ : Value, e = .returned v0_ ∧ Kd.R (Kd.int .u8) 5 w' w.heap.size (fun _ => True) v0_ (l0 ++ beN a1 s) ∧ Below w.heap.size w w' := by
  go_enter Try.func71, Try.ntmps71
  go_wp2
  go_loopw [0, 7] (fun v i w' => ∃ (n : Int) (j : Nat) (bs : List Int), i = .int .i64 n ∧ Aside0 (n = (j : Int) - 1 ∧ j ≤ s) ∧ Aside0 (bs ++ beN a1 j = beN a1 s) ∧ Aside0 (Cur w w' s j A0 l0 v (l0 ++ bs)) ∧ Aside0 (Below w.heap.size w w'))
    (fun _ i _ => (intOf i + 1).toNat)
  case atStart =>
    exact ⟨(s : Int) - 1, s, [], rfl, ⟨rfl, Nat.le_refl _⟩, ⟨rfl⟩, ⟨.inl ⟨rfl, by simp, rfl, hr0⟩⟩, ⟨Below.refl _ _⟩⟩
  case round =>
    obtain ⟨n, j, bs, rfl, HJ, HE, HC, HB⟩ := hrel
    have hn := HJ.out.1
    have hj := HJ.out.2
    have HS : Aside0 (1 ≤ s) := ⟨h1⟩
    clear h1
    rcases (show n = -1 ∨ n = 0 ∨ n = 1 ∨ n = 2 ∨ n = 3 ∨ n = 4 ∨ n = 5 ∨ n = 6 ∨ n = 7 from by omega) with h | h | h | h | h | h | h | h | h
    · have HJ1 : Aside0 (j = 0) := ⟨by omega⟩
      clear HJ hn hj h8
      subst h
      obtain ⟨hj, hx, rfl, hc⟩ | ⟨hj, hr⟩ := HC.out
      · exact absurd hj (by have := HJ1.out; have := HS.out; omega)
      · have HR := Aside0.mk hr
        clear hr hj HC
        go_wp2
        go_ret
        refine ⟨_, rfl, ?_, HB.out⟩
        have h1 := HE.out
        rw [HJ1.out] at h1
        simp only [beN, List.append_nil] at h1
        rw [← h1]
        exact HR.out
    · have HJ1 : Aside0 (j = 0 + 1 ∧ j ≤ s ∧ bs.length + j = s) := ⟨⟨by omega, by omega, by have := congrArg List.length HE.out; simp only [List.length_append, beN_length] at this; exact this⟩⟩
      clear HJ hn hj
      have HL : Aside0 (l0.length ≤ 1000000000000 ∧ s ≤ 8) := ⟨hl, h8⟩
      clear hl h8 hc0
      subst h
      have HX : Aside0 (bs ++ beN a1 (0 + 1) = beN a1 s) := ⟨by rw [← HJ1.out.1]; exact HE.out⟩
      obtain ⟨hj, hx, rfl, hc⟩ | ⟨hj, hr⟩ := HC.out
      · have HR := Aside0.mk hc
        have HZ : Aside0 (bs = []) := ⟨by simpa using hx⟩
        clear hc hx hj HC hr0
        go_wp2_with (first | ((with_reducible refine gate_builtin (b := .append) (xs := #[.tmp 20, .tmp 26]) rfl ?_); at_builtin; refine tight_append (w0 := w) w.heap.size rfl (.tmp 20) (.tmp 26) 24 5 rfl Try.underlying24 infoU8 A0 l0 (a1 % 256) rfl rfl ?aC ?aB ?aS ?aL ?_; (case aC => exact HR.out); (case aB => exact (by repeat (first | (with_reducible first | exact HB.out | apply below_alloc | apply pw_below_drewN | apply below_drew1) | exact HB.out))); (case aS => exact (below_size (by repeat (first | (with_reducible first | exact HB.out | apply below_alloc | apply pw_below_drewN | apply below_drew1) | exact HB.out)))); (case aL => have := HL.out; omega); intro v1 w1 hr1 hb1; have n0_ := Aside0.mk hr1; have n1_ := Aside0.mk hb1; clear HR; clear HB; have HR := n0_; have HB := n1_; clear n0_ n1_ hr1 hb1))
        go_roundw
        case measure => simp [intOf]
        case rel => exact ⟨_, 0, bs ++ [a1 % 256], rfl, ⟨by omega, by have := HJ1.out; omega⟩, ⟨by have h1 := HX.out; simp only [beN] at h1 ⊢; simpa using h1⟩, ⟨.inr ⟨by have := HJ1.out; omega, by rw [HZ.out]; exact HR.out⟩⟩, HB⟩
      · have HR := Aside0.mk hr
        clear hr hj HC hr0
        go_wp2_with (first | ((with_reducible refine gate_builtin (b := .append) (xs := #[.tmp 20, .tmp 26]) rfl ?_); at_builtin; refine Kd.R_append (Kd.int .u8) (w0 := w) w.heap.size rfl (.tmp 20) (.tmp 26) 24 5 (.int .u8 0) 1 rfl Try.underlying24 infoU8 rfl (by decide) (by omega) u0 (l0 ++ bs) (a1 % 256) [.int .u8 (a1 % 256)] (fun _ => True) (fun _ => False) rfl rfl ?aP (fun _ hk => hk.elim) ?aF ?aO ?aB ?aS ?aL ?_; (case aP => exact rfl); (case aF => exact (fun _ _ => trivial)); (case aO => exact HR.out); (case aB => exact (by repeat (first | (with_reducible first | exact HB.out | apply below_alloc | apply pw_below_drewN | apply below_drew1) | exact HB.out))); (case aS => exact (below_size (by repeat (first | (with_reducible first | exact HB.out | apply below_alloc | apply pw_below_drewN | apply below_drew1) | exact HB.out)))); (case aL => have := HL.out; have := HJ1.out; simp only [List.length_append]; omega); intro v1 w1 hr1 hb1 _ _; have n0_ := Aside0.mk hr1; have n1_ := Aside0.mk hb1; clear HR; clear HB; have HR := n0_; have HB := n1_; clear n0_ n1_ hr1 hb1))
        go_roundw
        case measure => simp [intOf]
        case rel => exact ⟨_, 0, bs ++ [a1 % 256], rfl, ⟨by omega, by have := HJ1.out; omega⟩, ⟨by have h1 := HX.out; simp only [beN] at h1 ⊢; simpa using h1⟩, ⟨.inr ⟨by have := HJ1.out; omega, by rw [← List.append_assoc]; exact HR.out⟩⟩, HB⟩
    · have HJ1 : Aside0 (j = 1 + 1 ∧ j ≤ s ∧ bs.length + j = s) := ⟨⟨by omega, by omega, by have := congrArg List.length HE.out; simp only [List.length_append, beN_length] at this; exact this⟩⟩
      clear HJ hn hj
      have HL : Aside0 (l0.length ≤ 1000000000000 ∧ s ≤ 8) := ⟨hl, h8⟩
      clear hl h8 hc0
      subst h
      have HX : Aside0 (bs ++ beN a1 (1 + 1) = beN a1 s) := ⟨by rw [← HJ1.out.1]; exact HE.out⟩
      obtain ⟨hj, hx, rfl, hc⟩ | ⟨hj, hr⟩ := HC.out
      · have HR := Aside0.mk hc
        have HZ : Aside0 (bs = []) := ⟨by simpa using hx⟩
        clear hc hx hj HC hr0
        go_wp2_with (first | ((with_reducible refine gate_builtin (b := .append) (xs := #[.tmp 20, .tmp 26]) rfl ?_); at_builtin; refine tight_append (w0 := w) w.heap.size rfl (.tmp 20) (.tmp 26) 24 5 rfl Try.underlying24 infoU8 A0 l0 (a1 / 256 % 256) rfl rfl ?aC ?aB ?aS ?aL ?_; (case aC => exact HR.out); (case aB => exact (by repeat (first | (with_reducible first | exact HB.out | apply below_alloc | apply pw_below_drewN | apply below_drew1) | exact HB.out))); (case aS => exact (below_size (by repeat (first | (with_reducible first | exact HB.out | apply below_alloc | apply pw_below_drewN | apply below_drew1) | exact HB.out)))); (case aL => have := HL.out; omega); intro v1 w1 hr1 hb1; have n0_ := Aside0.mk hr1; have n1_ := Aside0.mk hb1; clear HR; clear HB; have HR := n0_; have HB := n1_; clear n0_ n1_ hr1 hb1))
        go_roundw
        case measure => simp [intOf]
        case rel => exact ⟨_, 1, bs ++ [a1 / 256 % 256], rfl, ⟨by omega, by have := HJ1.out; omega⟩, ⟨by have h1 := HX.out; simp only [beN] at h1 ⊢; simpa using h1⟩, ⟨.inr ⟨by have := HJ1.out; omega, by rw [HZ.out]; exact HR.out⟩⟩, HB⟩
      · have HR := Aside0.mk hr
        clear hr hj HC hr0
        go_wp2_with (first | ((with_reducible refine gate_builtin (b := .append) (xs := #[.tmp 20, .tmp 26]) rfl ?_); at_builtin; refine Kd.R_append (Kd.int .u8) (w0 := w) w.heap.size rfl (.tmp 20) (.tmp 26) 24 5 (.int .u8 0) 1 rfl Try.underlying24 infoU8 rfl (by decide) (by omega) u0 (l0 ++ bs) (a1 / 256 % 256) [.int .u8 (a1 / 256 % 256)] (fun _ => True) (fun _ => False) rfl rfl ?aP (fun _ hk => hk.elim) ?aF ?aO ?aB ?aS ?aL ?_; (case aP => exact rfl); (case aF => exact (fun _ _ => trivial)); (case aO => exact HR.out); (case aB => exact (by repeat (first | (with_reducible first | exact HB.out | apply below_alloc | apply pw_below_drewN | apply below_drew1) | exact HB.out))); (case aS => exact (below_size (by repeat (first | (with_reducible first | exact HB.out | apply below_alloc | apply pw_below_drewN | apply below_drew1) | exact HB.out)))); (case aL => have := HL.out; have := HJ1.out; simp only [List.length_append]; omega); intro v1 w1 hr1 hb1 _ _; have n0_ := Aside0.mk hr1; have n1_ := Aside0.mk hb1; clear HR; clear HB; have HR := n0_; have HB := n1_; clear n0_ n1_ hr1 hb1))
        go_roundw
        case measure => simp [intOf]
        case rel => exact ⟨_, 1, bs ++ [a1 / 256 % 256], rfl, ⟨by omega, by have := HJ1.out; omega⟩, ⟨by have h1 := HX.out; simp only [beN] at h1 ⊢; simpa using h1⟩, ⟨.inr ⟨by have := HJ1.out; omega, by rw [← List.append_assoc]; exact HR.out⟩⟩, HB⟩
    · have HJ1 : Aside0 (j = 2 + 1 ∧ j ≤ s ∧ bs.length + j = s) := ⟨⟨by omega, by omega, by have := congrArg List.length HE.out; simp only [List.length_append, beN_length] at this; exact this⟩⟩
      clear HJ hn hj
      have HL : Aside0 (l0.length ≤ 1000000000000 ∧ s ≤ 8) := ⟨hl, h8⟩
      clear hl h8 hc0
      subst h
      have HX : Aside0 (bs ++ beN a1 (2 + 1) = beN a1 s) := ⟨by rw [← HJ1.out.1]; exact HE.out⟩
      obtain ⟨hj, hx, rfl, hc⟩ | ⟨hj, hr⟩ := HC.out
      · have HR := Aside0.mk hc
        have HZ : Aside0 (bs = []) := ⟨by simpa using hx⟩
        clear hc hx hj HC hr0
        go_wp2_with (first | ((with_reducible refine gate_builtin (b := .append) (xs := #[.tmp 20, .tmp 26]) rfl ?_); at_builtin; refine tight_append (w0 := w) w.heap.size rfl (.tmp 20) (.tmp 26) 24 5 rfl Try.underlying24 infoU8 A0 l0 (a1 / 65536 % 256) rfl rfl ?aC ?aB ?aS ?aL ?_; (case aC => exact HR.out); (case aB => exact (by repeat (first | (with_reducible first | exact HB.out | apply below_alloc | apply pw_below_drewN | apply below_drew1) | exact HB.out))); (case aS => exact (below_size (by repeat (first | (with_reducible first | exact HB.out | apply below_alloc | apply pw_below_drewN | apply below_drew1) | exact HB.out)))); (case aL => have := HL.out; omega); intro v1 w1 hr1 hb1; have n0_ := Aside0.mk hr1; have n1_ := Aside0.mk hb1; clear HR; clear HB; have HR := n0_; have HB := n1_; clear n0_ n1_ hr1 hb1))
        go_roundw
        case measure => simp [intOf]
        case rel => exact ⟨_, 2, bs ++ [a1 / 65536 % 256], rfl, ⟨by omega, by have := HJ1.out; omega⟩, ⟨by have h1 := HX.out; simp only [beN] at h1 ⊢; simpa using h1⟩, ⟨.inr ⟨by have := HJ1.out; omega, by rw [HZ.out]; exact HR.out⟩⟩, HB⟩
      · have HR := Aside0.mk hr
        clear hr hj HC hr0
        go_wp2_with (first | ((with_reducible refine gate_builtin (b := .append) (xs := #[.tmp 20, .tmp 26]) rfl ?_); at_builtin; refine Kd.R_append (Kd.int .u8) (w0 := w) w.heap.size rfl (.tmp 20) (.tmp 26) 24 5 (.int .u8 0) 1 rfl Try.underlying24 infoU8 rfl (by decide) (by omega) u0 (l0 ++ bs) (a1 / 65536 % 256) [.int .u8 (a1 / 65536 % 256)] (fun _ => True) (fun _ => False) rfl rfl ?aP (fun _ hk => hk.elim) ?aF ?aO ?aB ?aS ?aL ?_; (case aP => exact rfl); (case aF => exact (fun _ _ => trivial)); (case aO => exact HR.out); (case aB => exact (by repeat (first | (with_reducible first | exact HB.out | apply below_alloc | apply pw_below_drewN | apply below_drew1) | exact HB.out))); (case aS => exact (below_size (by repeat (first | (with_reducible first | exact HB.out | apply below_alloc | apply pw_below_drewN | apply below_drew1) | exact HB.out)))); (case aL => have := HL.out; have := HJ1.out; simp only [List.length_append]; omega); intro v1 w1 hr1 hb1 _ _; have n0_ := Aside0.mk hr1; have n1_ := Aside0.mk hb1; clear HR; clear HB; have HR := n0_; have HB := n1_; clear n0_ n1_ hr1 hb1))
        go_roundw
        case measure => simp [intOf]
        case rel => exact ⟨_, 2, bs ++ [a1 / 65536 % 256], rfl, ⟨by omega, by have := HJ1.out; omega⟩, ⟨by have h1 := HX.out; simp only [beN] at h1 ⊢; simpa using h1⟩, ⟨.inr ⟨by have := HJ1.out; omega, by rw [← List.append_assoc]; exact HR.out⟩⟩, HB⟩
    · have HJ1 : Aside0 (j = 3 + 1 ∧ j ≤ s ∧ bs.length + j = s) := ⟨⟨by omega, by omega, by have := congrArg List.length HE.out; simp only [List.length_append, beN_length] at this; exact this⟩⟩
      clear HJ hn hj
      have HL : Aside0 (l0.length ≤ 1000000000000 ∧ s ≤ 8) := ⟨hl, h8⟩
      clear hl h8 hc0
      subst h
      have HX : Aside0 (bs ++ beN a1 (3 + 1) = beN a1 s) := ⟨by rw [← HJ1.out.1]; exact HE.out⟩
      obtain ⟨hj, hx, rfl, hc⟩ | ⟨hj, hr⟩ := HC.out
      · have HR := Aside0.mk hc
        have HZ : Aside0 (bs = []) := ⟨by simpa using hx⟩
        clear hc hx hj HC hr0
        go_wp2_with (first | ((with_reducible refine gate_builtin (b := .append) (xs := #[.tmp 20, .tmp 26]) rfl ?_); at_builtin; refine tight_append (w0 := w) w.heap.size rfl (.tmp 20) (.tmp 26) 24 5 rfl Try.underlying24 infoU8 A0 l0 (a1 / 16777216 % 256) rfl rfl ?aC ?aB ?aS ?aL ?_; (case aC => exact HR.out); (case aB => exact (by repeat (first | (with_reducible first | exact HB.out | apply below_alloc | apply pw_below_drewN | apply below_drew1) | exact HB.out))); (case aS => exact (below_size (by repeat (first | (with_reducible first | exact HB.out | apply below_alloc | apply pw_below_drewN | apply below_drew1) | exact HB.out)))); (case aL => have := HL.out; omega); intro v1 w1 hr1 hb1; have n0_ := Aside0.mk hr1; have n1_ := Aside0.mk hb1; clear HR; clear HB; have HR := n0_; have HB := n1_; clear n0_ n1_ hr1 hb1))
        go_roundw
        case measure => simp [intOf]
        case rel => exact ⟨_, 3, bs ++ [a1 / 16777216 % 256], rfl, ⟨by omega, by have := HJ1.out; omega⟩, ⟨by have h1 := HX.out; simp only [beN] at h1 ⊢; simpa using h1⟩, ⟨.inr ⟨by have := HJ1.out; omega, by rw [HZ.out]; exact HR.out⟩⟩, HB⟩
      · have HR := Aside0.mk hr
        clear hr hj HC hr0
        go_wp2_with (first | ((with_reducible refine gate_builtin (b := .append) (xs := #[.tmp 20, .tmp 26]) rfl ?_); at_builtin; refine Kd.R_append (Kd.int .u8) (w0 := w) w.heap.size rfl (.tmp 20) (.tmp 26) 24 5 (.int .u8 0) 1 rfl Try.underlying24 infoU8 rfl (by decide) (by omega) u0 (l0 ++ bs) (a1 / 16777216 % 256) [.int .u8 (a1 / 16777216 % 256)] (fun _ => True) (fun _ => False) rfl rfl ?aP (fun _ hk => hk.elim) ?aF ?aO ?aB ?aS ?aL ?_; (case aP => exact rfl); (case aF => exact (fun _ _ => trivial)); (case aO => exact HR.out); (case aB => exact (by repeat (first | (with_reducible first | exact HB.out | apply below_alloc | apply pw_below_drewN | apply below_drew1) | exact HB.out))); (case aS => exact (below_size (by repeat (first | (with_reducible first | exact HB.out | apply below_alloc | apply pw_below_drewN | apply below_drew1) | exact HB.out)))); (case aL => have := HL.out; have := HJ1.out; simp only [List.length_append]; omega); intro v1 w1 hr1 hb1 _ _; have n0_ := Aside0.mk hr1; have n1_ := Aside0.mk hb1; clear HR; clear HB; have HR := n0_; have HB := n1_; clear n0_ n1_ hr1 hb1))
        go_roundw
        case measure => simp [intOf]
        case rel => exact ⟨_, 3, bs ++ [a1 / 16777216 % 256], rfl, ⟨by omega, by have := HJ1.out; omega⟩, ⟨by have h1 := HX.out; simp only [beN] at h1 ⊢; simpa using h1⟩, ⟨.inr ⟨by have := HJ1.out; omega, by rw [← List.append_assoc]; exact HR.out⟩⟩, HB⟩
    · have HJ1 : Aside0 (j = 4 + 1 ∧ j ≤ s ∧ bs.length + j = s) := ⟨⟨by omega, by omega, by have := congrArg List.length HE.out; simp only [List.length_append, beN_length] at this; exact this⟩⟩
      clear HJ hn hj
      have HL : Aside0 (l0.length ≤ 1000000000000 ∧ s ≤ 8) := ⟨hl, h8⟩
      clear hl h8 hc0
      subst h
      have HX : Aside0 (bs ++ beN a1 (4 + 1) = beN a1 s) := ⟨by rw [← HJ1.out.1]; exact HE.out⟩
      obtain ⟨hj, hx, rfl, hc⟩ | ⟨hj, hr⟩ := HC.out
      · have HR := Aside0.mk hc
        have HZ : Aside0 (bs = []) := ⟨by simpa using hx⟩
        clear hc hx hj HC hr0
        go_wp2_with (first | ((with_reducible refine gate_builtin (b := .append) (xs := #[.tmp 20, .tmp 26]) rfl ?_); at_builtin; refine tight_append (w0 := w) w.heap.size rfl (.tmp 20) (.tmp 26) 24 5 rfl Try.underlying24 infoU8 A0 l0 (a1 / 4294967296 % 256) rfl rfl ?aC ?aB ?aS ?aL ?_; (case aC => exact HR.out); (case aB => exact (by repeat (first | (with_reducible first | exact HB.out | apply below_alloc | apply pw_below_drewN | apply below_drew1) | exact HB.out))); (case aS => exact (below_size (by repeat (first | (with_reducible first | exact HB.out | apply below_alloc | apply pw_below_drewN | apply below_drew1) | exact HB.out)))); (case aL => have := HL.out; omega); intro v1 w1 hr1 hb1; have n0_ := Aside0.mk hr1; have n1_ := Aside0.mk hb1; clear HR; clear HB; have HR := n0_; have HB := n1_; clear n0_ n1_ hr1 hb1))
        go_roundw
        case measure => simp [intOf]
        case rel => exact ⟨_, 4, bs ++ [a1 / 4294967296 % 256], rfl, ⟨by omega, by have := HJ1.out; omega⟩, ⟨by have h1 := HX.out; simp only [beN] at h1 ⊢; simpa using h1⟩, ⟨.inr ⟨by have := HJ1.out; omega, by rw [HZ.out]; exact HR.out⟩⟩, HB⟩
      · have HR := Aside0.mk hr
        clear hr hj HC hr0
        go_wp2_with (first | ((with_reducible refine gate_builtin (b := .append) (xs := #[.tmp 20, .tmp 26]) rfl ?_); at_builtin; refine Kd.R_append (Kd.int .u8) (w0 := w) w.heap.size rfl (.tmp 20) (.tmp 26) 24 5 (.int .u8 0) 1 rfl Try.underlying24 infoU8 rfl (by decide) (by omega) u0 (l0 ++ bs) (a1 / 4294967296 % 256) [.int .u8 (a1 / 4294967296 % 256)] (fun _ => True) (fun _ => False) rfl rfl ?aP (fun _ hk => hk.elim) ?aF ?aO ?aB ?aS ?aL ?_; (case aP => exact rfl); (case aF => exact (fun _ _ => trivial)); (case aO => exact HR.out); (case aB => exact (by repeat (first | (with_reducible first | exact HB.out | apply below_alloc | apply pw_below_drewN | apply below_drew1) | exact HB.out))); (case aS => exact (below_size (by repeat (first | (with_reducible first | exact HB.out | apply below_alloc | apply pw_below_drewN | apply below_drew1) | exact HB.out)))); (case aL => have := HL.out; have := HJ1.out; simp only [List.length_append]; omega); intro v1 w1 hr1 hb1 _ _; have n0_ := Aside0.mk hr1; have n1_ := Aside0.mk hb1; clear HR; clear HB; have HR := n0_; have HB := n1_; clear n0_ n1_ hr1 hb1))
        go_roundw
        case measure => simp [intOf]
        case rel => exact ⟨_, 4, bs ++ [a1 / 4294967296 % 256], rfl, ⟨by omega, by have := HJ1.out; omega⟩, ⟨by have h1 := HX.out; simp only [beN] at h1 ⊢; simpa using h1⟩, ⟨.inr ⟨by have := HJ1.out; omega, by rw [← List.append_assoc]; exact HR.out⟩⟩, HB⟩
    · have HJ1 : Aside0 (j = 5 + 1 ∧ j ≤ s ∧ bs.length + j = s) := ⟨⟨by omega, by omega, by have := congrArg List.length HE.out; simp only [List.length_append, beN_length] at this; exact this⟩⟩
      clear HJ hn hj
      have HL : Aside0 (l0.length ≤ 1000000000000 ∧ s ≤ 8) := ⟨hl, h8⟩
      clear hl h8 hc0
      subst h
      have HX : Aside0 (bs ++ beN a1 (5 + 1) = beN a1 s) := ⟨by rw [← HJ1.out.1]; exact HE.out⟩
      obtain ⟨hj, hx, rfl, hc⟩ | ⟨hj, hr⟩ := HC.out
      · have HR := Aside0.mk hc
        have HZ : Aside0 (bs = []) := ⟨by simpa using hx⟩
        clear hc hx hj HC hr0
        go_wp2_with (first | ((with_reducible refine gate_builtin (b := .append) (xs := #[.tmp 20, .tmp 26]) rfl ?_); at_builtin; refine tight_append (w0 := w) w.heap.size rfl (.tmp 20) (.tmp 26) 24 5 rfl Try.underlying24 infoU8 A0 l0 (a1 / 1099511627776 % 256) rfl rfl ?aC ?aB ?aS ?aL ?_; (case aC => exact HR.out); (case aB => exact (by repeat (first | (with_reducible first | exact HB.out | apply below_alloc | apply pw_below_drewN | apply below_drew1) | exact HB.out))); (case aS => exact (below_size (by repeat (first | (with_reducible first | exact HB.out | apply below_alloc | apply pw_below_drewN | apply below_drew1) | exact HB.out)))); (case aL => have := HL.out; omega); intro v1 w1 hr1 hb1; have n0_ := Aside0.mk hr1; have n1_ := Aside0.mk hb1; clear HR; clear HB; have HR := n0_; have HB := n1_; clear n0_ n1_ hr1 hb1))
        go_roundw
        case measure => simp [intOf]
        case rel => exact ⟨_, 5, bs ++ [a1 / 1099511627776 % 256], rfl, ⟨by omega, by have := HJ1.out; omega⟩, ⟨by have h1 := HX.out; simp only [beN] at h1 ⊢; simpa using h1⟩, ⟨.inr ⟨by have := HJ1.out; omega, by rw [HZ.out]; exact HR.out⟩⟩, HB⟩
      · have HR := Aside0.mk hr
        clear hr hj HC hr0
        go_wp2_with (first | ((with_reducible refine gate_builtin (b := .append) (xs := #[.tmp 20, .tmp 26]) rfl ?_); at_builtin; refine Kd.R_append (Kd.int .u8) (w0 := w) w.heap.size rfl (.tmp 20) (.tmp 26) 24 5 (.int .u8 0) 1 rfl Try.underlying24 infoU8 rfl (by decide) (by omega) u0 (l0 ++ bs) (a1 / 1099511627776 % 256) [.int .u8 (a1 / 1099511627776 % 256)] (fun _ => True) (fun _ => False) rfl rfl ?aP (fun _ hk => hk.elim) ?aF ?aO ?aB ?aS ?aL ?_; (case aP => exact rfl); (case aF => exact (fun _ _ => trivial)); (case aO => exact HR.out); (case aB => exact (by repeat (first | (with_reducible first | exact HB.out | apply below_alloc | apply pw_below_drewN | apply below_drew1) | exact HB.out))); (case aS => exact (below_size (by repeat (first | (with_reducible first | exact HB.out | apply below_alloc | apply pw_below_drewN | apply below_drew1) | exact HB.out)))); (case aL => have := HL.out; have := HJ1.out; simp only [List.length_append]; omega); intro v1 w1 hr1 hb1 _ _; have n0_ := Aside0.mk hr1; have n1_ := Aside0.mk hb1; clear HR; clear HB; have HR := n0_; have HB := n1_; clear n0_ n1_ hr1 hb1))
        go_roundw
        case measure => simp [intOf]
        case rel => exact ⟨_, 5, bs ++ [a1 / 1099511627776 % 256], rfl, ⟨by omega, by have := HJ1.out; omega⟩, ⟨by have h1 := HX.out; simp only [beN] at h1 ⊢; simpa using h1⟩, ⟨.inr ⟨by have := HJ1.out; omega, by rw [← List.append_assoc]; exact HR.out⟩⟩, HB⟩
    · have HJ1 : Aside0 (j = 6 + 1 ∧ j ≤ s ∧ bs.length + j = s) := ⟨⟨by omega, by omega, by have := congrArg List.length HE.out; simp only [List.length_append, beN_length] at this; exact this⟩⟩
      clear HJ hn hj
      have HL : Aside0 (l0.length ≤ 1000000000000 ∧ s ≤ 8) := ⟨hl, h8⟩
      clear hl h8 hc0
      subst h
      have HX : Aside0 (bs ++ beN a1 (6 + 1) = beN a1 s) := ⟨by rw [← HJ1.out.1]; exact HE.out⟩
      obtain ⟨hj, hx, rfl, hc⟩ | ⟨hj, hr⟩ := HC.out
      · have HR := Aside0.mk hc
        have HZ : Aside0 (bs = []) := ⟨by simpa using hx⟩
        clear hc hx hj HC hr0
        go_wp2_with (first | ((with_reducible refine gate_builtin (b := .append) (xs := #[.tmp 20, .tmp 26]) rfl ?_); at_builtin; refine tight_append (w0 := w) w.heap.size rfl (.tmp 20) (.tmp 26) 24 5 rfl Try.underlying24 infoU8 A0 l0 (a1 / 281474976710656 % 256) rfl rfl ?aC ?aB ?aS ?aL ?_; (case aC => exact HR.out); (case aB => exact (by repeat (first | (with_reducible first | exact HB.out | apply below_alloc | apply pw_below_drewN | apply below_drew1) | exact HB.out))); (case aS => exact (below_size (by repeat (first | (with_reducible first | exact HB.out | apply below_alloc | apply pw_below_drewN | apply below_drew1) | exact HB.out)))); (case aL => have := HL.out; omega); intro v1 w1 hr1 hb1; have n0_ := Aside0.mk hr1; have n1_ := Aside0.mk hb1; clear HR; clear HB; have HR := n0_; have HB := n1_; clear n0_ n1_ hr1 hb1))
        go_roundw
        case measure => simp [intOf]
        case rel => exact ⟨_, 6, bs ++ [a1 / 281474976710656 % 256], rfl, ⟨by omega, by have := HJ1.out; omega⟩, ⟨by have h1 := HX.out; simp only [beN] at h1 ⊢; simpa using h1⟩, ⟨.inr ⟨by have := HJ1.out; omega, by rw [HZ.out]; exact HR.out⟩⟩, HB⟩
      · have HR := Aside0.mk hr
        clear hr hj HC hr0
        go_wp2_with (first | ((with_reducible refine gate_builtin (b := .append) (xs := #[.tmp 20, .tmp 26]) rfl ?_); at_builtin; refine Kd.R_append (Kd.int .u8) (w0 := w) w.heap.size rfl (.tmp 20) (.tmp 26) 24 5 (.int .u8 0) 1 rfl Try.underlying24 infoU8 rfl (by decide) (by omega) u0 (l0 ++ bs) (a1 / 281474976710656 % 256) [.int .u8 (a1 / 281474976710656 % 256)] (fun _ => True) (fun _ => False) rfl rfl ?aP (fun _ hk => hk.elim) ?aF ?aO ?aB ?aS ?aL ?_; (case aP => exact rfl); (case aF => exact (fun _ _ => trivial)); (case aO => exact HR.out); (case aB => exact (by repeat (first | (with_reducible first | exact HB.out | apply below_alloc | apply pw_below_drewN | apply below_drew1) | exact HB.out))); (case aS => exact (below_size (by repeat (first | (with_reducible first | exact HB.out | apply below_alloc | apply pw_below_drewN | apply below_drew1) | exact HB.out)))); (case aL => have := HL.out; have := HJ1.out; simp only [List.length_append]; omega); intro v1 w1 hr1 hb1 _ _; have n0_ := Aside0.mk hr1; have n1_ := Aside0.mk hb1; clear HR; clear HB; have HR := n0_; have HB := n1_; clear n0_ n1_ hr1 hb1))
        go_roundw
        case measure => simp [intOf]
        case rel => exact ⟨_, 6, bs ++ [a1 / 281474976710656 % 256], rfl, ⟨by omega, by have := HJ1.out; omega⟩, ⟨by have h1 := HX.out; simp only [beN] at h1 ⊢; simpa using h1⟩, ⟨.inr ⟨by have := HJ1.out; omega, by rw [← List.append_assoc]; exact HR.out⟩⟩, HB⟩
    · have HJ1 : Aside0 (j = 7 + 1 ∧ j ≤ s ∧ bs.length + j = s) := ⟨⟨by omega, by omega, by have := congrArg List.length HE.out; simp only [List.length_append, beN_length] at this; exact this⟩⟩
      clear HJ hn hj
      have HL : Aside0 (l0.length ≤ 1000000000000 ∧ s ≤ 8) := ⟨hl, h8⟩
      clear hl h8 hc0
      subst h
      have HX : Aside0 (bs ++ beN a1 (7 + 1) = beN a1 s) := ⟨by rw [← HJ1.out.1]; exact HE.out⟩
      obtain ⟨hj, hx, rfl, hc⟩ | ⟨hj, hr⟩ := HC.out
      · have HR := Aside0.mk hc
        have HZ : Aside0 (bs = []) := ⟨by simpa using hx⟩
        clear hc hx hj HC hr0
        go_wp2_with (first | ((with_reducible refine gate_builtin (b := .append) (xs := #[.tmp 20, .tmp 26]) rfl ?_); at_builtin; refine tight_append (w0 := w) w.heap.size rfl (.tmp 20) (.tmp 26) 24 5 rfl Try.underlying24 infoU8 A0 l0 (a1 / 72057594037927936 % 256) rfl rfl ?aC ?aB ?aS ?aL ?_; (case aC => exact HR.out); (case aB => exact (by repeat (first | (with_reducible first | exact HB.out | apply below_alloc | apply pw_below_drewN | apply below_drew1) | exact HB.out))); (case aS => exact (below_size (by repeat (first | (with_reducible first | exact HB.out | apply below_alloc | apply pw_below_drewN | apply below_drew1) | exact HB.out)))); (case aL => have := HL.out; omega); intro v1 w1 hr1 hb1; have n0_ := Aside0.mk hr1; have n1_ := Aside0.mk hb1; clear HR; clear HB; have HR := n0_; have HB := n1_; clear n0_ n1_ hr1 hb1))
        go_roundw
        case measure => simp [intOf]
        case rel => exact ⟨_, 7, bs ++ [a1 / 72057594037927936 % 256], rfl, ⟨by omega, by have := HJ1.out; omega⟩, ⟨by have h1 := HX.out; simp only [beN] at h1 ⊢; simpa using h1⟩, ⟨.inr ⟨by have := HJ1.out; omega, by rw [HZ.out]; exact HR.out⟩⟩, HB⟩
      · have HR := Aside0.mk hr
        clear hr hj HC hr0
        go_wp2_with (first | ((with_reducible refine gate_builtin (b := .append) (xs := #[.tmp 20, .tmp 26]) rfl ?_); at_builtin; refine Kd.R_append (Kd.int .u8) (w0 := w) w.heap.size rfl (.tmp 20) (.tmp 26) 24 5 (.int .u8 0) 1 rfl Try.underlying24 infoU8 rfl (by decide) (by omega) u0 (l0 ++ bs) (a1 / 72057594037927936 % 256) [.int .u8 (a1 / 72057594037927936 % 256)] (fun _ => True) (fun _ => False) rfl rfl ?aP (fun _ hk => hk.elim) ?aF ?aO ?aB ?aS ?aL ?_; (case aP => exact rfl); (case aF => exact (fun _ _ => trivial)); (case aO => exact HR.out); (case aB => exact (by repeat (first | (with_reducible first | exact HB.out | apply below_alloc | apply pw_below_drewN | apply below_drew1) | exact HB.out))); (case aS => exact (below_size (by repeat (first | (with_reducible first | exact HB.out | apply below_alloc | apply pw_below_drewN | apply below_drew1) | exact HB.out)))); (case aL => have := HL.out; have := HJ1.out; simp only [List.length_append]; omega); intro v1 w1 hr1 hb1 _ _; have n0_ := Aside0.mk hr1; have n1_ := Aside0.mk hb1; clear HR; clear HB; have HR := n0_; have HB := n1_; clear n0_ n1_ hr1 hb1))
        go_roundw
        case measure => simp [intOf]
        case rel => exact ⟨_, 7, bs ++ [a1 / 72057594037927936 % 256], rfl, ⟨by omega, by have := HJ1.out; omega⟩, ⟨by have h1 := HX.out; simp only [beN] at h1 ⊢; simpa using h1⟩, ⟨.inr ⟨by have := HJ1.out; omega, by rw [← List.append_assoc]; exact HR.out⟩⟩, HB⟩

end Go.Proofs.Ytffaljncdcldpaa.G
