/- The hand-made contracts of xdr.Reader: what is left of the bytes, and the first error; each call moves them on. -/
import Derived.Test.YtfoifcilacbipaaG0
import Derived.WalkSpells
namespace Go.Proofs.Ytfoifcilacbipaa.G
open Go.RowKit Go.Proofs.YtfoifcilacbipaaW.PrintWords Go.Proofs.YtfoifcilacbipaaW.PrintLast Go.Proofs.YtfoifcilacbipaaW.PrintMore
set_option linter.unusedVariables false
set_option linter.unusedSimpArgs false

/-- What was there stays, but for one block; new memory may have been made. -/
structure Mov (g : Nat) (w w' : World) : Prop where
  os : w'.os = w.os
  tape : w'.tape = w.tape
  output : w'.output = w.output
  size : w.heap.size ≤ w'.heap.size
  block : ∀ k, k < w.heap.size → k ≠ g → w'.heap[k]? = w.heap[k]?
theorem Mov.refl (g : Nat) (w : World) : Mov g w w := ⟨rfl, rfl, rfl, Nat.le_refl _, fun _ _ _ => rfl⟩
theorem Mov.trans {g : Nat} {a b c : World} (h : Mov g a b) (k : Mov g b c) : Mov g a c :=
  ⟨k.os.trans h.os, k.tape.trans h.tape, k.output.trans h.output, Nat.le_trans h.size k.size, fun i hi hg => (k.block i (Nat.lt_of_lt_of_le hi h.size) hg).trans (h.block i hi hg)⟩
theorem Mov.of_below {g : Nat} {w w' : World} (h : Below w.heap.size w w') : Mov g w w' := ⟨h.os, h.tape, h.output, h.size, fun k hk _ => h.block k hk⟩
theorem Mov.set {g : Nat} {a w : World} (h : Mov g a w) (j : Nat) (u : Value) : Mov g a (w.setCell ⟨g, j, none⟩ u) := by
  have h2 : Below g w (w.setCell ⟨g, j, none⟩ u) ∨ True := .inr trivial
  have hb := (Below.refl 0 w).setCell (p := ⟨g, j, none⟩) (Nat.zero_le _) u
  exact ⟨hb.os.trans h.os, hb.tape.trans h.tape, hb.output.trans h.output, Nat.le_trans h.size hb.size, fun k hk hg => (Below.heap_setCell w _ u k hg).trans (h.block k hk hg)⟩
theorem Mov.below {g B : Nat} {w0 w w' : World} (h : Below B w0 w) (m : Mov g w w') (hB : B ≤ w0.heap.size) (hg : B ≤ g) : Below B w0 w' :=
  ⟨m.os.trans h.os, m.tape.trans h.tape, m.output.trans h.output, Nat.le_trans h.size m.size, fun k hk => (m.block k (Nat.lt_of_lt_of_le hk (Nat.le_trans hB h.size)) (by omega)).trans (h.block k hk)⟩

/-- A reader: its first error, and what is left. -/
def RD (ok : Nat → Prop) (w : World) (g : Nat) (e : Int) (xs : List Int) : Prop :=
  ok g ∧ ∃ A c, w.heap[g]? = some (.cells #[.int .i64 e, .slice A xs.length c] 77 (0, 0)) ∧ xs.length ≤ c ∧ Kd.F (Kd.int .u8) w (fun k => ok k ∧ k ≠ g) A xs.length xs

theorem RD_mov {ok : Nat → Prop} {g g' : Nat} {w w' : World} {e : Int} {xs : List Int} (h : RD ok w g e xs) (m : Mov g' w w') (hok : ¬ ok g') : RD ok w' g e xs := by
  obtain ⟨hb, A, c, hc, hl, hf⟩ := h
  exact ⟨hb, A, c, (m.block g (blk_lt hc) (fun h => hok (h ▸ hb))).trans hc, hl, Kd.F_step hf (fun k hk hlt => m.block k hlt (fun h => hok (h ▸ hk.1)))⟩
theorem RD_below {ok : Nat → Prop} {g : Nat} {w w' : World} {e : Int} {xs : List Int} (h : RD ok w g e xs) (m : Below w.heap.size w w') : RD ok w' g e xs := by
  obtain ⟨hb, A, c, hc, hl, hf⟩ := h
  exact ⟨hb, A, c, (m.block g (blk_lt hc)).trans hc, hl, Kd.F_below hf m⟩
theorem RD_mono {ok ok' : Nat → Prop} {g : Nat} {w : World} {e : Int} {xs : List Int} (h : RD ok w g e xs) (m : ∀ k, ok k → ok' k) : RD ok' w g e xs := by
  obtain ⟨hb, A, c, hc, hl, hf⟩ := h
  exact ⟨m _ hb, A, c, hc, hl, Kd.F_mono hf (fun k hk => ⟨m k hk.1, hk.2⟩)⟩
theorem RD_e {ok : Nat → Prop} {g : Nat} {w : World} {e : Int} {xs : List Int} (h : RD ok w g e xs) : w.cell? ⟨g, 0, none⟩ = some (.int .i64 e) := by
  obtain ⟨hb, A, c, hc, hl, hf⟩ := h
  exact (blk_cell hc 0).trans rfl

set_option maxHeartbeats 8000000 in
set_option maxRecDepth 100000 in
theorem fail_calls (ok : Nat → Prop) (g : Nat) (e e1 : Int) (xs : List Int) (w : World) (h : RD ok w g e xs) :
    Calls Try.prog 51 #[.pointer (some ⟨g, 0, none⟩), .int .i64 e1] w fun r w' => r = .returned (.tuple #[]) ∧ RD ok w' g (if e = 0 then e1 else e) [] ∧ Mov g w w' := by
  have hu := Try.underlying77
  have hu2 := Try.underlying75
  obtain ⟨hb, A, c, hc, hl, hf⟩ := h
  have hc0 : w.cell? ⟨g, 0, none⟩ = some (.int .i64 e) := (blk_cell hc 0).trans rfl
  have hc1 : w.cell? ⟨g, 1, none⟩ = some (.slice A xs.length c) := (blk_cell hc 1).trans rfl
  have hz0 := blk_frozen hc 0
  have hz1 := blk_frozen hc 1
  have BK := Aside0.mk hc
  clear hc hf
  by_cases he : e = 0
  · have he0 : (e == 0) = true := beq_iff_eq.mpr he
    rw [if_pos he]
    go_enter Try.func51, Try.ntmps51
    go_wp2
    go_end0
    refine ⟨rfl, ⟨hb, none, 0, blk_put (cs := #[.int .i64 e1, .slice A xs.length c]) (blk_put BK.out 0 _ rfl) 1 _ rfl, Nat.le_refl _, Kd.F_nil _ _ _⟩, ((Mov.refl g w).set 0 _).set 1 _⟩
  · have he0 : (e == 0) = false := beq_eq_false_iff_ne.mpr he
    rw [if_neg he]
    go_enter Try.func51, Try.ntmps51
    go_wp2
    go_end0
    refine ⟨rfl, ⟨hb, none, 0, blk_put BK.out 1 _ rfl, Nat.le_refl _, Kd.F_nil _ _ _⟩, (Mov.refl g w).set 1 _⟩

/-- What a reader hands out: a part of its bytes, only to be read. -/
def Part (ok : Nat → Prop) (g : Nat) (w : World) (v : Value) (xs : List Int) : Prop := ∃ A c, v = .slice A xs.length c ∧ xs.length ≤ c ∧ Kd.F (Kd.int .u8) w (fun k => ok k ∧ k ≠ g) A xs.length xs
def takeE (e : Int) (xs : List Int) (n : Nat) : Int := if e = 0 then (if xs.length < n then 3 else 0) else e
def takeL (e : Int) (xs : List Int) (n : Nat) : List Int := if e = 0 ∧ n ≤ xs.length then xs.drop n else []
def takeO (e : Int) (xs : List Int) (n : Nat) : List Int := if e = 0 ∧ n ≤ xs.length then xs.take n else []

theorem take_done {ok : Nat → Prop} {g n c c' : Nat} {xs : List Int} {w : World} {A A' : Option Addr} (hb : ok g) (hc : w.heap[g]? = some (.cells #[.int .i64 0, .slice A xs.length c] 77 (0, 0)))
    (hf : Kd.F (Kd.int .u8) w (fun k => ok k ∧ k ≠ g) A xs.length xs) (hs : n ≤ xs.length) (hl : xs.length ≤ c) (hA : A' = if c = n then A else A.map (·.add n)) (hc' : c' = c - n) :
    ∃ v, Ending.returned (.slice A n n) = .returned v ∧ Part ok g (w.setCell ⟨g, 1, none⟩ (.slice A' (xs.length - n) c')) v (xs.take n) ∧ RD ok (w.setCell ⟨g, 1, none⟩ (.slice A' (xs.length - n) c')) g 0 (xs.drop n) ∧ Mov g w (w.setCell ⟨g, 1, none⟩ (.slice A' (xs.length - n) c')) := by
  subst hA
  subst hc'
  generalize hA2 : (if c = n then A else A.map (·.add n)) = A'
  have hst : ∀ k, ok k ∧ k ≠ g → k < w.heap.size → (w.setCell ⟨g, 1, none⟩ (.slice A' (xs.length - n) (c - n))).heap[k]? = w.heap[k]? := fun k hk _ => Below.heap_setCell w _ _ k hk.2
  have h1 := Kd.F_step (Kd.F_take hf hs) hst
  have h2 := Kd.F_step (Kd.F_cut hf hs hl) hst
  have hlt : (xs.take n).length = n := by rw [List.length_take]; omega
  have hld : (xs.drop n).length = xs.length - n := List.length_drop
  refine ⟨_, rfl, ⟨A, n, by rw [hlt], by omega, h1⟩, ⟨hb, A', c - n, ?_, by rw [hld]; omega, ?_⟩, (Mov.refl g w).set 1 _⟩
  · rw [hld]; exact blk_put hc 1 _ rfl
  · rw [← hA2]
    have he : n * (Kd.int .u8).sz = n := by rw [show (Kd.int .u8).sz = 1 from rfl]; omega
    rw [he, hA2] at h2
    rw [hA2]
    exact h2

set_option maxHeartbeats 8000000 in
set_option maxRecDepth 100000 in
theorem take_calls (ok : Nat → Prop) (g : Nat) (e : Int) (xs : List Int) (n : Nat) (w : World) (h : RD ok w g e xs) (hn : n ≤ 4294967296) :
    Calls Try.prog 49 #[.pointer (some ⟨g, 0, none⟩), .int .i64 (n : Int)] w fun r w' => ∃ v, r = .returned v ∧ Part ok g w' v (takeO e xs n) ∧ RD ok w' g (takeE e xs n) (takeL e xs n) ∧ Mov g w w' := by
  have hu := Try.underlying77
  have hu2 := Try.underlying75
  have hRD := h
  obtain ⟨hb, A, c, hc, hl, hf⟩ := h
  have hc0 : w.cell? ⟨g, 0, none⟩ = some (.int .i64 e) := (blk_cell hc 0).trans rfl
  have hc1 : w.cell? ⟨g, 1, none⟩ = some (.slice A xs.length c) := (blk_cell hc 1).trans rfl
  have hz0 := blk_frozen hc 0
  have hz1 := blk_frozen hc 1
  have BK := Aside0.mk hc
  have HF := Aside0.mk hf
  have HRD := Aside0.mk hRD
  clear hc hf hRD
  unfold takeO takeE takeL
  by_cases he : e = 0
  · have he0 : (e != 0) = false := bne_eq_false_iff_eq.mpr he
    by_cases hs : n ≤ xs.length
    · have hs0 : decide ((n : Int) > (xs.length : Int)) = false := decide_eq_false (by omega)
      have hs1 : decide ((xs.length : Int) < (n : Int)) = false := decide_eq_false (by omega)
      rw [if_pos ⟨he, hs⟩, if_pos he, if_neg (by omega), if_pos ⟨he, hs⟩]
      have hA : 0 < xs.length → ∃ ad, A = some ad := fun hp => by
        obtain ⟨ad, e1, _⟩ := (Kd.F_now HF.out).2.2 hp
        exact ⟨ad, e1⟩
      have hn1 : (0 : Int) ≤ (n : Int) := by omega
      have hn2 : (n : Int) ≤ (xs.length : Int) := by omega
      have hn3 : (n : Int) ≤ (c : Int) := by omega
      go_enter Try.func49, Try.ntmps49
      go_wp2
      all_goals go_ret
      all_goals (subst he; exact take_done hb BK.out HF.out hs hl (by first | exact (if_pos (by omega)).symm | exact (if_neg (by omega)).symm) (by omega))
    · have hs0 : decide ((n : Int) > (xs.length : Int)) = true := decide_eq_true (by omega)
      have hs1 : decide ((xs.length : Int) < (n : Int)) = true := decide_eq_true (by omega)
      rw [if_neg (fun h => hs h.2), if_pos he, if_pos (by omega), if_neg (fun h => hs h.2)]
      go_enter Try.func49, Try.ntmps49
      go_wp2_with fail
      refine (fail_calls ok g e 3 xs _ HRD.out).mono ?_
      rintro r w1 ⟨rfl, hr, hm⟩
      rw [if_pos he] at hr
      go_wp2
      go_ret
      exact ⟨_, rfl, ⟨none, 0, rfl, Nat.le_refl _, Kd.F_nil _ _ _⟩, hr, hm⟩
  · have he0 : (e != 0) = true := bne_iff_ne.mpr he
    rw [if_neg (fun h => he h.1), if_neg he, if_neg (fun h => he h.1)]
    go_enter Try.func49, Try.ntmps49
    go_wp2_with fail
    refine (fail_calls ok g e 3 xs _ HRD.out).mono ?_
    rintro r w1 ⟨rfl, hr, hm⟩
    rw [if_neg he] at hr
    go_wp2
    go_ret
    exact ⟨_, rfl, ⟨none, 0, rfl, Nat.le_refl _, Kd.F_nil _ _ _⟩, hr, hm⟩

/-- Bytes' number, the greatest part first. -/
def valN : Int → List Int → Int
  | acc, [] => acc
  | acc, x :: xs => valN (Go.bits .or .u64 (IntKind.u64.wrap (acc * 256)) (IntKind.u64.wrap x)) xs

set_option maxHeartbeats 8000000 in
set_option maxRecDepth 100000 in
theorem numberR_calls (ok : Nat → Prop) (g : Nat) (e : Int) (xs : List Int) (n : Nat) (w : World) (h : RD ok w g e xs) (hn : n ≤ 4294967296) :
    Calls Try.prog 44 #[.pointer (some ⟨g, 0, none⟩), .int .i64 (n : Int)] w fun r w' => r = .returned (.int .u64 (valN 0 (takeO e xs n))) ∧ RD ok w' g (takeE e xs n) (takeL e xs n) ∧ Mov g w w' := by
  go_enter Try.func44, Try.ntmps44
  go_wp2_with fail
  refine (take_calls ok g e xs n w h hn).mono ?_
  rintro r w1 ⟨v, rfl, ⟨A, c, rfl, hc, hf⟩, hr, hm⟩
  have HF := Aside0.mk (Kd.F_now hf)
  have HR := Aside0.mk hr
  have HM := Aside0.mk hm
  have hlen : (takeO e xs n).length ≤ n := by unfold takeO; split <;> simp [List.length_take] <;> omega
  clear hf hr hm
  obtain ⟨ys, hys⟩ : ∃ ys, ys = takeO e xs n := ⟨_, rfl⟩
  rw [← hys] at HF hc hlen ⊢
  have HY := Aside0.mk hys
  clear hys
  go_wp2
  go_loopw [5, 12] (fun u v w' => ∃ (i : Nat) (acc : Int), u = .int .u64 acc ∧ v = .int .i64 (i : Int) ∧ Aside0 (i ≤ ys.length) ∧ Aside0 (valN acc (ys.drop i) = valN 0 ys) ∧ Aside0 (w' = w1))
    (fun _ v _ => (ys.length - intOf v).toNat)
  case atStart => exact ⟨0, 0, rfl, rfl, ⟨Nat.zero_le _⟩, ⟨by simp⟩, ⟨rfl⟩⟩
  case round =>
    obtain ⟨i, acc, rfl, rfl, HI, HV, HW⟩ := hrel
    obtain rfl := HW.out
    by_cases hi : i < ys.length
    · have c5 : decide ((i : Int) < (ys.length : Int)) = true := decide_eq_true (by omega)
      have hi0 : (0 : Int) ≤ (i : Int) := by omega
      obtain ⟨ad, had, hx⟩ := Kd.at_int HF.out (i : Int) hi0 (by omega)
      subst had
      have hx' : wr.cell? (ad.add i) = some (.int .u8 (rd ys (i : Int))) := by rw [Int.toNat_natCast] at hx; exact hx
      have hr0 : rd ys (i : Int) = ys[i] := by
        unfold rd
        rw [Int.toNat_natCast, List.getD_eq_getElem?_getD, List.getElem?_eq_getElem hi]
        rfl
      generalize hb : rd ys (i : Int) = p at hx hx' hr0
      have hd : ys.drop i = p :: ys.drop (i + 1) := by rw [List.drop_eq_getElem_cons hi, ← hr0]
      go_wp2
      go_roundw
      case rel => exact ⟨i + 1, _, rfl, by simp, ⟨by omega⟩, ⟨by rw [← HV.out, hd]; simp only [valN, hr0]⟩, ⟨by first | trivial | rfl⟩⟩
      case measure => simp [intOf]; omega
    · have c5 : decide ((i : Int) < (ys.length : Int)) = false := decide_eq_false (by omega)
      have hi2 : i = ys.length := by have := HI.out; omega
      go_wp2
      go_ret
      refine ⟨?_, HR.out, HM.out⟩
      rw [← HY.out, ← HV.out, hi2]
      simp [valN]

set_option maxHeartbeats 8000000 in
set_option maxRecDepth 100000 in
theorem U32R_calls (ok : Nat → Prop) (g : Nat) (e : Int) (xs : List Int) (w : World) (h : RD ok w g e xs) :
    Calls Try.prog 36 #[.pointer (some ⟨g, 0, none⟩)] w fun r w' => r = .returned (.int .u32 (valN 0 (takeO e xs 4) % 4294967296)) ∧ RD ok w' g (takeE e xs 4) (takeL e xs 4) ∧ Mov g w w' := by
  go_enter Try.func36, Try.ntmps36
  go_wp2_with fail
  refine (numberR_calls ok g e xs 4 w h (by decide)).mono ?_
  rintro r w1 ⟨rfl, hr, hm⟩
  go_wp2
  go_ret
  exact ⟨by first | rfl | simp, hr, hm⟩

set_option maxHeartbeats 8000000 in
set_option maxRecDepth 100000 in
theorem ErrnoR_calls (ok : Nat → Prop) (g : Nat) (e : Int) (xs : List Int) (w : World) (h : RD ok w g e xs) :
    Calls Try.prog 37 #[.pointer (some ⟨g, 0, none⟩)] w fun r w' => r = .returned (.int .i64 e) ∧ w' = w := by
  have hu2 := Try.underlying75
  obtain ⟨hb, A, c, hc, hl, hf⟩ := h
  have hc0 : w.cell? ⟨g, 0, none⟩ = some (.int .i64 e) := (blk_cell hc 0).trans rfl
  clear hc hf
  go_enter Try.func37, Try.ntmps37
  go_wp2
  go_ret
  exact ⟨rfl, rfl⟩

/-- The error, bytes that are left one, too. -/
def endE (e : Int) (xs : List Int) : Int := if xs = [] then e else 2

def readU32 (e : Int) (xs : List Int) : Int := valN 0 (takeO e xs 4) % 4294967296
def failE (e e1 : Int) : Int := if e = 0 then e1 else e
def boolE (e : Int) (xs : List Int) : Int := if readU32 e xs > 1 then failE (takeE e xs 4) 2 else takeE e xs 4
def boolL (e : Int) (xs : List Int) : List Int := if readU32 e xs > 1 then [] else takeL e xs 4


theorem infoU8r : (Try.prog.info? 5).map (fun i => (i.zero, i.size, i.bytes)) = some (some (.int .u8 0), 1, 1) := by kernel_rfl

set_option maxHeartbeats 8000000 in
set_option maxRecDepth 100000 in
theorem Read_calls (A0 : Option Addr) (c0 : Nat) (l0 : List Int) (w : World) (hr0 : Kd.C (Kd.int .u8) w A0 l0.length l0) (hc0 : l0.length ≤ c0) (hl : l0.length ≤ 1000000000000) :
    Calls Try.prog 34 #[.slice A0 l0.length c0] w fun r w' => ∃ g, r = .returned (.pointer (some ⟨g, 0, none⟩)) ∧ w.heap.size ≤ g ∧ g < w'.heap.size ∧ RD (fun k => w.heap.size ≤ k ∧ k < w'.heap.size) w' g 0 l0 ∧ Below w.heap.size w w' := by
  have HR := Aside0.mk hr0
  have HL := Aside0.mk hl
  have HB := Aside0.mk (Below.refl w.heap.size w)
  clear hr0 hl hc0
  go_enter Try.func34, Try.ntmps34
  go_wp2_with (first | ((with_reducible refine gate_builtin (b := .append) (xs := #[.const (.slice none 0 0), .tmp 3]) rfl ?_); at_builtin; refine Kd.R_append_rows (Kd.int .u8) (w0 := w) w.heap.size rfl (.const (.slice none 0 0)) (.tmp 3) 28 5 (.int .u8 0) 1 rfl Try.underlying28 infoU8r rfl (by decide) (by omega) (.slice none 0 0) ([] : List Int) l0 _ _ _ (fun _ => True) (fun _ => False) rfl rfl ?aO ?aR (fun _ _ h => h) (fun _ h => h.elim) ?aF ?aB ?aS ?aL ?_; (case aR => exact HR.out); (case aB => exact HB.out); (case aF => exact (fun _ _ => trivial)); (case aO => exact (Kd.R_nil _ _ _ _ (fun _ => True))); (case aS => exact Nat.le_refl _); (case aL => have := HL.out; simp; omega); intro v1 w1 ho hb hg hat; rw [List.nil_append] at ho; obtain ⟨A1, c1, rfl, hl1, _⟩ := Kd.R_reads ho; have HO := Aside0.mk ho; have HB1 := Aside0.mk hb; have HL1 := Aside0.mk hl1; clear ho hb hg hat hl1))
  go_ret
  refine ⟨w1.heap.size, rfl, HB1.out.size, by simp, ⟨⟨HB1.out.size, by simp⟩, A1, c1, heap_alloc_new w1 _, HL1.out, ?_⟩, HB1.out.alloc HB1.out.size _⟩
  refine Kd.F_alloc (Kd.F_mono (Kd.R_F (Kd.R_bound HO.out)) (fun k hk => ?_)) _
  have h3 := hk.2.2.1
  exact ⟨⟨hk.2.1, by simp; omega⟩, by omega⟩
end Go.Proofs.Ytfoifcilacbipaa.G
