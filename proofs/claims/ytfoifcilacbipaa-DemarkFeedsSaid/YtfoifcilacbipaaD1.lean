/- The hand-made contracts of demark.Deframer, first part: what it is in memory. -/
import Derived.Test.YtfoifcilacbipaaG3
namespace Go.Proofs.Ytfoifcilacbipaa.G
open Go.RowKit Go.Proofs.YtfoifcilacbipaaW.PrintWords Go.Proofs.YtfoifcilacbipaaW.PrintLast Go.Proofs.YtfoifcilacbipaaW.PrintMore
set_option linter.unusedVariables false
set_option linter.unusedSimpArgs false

/-- What is outside of a footprint stays. -/
structure Frm (ok : Nat → Prop) (w w' : World) : Prop where mk ::
  os : w'.os = w.os
  tape : w'.tape = w.tape
  output : w'.output = w.output
  size : w.heap.size ≤ w'.heap.size
  block : ∀ k, k < w.heap.size → ¬ ok k → w'.heap[k]? = w.heap[k]?
theorem Frm.refl (ok : Nat → Prop) (w : World) : Frm ok w w := ⟨rfl, rfl, rfl, Nat.le_refl _, fun _ _ _ => rfl⟩
theorem Frm.trans {ok : Nat → Prop} {a b c : World} (h : Frm ok a b) (k : Frm ok b c) : Frm ok a c :=
  ⟨k.os.trans h.os, k.tape.trans h.tape, k.output.trans h.output, Nat.le_trans h.size k.size, fun i hi hg => (k.block i (Nat.lt_of_lt_of_le hi h.size) hg).trans (h.block i hi hg)⟩
theorem Frm.mono {ok ok' : Nat → Prop} {w w' : World} (h : Frm ok w w') (hm : ∀ k, k < w.heap.size → ok k → ok' k) : Frm ok' w w' := ⟨h.os, h.tape, h.output, h.size, fun k hk hn => h.block k hk (fun ho => hn (hm k hk ho))⟩
theorem Frm.of_below {ok : Nat → Prop} {w w' : World} (h : Below w.heap.size w w') : Frm ok w w' := ⟨h.os, h.tape, h.output, h.size, fun k hk _ => h.block k hk⟩
theorem Frm.of_mov {ok : Nat → Prop} {g : Nat} {w w' : World} (h : Mov g w w') (hg : g < w.heap.size → ok g) : Frm ok w w' := ⟨h.os, h.tape, h.output, h.size, fun k hk hn => h.block k hk (fun e => hn (e ▸ hg (e ▸ hk)))⟩
theorem Frm.alloc {ok : Nat → Prop} {a w : World} (h : Frm ok a w) (o : Obj) : Frm ok a (w.alloc o) := h.trans (Frm.of_below (below_alloc (Below.refl _ _) o))
theorem Frm.drewN {ok : Nat → Prop} {a w : World} (h : Frm ok a w) (n : Nat) : Frm ok a (w.drewN n) := h.trans (Frm.of_below (pw_below_drewN (Below.refl _ _) n))
theorem Frm.set {ok : Nat → Prop} {a w : World} (h : Frm ok a w) (g j : Nat) (hg : ok g) (u : Value) : Frm ok a (w.setCell ⟨g, j, none⟩ u) := h.trans (Frm.of_mov ((Mov.refl g w).set j u) (fun _ => hg))
theorem Frm.grown {ok : Nat → Prop} {a w w' : World} {row : Option Nat} (h : Frm ok a w) (hg : w.grownBy w' row) (hr : ∀ k, row = some k → k < w.heap.size → ok k) : Frm ok a w' :=
  h.trans ⟨hg.os, hg.tape, hg.output, hg.size, fun k hk hn => hg.block k hk (fun e => hn (hr k e.symm hk))⟩
theorem Frm.below {ok : Nat → Prop} {B : Nat} {w0 w w' : World} (h : Below B w0 w) (m : Frm ok w w') (hB : B ≤ w0.heap.size) (hg : ∀ k, ok k → B ≤ k) : Below B w0 w' :=
  ⟨m.os.trans h.os, m.tape.trans h.tape, m.output.trans h.output, Nat.le_trans h.size m.size, fun k hk => (m.block k (Nat.lt_of_lt_of_le hk (Nat.le_trans hB h.size)) (fun ho => by have := hg k ho; omega)).trans (h.block k hk)⟩

theorem F_cell' {w : World} {ok : Nat → Prop} {A : Option Addr} {B : List Int} (hf : Kd.F (Kd.int .u8) w ok A B.length B) (i : Nat) (hi : i < B.length) : ∃ ad, A = some ad ∧ w.cell? (ad.add i) = some (.int .u8 (rd B (i : Int))) := by
  obtain ⟨ad, had, hx⟩ := Kd.at_int (Kd.F_now hf) (i : Int) (by omega) (by omega)
  exact ⟨ad, had, by rw [Int.toNat_natCast] at hx; exact hx⟩

/-- What a deframer holds: its limits; what it does with the next byte (0: a number's, 1: a fragment's, 2: nothing); the number's bytes, the record's; how many bytes are left, how many fragments there were, whether this is the last one; the records that are there; the error. -/
structure DSt where
  most : Int
  frags : Int
  mode : Nat
  head : List Int
  frag : List Int
  left : Int
  n : Int
  ends : Bool
  out : List (List Int)
  e : Int

def nextV (g : Nat) : Nat → Value
  | 0 => .func (.func 42) #[.pointer (some ⟨g, 0, none⟩)] #[]
  | 1 => .func (.func 48) #[.pointer (some ⟨g, 0, none⟩)] #[]
  | _ => .func (.func 50) #[] #[]

/-- The rows of a deframer. -/
def DRows (ok : Nat → Prop) (w : World) (g : Nat) (s : DSt) (vh vr vo : Value) : Prop :=
  Kd.R (Kd.int .u8) 5 w 0 (fun k => ok k ∧ k ≠ g) vh s.head ∧
  Kd.R (Kd.int .u8) 5 w 0 (fun k => (ok k ∧ k ≠ g) ∧ some k ≠ vh.ownBlock) vr s.frag ∧
  Kd.N (Kd.slice 5 (Kd.int .u8)) 28 w 0 (fun k => ((ok k ∧ k ≠ g) ∧ some k ≠ vh.ownBlock) ∧ some k ≠ vr.ownBlock) vo s.out

def DBlk (g : Nat) (s : DSt) (vh vr vo : Value) : Array Value := #[.int .i64 s.most, .int .i64 s.frags, nextV g s.mode, vh, vr, .int .i64 s.left, .int .i64 s.n, .bool s.ends, vo, .int .i64 s.e]

def DF (ok : Nat → Prop) (w : World) (g : Nat) (s : DSt) : Prop :=
  ok g ∧ ∃ vh vr vo, w.heap[g]? = some (.cells (DBlk g s vh vr vo) 86 (0, 0)) ∧ DRows ok w g s vh vr vo

/-- Another one's doings leave it as it is. -/
theorem DF_frm {ok ok' : Nat → Prop} {w w' : World} {g : Nat} {s : DSt} (h : DF ok w g s) (m : Frm ok' w w') (hd : ∀ k, ok k → k < w.heap.size → ¬ ok' k) : DF ok w' g s := by
  obtain ⟨hg, vh, vr, vo, hb, h1, h2, h3⟩ := h
  exact ⟨hg, vh, vr, vo, (m.block g (blk_lt hb) (hd g hg (blk_lt hb))).trans hb, Kd.R_step h1 (fun k hk hlt => m.block k hlt (hd k hk.1 hlt)), Kd.R_step h2 (fun k hk hlt => m.block k hlt (hd k hk.1.1 hlt)), Kd.N_step h3 (fun k hk hlt => m.block k hlt (hd k hk.1.1.1 hlt))⟩
theorem DF_below {ok : Nat → Prop} {w w' : World} {g : Nat} {s : DSt} (h : DF ok w g s) (m : Below w.heap.size w w') : DF ok w' g s := DF_frm h (Frm.of_below (ok := fun _ => False) m) (fun _ _ _ h => h)

theorem DF_mono {ok ok' : Nat → Prop} {w : World} {g : Nat} {s : DSt} (h : DF ok w g s) (m : ∀ k, ok k → ok' k) : DF ok' w g s := by
  obtain ⟨hg, vh, vr, vo, hb, h1, h2, h3⟩ := h
  exact ⟨m g hg, vh, vr, vo, hb, Kd.R_mono h1 (fun k hk => ⟨m k hk.1, hk.2⟩), Kd.R_mono h2 (fun k hk => ⟨⟨m k hk.1.1, hk.1.2⟩, hk.2⟩), Kd.N_mono h3 (fun k hk => ⟨⟨⟨m k hk.1.1.1, hk.1.1.2⟩, hk.1.2⟩, hk.2⟩)⟩
theorem DF_bound {ok : Nat → Prop} {w : World} {g : Nat} {s : DSt} (h : DF ok w g s) : DF (fun k => ok k ∧ k < w.heap.size) w g s := by
  obtain ⟨hg, vh, vr, vo, hb, h1, h2, h3⟩ := h
  exact ⟨⟨hg, blk_lt hb⟩, vh, vr, vo, hb, Kd.R_mono (Kd.R_bound h1) (fun k hk => ⟨⟨hk.1.1, hk.2.2.1⟩, hk.1.2⟩), Kd.R_mono (Kd.R_bound h2) (fun k hk => ⟨⟨⟨hk.1.1.1, hk.2.2.1⟩, hk.1.1.2⟩, hk.1.2⟩), Kd.N_mono (Kd.N_bound h3) (fun k hk => ⟨⟨⟨⟨hk.1.1.1.1, hk.2⟩, hk.1.1.1.2⟩, hk.1.1.2⟩, hk.1.2⟩)⟩

/-! One byte. -/
def dFail (s : DSt) (e : Int) : DSt := { s with e := e, head := [], frag := [], mode := 2 }
def dOver (s : DSt) : DSt := if s.ends then { s with mode := 0, out := s.out ++ [s.frag], frag := [], n := 0 } else { s with mode := 0 }
def dBody (s : DSt) (c : Int) : DSt := let t := { s with frag := s.frag ++ [c], left := s.left - 1 }; if t.left = 0 then dOver t else t
def num4 (l : List Int) : Int := valN 0 (takeO 0 l 4) % 4294967296
def dNumber (s : DSt) (c : Int) : DSt :=
  if s.head.length + 1 < 4 then { s with head := s.head ++ [c] }
  else
    let v := num4 (s.head ++ [c])
    let t := { s with head := [], n := s.n + 1, ends := decide (2147483648 ≤ v), left := v % 2147483648 }
    if t.n > t.frags then dFail t 5 else if t.left > t.most - t.frag.length then dFail t 4 else if t.left = 0 then dOver t else { t with mode := 1 }
def dStep (s : DSt) (c : Int) : DSt := match s.mode with | 0 => dNumber s c | 1 => dBody s c | _ => s
end Go.Proofs.Ytfoifcilacbipaa.G
