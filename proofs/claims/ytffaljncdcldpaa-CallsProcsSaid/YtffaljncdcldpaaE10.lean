/- Hand-made contracts of calls: Write refuses; May and Write in the printer's terms. -/
import Derived.Test.YtffaljncdcldpaaE9
namespace Go.Proofs.Ytffaljncdcldpaa.G
open Go.RowKit Go.Proofs.YtffaljncdcldpaaW.PrintWords Go.Proofs.YtffaljncdcldpaaW.PrintLast Go.Proofs.YtffaljncdcldpaaW.PrintMore
set_option linter.unusedVariables false
set_option linter.unusedSimpArgs false

set_option maxHeartbeats 16000000 in
set_option maxRecDepth 100000 in
theorem Write_no (a : AR) (la : List Int) (w : World) (h1 : Kd.C (Kd.int .u8) w a.dA a.dN la) (hn1 : a.n.size ≤ maxLen) (hn2 : a.n2.size ≤ maxLen) (hm : mayA a la = false) :
    Calls Try.prog 15 #[.agg #[.int .i64 a.p, .int .i64 a.o, .int .i64 a.c, .int .i64 a.z, .int .i64 a.m, .int .i64 a.i, .int .i64 a.g, .int .i64 a.i2, .int .i64 a.g2, .string a.n, .string a.n2, .slice a.dA a.dN a.dC]] w fun e w' => e = .returned (.tuple #[.slice none 0 0, .int .i64 1]) ∧ Below w.heap.size w w' := by
  have hu1 := Try.underlying26
  have hu2 := Try.underlying23
  have H1 := Aside0.mk h1
  have HN := Aside0.mk (And.intro hn1 hn2)
  have HM := Aside0.mk hm
  clear h1 hn1 hn2 hm
  go_enter Try.func15, Try.ntmps15
  go_wp2_with fail
  refine (May_calls a la _ (Kd.C_below H1.out (below_alloc (Below.refl _ _) _)) HN.out.1 HN.out.2).mono ?_
  rw [HM.out]
  rintro e w2 ⟨rfl, hb⟩
  have HB := Aside0.mk (below_then (below_alloc (Below.refl w.heap.size w) _) (by rw [asz]; omega) hb)
  clear hb
  go_wp2_with fail
  go_ret2
  exact ⟨rfl, HB.out⟩

/-- An AR of parts; its Data tells its length alone. -/
def arOf (p o c z m i g i2 g2 : Int) (n n2 : ByteArray) (la : List Int) : AR := ⟨p, o, c, z, m, i, g, i2, g2, n, n2, none, la.length, 0⟩
theorem mayA_any (p o c z m i g i2 g2 : Int) (n n2 : ByteArray) (A : Option Addr) (k : Nat) (la : List Int) : mayA ⟨p, o, c, z, m, i, g, i2, g2, n, n2, A, la.length, k⟩ la = mayA (arOf p o c z m i g i2 g2 n n2 la) la := by
  unfold mayA sameA arOf
  rw [ownA_eq, ownA_eq]
  rfl
theorem writeA_any (p o c z m i g i2 g2 : Int) (n n2 : ByteArray) (A : Option Addr) (k : Nat) (la : List Int) : writeA ⟨p, o, c, z, m, i, g, i2, g2, n, n2, A, la.length, k⟩ la = writeA (arOf p o c z m i g i2 g2 n n2 la) la := rfl

def smallS (n n2 : ByteArray) : Bool := decide (n.size ≤ 1000000) && decide (n2.size ≤ 1000000)
def byB (l : List Int) : Bool := l.all (fun x => decide (0 ≤ x) && decide (x ≤ 255))
theorem byB_all {l : List Int} (h : byB l = true) : ∀ x ∈ l, 0 ≤ x ∧ x ≤ 255 := by
  intro x hx
  have := (List.all_eq_true.1 h) x hx
  simp only [Bool.and_eq_true, decide_eq_true_eq] at this
  exact this
end Go.Proofs.Ytffaljncdcldpaa.G
