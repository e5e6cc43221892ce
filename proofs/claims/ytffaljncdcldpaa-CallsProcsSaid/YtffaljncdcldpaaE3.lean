/- Hand-made contracts of calls: Same; of the document's Same. -/
import Derived.Test.YtffaljncdcldpaaE2
namespace Go.Proofs.Ytffaljncdcldpaa.G
open Go.RowKit Go.Proofs.YtffaljncdcldpaaW.PrintWords Go.Proofs.YtffaljncdcldpaaW.PrintLast Go.Proofs.YtffaljncdcldpaaW.PrintMore
set_option linter.unusedVariables false
set_option linter.unusedSimpArgs false

def sameA (a b : AR) (la lb : List Int) : Bool := ((a.p == b.p) && ((a.o == b.o) && ((a.c == b.c) && ((a.z == b.z) && ((a.m == b.m) && ((a.i == b.i && (a.g == b.g)) && ((a.i2 == b.i2 && (a.g2 == b.g2)) && ((a.n.toList == b.n.toList) && ((a.n2.toList == b.n2.toList) && ((strOfNums la).toList == (strOfNums lb).toList))))))))))

theorem eqHandle (d : Nat) (w : World) (x0 y0 x1 y1 : Int) :
    (Op.equalIn (d + 2) 23 (.agg #[.int .i64 x0, .int .i64 x1]) (.agg #[.int .i64 y0, .int .i64 y1])).run Try.prog w = .ok (x0 == y0 && (x1 == y1)) w := by
  refine eqA_of Try.underlying23 (by kernel_rfl) ?_
  refine eqf_cons (by rfl) (by go_simp; rfl) (by go_simp; rfl) (by go_simp) ?_
  exact eqf_last (by rfl) (by go_simp; rfl) (by go_simp; rfl) (by go_simp)

theorem Equal_any (A1 : Option Addr) (n1 c1 : Nat) (l1 : List Int) (A2 : Option Addr) (n2 c2 : Nat) (l2 : List Int) (w : World) (h1 : Kd.C (Kd.int .u8) w A1 n1 l1) (h2 : Kd.C (Kd.int .u8) w A2 n2 l2) :
    Calls Try.prog 45 #[.slice A1 n1 c1, .slice A2 n2 c2] w fun e w' => e = .returned (.bool ((strOfNums l1).toList == (strOfNums l2).toList)) ∧ w' = w := by
  have hcv1 := fun c => Kd.C_string (P := Try.prog) (src := 24) (dst := 9) (c := c) Try.underlying24 Try.underlying5 Try.underlying9 h1
  have hcv2 := fun c => Kd.C_string (P := Try.prog) (src := 24) (dst := 9) (c := c) Try.underlying24 Try.underlying5 Try.underlying9 h2
  clear h1 h2
  go_enter Try.func45, Try.ntmps45
  go_wp2_with fail
  go_ret
  exact ⟨rfl, rfl⟩

set_option maxHeartbeats 16000000 in
set_option maxRecDepth 100000 in
theorem Same_calls (a b : AR) (la lb : List Int) (w : World) (h1 : Kd.C (Kd.int .u8) w a.dA a.dN la) (h2 : Kd.C (Kd.int .u8) w b.dA b.dN lb) :
    Calls Try.prog 20 #[.agg #[.int .i64 a.p, .int .i64 a.o, .int .i64 a.c, .int .i64 a.z, .int .i64 a.m, .int .i64 a.i, .int .i64 a.g, .int .i64 a.i2, .int .i64 a.g2, .string a.n, .string a.n2, .slice a.dA a.dN a.dC], .agg #[.int .i64 b.p, .int .i64 b.o, .int .i64 b.c, .int .i64 b.z, .int .i64 b.m, .int .i64 b.i, .int .i64 b.g, .int .i64 b.i2, .int .i64 b.g2, .string b.n, .string b.n2, .slice b.dA b.dN b.dC]] w fun e w' => e = .returned (.bool (sameA a b la lb)) ∧ Below w.heap.size w w' := by
  have hu1 := Try.underlying26
  have hu2 := Try.underlying23
  have hb2 : ∀ W : World, W = ((w.alloc (.cells #[.int .i64 a.p, .int .i64 a.o, .int .i64 a.c, .int .i64 a.z, .int .i64 a.m, .int .i64 a.i, .int .i64 a.g, .int .i64 a.i2, .int .i64 a.g2, .string a.n, .string a.n2, .slice a.dA a.dN a.dC] 26)).alloc (.cells #[.int .i64 b.p, .int .i64 b.o, .int .i64 b.c, .int .i64 b.z, .int .i64 b.m, .int .i64 b.i, .int .i64 b.g, .int .i64 b.i2, .int .i64 b.g2, .string b.n, .string b.n2, .slice b.dA b.dN b.dC] 26)) → Below w.heap.size w W := fun W h => by rw [h]; exact below_alloc (below_alloc (Below.refl _ _) _) _
  have H1 := Aside0.mk (Kd.C_below h1 (hb2 _ rfl))
  have H2 := Aside0.mk (Kd.C_below h2 (hb2 _ rfl))
  have HB := Aside0.mk (hb2 _ rfl)
  clear h1 h2 hb2
  obtain ⟨r, hr⟩ : ∃ r, r = sameA a b la lb := ⟨_, rfl⟩
  rw [← hr]
  unfold sameA at hr
  obtain ⟨v0, hv0⟩ : ∃ v : Bool, v = (a.p == b.p) := ⟨_, rfl⟩
  rw [← hv0] at hr
  replace hv0 := hv0.symm
  cases v0
  · obtain rfl : r = false := by rw [hr]; simp
    clear hr
    go_enter Try.func20, Try.ntmps20
    go_wp2_with fail
    go_ret
    exact ⟨rfl, HB.out⟩
  · skip
    obtain ⟨v1, hv1⟩ : ∃ v : Bool, v = (a.o == b.o) := ⟨_, rfl⟩
    rw [← hv1] at hr
    replace hv1 := hv1.symm
    cases v1
    · obtain rfl : r = false := by rw [hr]; simp
      clear hr
      go_enter Try.func20, Try.ntmps20
      go_wp2_with fail
      go_ret
      exact ⟨rfl, HB.out⟩
    · skip
      obtain ⟨v2, hv2⟩ : ∃ v : Bool, v = (a.c == b.c) := ⟨_, rfl⟩
      rw [← hv2] at hr
      replace hv2 := hv2.symm
      cases v2
      · obtain rfl : r = false := by rw [hr]; simp
        clear hr
        go_enter Try.func20, Try.ntmps20
        go_wp2_with fail
        go_ret
        exact ⟨rfl, HB.out⟩
      · skip
        obtain ⟨v3, hv3⟩ : ∃ v : Bool, v = (a.z == b.z) := ⟨_, rfl⟩
        rw [← hv3] at hr
        replace hv3 := hv3.symm
        cases v3
        · obtain rfl : r = false := by rw [hr]; simp
          clear hr
          go_enter Try.func20, Try.ntmps20
          go_wp2_with fail
          go_ret
          exact ⟨rfl, HB.out⟩
        · skip
          obtain ⟨v4, hv4⟩ : ∃ v : Bool, v = (a.m == b.m) := ⟨_, rfl⟩
          rw [← hv4] at hr
          replace hv4 := hv4.symm
          cases v4
          · obtain rfl : r = false := by rw [hr]; simp
            clear hr
            go_enter Try.func20, Try.ntmps20
            go_wp2_with fail
            go_ret
            exact ⟨rfl, HB.out⟩
          · skip
            obtain ⟨v5, hv5⟩ : ∃ v : Bool, v = (a.i == b.i && (a.g == b.g)) := ⟨_, rfl⟩
            have heq := fun (d : Nat) (w : World) => eqHandle d w a.i b.i a.g b.g
            rw [← hv5] at heq hr
            clear hv5
            cases v5
            · obtain rfl : r = false := by rw [hr]; simp
              clear hr
              go_enter Try.func20, Try.ntmps20
              go_wp2_with fail
              go_ret
              exact ⟨rfl, HB.out⟩
            · skip
              obtain ⟨v6, hv6⟩ : ∃ v : Bool, v = (a.i2 == b.i2 && (a.g2 == b.g2)) := ⟨_, rfl⟩
              have heq2 := fun (d : Nat) (w : World) => eqHandle d w a.i2 b.i2 a.g2 b.g2
              rw [← hv6] at heq2 hr
              clear hv6
              cases v6
              · obtain rfl : r = false := by rw [hr]; simp
                clear hr
                go_enter Try.func20, Try.ntmps20
                go_wp2_with fail
                go_ret
                exact ⟨rfl, HB.out⟩
              · skip
                obtain ⟨v7, hv7⟩ : ∃ v : Bool, v = (a.n.toList == b.n.toList) := ⟨_, rfl⟩
                rw [← hv7] at hr
                replace hv7 := hv7.symm
                cases v7
                · obtain rfl : r = false := by rw [hr]; simp
                  clear hr
                  go_enter Try.func20, Try.ntmps20
                  go_wp2_with fail
                  go_ret
                  exact ⟨rfl, HB.out⟩
                · skip
                  obtain ⟨v8, hv8⟩ : ∃ v : Bool, v = (a.n2.toList == b.n2.toList) := ⟨_, rfl⟩
                  rw [← hv8] at hr
                  replace hv8 := hv8.symm
                  cases v8
                  · obtain rfl : r = false := by rw [hr]; simp
                    clear hr
                    go_enter Try.func20, Try.ntmps20
                    go_wp2_with fail
                    go_ret
                    exact ⟨rfl, HB.out⟩
                  · skip
                    obtain rfl : r = ((strOfNums la).toList == (strOfNums lb).toList) := by rw [hr]; simp
                    clear hr
                    go_enter Try.func20, Try.ntmps20
                    go_wp2_with fail
                    refine (Equal_any _ _ _ la _ _ _ lb _ H1.out H2.out).mono ?_
                    rintro e w' ⟨rfl, rfl⟩
                    go_wp2_with fail
                    go_ret
                    exact ⟨rfl, HB.out⟩

set_option maxHeartbeats 16000000 in
set_option maxRecDepth 100000 in
theorem SameRef_calls (a b : AR) (la lb : List Int) (w : World) (h1 : Kd.C (Kd.int .u8) w a.dA a.dN la) (h2 : Kd.C (Kd.int .u8) w b.dA b.dN lb) :
    Calls Try.prog 21 #[.agg #[.int .i64 a.p, .int .i64 a.o, .int .i64 a.c, .int .i64 a.z, .int .i64 a.m, .int .i64 a.i, .int .i64 a.g, .int .i64 a.i2, .int .i64 a.g2, .string a.n, .string a.n2, .slice a.dA a.dN a.dC], .agg #[.int .i64 b.p, .int .i64 b.o, .int .i64 b.c, .int .i64 b.z, .int .i64 b.m, .int .i64 b.i, .int .i64 b.g, .int .i64 b.i2, .int .i64 b.g2, .string b.n, .string b.n2, .slice b.dA b.dN b.dC]] w fun e w' => e = .returned (.bool (sameA a b la lb)) ∧ Below w.heap.size w w' := by
  have hu1 := Try.underlying26
  have hu2 := Try.underlying23
  have hb2 : ∀ W : World, W = ((w.alloc (.cells #[.int .i64 a.p, .int .i64 a.o, .int .i64 a.c, .int .i64 a.z, .int .i64 a.m, .int .i64 a.i, .int .i64 a.g, .int .i64 a.i2, .int .i64 a.g2, .string a.n, .string a.n2, .slice a.dA a.dN a.dC] 26)).alloc (.cells #[.int .i64 b.p, .int .i64 b.o, .int .i64 b.c, .int .i64 b.z, .int .i64 b.m, .int .i64 b.i, .int .i64 b.g, .int .i64 b.i2, .int .i64 b.g2, .string b.n, .string b.n2, .slice b.dA b.dN b.dC] 26)) → Below w.heap.size w W := fun W h => by rw [h]; exact below_alloc (below_alloc (Below.refl _ _) _) _
  have H1 := Aside0.mk (Kd.C_below h1 (hb2 _ rfl))
  have H2 := Aside0.mk (Kd.C_below h2 (hb2 _ rfl))
  have HB := Aside0.mk (hb2 _ rfl)
  clear h1 h2 hb2
  obtain ⟨r, hr⟩ : ∃ r, r = sameA a b la lb := ⟨_, rfl⟩
  rw [← hr]
  unfold sameA at hr
  obtain ⟨v0, hv0⟩ : ∃ v : Bool, v = (a.p == b.p) := ⟨_, rfl⟩
  rw [← hv0] at hr
  replace hv0 := hv0.symm
  cases v0
  · obtain rfl : r = false := by rw [hr]; simp
    clear hr
    go_enter Try.func21, Try.ntmps21
    go_wp2_with fail
    go_ret
    exact ⟨rfl, HB.out⟩
  · skip
    obtain ⟨v1, hv1⟩ : ∃ v : Bool, v = (a.o == b.o) := ⟨_, rfl⟩
    rw [← hv1] at hr
    replace hv1 := hv1.symm
    cases v1
    · obtain rfl : r = false := by rw [hr]; simp
      clear hr
      go_enter Try.func21, Try.ntmps21
      go_wp2_with fail
      go_ret
      exact ⟨rfl, HB.out⟩
    · skip
      obtain ⟨v2, hv2⟩ : ∃ v : Bool, v = (a.c == b.c) := ⟨_, rfl⟩
      rw [← hv2] at hr
      replace hv2 := hv2.symm
      cases v2
      · obtain rfl : r = false := by rw [hr]; simp
        clear hr
        go_enter Try.func21, Try.ntmps21
        go_wp2_with fail
        go_ret
        exact ⟨rfl, HB.out⟩
      · skip
        obtain ⟨v3, hv3⟩ : ∃ v : Bool, v = (a.z == b.z) := ⟨_, rfl⟩
        rw [← hv3] at hr
        replace hv3 := hv3.symm
        cases v3
        · obtain rfl : r = false := by rw [hr]; simp
          clear hr
          go_enter Try.func21, Try.ntmps21
          go_wp2_with fail
          go_ret
          exact ⟨rfl, HB.out⟩
        · skip
          obtain ⟨v4, hv4⟩ : ∃ v : Bool, v = (a.m == b.m) := ⟨_, rfl⟩
          rw [← hv4] at hr
          replace hv4 := hv4.symm
          cases v4
          · obtain rfl : r = false := by rw [hr]; simp
            clear hr
            go_enter Try.func21, Try.ntmps21
            go_wp2_with fail
            go_ret
            exact ⟨rfl, HB.out⟩
          · skip
            obtain ⟨v5, hv5⟩ : ∃ v : Bool, v = (a.i == b.i && (a.g == b.g)) := ⟨_, rfl⟩
            have heq := fun (d : Nat) (w : World) => eqHandle d w a.i b.i a.g b.g
            rw [← hv5] at heq hr
            clear hv5
            cases v5
            · obtain rfl : r = false := by rw [hr]; simp
              clear hr
              go_enter Try.func21, Try.ntmps21
              go_wp2_with fail
              go_ret
              exact ⟨rfl, HB.out⟩
            · skip
              obtain ⟨v6, hv6⟩ : ∃ v : Bool, v = (a.i2 == b.i2 && (a.g2 == b.g2)) := ⟨_, rfl⟩
              have heq2 := fun (d : Nat) (w : World) => eqHandle d w a.i2 b.i2 a.g2 b.g2
              rw [← hv6] at heq2 hr
              clear hv6
              cases v6
              · obtain rfl : r = false := by rw [hr]; simp
                clear hr
                go_enter Try.func21, Try.ntmps21
                go_wp2_with fail
                go_ret
                exact ⟨rfl, HB.out⟩
              · skip
                obtain ⟨v7, hv7⟩ : ∃ v : Bool, v = (a.n.toList == b.n.toList) := ⟨_, rfl⟩
                rw [← hv7] at hr
                replace hv7 := hv7.symm
                cases v7
                · obtain rfl : r = false := by rw [hr]; simp
                  clear hr
                  go_enter Try.func21, Try.ntmps21
                  go_wp2_with fail
                  go_ret
                  exact ⟨rfl, HB.out⟩
                · skip
                  obtain ⟨v8, hv8⟩ : ∃ v : Bool, v = (a.n2.toList == b.n2.toList) := ⟨_, rfl⟩
                  rw [← hv8] at hr
                  replace hv8 := hv8.symm
                  cases v8
                  · obtain rfl : r = false := by rw [hr]; simp
                    clear hr
                    go_enter Try.func21, Try.ntmps21
                    go_wp2_with fail
                    go_ret
                    exact ⟨rfl, HB.out⟩
                  · skip
                    obtain rfl : r = ((strOfNums la).toList == (strOfNums lb).toList) := by rw [hr]; simp
                    clear hr
                    have hcv1 := fun c => Kd.C_string (P := Try.prog) (src := 24) (dst := 9) (c := c) Try.underlying24 Try.underlying5 Try.underlying9 H1.out
                    have hcv2 := fun c => Kd.C_string (P := Try.prog) (src := 24) (dst := 9) (c := c) Try.underlying24 Try.underlying5 Try.underlying9 H2.out
                    go_enter Try.func21, Try.ntmps21
                    go_wp2_with fail
                    go_ret
                    exact ⟨rfl, HB.out⟩
end Go.Proofs.Ytffaljncdcldpaa.G
