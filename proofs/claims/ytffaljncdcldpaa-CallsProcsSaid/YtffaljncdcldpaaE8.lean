/- Hand-made contracts of calls.Write's closures. -/
import Derived.Test.YtffaljncdcldpaaE7
namespace Go.Proofs.Ytffaljncdcldpaa.G
open Go.RowKit Go.Proofs.YtffaljncdcldpaaW.PrintWords Go.Proofs.YtffaljncdcldpaaW.PrintLast Go.Proofs.YtffaljncdcldpaaW.PrintMore
set_option linter.unusedVariables false
set_option linter.unusedSimpArgs false

set_option maxHeartbeats 8000000 in
theorem clos_h (B gl g4 ga : Nat) (a : AR) (l : List Int) (w : World) (h : LAY B w gl a l) (hB : B ≤ w.heap.size) (hl : l.length ≤ 9000) (hp : w.cell? ⟨g4, 0, none⟩ = some (.pointer (some ⟨gl, 0, none⟩))) (hA : w.heap[ga]? = some (.cells #[.int .i64 a.p, .int .i64 a.o, .int .i64 a.c, .int .i64 a.z, .int .i64 a.m, .int .i64 a.i, .int .i64 a.g, .int .i64 a.i2, .int .i64 a.g2, .string a.n, .string a.n2, .slice a.dA a.dN a.dC] 26 (0, 0))) (hi : 0 ≤ a.i ∧ a.i < 4294967296) (hg : 0 ≤ a.g ∧ a.g < 4294967296) :
    Calls Try.prog 29 #[.pointer (some ⟨g4, 0, none⟩), .pointer (some ⟨ga, 0, none⟩)] w fun e w' => e = .returned (.tuple #[]) ∧ LAY B w' gl a (l ++ (beN a.i 4 ++ beN a.g 4)) ∧ Frm (fun k => k = gl) w w' := by
  have hu1 := Try.underlying26
  have hu2 := Try.underlying23
  have H := Aside0.mk h
  have k5 : w.cell? ⟨ga, 5, none⟩ = some (.int .i64 a.i) := (blk_cell hA 5).trans rfl
  have k6 : w.cell? ⟨ga, 6, none⟩ = some (.int .i64 a.g) := (blk_cell hA 6).trans rfl
  clear h hA
  go_enter Try.func29, Try.ntmps29
  go_wp2_with fail
  refine (handle_l B gl a l a.i a.g w H.out hB (by omega) hi hg).mono ?_
  rintro e w1 ⟨rfl, hl1, hf1⟩
  have HL1 := Aside0.mk hl1
  have HF1 := Aside0.mk hf1
  clear hl1 hf1
  go_wp2_with fail
  go_end0
  exact ⟨rfl, by rw [← List.append_assoc]; exact HL1.out, HF1.out⟩

set_option maxHeartbeats 8000000 in
theorem clos_H (B gl g4 ga : Nat) (a : AR) (l : List Int) (w : World) (h : LAY B w gl a l) (hB : B ≤ w.heap.size) (hl : l.length ≤ 9000) (hp : w.cell? ⟨g4, 0, none⟩ = some (.pointer (some ⟨gl, 0, none⟩))) (hA : w.heap[ga]? = some (.cells #[.int .i64 a.p, .int .i64 a.o, .int .i64 a.c, .int .i64 a.z, .int .i64 a.m, .int .i64 a.i, .int .i64 a.g, .int .i64 a.i2, .int .i64 a.g2, .string a.n, .string a.n2, .slice a.dA a.dN a.dC] 26 (0, 0))) (hi : 0 ≤ a.i2 ∧ a.i2 < 4294967296) (hg : 0 ≤ a.g2 ∧ a.g2 < 4294967296) :
    Calls Try.prog 31 #[.pointer (some ⟨g4, 0, none⟩), .pointer (some ⟨ga, 0, none⟩)] w fun e w' => e = .returned (.tuple #[]) ∧ LAY B w' gl a (l ++ (beN a.i2 4 ++ beN a.g2 4)) ∧ Frm (fun k => k = gl) w w' := by
  have hu1 := Try.underlying26
  have hu2 := Try.underlying23
  have H := Aside0.mk h
  have k7 : w.cell? ⟨ga, 7, none⟩ = some (.int .i64 a.i2) := (blk_cell hA 7).trans rfl
  have k8 : w.cell? ⟨ga, 8, none⟩ = some (.int .i64 a.g2) := (blk_cell hA 8).trans rfl
  clear h hA
  go_enter Try.func31, Try.ntmps31
  go_wp2_with fail
  refine (handle_l B gl a l a.i2 a.g2 w H.out hB (by omega) hi hg).mono ?_
  rintro e w1 ⟨rfl, hl1, hf1⟩
  have HL1 := Aside0.mk hl1
  have HF1 := Aside0.mk hf1
  clear hl1 hf1
  go_wp2_with fail
  go_end0
  exact ⟨rfl, by rw [← List.append_assoc]; exact HL1.out, HF1.out⟩

set_option maxHeartbeats 8000000 in
theorem clos_s (B gl g4 ga : Nat) (a : AR) (l : List Int) (w : World) (h : LAY B w gl a l) (hB : B ≤ w.heap.size) (hl : l.length ≤ 9000) (hp : w.cell? ⟨g4, 0, none⟩ = some (.pointer (some ⟨gl, 0, none⟩))) (hA : w.heap[ga]? = some (.cells #[.int .i64 a.p, .int .i64 a.o, .int .i64 a.c, .int .i64 a.z, .int .i64 a.m, .int .i64 a.i, .int .i64 a.g, .int .i64 a.i2, .int .i64 a.g2, .string a.n, .string a.n2, .slice a.dA a.dN a.dC] 26 (0, 0))) (hi : 0 ≤ a.z ∧ a.z < 4294967296) :
    Calls Try.prog 32 #[.pointer (some ⟨g4, 0, none⟩), .pointer (some ⟨ga, 0, none⟩)] w fun e w' => e = .returned (.tuple #[]) ∧ LAY B w' gl a (l ++ (beN a.z 4)) ∧ Frm (fun k => k = gl) w w' := by
  have hu1 := Try.underlying26
  have hu2 := Try.underlying23
  have H := Aside0.mk h
  have k3 : w.cell? ⟨ga, 3, none⟩ = some (.int .i64 a.z) := (blk_cell hA 3).trans rfl
  clear h hA
  go_enter Try.func32, Try.ntmps32
  go_wp2_with fail
  refine (number_l B gl a l a.z w H.out hB (by omega) hi.1 hi.2).mono ?_
  rintro e w1 ⟨rfl, hl1, hf1⟩
  have HL1 := Aside0.mk hl1
  have HF1 := Aside0.mk hf1
  clear hl1 hf1
  go_wp2_with fail
  go_end0
  exact ⟨rfl, HL1.out, HF1.out⟩

set_option maxHeartbeats 8000000 in
theorem clos_c (B gl g4 ga : Nat) (a : AR) (l : List Int) (w : World) (h : LAY B w gl a l) (hB : B ≤ w.heap.size) (hl : l.length ≤ 9000) (hp : w.cell? ⟨g4, 0, none⟩ = some (.pointer (some ⟨gl, 0, none⟩))) (hA : w.heap[ga]? = some (.cells #[.int .i64 a.p, .int .i64 a.o, .int .i64 a.c, .int .i64 a.z, .int .i64 a.m, .int .i64 a.i, .int .i64 a.g, .int .i64 a.i2, .int .i64 a.g2, .string a.n, .string a.n2, .slice a.dA a.dN a.dC] 26 (0, 0))) (hi : 0 ≤ a.c ∧ a.c < 4294967296) :
    Calls Try.prog 34 #[.pointer (some ⟨g4, 0, none⟩), .pointer (some ⟨ga, 0, none⟩)] w fun e w' => e = .returned (.tuple #[]) ∧ LAY B w' gl a (l ++ (beN a.c 4)) ∧ Frm (fun k => k = gl) w w' := by
  have hu1 := Try.underlying26
  have hu2 := Try.underlying23
  have H := Aside0.mk h
  have k2 : w.cell? ⟨ga, 2, none⟩ = some (.int .i64 a.c) := (blk_cell hA 2).trans rfl
  clear h hA
  go_enter Try.func34, Try.ntmps34
  go_wp2_with fail
  refine (number_l B gl a l a.c w H.out hB (by omega) hi.1 hi.2).mono ?_
  rintro e w1 ⟨rfl, hl1, hf1⟩
  have HL1 := Aside0.mk hl1
  have HF1 := Aside0.mk hf1
  clear hl1 hf1
  go_wp2_with fail
  go_end0
  exact ⟨rfl, HL1.out, HF1.out⟩

set_option maxHeartbeats 8000000 in
theorem clos_m (B gl g4 ga : Nat) (a : AR) (l : List Int) (w : World) (h : LAY B w gl a l) (hB : B ≤ w.heap.size) (hl : l.length ≤ 9000) (hp : w.cell? ⟨g4, 0, none⟩ = some (.pointer (some ⟨gl, 0, none⟩))) (hA : w.heap[ga]? = some (.cells #[.int .i64 a.p, .int .i64 a.o, .int .i64 a.c, .int .i64 a.z, .int .i64 a.m, .int .i64 a.i, .int .i64 a.g, .int .i64 a.i2, .int .i64 a.g2, .string a.n, .string a.n2, .slice a.dA a.dN a.dC] 26 (0, 0))) (hi : 0 ≤ a.m ∧ a.m < 4294967296) :
    Calls Try.prog 35 #[.pointer (some ⟨g4, 0, none⟩), .pointer (some ⟨ga, 0, none⟩)] w fun e w' => e = .returned (.tuple #[]) ∧ LAY B w' gl a (l ++ (beN a.m 4)) ∧ Frm (fun k => k = gl) w w' := by
  have hu1 := Try.underlying26
  have hu2 := Try.underlying23
  have H := Aside0.mk h
  have k4 : w.cell? ⟨ga, 4, none⟩ = some (.int .i64 a.m) := (blk_cell hA 4).trans rfl
  clear h hA
  go_enter Try.func35, Try.ntmps35
  go_wp2_with fail
  refine (number_l B gl a l a.m w H.out hB (by omega) hi.1 hi.2).mono ?_
  rintro e w1 ⟨rfl, hl1, hf1⟩
  have HL1 := Aside0.mk hl1
  have HF1 := Aside0.mk hf1
  clear hl1 hf1
  go_wp2_with fail
  go_end0
  exact ⟨rfl, HL1.out, HF1.out⟩

set_option maxHeartbeats 8000000 in
theorem clos_n (B gl g4 ga : Nat) (a : AR) (l : List Int) (w : World) (h : LAY B w gl a l) (hB : B ≤ w.heap.size) (hl : l.length ≤ 9000) (hp : w.cell? ⟨g4, 0, none⟩ = some (.pointer (some ⟨gl, 0, none⟩))) (hA : w.heap[ga]? = some (.cells #[.int .i64 a.p, .int .i64 a.o, .int .i64 a.c, .int .i64 a.z, .int .i64 a.m, .int .i64 a.i, .int .i64 a.g, .int .i64 a.i2, .int .i64 a.g2, .string a.n, .string a.n2, .slice a.dA a.dN a.dC] 26 (0, 0))) (hi : a.n.size ≤ 5000) :
    Calls Try.prog 36 #[.pointer (some ⟨g4, 0, none⟩), .pointer (some ⟨ga, 0, none⟩)] w fun e w' => e = .returned (.tuple #[]) ∧ LAY B w' gl a (l ++ (textB (bsL a.n))) ∧ Frm (fun k => k = gl) w w' := by
  have hu1 := Try.underlying26
  have hu2 := Try.underlying23
  have H := Aside0.mk h
  have k9 : w.cell? ⟨ga, 9, none⟩ = some (.string a.n) := (blk_cell hA 9).trans rfl
  clear h hA
  go_enter Try.func36, Try.ntmps36
  go_wp2_with fail
  refine (text_l B gl a l a.n w H.out hB (by omega) hi).mono ?_
  rintro e w1 ⟨rfl, hl1, hf1⟩
  have HL1 := Aside0.mk hl1
  have HF1 := Aside0.mk hf1
  clear hl1 hf1
  go_wp2_with fail
  go_end0
  exact ⟨rfl, HL1.out, HF1.out⟩

set_option maxHeartbeats 8000000 in
theorem clos_N (B gl g4 ga : Nat) (a : AR) (l : List Int) (w : World) (h : LAY B w gl a l) (hB : B ≤ w.heap.size) (hl : l.length ≤ 9000) (hp : w.cell? ⟨g4, 0, none⟩ = some (.pointer (some ⟨gl, 0, none⟩))) (hA : w.heap[ga]? = some (.cells #[.int .i64 a.p, .int .i64 a.o, .int .i64 a.c, .int .i64 a.z, .int .i64 a.m, .int .i64 a.i, .int .i64 a.g, .int .i64 a.i2, .int .i64 a.g2, .string a.n, .string a.n2, .slice a.dA a.dN a.dC] 26 (0, 0))) (hi : a.n2.size ≤ 5000) :
    Calls Try.prog 38 #[.pointer (some ⟨g4, 0, none⟩), .pointer (some ⟨ga, 0, none⟩)] w fun e w' => e = .returned (.tuple #[]) ∧ LAY B w' gl a (l ++ (textB (bsL a.n2))) ∧ Frm (fun k => k = gl) w w' := by
  have hu1 := Try.underlying26
  have hu2 := Try.underlying23
  have H := Aside0.mk h
  have k10 : w.cell? ⟨ga, 10, none⟩ = some (.string a.n2) := (blk_cell hA 10).trans rfl
  clear h hA
  go_enter Try.func38, Try.ntmps38
  go_wp2_with fail
  refine (text_l B gl a l a.n2 w H.out hB (by omega) hi).mono ?_
  rintro e w1 ⟨rfl, hl1, hf1⟩
  have HL1 := Aside0.mk hl1
  have HF1 := Aside0.mk hf1
  clear hl1 hf1
  go_wp2_with fail
  go_end0
  exact ⟨rfl, HL1.out, HF1.out⟩
end Go.Proofs.Ytffaljncdcldpaa.G
