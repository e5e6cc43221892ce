/- Hand-made contracts of calls: own. -/
import Derived.Test.YtffaljncdcldpaaE1
namespace Go.Proofs.Ytffaljncdcldpaa.G
open Go.RowKit Go.Proofs.YtffaljncdcldpaaW.PrintWords Go.Proofs.YtffaljncdcldpaaW.PrintLast Go.Proofs.YtffaljncdcldpaaW.PrintMore
set_option linter.unusedVariables false
set_option linter.unusedSimpArgs false

/-- What a procedure is asked with; Data as a value. -/
structure AR where
  p : Int
  o : Int
  c : Int
  z : Int
  m : Int
  i : Int
  g : Int
  i2 : Int
  g2 : Int
  n : ByteArray
  n2 : ByteArray
  dA : Option Addr
  dN : Nat
  dC : Nat
def AR.cs (a : AR) : Array Value := #[.int .i64 a.p, .int .i64 a.o, .int .i64 a.c, .int .i64 a.z, .int .i64 a.m, .int .i64 a.i, .int .i64 a.g, .int .i64 a.i2, .int .i64 a.g2, .string a.n, .string a.n2, .slice a.dA a.dN a.dC]
/-- A letter's field. -/
def updL (a x : AR) (c : Nat) : AR := if c = 104 then { x with i := a.i, g := a.g } else if c = 72 then { x with i2 := a.i2, g2 := a.g2 } else if c = 115 then { x with z := a.z } else if c = 99 then { x with c := a.c } else if c = 109 then { x with m := a.m } else if c = 111 then { x with o := a.o } else if c = 110 then { x with n := a.n } else if c = 78 then { x with n2 := a.n2 } else if c = 100 then { x with dA := a.dA, dN := a.dN, dC := a.dC } else x
def zeroA (p : Int) : AR := ⟨p, 0, 0, 0, 0, 0, 0, 0, 0, ⟨#[]⟩, ⟨#[]⟩, none, 0, 0⟩
def foldL (a : AR) (s : ByteArray) (k : Nat) : AR := ((s.data.toList.take k).map (fun b => b.toNat)).foldl (updL a) (zeroA a.p)
def ownA (a : AR) : AR := foldL a (fieldsB a.p) (fieldsB a.p).size

theorem foldL_succ (a : AR) (s : ByteArray) (k : Nat) (h : k < s.size) : foldL a s (k + 1) = updL a (foldL a s k) (s[k]'h).toNat := by
  unfold foldL
  have hk : k < s.data.toList.length := by simpa using h
  rw [List.take_succ_eq_append_getElem hk, List.map_append, List.foldl_append]
  rfl

theorem fields_ascii (p : Int) (k : Nat) (h : k < (fieldsB p).size) : ((fieldsB p)[k]'h).toNat < 128 := by
  have key : ∀ b ∈ (fieldsB p).data.toList, b.toNat < 128 := by
    unfold fieldsB
    repeat' split
    all_goals simp
  exact key _ (List.getElem_mem (by simpa using h))

/-- The iterator moves on, in a walk. -/
theorem next_arm {P : Program} {ops : Array Oper} {rest : List Oper} {o : Oper} {a : Act} {W : World} {Q : Exit → Act → World → Prop} (hgd : o.guard = none) (x : Operand) (ty : TypeId) (ho : o.op = .next x true) (hty : o.type = ty) (g : Nat) (hev : a.eval x = .pointer (some ⟨g, 0, none⟩)) (s : ByteArray) (k : Nat) (hk : W.heap[g]? = some (.stringIter s k))
    (hlt : k < s.size) (ha : (s[k]'hlt).toNat < 128)
    (h : wpList P ops Q rest (a.put o.dst (.tuple #[.bool true, .int .i64 k, .int .i32 (s[k]'hlt).toNat])) (W.iterAt g s (k + 1))) : wpList P ops Q (o :: rest) a W := by
  have hrun : (execOp a.eval o).run P W = .ok (.value (.tuple #[.bool true, .int .i64 k, .int .i32 (s[k]'hlt).toNat])) (W.iterAt g s (k + 1)) := by
    have hc := Lib.run_next_ascii_at (P := P) W g s k ty hk hlt ha
    simp only [execOp, ho, hev, hty]
    simp [hc]
  exact Kd.event_run hgd hrun h
theorem end_arm {P : Program} {ops : Array Oper} {rest : List Oper} {o : Oper} {a : Act} {W : World} {Q : Exit → Act → World → Prop} (hgd : o.guard = none) (x : Operand) (ty : TypeId) (ho : o.op = .next x true) (hty : o.type = ty) (g : Nat) (hev : a.eval x = .pointer (some ⟨g, 0, none⟩)) (s : ByteArray) (k : Nat) (hk : W.heap[g]? = some (.stringIter s k))
    (hlt : ¬ k < s.size)
    (h : wpList P ops Q rest (a.put o.dst (.tuple #[.bool false])) W) : wpList P ops Q (o :: rest) a W := by
  have hrun : (execOp a.eval o).run P W = .ok (.value (.tuple #[.bool false])) W := by
    have hc := Lib.run_next_end_at (P := P) W g s k ty hk hlt
    simp only [execOp, ho, hev, hty]
    simp [hc]
  exact Kd.event_run hgd hrun h

theorem bcell {W w1 : World} (hb : Below W.heap.size W w1) : (∀ b o, b < W.heap.size → w1.cell? ⟨b, o, none⟩ = W.cell? ⟨b, o, none⟩) ∧ (∀ b o, b < W.heap.size → w1.frozen? ⟨b, o, none⟩ = W.frozen? ⟨b, o, none⟩) :=
  ⟨fun b o h => hb.cell (p := ⟨b, o, none⟩) h, fun b o h => hb.frozen (p := ⟨b, o, none⟩) h⟩
theorem iter_step {wr w2 : World} {gi gx ga k : Nat} {s : ByteArray} {B : Nat} {X A : Obj} (hi : wr.heap[gi]? = some (.stringIter s k)) (hx : wr.heap[gx]? = some X) (ha : wr.heap[ga]? = some A) (hb : Below B w2 wr) (h1 : gx ≠ gi) (h2 : ga ≠ gi) (h3 : B ≤ gi) :
    ∃ w5, w5 = wr.iterAt gi s (k + 1) ∧ w5.heap[gi]? = some (.stringIter s (k + 1)) ∧ w5.heap[gx]? = some X ∧ w5.heap[ga]? = some A ∧ Below B w2 w5 :=
  ⟨_, rfl, Lib.iterAt_heap wr gi s k (k + 1) hi, (Lib.iterAt_other wr gi gx s (k + 1) h1).trans hx, (Lib.iterAt_other wr gi ga s (k + 1) h2).trans ha, Lib.below_iterAt hb h3 s (k + 1)⟩
theorem asz (w : World) (o : Obj) : (w.alloc o).heap.size = w.heap.size + 1 := by simp
theorem v_cases (v : Nat) : v = 104 ∨ v = 72 ∨ v = 115 ∨ v = 99 ∨ v = 109 ∨ v = 111 ∨ v = 110 ∨ v = 78 ∨ v = 100 ∨ (v ≠ 104 ∧ v ≠ 72 ∧ v ≠ 115 ∧ v ≠ 99 ∧ v ≠ 109 ∧ v ≠ 111 ∧ v ≠ 110 ∧ v ≠ 78 ∧ v ≠ 100) := by omega

set_option maxHeartbeats 16000000 in
set_option maxRecDepth 100000 in
theorem own_calls (a : AR) (w : World) :
    Calls Try.prog 43 #[.agg a.cs] w fun e w' => e = .returned (.agg (ownA a).cs) ∧ Below w.heap.size w w' := by
  have hu1 := Try.underlying26
  have hu2 := Try.underlying23
  obtain ⟨s, hs⟩ : ∃ s, s = fieldsB a.p := ⟨_, rfl⟩
  have HS := Aside0.mk hs
  have HAS : Aside0 (∀ k (h : k < s.size), (s[k]'h).toNat < 128) := ⟨by rw [hs]; exact fields_ascii a.p⟩
  clear hs
  have HOWN : Aside0 (ownA a = foldL a s s.size) := ⟨by unfold ownA; rw [← HS.out]⟩
  rw [HOWN.out]
  unfold AR.cs
  go_enter Try.func43, Try.ntmps43
  go_wp2_with fail
  refine (fields_calls a.p _).mono ?_
  rintro e w1 ⟨rfl, rfl⟩
  rw [← HS.out]
  go_wp2_with fail
  obtain ⟨w2, hw2⟩ : ∃ w2, w2 = ((w.alloc (.cells #[.int .i64 a.p, .int .i64 a.o, .int .i64 a.c, .int .i64 a.z, .int .i64 a.m, .int .i64 a.i, .int .i64 a.g, .int .i64 a.i2, .int .i64 a.g2, .string a.n, .string a.n2, .slice a.dA a.dN a.dC] 26)).alloc (.cells #[.int .i64 0, .int .i64 0, .int .i64 0, .int .i64 0, .int .i64 0, .int .i64 0, .int .i64 0, .int .i64 0, .int .i64 0, .string ⟨#[]⟩, .string ⟨#[]⟩, .slice none 0 0] 26)) := ⟨_, rfl⟩
  have hs2 : w2.heap.size = w.heap.size + 1 + 1 := by rw [hw2]; simp
  have hbA : w2.heap[w.heap.size]? = some (.cells #[.int .i64 a.p, .int .i64 a.o, .int .i64 a.c, .int .i64 a.z, .int .i64 a.m, .int .i64 a.i, .int .i64 a.g, .int .i64 a.i2, .int .i64 a.g2, .string a.n, .string a.n2, .slice a.dA a.dN a.dC] 26 (0, 0)) := by rw [hw2]; exact blk_alloc (heap_alloc_new w _) _
  have hbR : w2.heap[w.heap.size + 1]? = some (.cells #[.int .i64 0, .int .i64 0, .int .i64 0, .int .i64 0, .int .i64 0, .int .i64 0, .int .i64 0, .int .i64 0, .int .i64 0, .string ⟨#[]⟩, .string ⟨#[]⟩, .slice none 0 0] 26 (0, 0)) := by rw [hw2]; have h := heap_alloc_new (w.alloc (.cells #[.int .i64 a.p, .int .i64 a.o, .int .i64 a.c, .int .i64 a.z, .int .i64 a.m, .int .i64 a.i, .int .i64 a.g, .int .i64 a.i2, .int .i64 a.g2, .string a.n, .string a.n2, .slice a.dA a.dN a.dC] 26)) (.cells #[.int .i64 0, .int .i64 0, .int .i64 0, .int .i64 0, .int .i64 0, .int .i64 0, .int .i64 0, .int .i64 0, .int .i64 0, .string ⟨#[]⟩, .string ⟨#[]⟩, .slice none 0 0] 26); rw [asz] at h; exact h
  have hb2 : Below w.heap.size w w2 := by rw [hw2]; exact below_alloc (below_alloc (Below.refl _ _) _) _
  rw [← hw2]
  obtain ⟨w3, hw3⟩ : ∃ w3, w3 = w2.alloc (.cells #[.int .i64 a.p, .int .i64 0, .int .i64 0, .int .i64 0, .int .i64 0, .int .i64 0, .int .i64 0, .int .i64 0, .int .i64 0, .string ⟨#[]⟩, .string ⟨#[]⟩, .slice none 0 0] 26) := ⟨_, rfl⟩
  have hs3 : w3.heap.size = w.heap.size + 1 + 1 + 1 := by rw [hw3, asz, hs2]
  have hbX3 : w3.heap[w2.heap.size]? = some (.cells #[.int .i64 a.p, .int .i64 0, .int .i64 0, .int .i64 0, .int .i64 0, .int .i64 0, .int .i64 0, .int .i64 0, .int .i64 0, .string ⟨#[]⟩, .string ⟨#[]⟩, .slice none 0 0] 26 (0, 0)) := by rw [hw3]; exact heap_alloc_new w2 _
  have hb3 : Below w2.heap.size w2 w3 := by rw [hw3]; exact below_alloc (Below.refl _ _) _
  rw [← hw3]
  obtain ⟨w4, hw4⟩ : ∃ w4, w4 = w3.iter s 0 := ⟨_, rfl⟩
  have hbX : w4.heap[w2.heap.size]? = some (.cells #[.int .i64 a.p, .int .i64 0, .int .i64 0, .int .i64 0, .int .i64 0, .int .i64 0, .int .i64 0, .int .i64 0, .int .i64 0, .string ⟨#[]⟩, .string ⟨#[]⟩, .slice none 0 0] 26 (0, 0)) := by rw [hw4]; exact blk_alloc hbX3 _
  have hbI : w4.heap[w3.heap.size]? = some (.stringIter s 0) := by rw [hw4]; exact World.iter_heap w3 s 0
  have hb4 : Below w2.heap.size w2 w4 := by rw [hw4]; exact below_alloc hb3 _
  rw [← hw4]
  obtain ⟨ga, hga⟩ : ∃ ga, ga = w.heap.size := ⟨_, rfl⟩
  obtain ⟨gr, hgr⟩ : ∃ gr, gr = w.heap.size + 1 := ⟨_, rfl⟩
  obtain ⟨gx, hgx⟩ : ∃ gx, gx = w.heap.size + 1 + 1 := ⟨_, rfl⟩
  obtain ⟨gi, hgi⟩ : ∃ gi, gi = w.heap.size + 1 + 1 + 1 := ⟨_, rfl⟩
  rw [← hgi, ← hgx, ← hgr, ← hga]
  rw [hs2, ← hgx] at hbX
  rw [hs3, ← hgi] at hbI
  rw [← hga] at hbA
  rw [← hgr] at hbR
  have HG : Aside0 (ga < w2.heap.size ∧ gr < w2.heap.size ∧ w2.heap.size ≤ gx ∧ w2.heap.size ≤ gi ∧ gx ≠ gi ∧ w.heap.size ≤ gr ∧ w.heap.size ≤ w2.heap.size ∧ gr ≠ gx) := ⟨by omega⟩
  have HX0 : Aside0 (w4.heap[gx]? = some (.cells (foldL a s 0).cs 26 (0, 0))) := ⟨hbX⟩
  have HI0 := Aside0.mk hbI
  have HB0 := Aside0.mk hb4
  have HBA := Aside0.mk hbA
  have HBR := Aside0.mk hbR
  have HB2 := Aside0.mk hb2
  clear hga hgr hgx hgi hw2 hw3 hw4 hs2 hs3 hbX3 hbX hbI hb4 hb3 hbA hbR hb2
  go_loopg [] s.size (fun kq w' => ∃ k : Nat, Aside0 (kq + k = s.size) ∧ Aside0 (w'.heap[gi]? = some (.stringIter s k)) ∧ Aside0 (w'.heap[gx]? = some (.cells (foldL a s k).cs 26 (0, 0))) ∧ Aside0 (Below w2.heap.size w2 w'))
  case atStart => exact ⟨0, ⟨rfl⟩, HI0, HX0, HB0⟩
  case round =>
    clear HI0 HX0 HB0
    obtain ⟨k, HK, HI, HX, HB⟩ := hrel
    have hAr := (HB.out.block ga HG.out.1).trans HBA.out
    rcases Nat.lt_or_ge k s.size with hlt | hge
    · obtain ⟨x, hx⟩ : ∃ x, x = foldL a s k := ⟨_, rfl⟩
      have HF : Aside0 (foldL a s (k + 1) = updL a x (s[k]'hlt).toNat) := ⟨by rw [hx]; exact foldL_succ a s k hlt⟩
      have hXr := HX.out
      rw [← hx] at hXr
      obtain ⟨v, hv⟩ : ∃ v, v = (s[k]'hlt).toNat := ⟨_, rfl⟩
      have HV := Aside0.mk hv
      have HXr := Aside0.mk hXr
      have HAr := Aside0.mk hAr
      rw [← hv] at HF
      clear hx hv hXr hAr HX
      rcases v_cases v with rfl | rfl | rfl | rfl | rfl | rfl | rfl | rfl | rfl | ⟨e1, e2, e3, e4, e5, e6, e7, e8, e9⟩
      · go_wp2_with ((with_reducible refine gate_dst (N := 13) rfl ?_); refine next_arm rfl (.tmp 12) 0 rfl rfl gi rfl s k HI.out hlt (HAS.out k hlt) ?_; rw [← HV.out]; obtain ⟨w5, hw5, hI5, hX5, hA5, hB5⟩ := iter_step HI.out HXr.out HAr.out HB.out HG.out.2.2.2.2.1 (Nat.ne_of_lt (Nat.lt_of_lt_of_le HG.out.1 HG.out.2.2.2.1)) HG.out.2.2.2.1; rw [← hw5]; have ka5 : w5.cell? ⟨ga, 5, none⟩ = some (.int .i64 a.i) := (blk_cell hA5 5).trans rfl; have ka6 : w5.cell? ⟨ga, 6, none⟩ = some (.int .i64 a.g) := (blk_cell hA5 6).trans rfl; have kx5 : w5.cell? ⟨gx, 5, none⟩ = some (.int .i64 x.i) := (blk_cell hX5 5).trans rfl; have kxf5 := blk_frozen hX5 5; have kx6 : w5.cell? ⟨gx, 6, none⟩ = some (.int .i64 x.g) := (blk_cell hX5 6).trans rfl; have kxf6 := blk_frozen hX5 6;  have HI5 := Aside0.mk hI5; have HX5 := Aside0.mk hX5; have HA5 := Aside0.mk hA5; have HB5 := Aside0.mk hB5; clear hw5 hI5 hX5 hA5 hB5 HI HXr HAr HB)
        go_roundg (s.size - (k + 1))
        case measure => have := HK.out; omega
        case rel => exact ⟨k + 1, ⟨by omega⟩, ⟨((Below.heap_setCell _ ⟨gx, 6, none⟩ (.int .i64 a.g) gi (Ne.symm HG.out.2.2.2.2.1)).trans ((Below.heap_setCell _ ⟨gx, 5, none⟩ (.int .i64 a.i) gi (Ne.symm HG.out.2.2.2.2.1)).trans HI5.out))⟩, ⟨by rw [HF.out]; exact (blk_put (cs' := #[.int .i64 x.p, .int .i64 x.o, .int .i64 x.c, .int .i64 x.z, .int .i64 x.m, .int .i64 a.i, .int .i64 a.g, .int .i64 x.i2, .int .i64 x.g2, .string x.n, .string x.n2, .slice x.dA x.dN x.dC]) (blk_put (cs' := #[.int .i64 x.p, .int .i64 x.o, .int .i64 x.c, .int .i64 x.z, .int .i64 x.m, .int .i64 a.i, .int .i64 x.g, .int .i64 x.i2, .int .i64 x.g2, .string x.n, .string x.n2, .slice x.dA x.dN x.dC]) HX5.out 5 (.int .i64 a.i) rfl) 6 (.int .i64 a.g) rfl)⟩, ⟨((HB5.out.setCell HG.out.2.2.1 _).setCell HG.out.2.2.1 _)⟩⟩
      · go_wp2_with ((with_reducible refine gate_dst (N := 13) rfl ?_); refine next_arm rfl (.tmp 12) 0 rfl rfl gi rfl s k HI.out hlt (HAS.out k hlt) ?_; rw [← HV.out]; obtain ⟨w5, hw5, hI5, hX5, hA5, hB5⟩ := iter_step HI.out HXr.out HAr.out HB.out HG.out.2.2.2.2.1 (Nat.ne_of_lt (Nat.lt_of_lt_of_le HG.out.1 HG.out.2.2.2.1)) HG.out.2.2.2.1; rw [← hw5]; have ka7 : w5.cell? ⟨ga, 7, none⟩ = some (.int .i64 a.i2) := (blk_cell hA5 7).trans rfl; have ka8 : w5.cell? ⟨ga, 8, none⟩ = some (.int .i64 a.g2) := (blk_cell hA5 8).trans rfl; have kx7 : w5.cell? ⟨gx, 7, none⟩ = some (.int .i64 x.i2) := (blk_cell hX5 7).trans rfl; have kxf7 := blk_frozen hX5 7; have kx8 : w5.cell? ⟨gx, 8, none⟩ = some (.int .i64 x.g2) := (blk_cell hX5 8).trans rfl; have kxf8 := blk_frozen hX5 8;  have HI5 := Aside0.mk hI5; have HX5 := Aside0.mk hX5; have HA5 := Aside0.mk hA5; have HB5 := Aside0.mk hB5; clear hw5 hI5 hX5 hA5 hB5 HI HXr HAr HB)
        go_roundg (s.size - (k + 1))
        case measure => have := HK.out; omega
        case rel => exact ⟨k + 1, ⟨by omega⟩, ⟨((Below.heap_setCell _ ⟨gx, 8, none⟩ (.int .i64 a.g2) gi (Ne.symm HG.out.2.2.2.2.1)).trans ((Below.heap_setCell _ ⟨gx, 7, none⟩ (.int .i64 a.i2) gi (Ne.symm HG.out.2.2.2.2.1)).trans HI5.out))⟩, ⟨by rw [HF.out]; exact (blk_put (cs' := #[.int .i64 x.p, .int .i64 x.o, .int .i64 x.c, .int .i64 x.z, .int .i64 x.m, .int .i64 x.i, .int .i64 x.g, .int .i64 a.i2, .int .i64 a.g2, .string x.n, .string x.n2, .slice x.dA x.dN x.dC]) (blk_put (cs' := #[.int .i64 x.p, .int .i64 x.o, .int .i64 x.c, .int .i64 x.z, .int .i64 x.m, .int .i64 x.i, .int .i64 x.g, .int .i64 a.i2, .int .i64 x.g2, .string x.n, .string x.n2, .slice x.dA x.dN x.dC]) HX5.out 7 (.int .i64 a.i2) rfl) 8 (.int .i64 a.g2) rfl)⟩, ⟨((HB5.out.setCell HG.out.2.2.1 _).setCell HG.out.2.2.1 _)⟩⟩
      · go_wp2_with ((with_reducible refine gate_dst (N := 13) rfl ?_); refine next_arm rfl (.tmp 12) 0 rfl rfl gi rfl s k HI.out hlt (HAS.out k hlt) ?_; rw [← HV.out]; obtain ⟨w5, hw5, hI5, hX5, hA5, hB5⟩ := iter_step HI.out HXr.out HAr.out HB.out HG.out.2.2.2.2.1 (Nat.ne_of_lt (Nat.lt_of_lt_of_le HG.out.1 HG.out.2.2.2.1)) HG.out.2.2.2.1; rw [← hw5]; have ka3 : w5.cell? ⟨ga, 3, none⟩ = some (.int .i64 a.z) := (blk_cell hA5 3).trans rfl; have kx3 : w5.cell? ⟨gx, 3, none⟩ = some (.int .i64 x.z) := (blk_cell hX5 3).trans rfl; have kxf3 := blk_frozen hX5 3;  have HI5 := Aside0.mk hI5; have HX5 := Aside0.mk hX5; have HA5 := Aside0.mk hA5; have HB5 := Aside0.mk hB5; clear hw5 hI5 hX5 hA5 hB5 HI HXr HAr HB)
        go_roundg (s.size - (k + 1))
        case measure => have := HK.out; omega
        case rel => exact ⟨k + 1, ⟨by omega⟩, ⟨((Below.heap_setCell _ ⟨gx, 3, none⟩ (.int .i64 a.z) gi (Ne.symm HG.out.2.2.2.2.1)).trans HI5.out)⟩, ⟨by rw [HF.out]; exact (blk_put (cs' := #[.int .i64 x.p, .int .i64 x.o, .int .i64 x.c, .int .i64 a.z, .int .i64 x.m, .int .i64 x.i, .int .i64 x.g, .int .i64 x.i2, .int .i64 x.g2, .string x.n, .string x.n2, .slice x.dA x.dN x.dC]) HX5.out 3 (.int .i64 a.z) rfl)⟩, ⟨(HB5.out.setCell HG.out.2.2.1 _)⟩⟩
      · go_wp2_with ((with_reducible refine gate_dst (N := 13) rfl ?_); refine next_arm rfl (.tmp 12) 0 rfl rfl gi rfl s k HI.out hlt (HAS.out k hlt) ?_; rw [← HV.out]; obtain ⟨w5, hw5, hI5, hX5, hA5, hB5⟩ := iter_step HI.out HXr.out HAr.out HB.out HG.out.2.2.2.2.1 (Nat.ne_of_lt (Nat.lt_of_lt_of_le HG.out.1 HG.out.2.2.2.1)) HG.out.2.2.2.1; rw [← hw5]; have ka2 : w5.cell? ⟨ga, 2, none⟩ = some (.int .i64 a.c) := (blk_cell hA5 2).trans rfl; have kx2 : w5.cell? ⟨gx, 2, none⟩ = some (.int .i64 x.c) := (blk_cell hX5 2).trans rfl; have kxf2 := blk_frozen hX5 2;  have HI5 := Aside0.mk hI5; have HX5 := Aside0.mk hX5; have HA5 := Aside0.mk hA5; have HB5 := Aside0.mk hB5; clear hw5 hI5 hX5 hA5 hB5 HI HXr HAr HB)
        go_roundg (s.size - (k + 1))
        case measure => have := HK.out; omega
        case rel => exact ⟨k + 1, ⟨by omega⟩, ⟨((Below.heap_setCell _ ⟨gx, 2, none⟩ (.int .i64 a.c) gi (Ne.symm HG.out.2.2.2.2.1)).trans HI5.out)⟩, ⟨by rw [HF.out]; exact (blk_put (cs' := #[.int .i64 x.p, .int .i64 x.o, .int .i64 a.c, .int .i64 x.z, .int .i64 x.m, .int .i64 x.i, .int .i64 x.g, .int .i64 x.i2, .int .i64 x.g2, .string x.n, .string x.n2, .slice x.dA x.dN x.dC]) HX5.out 2 (.int .i64 a.c) rfl)⟩, ⟨(HB5.out.setCell HG.out.2.2.1 _)⟩⟩
      · go_wp2_with ((with_reducible refine gate_dst (N := 13) rfl ?_); refine next_arm rfl (.tmp 12) 0 rfl rfl gi rfl s k HI.out hlt (HAS.out k hlt) ?_; rw [← HV.out]; obtain ⟨w5, hw5, hI5, hX5, hA5, hB5⟩ := iter_step HI.out HXr.out HAr.out HB.out HG.out.2.2.2.2.1 (Nat.ne_of_lt (Nat.lt_of_lt_of_le HG.out.1 HG.out.2.2.2.1)) HG.out.2.2.2.1; rw [← hw5]; have ka4 : w5.cell? ⟨ga, 4, none⟩ = some (.int .i64 a.m) := (blk_cell hA5 4).trans rfl; have kx4 : w5.cell? ⟨gx, 4, none⟩ = some (.int .i64 x.m) := (blk_cell hX5 4).trans rfl; have kxf4 := blk_frozen hX5 4;  have HI5 := Aside0.mk hI5; have HX5 := Aside0.mk hX5; have HA5 := Aside0.mk hA5; have HB5 := Aside0.mk hB5; clear hw5 hI5 hX5 hA5 hB5 HI HXr HAr HB)
        go_roundg (s.size - (k + 1))
        case measure => have := HK.out; omega
        case rel => exact ⟨k + 1, ⟨by omega⟩, ⟨((Below.heap_setCell _ ⟨gx, 4, none⟩ (.int .i64 a.m) gi (Ne.symm HG.out.2.2.2.2.1)).trans HI5.out)⟩, ⟨by rw [HF.out]; exact (blk_put (cs' := #[.int .i64 x.p, .int .i64 x.o, .int .i64 x.c, .int .i64 x.z, .int .i64 a.m, .int .i64 x.i, .int .i64 x.g, .int .i64 x.i2, .int .i64 x.g2, .string x.n, .string x.n2, .slice x.dA x.dN x.dC]) HX5.out 4 (.int .i64 a.m) rfl)⟩, ⟨(HB5.out.setCell HG.out.2.2.1 _)⟩⟩
      · go_wp2_with ((with_reducible refine gate_dst (N := 13) rfl ?_); refine next_arm rfl (.tmp 12) 0 rfl rfl gi rfl s k HI.out hlt (HAS.out k hlt) ?_; rw [← HV.out]; obtain ⟨w5, hw5, hI5, hX5, hA5, hB5⟩ := iter_step HI.out HXr.out HAr.out HB.out HG.out.2.2.2.2.1 (Nat.ne_of_lt (Nat.lt_of_lt_of_le HG.out.1 HG.out.2.2.2.1)) HG.out.2.2.2.1; rw [← hw5]; have ka1 : w5.cell? ⟨ga, 1, none⟩ = some (.int .i64 a.o) := (blk_cell hA5 1).trans rfl; have kx1 : w5.cell? ⟨gx, 1, none⟩ = some (.int .i64 x.o) := (blk_cell hX5 1).trans rfl; have kxf1 := blk_frozen hX5 1;  have HI5 := Aside0.mk hI5; have HX5 := Aside0.mk hX5; have HA5 := Aside0.mk hA5; have HB5 := Aside0.mk hB5; clear hw5 hI5 hX5 hA5 hB5 HI HXr HAr HB)
        go_roundg (s.size - (k + 1))
        case measure => have := HK.out; omega
        case rel => exact ⟨k + 1, ⟨by omega⟩, ⟨((Below.heap_setCell _ ⟨gx, 1, none⟩ (.int .i64 a.o) gi (Ne.symm HG.out.2.2.2.2.1)).trans HI5.out)⟩, ⟨by rw [HF.out]; exact (blk_put (cs' := #[.int .i64 x.p, .int .i64 a.o, .int .i64 x.c, .int .i64 x.z, .int .i64 x.m, .int .i64 x.i, .int .i64 x.g, .int .i64 x.i2, .int .i64 x.g2, .string x.n, .string x.n2, .slice x.dA x.dN x.dC]) HX5.out 1 (.int .i64 a.o) rfl)⟩, ⟨(HB5.out.setCell HG.out.2.2.1 _)⟩⟩
      · go_wp2_with ((with_reducible refine gate_dst (N := 13) rfl ?_); refine next_arm rfl (.tmp 12) 0 rfl rfl gi rfl s k HI.out hlt (HAS.out k hlt) ?_; rw [← HV.out]; obtain ⟨w5, hw5, hI5, hX5, hA5, hB5⟩ := iter_step HI.out HXr.out HAr.out HB.out HG.out.2.2.2.2.1 (Nat.ne_of_lt (Nat.lt_of_lt_of_le HG.out.1 HG.out.2.2.2.1)) HG.out.2.2.2.1; rw [← hw5]; have ka9 : w5.cell? ⟨ga, 9, none⟩ = some (.string a.n) := (blk_cell hA5 9).trans rfl; have kx9 : w5.cell? ⟨gx, 9, none⟩ = some (.string x.n) := (blk_cell hX5 9).trans rfl; have kxf9 := blk_frozen hX5 9;  have HI5 := Aside0.mk hI5; have HX5 := Aside0.mk hX5; have HA5 := Aside0.mk hA5; have HB5 := Aside0.mk hB5; clear hw5 hI5 hX5 hA5 hB5 HI HXr HAr HB)
        go_roundg (s.size - (k + 1))
        case measure => have := HK.out; omega
        case rel => exact ⟨k + 1, ⟨by omega⟩, ⟨((Below.heap_setCell _ ⟨gx, 9, none⟩ (.string a.n) gi (Ne.symm HG.out.2.2.2.2.1)).trans HI5.out)⟩, ⟨by rw [HF.out]; exact (blk_put (cs' := #[.int .i64 x.p, .int .i64 x.o, .int .i64 x.c, .int .i64 x.z, .int .i64 x.m, .int .i64 x.i, .int .i64 x.g, .int .i64 x.i2, .int .i64 x.g2, .string a.n, .string x.n2, .slice x.dA x.dN x.dC]) HX5.out 9 (.string a.n) rfl)⟩, ⟨(HB5.out.setCell HG.out.2.2.1 _)⟩⟩
      · go_wp2_with ((with_reducible refine gate_dst (N := 13) rfl ?_); refine next_arm rfl (.tmp 12) 0 rfl rfl gi rfl s k HI.out hlt (HAS.out k hlt) ?_; rw [← HV.out]; obtain ⟨w5, hw5, hI5, hX5, hA5, hB5⟩ := iter_step HI.out HXr.out HAr.out HB.out HG.out.2.2.2.2.1 (Nat.ne_of_lt (Nat.lt_of_lt_of_le HG.out.1 HG.out.2.2.2.1)) HG.out.2.2.2.1; rw [← hw5]; have ka10 : w5.cell? ⟨ga, 10, none⟩ = some (.string a.n2) := (blk_cell hA5 10).trans rfl; have kx10 : w5.cell? ⟨gx, 10, none⟩ = some (.string x.n2) := (blk_cell hX5 10).trans rfl; have kxf10 := blk_frozen hX5 10;  have HI5 := Aside0.mk hI5; have HX5 := Aside0.mk hX5; have HA5 := Aside0.mk hA5; have HB5 := Aside0.mk hB5; clear hw5 hI5 hX5 hA5 hB5 HI HXr HAr HB)
        go_roundg (s.size - (k + 1))
        case measure => have := HK.out; omega
        case rel => exact ⟨k + 1, ⟨by omega⟩, ⟨((Below.heap_setCell _ ⟨gx, 10, none⟩ (.string a.n2) gi (Ne.symm HG.out.2.2.2.2.1)).trans HI5.out)⟩, ⟨by rw [HF.out]; exact (blk_put (cs' := #[.int .i64 x.p, .int .i64 x.o, .int .i64 x.c, .int .i64 x.z, .int .i64 x.m, .int .i64 x.i, .int .i64 x.g, .int .i64 x.i2, .int .i64 x.g2, .string x.n, .string a.n2, .slice x.dA x.dN x.dC]) HX5.out 10 (.string a.n2) rfl)⟩, ⟨(HB5.out.setCell HG.out.2.2.1 _)⟩⟩
      · go_wp2_with ((with_reducible refine gate_dst (N := 13) rfl ?_); refine next_arm rfl (.tmp 12) 0 rfl rfl gi rfl s k HI.out hlt (HAS.out k hlt) ?_; rw [← HV.out]; obtain ⟨w5, hw5, hI5, hX5, hA5, hB5⟩ := iter_step HI.out HXr.out HAr.out HB.out HG.out.2.2.2.2.1 (Nat.ne_of_lt (Nat.lt_of_lt_of_le HG.out.1 HG.out.2.2.2.1)) HG.out.2.2.2.1; rw [← hw5]; have ka11 : w5.cell? ⟨ga, 11, none⟩ = some (.slice a.dA a.dN a.dC) := (blk_cell hA5 11).trans rfl; have kx11 : w5.cell? ⟨gx, 11, none⟩ = some (.slice x.dA x.dN x.dC) := (blk_cell hX5 11).trans rfl; have kxf11 := blk_frozen hX5 11;  have HI5 := Aside0.mk hI5; have HX5 := Aside0.mk hX5; have HA5 := Aside0.mk hA5; have HB5 := Aside0.mk hB5; clear hw5 hI5 hX5 hA5 hB5 HI HXr HAr HB)
        go_roundg (s.size - (k + 1))
        case measure => have := HK.out; omega
        case rel => exact ⟨k + 1, ⟨by omega⟩, ⟨((Below.heap_setCell _ ⟨gx, 11, none⟩ (.slice a.dA a.dN a.dC) gi (Ne.symm HG.out.2.2.2.2.1)).trans HI5.out)⟩, ⟨by rw [HF.out]; exact (blk_put (cs' := #[.int .i64 x.p, .int .i64 x.o, .int .i64 x.c, .int .i64 x.z, .int .i64 x.m, .int .i64 x.i, .int .i64 x.g, .int .i64 x.i2, .int .i64 x.g2, .string x.n, .string x.n2, .slice a.dA a.dN a.dC]) HX5.out 11 (.slice a.dA a.dN a.dC) rfl)⟩, ⟨(HB5.out.setCell HG.out.2.2.1 _)⟩⟩
      · have d1 : ((v : Int) == 104) = false := beq_eq_false_iff_ne.mpr (by omega); have d2 : ((v : Int) == 72) = false := beq_eq_false_iff_ne.mpr (by omega); have d3 : ((v : Int) == 115) = false := beq_eq_false_iff_ne.mpr (by omega); have d4 : ((v : Int) == 99) = false := beq_eq_false_iff_ne.mpr (by omega); have d5 : ((v : Int) == 109) = false := beq_eq_false_iff_ne.mpr (by omega); have d6 : ((v : Int) == 111) = false := beq_eq_false_iff_ne.mpr (by omega); have d7 : ((v : Int) == 110) = false := beq_eq_false_iff_ne.mpr (by omega); have d8 : ((v : Int) == 78) = false := beq_eq_false_iff_ne.mpr (by omega); have d9 : ((v : Int) == 100) = false := beq_eq_false_iff_ne.mpr (by omega)
        go_wp2_with ((with_reducible refine gate_dst (N := 13) rfl ?_); refine next_arm rfl (.tmp 12) 0 rfl rfl gi rfl s k HI.out hlt (HAS.out k hlt) ?_; rw [← HV.out]; obtain ⟨w5, hw5, hI5, hX5, hA5, hB5⟩ := iter_step HI.out HXr.out HAr.out HB.out HG.out.2.2.2.2.1 (Nat.ne_of_lt (Nat.lt_of_lt_of_le HG.out.1 HG.out.2.2.2.1)) HG.out.2.2.2.1; rw [← hw5];  have HI5 := Aside0.mk hI5; have HX5 := Aside0.mk hX5; have HA5 := Aside0.mk hA5; have HB5 := Aside0.mk hB5; clear hw5 hI5 hX5 hA5 hB5 HI HXr HAr HB)
        go_roundg (s.size - (k + 1))
        case measure => have := HK.out; omega
        case rel => exact ⟨k + 1, ⟨by omega⟩, HI5, ⟨by rw [HF.out]; unfold updL; rw [if_neg e1, if_neg e2, if_neg e3, if_neg e4, if_neg e5, if_neg e6, if_neg e7, if_neg e8, if_neg e9]; exact HX5.out⟩, HB5⟩
    · obtain rfl : k = s.size := by have := HK.out; omega
      have hn : ¬ s.size < s.size := Nat.lt_irrefl _
      have HR := Aside0.mk ((HB.out.block gr HG.out.2.1).trans HBR.out)
      obtain ⟨x, hx⟩ : ∃ x, x = foldL a s s.size := ⟨_, rfl⟩
      have hXr := HX.out
      rw [← hx] at hXr
      have HXX := Aside0.mk hx
      clear hx hAr HX
      have kx0 : wr.cell? ⟨gx, 0, none⟩ = some (.int .i64 x.p) := (blk_cell hXr 0).trans rfl
      have kx1 : wr.cell? ⟨gx, 1, none⟩ = some (.int .i64 x.o) := (blk_cell hXr 1).trans rfl
      have kx2 : wr.cell? ⟨gx, 2, none⟩ = some (.int .i64 x.c) := (blk_cell hXr 2).trans rfl
      have kx3 : wr.cell? ⟨gx, 3, none⟩ = some (.int .i64 x.z) := (blk_cell hXr 3).trans rfl
      have kx4 : wr.cell? ⟨gx, 4, none⟩ = some (.int .i64 x.m) := (blk_cell hXr 4).trans rfl
      have kx5 : wr.cell? ⟨gx, 5, none⟩ = some (.int .i64 x.i) := (blk_cell hXr 5).trans rfl
      have kx6 : wr.cell? ⟨gx, 6, none⟩ = some (.int .i64 x.g) := (blk_cell hXr 6).trans rfl
      have kx7 : wr.cell? ⟨gx, 7, none⟩ = some (.int .i64 x.i2) := (blk_cell hXr 7).trans rfl
      have kx8 : wr.cell? ⟨gx, 8, none⟩ = some (.int .i64 x.g2) := (blk_cell hXr 8).trans rfl
      have kx9 : wr.cell? ⟨gx, 9, none⟩ = some (.string x.n) := (blk_cell hXr 9).trans rfl
      have kx10 : wr.cell? ⟨gx, 10, none⟩ = some (.string x.n2) := (blk_cell hXr 10).trans rfl
      have kx11 : wr.cell? ⟨gx, 11, none⟩ = some (.slice x.dA x.dN x.dC) := (blk_cell hXr 11).trans rfl
      have kr0 : wr.cell? ⟨gr, 0, none⟩ = some (.int .i64 0) := (blk_cell HR.out 0).trans rfl
      have krf0 := blk_frozen HR.out 0
      have kr1 : wr.cell? ⟨gr, 1, none⟩ = some (.int .i64 0) := (blk_cell HR.out 1).trans rfl
      have krf1 := blk_frozen HR.out 1
      have kr2 : wr.cell? ⟨gr, 2, none⟩ = some (.int .i64 0) := (blk_cell HR.out 2).trans rfl
      have krf2 := blk_frozen HR.out 2
      have kr3 : wr.cell? ⟨gr, 3, none⟩ = some (.int .i64 0) := (blk_cell HR.out 3).trans rfl
      have krf3 := blk_frozen HR.out 3
      have kr4 : wr.cell? ⟨gr, 4, none⟩ = some (.int .i64 0) := (blk_cell HR.out 4).trans rfl
      have krf4 := blk_frozen HR.out 4
      have kr5 : wr.cell? ⟨gr, 5, none⟩ = some (.int .i64 0) := (blk_cell HR.out 5).trans rfl
      have krf5 := blk_frozen HR.out 5
      have kr6 : wr.cell? ⟨gr, 6, none⟩ = some (.int .i64 0) := (blk_cell HR.out 6).trans rfl
      have krf6 := blk_frozen HR.out 6
      have kr7 : wr.cell? ⟨gr, 7, none⟩ = some (.int .i64 0) := (blk_cell HR.out 7).trans rfl
      have krf7 := blk_frozen HR.out 7
      have kr8 : wr.cell? ⟨gr, 8, none⟩ = some (.int .i64 0) := (blk_cell HR.out 8).trans rfl
      have krf8 := blk_frozen HR.out 8
      have kr9 : wr.cell? ⟨gr, 9, none⟩ = some (.string ⟨#[]⟩) := (blk_cell HR.out 9).trans rfl
      have krf9 := blk_frozen HR.out 9
      have kr10 : wr.cell? ⟨gr, 10, none⟩ = some (.string ⟨#[]⟩) := (blk_cell HR.out 10).trans rfl
      have krf10 := blk_frozen HR.out 10
      have kr11 : wr.cell? ⟨gr, 11, none⟩ = some (.slice none 0 0) := (blk_cell HR.out 11).trans rfl
      have krf11 := blk_frozen HR.out 11
      go_wp2_with ((with_reducible refine gate_dst (N := 13) rfl ?_); refine end_arm rfl (.tmp 12) 0 rfl rfl gi rfl s s.size HI.out (Nat.lt_irrefl _) ?_)
      have hb0 := below_then HB2.out HB2.out.size HB.out
      have hg2 := HG.out.2.2.2.2.2.1
      obtain ⟨wF, hwF⟩ : ∃ wF, wF = ((((((((((((wr.setCell ⟨gr, 0, none⟩ (.int .i64 x.p)).setCell ⟨gr, 1, none⟩ (.int .i64 x.o)).setCell ⟨gr, 2, none⟩ (.int .i64 x.c)).setCell ⟨gr, 3, none⟩ (.int .i64 x.z)).setCell ⟨gr, 4, none⟩ (.int .i64 x.m)).setCell ⟨gr, 5, none⟩ (.int .i64 x.i)).setCell ⟨gr, 6, none⟩ (.int .i64 x.g)).setCell ⟨gr, 7, none⟩ (.int .i64 x.i2)).setCell ⟨gr, 8, none⟩ (.int .i64 x.g2)).setCell ⟨gr, 9, none⟩ (.string x.n)).setCell ⟨gr, 10, none⟩ (.string x.n2)).setCell ⟨gr, 11, none⟩ (.slice x.dA x.dN x.dC)) := ⟨_, rfl⟩
      have hF : wF.heap[gr]? = some (.cells #[.int .i64 x.p, .int .i64 x.o, .int .i64 x.c, .int .i64 x.z, .int .i64 x.m, .int .i64 x.i, .int .i64 x.g, .int .i64 x.i2, .int .i64 x.g2, .string x.n, .string x.n2, .slice x.dA x.dN x.dC] 26 (0, 0)) := by rw [hwF]; exact (blk_put (cs' := #[.int .i64 x.p, .int .i64 x.o, .int .i64 x.c, .int .i64 x.z, .int .i64 x.m, .int .i64 x.i, .int .i64 x.g, .int .i64 x.i2, .int .i64 x.g2, .string x.n, .string x.n2, .slice x.dA x.dN x.dC]) (blk_put (cs' := #[.int .i64 x.p, .int .i64 x.o, .int .i64 x.c, .int .i64 x.z, .int .i64 x.m, .int .i64 x.i, .int .i64 x.g, .int .i64 x.i2, .int .i64 x.g2, .string x.n, .string x.n2, .slice none 0 0]) (blk_put (cs' := #[.int .i64 x.p, .int .i64 x.o, .int .i64 x.c, .int .i64 x.z, .int .i64 x.m, .int .i64 x.i, .int .i64 x.g, .int .i64 x.i2, .int .i64 x.g2, .string x.n, .string ⟨#[]⟩, .slice none 0 0]) (blk_put (cs' := #[.int .i64 x.p, .int .i64 x.o, .int .i64 x.c, .int .i64 x.z, .int .i64 x.m, .int .i64 x.i, .int .i64 x.g, .int .i64 x.i2, .int .i64 x.g2, .string ⟨#[]⟩, .string ⟨#[]⟩, .slice none 0 0]) (blk_put (cs' := #[.int .i64 x.p, .int .i64 x.o, .int .i64 x.c, .int .i64 x.z, .int .i64 x.m, .int .i64 x.i, .int .i64 x.g, .int .i64 x.i2, .int .i64 0, .string ⟨#[]⟩, .string ⟨#[]⟩, .slice none 0 0]) (blk_put (cs' := #[.int .i64 x.p, .int .i64 x.o, .int .i64 x.c, .int .i64 x.z, .int .i64 x.m, .int .i64 x.i, .int .i64 x.g, .int .i64 0, .int .i64 0, .string ⟨#[]⟩, .string ⟨#[]⟩, .slice none 0 0]) (blk_put (cs' := #[.int .i64 x.p, .int .i64 x.o, .int .i64 x.c, .int .i64 x.z, .int .i64 x.m, .int .i64 x.i, .int .i64 0, .int .i64 0, .int .i64 0, .string ⟨#[]⟩, .string ⟨#[]⟩, .slice none 0 0]) (blk_put (cs' := #[.int .i64 x.p, .int .i64 x.o, .int .i64 x.c, .int .i64 x.z, .int .i64 x.m, .int .i64 0, .int .i64 0, .int .i64 0, .int .i64 0, .string ⟨#[]⟩, .string ⟨#[]⟩, .slice none 0 0]) (blk_put (cs' := #[.int .i64 x.p, .int .i64 x.o, .int .i64 x.c, .int .i64 x.z, .int .i64 0, .int .i64 0, .int .i64 0, .int .i64 0, .int .i64 0, .string ⟨#[]⟩, .string ⟨#[]⟩, .slice none 0 0]) (blk_put (cs' := #[.int .i64 x.p, .int .i64 x.o, .int .i64 x.c, .int .i64 0, .int .i64 0, .int .i64 0, .int .i64 0, .int .i64 0, .int .i64 0, .string ⟨#[]⟩, .string ⟨#[]⟩, .slice none 0 0]) (blk_put (cs' := #[.int .i64 x.p, .int .i64 x.o, .int .i64 0, .int .i64 0, .int .i64 0, .int .i64 0, .int .i64 0, .int .i64 0, .int .i64 0, .string ⟨#[]⟩, .string ⟨#[]⟩, .slice none 0 0]) (blk_put (cs' := #[.int .i64 x.p, .int .i64 0, .int .i64 0, .int .i64 0, .int .i64 0, .int .i64 0, .int .i64 0, .int .i64 0, .int .i64 0, .string ⟨#[]⟩, .string ⟨#[]⟩, .slice none 0 0]) HR.out 0 (.int .i64 x.p) rfl) 1 (.int .i64 x.o) rfl) 2 (.int .i64 x.c) rfl) 3 (.int .i64 x.z) rfl) 4 (.int .i64 x.m) rfl) 5 (.int .i64 x.i) rfl) 6 (.int .i64 x.g) rfl) 7 (.int .i64 x.i2) rfl) 8 (.int .i64 x.g2) rfl) 9 (.string x.n) rfl) 10 (.string x.n2) rfl) 11 (.slice x.dA x.dN x.dC) rfl)
      have hbF : Below w.heap.size w wF := by rw [hwF]; exact ((((((((((((hb0.setCell hg2 _).setCell hg2 _).setCell hg2 _).setCell hg2 _).setCell hg2 _).setCell hg2 _).setCell hg2 _).setCell hg2 _).setCell hg2 _).setCell hg2 _).setCell hg2 _).setCell hg2 _)
      rw [← hwF]
      clear hwF hb0 kx0 kx1 kx2 kx3 kx4 kx5 kx6 kx7 kx8 kx9 kx10 kx11 kr0 krf0 kr1 krf1 kr2 krf2 kr3 krf3 kr4 krf4 kr5 krf5 kr6 krf6 kr7 krf7 kr8 krf8 kr9 krf9 kr10 krf10 kr11 krf11
      have e0 : wF.cell? ⟨gr, 0, none⟩ = some (.int .i64 x.p) := (blk_cell hF 0).trans rfl
      have e1 : wF.cell? ⟨gr, 1, none⟩ = some (.int .i64 x.o) := (blk_cell hF 1).trans rfl
      have e2 : wF.cell? ⟨gr, 2, none⟩ = some (.int .i64 x.c) := (blk_cell hF 2).trans rfl
      have e3 : wF.cell? ⟨gr, 3, none⟩ = some (.int .i64 x.z) := (blk_cell hF 3).trans rfl
      have e4 : wF.cell? ⟨gr, 4, none⟩ = some (.int .i64 x.m) := (blk_cell hF 4).trans rfl
      have e5 : wF.cell? ⟨gr, 5, none⟩ = some (.int .i64 x.i) := (blk_cell hF 5).trans rfl
      have e6 : wF.cell? ⟨gr, 6, none⟩ = some (.int .i64 x.g) := (blk_cell hF 6).trans rfl
      have e7 : wF.cell? ⟨gr, 7, none⟩ = some (.int .i64 x.i2) := (blk_cell hF 7).trans rfl
      have e8 : wF.cell? ⟨gr, 8, none⟩ = some (.int .i64 x.g2) := (blk_cell hF 8).trans rfl
      have e9 : wF.cell? ⟨gr, 9, none⟩ = some (.string x.n) := (blk_cell hF 9).trans rfl
      have e10 : wF.cell? ⟨gr, 10, none⟩ = some (.string x.n2) := (blk_cell hF 10).trans rfl
      have e11 : wF.cell? ⟨gr, 11, none⟩ = some (.slice x.dA x.dN x.dC) := (blk_cell hF 11).trans rfl
      exact bodyPost_ret (v := .agg #[.int .i64 x.p, .int .i64 x.o, .int .i64 x.c, .int .i64 x.z, .int .i64 x.m, .int .i64 x.i, .int .i64 x.g, .int .i64 x.i2, .int .i64 x.g2, .string x.n, .string x.n2, .slice x.dA x.dN x.dC]) (by simp [results, Try.results43, go_sem, e0, e1, e2, e3, e4, e5, e6, e7, e8, e9, e10, e11]) rfl ⟨by rw [HXX.out], hbF⟩
end Go.Proofs.Ytffaljncdcldpaa.G
