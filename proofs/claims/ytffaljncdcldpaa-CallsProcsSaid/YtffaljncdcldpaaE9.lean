/- Hand-made contracts of calls: Write. -/
import Derived.Test.YtffaljncdcldpaaE8
namespace Go.Proofs.Ytffaljncdcldpaa.G
open Go.RowKit Go.Proofs.YtffaljncdcldpaaW.PrintWords Go.Proofs.YtffaljncdcldpaaW.PrintLast Go.Proofs.YtffaljncdcldpaaW.PrintMore
set_option linter.unusedVariables false
set_option linter.unusedSimpArgs false

/-- A letter's bytes. -/
def bytesL (a : AR) (la : List Int) (v : Nat) : List Int :=
  if v = 104 then beN a.i 4 ++ beN a.g 4 else if v = 72 then beN a.i2 4 ++ beN a.g2 4 else if v = 115 then beN a.z 4 else if v = 99 then beN a.c 4 else if v = 109 then beN a.m 4 else if v = 110 then textB (bsL a.n) else if v = 78 then textB (bsL a.n2) else if v = 111 then beN a.o 8 else textB la
def writeK (a : AR) (la : List Int) (s : ByteArray) (k : Nat) : List Int := ((s.data.toList.take k).map (fun b => b.toNat)).flatMap (bytesL a la)
def writeA (a : AR) (la : List Int) : List Int := writeK a la (fieldsB a.p) (fieldsB a.p).size

theorem writeK_succ (a : AR) (la : List Int) (s : ByteArray) (k : Nat) (h : k < s.size) : writeK a la s (k + 1) = writeK a la s k ++ bytesL a la (s[k]'h).toNat := by
  unfold writeK
  have hk : k < s.data.toList.length := by simpa using h
  rw [List.take_succ_eq_append_getElem hk, List.map_append, List.flatMap_append]
  simp
  rfl
theorem fields_few (p : Int) : (fieldsB p).size ≤ 4 := by
  unfold fieldsB
  repeat' split
  all_goals decide
theorem fields_letters (p : Int) (k : Nat) (h : k < (fieldsB p).size) : ((fieldsB p)[k]'h).toNat = 104 ∨ ((fieldsB p)[k]'h).toNat = 72 ∨ ((fieldsB p)[k]'h).toNat = 115 ∨ ((fieldsB p)[k]'h).toNat = 99 ∨ ((fieldsB p)[k]'h).toNat = 109 ∨ ((fieldsB p)[k]'h).toNat = 110 ∨ ((fieldsB p)[k]'h).toNat = 78 ∨ ((fieldsB p)[k]'h).toNat = 111 ∨ ((fieldsB p)[k]'h).toNat = 100 := by
  have key : ∀ b ∈ (fieldsB p).data.toList, b.toNat = 104 ∨ b.toNat = 72 ∨ b.toNat = 115 ∨ b.toNat = 99 ∨ b.toNat = 109 ∨ b.toNat = 110 ∨ b.toNat = 78 ∨ b.toNat = 111 ∨ b.toNat = 100 := by
    unfold fieldsB
    repeat' split
    all_goals simp
  exact key _ (List.getElem_mem (by simpa using h))

structure MayOk (a : AR) (la : List Int) : Prop where mk ::
  i : 0 ≤ a.i ∧ a.i < 4294967296
  g : 0 ≤ a.g ∧ a.g < 4294967296
  i2 : 0 ≤ a.i2 ∧ a.i2 < 4294967296
  g2 : 0 ≤ a.g2 ∧ a.g2 < 4294967296
  z : 0 ≤ a.z ∧ a.z < 4294967296
  c : 0 ≤ a.c ∧ a.c < 4294967296
  m : 0 ≤ a.m ∧ a.m < 4294967296
  n : a.n.size ≤ 64
  n2 : a.n2.size ≤ 64
  d : a.dN ≤ 2048
  o : 0 ≤ a.o ∧ a.o ≤ 4611686018427387904
theorem mayA_ok {a : AR} {la : List Int} (h : mayA a la = true) : MayOk a la := by
  unfold mayA smallA words7 inW at h
  simp only [List.all_cons, List.all_nil, Bool.and_eq_true, decide_eq_true_eq, Bool.and_true] at h
  obtain ⟨⟨h1, h2, h3, h4, h5, h6, h7⟩, ⟨h8, h9, h10, h11, h12⟩, _⟩ := h
  exact ⟨by omega, by omega, by omega, by omega, by omega, by omega, by omega, h8, h9, h10, h11, h12⟩

theorem bytesL_length {a : AR} {la : List Int} (h : MayOk a la) (hl : la.length ≤ 2048) (v : Nat) : (bytesL a la v).length ≤ 2100 := by
  have t1 := textB_length (bsL a.n)
  have t2 := textB_length (bsL a.n2)
  have t3 := textB_length la
  have n1 := h.n
  have n2 := h.n2
  rw [bsL_length] at t1 t2
  unfold bytesL
  repeat' split
  all_goals first
    | (simp only [List.length_append, beN_length]; omega)
    | omega
theorem writeK_length {a : AR} {la : List Int} (h : MayOk a la) (hl : la.length ≤ 2048) (s : ByteArray) : ∀ k, k ≤ s.size → (writeK a la s k).length ≤ 2100 * k := by
  intro k
  induction k with
  | zero => intro _; simp [writeK]
  | succ k ih =>
    intro hk
    rw [writeK_succ a la s k hk, List.length_append]
    have := ih (by omega)
    have := bytesL_length h hl (s[k]'hk).toNat
    omega

theorem frm_iter (wr : World) (gi : Nat) (s : ByteArray) (p : Nat) : Frm (fun j => j = gi) wr (wr.iterAt gi s p) := ⟨rfl, rfl, rfl, by rw [Lib.iterAt_size]; exact Nat.le_refl _, fun j _ hj => Lib.iterAt_other wr gi j s p hj⟩
theorem frm_map {ok : Nat → Prop} {w : World} (b : Obj) : Frm ok w (w.alloc b) := Frm.of_below (below_alloc (Below.refl _ _) b)

set_option maxHeartbeats 16000000 in
set_option maxRecDepth 100000 in
theorem Write_ok (a : AR) (la : List Int) (w : World) (h1 : Kd.C (Kd.int .u8) w a.dA a.dN la) (hby : ∀ x ∈ la, 0 ≤ x ∧ x ≤ 255) (hm : mayA a la = true) :
    Calls Try.prog 15 #[.agg #[.int .i64 a.p, .int .i64 a.o, .int .i64 a.c, .int .i64 a.z, .int .i64 a.m, .int .i64 a.i, .int .i64 a.g, .int .i64 a.i2, .int .i64 a.g2, .string a.n, .string a.n2, .slice a.dA a.dN a.dC]] w fun e w' => ∃ (A : Option Addr) (c : Nat), e = .returned (.tuple #[.slice A (writeA a la).length c, .int .i64 0]) ∧ (writeA a la).length ≤ c ∧ Kd.F (Kd.int .u8) w' (fun k => w.heap.size ≤ k) A (writeA a la).length (writeA a la) ∧ Below w.heap.size w w' := by
  have hu1 := Try.underlying26
  have hu2 := Try.underlying23
  have hu3 := Try.underlying54
  have hmk : ∀ W : World, (Instr.makeMap 58 none).run Try.prog W = .ok (.map (some W.heap.size)) (W.alloc (.map #[] 0)) := fun _ => rfl
  have hmf : ∀ (fn : Fn) (first cap : Array Value) (w : World), (Instr.makeFunc fn first cap).run Try.prog w = .ok (.func fn first cap) w := fun _ _ _ _ => rfl
  have HOK := Aside0.mk (mayA_ok hm)
  have HBY := Aside0.mk hby
  have H1 := Aside0.mk h1
  have HM := Aside0.mk hm
  have HLA : Aside0 (la.length ≤ 2048) := ⟨by have := (mayA_ok hm).d; have := h1.1; omega⟩
  clear h1 hm hby
  go_enter Try.func15, Try.ntmps15
  go_wp2_with fail
  refine (May_calls a la _ (Kd.C_below H1.out (below_alloc (Below.refl _ _) _)) (by have := HOK.out.n; simp only [maxLen]; omega) (by have := HOK.out.n2; simp only [maxLen]; omega)).mono ?_
  rw [HM.out]
  rintro e w2 ⟨rfl, hb⟩
  obtain ⟨hcl, hfz⟩ := bcell hb
  have hm00 : (((w2.alloc (.cells #[.int .i64 a.p, .int .i64 a.o, .int .i64 a.c, .int .i64 a.z, .int .i64 a.m, .int .i64 a.i, .int .i64 a.g, .int .i64 a.i2, .int .i64 a.g2, .string a.n, .string a.n2, .slice a.dA a.dN a.dC, .slice none 0 0] 54)).alloc (.cells #[.pointer (some ⟨w2.heap.size, 0, none⟩)] 52)).alloc (.map #[] 0)).heap[w2.heap.size + 1 + 1]? = some (.map #[] 0) := by
    have h := heap_alloc_new ((w2.alloc (.cells #[.int .i64 a.p, .int .i64 a.o, .int .i64 a.c, .int .i64 a.z, .int .i64 a.m, .int .i64 a.i, .int .i64 a.g, .int .i64 a.i2, .int .i64 a.g2, .string a.n, .string a.n2, .slice a.dA a.dN a.dC, .slice none 0 0] 54)).alloc (.cells #[.pointer (some ⟨w2.heap.size, 0, none⟩)] 52)) (.map #[] 0)
    rw [asz, asz] at h
    exact h
  have HM00 := Aside0.mk hm00
  have HSZ : Aside0 (w.heap.size < w2.heap.size) := ⟨by have := hb.size; rw [asz] at this; omega⟩
  have HPB : Aside0 (((w2.alloc (.cells #[.int .i64 a.p, .int .i64 a.o, .int .i64 a.c, .int .i64 a.z, .int .i64 a.m, .int .i64 a.i, .int .i64 a.g, .int .i64 a.i2, .int .i64 a.g2, .string a.n, .string a.n2, .slice a.dA a.dN a.dC, .slice none 0 0] 54)).alloc (.cells #[.pointer (some ⟨w2.heap.size, 0, none⟩)] 52)).heap[w2.heap.size + 1]? = some (.cells #[.pointer (some ⟨w2.heap.size, 0, none⟩)] 52 (0, 0))) := ⟨by
    have h := heap_alloc_new (w2.alloc (.cells #[.int .i64 a.p, .int .i64 a.o, .int .i64 a.c, .int .i64 a.z, .int .i64 a.m, .int .i64 a.i, .int .i64 a.g, .int .i64 a.i2, .int .i64 a.g2, .string a.n, .string a.n2, .slice a.dA a.dN a.dC, .slice none 0 0] 54)) (.cells #[.pointer (some ⟨w2.heap.size, 0, none⟩)] 52)
    rw [asz] at h
    exact h⟩
  have HLB : Aside0 (((w2.alloc (.cells #[.int .i64 a.p, .int .i64 a.o, .int .i64 a.c, .int .i64 a.z, .int .i64 a.m, .int .i64 a.i, .int .i64 a.g, .int .i64 a.i2, .int .i64 a.g2, .string a.n, .string a.n2, .slice a.dA a.dN a.dC, .slice none 0 0] 54)).alloc (.cells #[.pointer (some ⟨w2.heap.size, 0, none⟩)] 52)).heap[w2.heap.size]? = some (.cells #[.int .i64 a.p, .int .i64 a.o, .int .i64 a.c, .int .i64 a.z, .int .i64 a.m, .int .i64 a.i, .int .i64 a.g, .int .i64 a.i2, .int .i64 a.g2, .string a.n, .string a.n2, .slice a.dA a.dN a.dC, .slice none 0 0] 54 (0, 0))) := ⟨blk_alloc (heap_alloc_new w2 _) _⟩
  have HAB : Aside0 (((w2.alloc (.cells #[.int .i64 a.p, .int .i64 a.o, .int .i64 a.c, .int .i64 a.z, .int .i64 a.m, .int .i64 a.i, .int .i64 a.g, .int .i64 a.i2, .int .i64 a.g2, .string a.n, .string a.n2, .slice a.dA a.dN a.dC, .slice none 0 0] 54)).alloc (.cells #[.pointer (some ⟨w2.heap.size, 0, none⟩)] 52)).heap[w.heap.size]? = some (.cells #[.int .i64 a.p, .int .i64 a.o, .int .i64 a.c, .int .i64 a.z, .int .i64 a.m, .int .i64 a.i, .int .i64 a.g, .int .i64 a.i2, .int .i64 a.g2, .string a.n, .string a.n2, .slice a.dA a.dN a.dC] 26 (0, 0))) := ⟨blk_alloc (blk_alloc ((hb.block w.heap.size (by rw [asz]; omega)).trans (heap_alloc_new w _)) _) _⟩
  have HB2 := Aside0.mk (below_then (below_alloc (Below.refl _ _) _) (by rw [asz]; omega) hb)
  obtain ⟨s, hs⟩ : ∃ s, s = fieldsB a.p := ⟨_, rfl⟩
  have HFD : Aside0 (∀ W, Calls Try.prog 41 #[.int .i64 a.p] W fun e w' => e = .returned (.string s) ∧ w' = W) := ⟨fun W => by rw [hs]; exact fields_calls _ _⟩
  have HS := Aside0.mk hs
  clear hm00 hs hb
  go_wp2_with (first | (go_at_call 41; (with_reducible refine (HFD.out _).mono ?_); rintro e w5 ⟨rfl, hw5⟩; rw [hw5]; clear hw5 hk0) | ((with_reducible refine ins_arm rfl 58 (.tmp 14) (.tmp 15) 104 rfl _ rfl _ _ _ rfl Try.underlying58 Try.underlying21 HM00.out ?hf_ ?_); (case hf_ => rfl); intro wm0 hm0 hfr0; have HM0 := Aside0.mk hm0; have HFR0 := Aside0.mk (Frm.trans (frm_map _) hfr0); clear hm0 hfr0) | ((with_reducible refine ins_arm rfl 58 (.tmp 14) (.tmp 16) 72 rfl _ rfl _ _ _ rfl Try.underlying58 Try.underlying21 HM0.out ?hf_ ?_); (case hf_ => rfl); intro wm1 hm1 hfr1; have HM1 := Aside0.mk hm1; have HFR1 := Aside0.mk (HFR0.out.trans hfr1); clear hm1 hfr1 HFR0 HM0) | ((with_reducible refine ins_arm rfl 58 (.tmp 14) (.tmp 17) 115 rfl _ rfl _ _ _ rfl Try.underlying58 Try.underlying21 HM1.out ?hf_ ?_); (case hf_ => rfl); intro wm2 hm2 hfr2; have HM2 := Aside0.mk hm2; have HFR2 := Aside0.mk (HFR1.out.trans hfr2); clear hm2 hfr2 HFR1 HM1) | ((with_reducible refine ins_arm rfl 58 (.tmp 14) (.tmp 18) 99 rfl _ rfl _ _ _ rfl Try.underlying58 Try.underlying21 HM2.out ?hf_ ?_); (case hf_ => rfl); intro wm3 hm3 hfr3; have HM3 := Aside0.mk hm3; have HFR3 := Aside0.mk (HFR2.out.trans hfr3); clear hm3 hfr3 HFR2 HM2) | ((with_reducible refine ins_arm rfl 58 (.tmp 14) (.tmp 19) 109 rfl _ rfl _ _ _ rfl Try.underlying58 Try.underlying21 HM3.out ?hf_ ?_); (case hf_ => rfl); intro wm4 hm4 hfr4; have HM4 := Aside0.mk hm4; have HFR4 := Aside0.mk (HFR3.out.trans hfr4); clear hm4 hfr4 HFR3 HM3) | ((with_reducible refine ins_arm rfl 58 (.tmp 14) (.tmp 20) 110 rfl _ rfl _ _ _ rfl Try.underlying58 Try.underlying21 HM4.out ?hf_ ?_); (case hf_ => rfl); intro wm5 hm5 hfr5; have HM5 := Aside0.mk hm5; have HFR5 := Aside0.mk (HFR4.out.trans hfr5); clear hm5 hfr5 HFR4 HM4) | ((with_reducible refine ins_arm rfl 58 (.tmp 14) (.tmp 21) 78 rfl _ rfl _ _ _ rfl Try.underlying58 Try.underlying21 HM5.out ?hf_ ?_); (case hf_ => rfl); intro wm6 hm6 hfr6; have HM6 := Aside0.mk hm6; have HFR6 := Aside0.mk (HFR5.out.trans hfr6); clear hm6 hfr6 HFR5 HM5; have hp6 : wm6.cell? ⟨w2.heap.size + 1, 0, none⟩ = some (.pointer (some ⟨w2.heap.size, 0, none⟩)) := (blk_cell ((HFR6.out.block (w2.heap.size + 1) (by rw [asz, asz]; omega) (by omega)).trans HPB.out) 0).trans rfl) | ((with_reducible refine ins_arm rfl 58 (.tmp 14) (.tmp 23) 111 rfl _ rfl _ _ _ rfl Try.underlying58 Try.underlying21 HM6.out ?hf_ ?_); (case hf_ => rfl); intro wm7 hm7 hfr7; have HM7 := Aside0.mk hm7; have HFR7 := Aside0.mk (HFR6.out.trans hfr7); clear hm7 hfr7 HFR6 HM6; have hp7 : wm7.cell? ⟨w2.heap.size + 1, 0, none⟩ = some (.pointer (some ⟨w2.heap.size, 0, none⟩)) := (blk_cell ((HFR7.out.block (w2.heap.size + 1) (by rw [asz, asz]; omega) (by omega)).trans HPB.out) 0).trans rfl) | ((with_reducible refine ins_arm rfl 58 (.tmp 14) (.tmp 25) 100 rfl _ rfl _ _ _ rfl Try.underlying58 Try.underlying21 HM7.out ?hf_ ?_); (case hf_ => rfl); intro wm8 hm8 hfr8; have HM8 := Aside0.mk hm8; have HFR8 := Aside0.mk (HFR7.out.trans hfr8); clear hm8 hfr8 HFR7 HM7; clear hp6 hp7; have hk0 : wm8.cell? ⟨w.heap.size, 0, none⟩ = some (.int .i64 a.p) := (blk_cell ((HFR8.out.block w.heap.size (by have := HSZ.out; rw [asz, asz]; omega) (by have := HSZ.out; omega)).trans HAB.out) 0).trans rfl))
  obtain ⟨wb, hwb⟩ : ∃ wb, wb = ((w2.alloc (.cells #[.int .i64 a.p, .int .i64 a.o, .int .i64 a.c, .int .i64 a.z, .int .i64 a.m, .int .i64 a.i, .int .i64 a.g, .int .i64 a.i2, .int .i64 a.g2, .string a.n, .string a.n2, .slice a.dA a.dN a.dC, .slice none 0 0] 54)).alloc (.cells #[.pointer (some ⟨w2.heap.size, 0, none⟩)] 52)) := ⟨_, rfl⟩
  have hbs : wb.heap.size = w2.heap.size + 1 + 1 := by rw [hwb, asz, asz]
  have hbw : Below w2.heap.size w2 wb := by rw [hwb]; exact below_alloc (below_alloc (Below.refl _ _) _) _
  rw [← hwb] at HPB HLB HAB HFR8
  have hms := HFR8.out.size
  have hszz := HSZ.out
  obtain ⟨ga, hga⟩ : ∃ ga, ga = w.heap.size := ⟨_, rfl⟩
  obtain ⟨gl, hgl⟩ : ∃ gl, gl = w2.heap.size := ⟨_, rfl⟩
  obtain ⟨g4, hg4⟩ : ∃ g4, g4 = w2.heap.size + 1 := ⟨_, rfl⟩
  obtain ⟨gm, hgm⟩ : ∃ gm, gm = w2.heap.size + 1 + 1 := ⟨_, rfl⟩
  obtain ⟨gi, hgi⟩ : ∃ gi, gi = wm8.heap.size := ⟨_, rfl⟩
  have hmlt := blk_lt HM8.out
  obtain ⟨wI, hwI⟩ : ∃ wI, wI = wm8.iter s 0 := ⟨_, rfl⟩
  have hIs : wI.heap.size = wm8.heap.size + 1 := by rw [hwI]; exact asz _ _
  have hI0 : wI.heap[gi]? = some (.stringIter s 0) := by rw [hwI, hgi]; exact World.iter_heap wm8 s 0
  have hLI : wI.heap[gl]? = some (.cells #[.int .i64 a.p, .int .i64 a.o, .int .i64 a.c, .int .i64 a.z, .int .i64 a.m, .int .i64 a.i, .int .i64 a.g, .int .i64 a.i2, .int .i64 a.g2, .string a.n, .string a.n2, .slice a.dA a.dN a.dC, .slice none 0 0] 54 (0, 0)) := by rw [hwI, hgl]; exact blk_alloc ((HFR8.out.block w2.heap.size (by omega) (by omega)).trans HLB.out) _
  have hPI : wI.heap[g4]? = some (.cells #[.pointer (some ⟨gl, 0, none⟩)] 52 (0, 0)) := by rw [hwI, hg4, hgl]; exact blk_alloc ((HFR8.out.block (w2.heap.size + 1) (by omega) (by omega)).trans HPB.out) _
  have hAI : wI.heap[ga]? = some (.cells #[.int .i64 a.p, .int .i64 a.o, .int .i64 a.c, .int .i64 a.z, .int .i64 a.m, .int .i64 a.i, .int .i64 a.g, .int .i64 a.i2, .int .i64 a.g2, .string a.n, .string a.n2, .slice a.dA a.dN a.dC] 26 (0, 0)) := by rw [hwI, hga]; exact blk_alloc ((HFR8.out.block w.heap.size (by omega) (by omega)).trans HAB.out) _
  have hMI : wI.heap[gm]? = some (.map ((((((((((#[] : Array MapEntry).push { key := .int .i32 104, val := .func (.func 29) #[] #[.pointer (some ⟨g4, 0, none⟩), .pointer (some ⟨ga, 0, none⟩)], born := 0 }).push { key := .int .i32 72, val := .func (.func 31) #[] #[.pointer (some ⟨g4, 0, none⟩), .pointer (some ⟨ga, 0, none⟩)], born := 1 }).push { key := .int .i32 115, val := .func (.func 32) #[] #[.pointer (some ⟨g4, 0, none⟩), .pointer (some ⟨ga, 0, none⟩)], born := 2 }).push { key := .int .i32 99, val := .func (.func 34) #[] #[.pointer (some ⟨g4, 0, none⟩), .pointer (some ⟨ga, 0, none⟩)], born := 3 }).push { key := .int .i32 109, val := .func (.func 35) #[] #[.pointer (some ⟨g4, 0, none⟩), .pointer (some ⟨ga, 0, none⟩)], born := 4 }).push { key := .int .i32 110, val := .func (.func 36) #[] #[.pointer (some ⟨g4, 0, none⟩), .pointer (some ⟨ga, 0, none⟩)], born := 5 }).push { key := .int .i32 78, val := .func (.func 38) #[] #[.pointer (some ⟨g4, 0, none⟩), .pointer (some ⟨ga, 0, none⟩)], born := 6 }).push { key := .int .i32 111, val := .func (.func 39) #[.pointer (some ⟨gl, 0, none⟩)] #[], born := 7 }).push { key := .int .i32 100, val := .func (.func 40) #[.pointer (some ⟨gl, 0, none⟩)] #[], born := 8 }) 9) := by rw [hwI, hgm, hg4, hgl, hga]; exact blk_alloc HM8.out _
  have hBI : Below w.heap.size w wI := by
    rw [hwI]
    have h1 := below_then HB2.out HB2.out.size hbw
    have h2 : Below w.heap.size w wm8 := Frm.below h1 HFR8.out (Nat.le_refl _) (fun k hk => by omega)
    exact below_alloc h2 _
  obtain ⟨B, hB⟩ : ∃ B, B = wI.heap.size := ⟨_, rfl⟩
  have HG : Aside0 (gl < B ∧ g4 < B ∧ gm < B ∧ ga < B ∧ gi < B ∧ gl ≠ gi ∧ g4 ≠ gi ∧ gm ≠ gi ∧ ga ≠ gi ∧ g4 ≠ gl ∧ gm ≠ gl ∧ ga ≠ gl ∧ w.heap.size ≤ B ∧ w.heap.size ≤ gl ∧ w.heap.size ≤ gi ∧ B = wI.heap.size) := ⟨by omega⟩
  have HLAY : Aside0 (LAY B wI gl a (writeK a la s 0)) := ⟨none, 0, hLI, Nat.le_refl _, fun W' _ => Kd.C_nil _ _⟩
  rw [← hgi, ← hgm, ← hg4, ← hgl, ← hga, ← hwI]
  have HI0 := Aside0.mk hI0
  have HPI := Aside0.mk hPI
  have HAI := Aside0.mk hAI
  have HMI := Aside0.mk hMI
  have HBI := Aside0.mk hBI
  clear hwb hbs hbw hms hszz hga hgl hg4 hgm hgi hmlt hwI hIs hI0 hLI hPI hAI hMI hBI HM8 HFR8 HPB HLB HAB HB2 HSZ HFD hB
  clear hcl hfz
  go_loopg [] s.size (fun kq w' => ∃ k : Nat, Aside0 (kq + k = s.size) ∧ Aside0 (w'.heap[gi]? = some (.stringIter s k)) ∧ Aside0 (LAY B w' gl a (writeK a la s k)) ∧ Aside0 (Frm (fun j => j = gl ∨ j = gi) wI w'))
  case atStart => exact ⟨0, ⟨rfl⟩, HI0, HLAY, ⟨Frm.refl _ _⟩⟩
  case round =>
    clear HI0 HLAY
    obtain ⟨k, HK, HI, HL, HF⟩ := hrel
    rcases Nat.lt_or_ge k s.size with hlt | hge
    · have HW : Aside0 (writeK a la s (k + 1) = writeK a la s k ++ bytesL a la (s[k]'hlt).toNat) := ⟨writeK_succ a la s k hlt⟩
      have HLN : Aside0 ((writeK a la s k).length ≤ 8400) := ⟨by have := writeK_length HOK.out HLA.out s k (by omega); have h4 := fields_few a.p; rw [← HS.out] at h4; omega⟩
      have HASC : Aside0 ((s[k]'hlt).toNat < 128) := ⟨by have h := fields_ascii a.p; rw [← HS.out] at h; exact h k hlt⟩
      have hlet : (s[k]'hlt).toNat = 104 ∨ (s[k]'hlt).toNat = 72 ∨ (s[k]'hlt).toNat = 115 ∨ (s[k]'hlt).toNat = 99 ∨ (s[k]'hlt).toNat = 109 ∨ (s[k]'hlt).toNat = 110 ∨ (s[k]'hlt).toNat = 78 ∨ (s[k]'hlt).toNat = 111 ∨ (s[k]'hlt).toNat = 100 := by have h := fields_letters a.p; rw [← HS.out] at h; exact h k hlt
      obtain ⟨w5, hw5⟩ : ∃ w5, w5 = wr.iterAt gi s (k + 1) := ⟨_, rfl⟩
      have hfi : Frm (fun j => j = gi) wr w5 := by rw [hw5]; exact frm_iter wr gi s (k + 1)
      have hI5 : w5.heap[gi]? = some (.stringIter s (k + 1)) := by rw [hw5]; exact Lib.iterAt_heap wr gi s k (k + 1) HI.out
      have hL5 : LAY B w5 gl a (writeK a la s k) := LAY_frm HL.out hfi (fun j hj => by have := HG.out; omega) (by have := HG.out; omega)
      have hF5 : Frm (fun j => j = gl ∨ j = gi) wI w5 := HF.out.trans (hfi.mono (fun j _ hj => .inr hj))
      have keep : ∀ (j : Nat) (ob : Obj), wI.heap[j]? = some ob → j ≠ gl → j ≠ gi → w5.heap[j]? = some ob := fun j ob h h1 h2 => (hF5.block j (blk_lt h) (fun h => h.elim h1 h2)).trans h
      have hg := HG.out
      have HB5 : Aside0 (B ≤ w5.heap.size) := ⟨by have := hF5.size; omega⟩
      have hM5 := keep gm _ HMI.out (by omega) (by omega)
      have HP5 : Aside0 (w5.cell? ⟨g4, 0, none⟩ = some (.pointer (some ⟨gl, 0, none⟩))) := ⟨(blk_cell (keep g4 _ HPI.out (by omega) (by omega)) 0).trans rfl⟩
      have HA5 := Aside0.mk (keep ga _ HAI.out (by omega) (by omega))
      have HBW : Aside0 (Below w.heap.size w w5) := ⟨Frm.below HBI.out hF5 (Nat.le_refl _) (fun j hj => by omega)⟩
      have HL5 := Aside0.mk hL5
      have HI5 := Aside0.mk hI5
      have HF5 := Aside0.mk hF5
      have HM5 := Aside0.mk hM5
      have HW5 := Aside0.mk hw5
      clear hg hfi hI5 hL5 hF5 keep hM5 hw5
      rcases hlet with hv | hv | hv | hv | hv | hv | hv | hv | hv
      · rw [hv] at HW
        have HV := Aside0.mk hv
        have hlk : (Instr.lookup 58 (.map (some gm)) (.int .i32 104) false).run Try.prog w5 = .ok (.func (.func 29) #[] #[.pointer (some ⟨g4, 0, none⟩), .pointer (some ⟨ga, 0, none⟩)]) w5 := run_look (i := 0) Try.underlying58 Try.underlying21 HM5.out rfl
        clear hv
        go_wp2_with ((with_reducible refine gate_dst (N := 31) rfl ?_); refine next_arm rfl (.tmp 30) 0 rfl rfl gi rfl s k HI.out hlt HASC.out ?_; rw [← HW5.out, HV.out])
        refine (clos_h B gl g4 ga a _ w5 HL5.out HB5.out (by have := HLN.out; omega) HP5.out HA5.out HOK.out.i HOK.out.g).mono ?_
        rintro e w6 ⟨rfl, hl6, hf6⟩
        have HL6 : Aside0 (LAY B w6 gl a (writeK a la s (k + 1))) := ⟨by rw [HW.out]; exact hl6⟩
        have HF6 := Aside0.mk (HF5.out.trans (hf6.mono (fun j _ hj => .inl hj)))
        have HI6 : Aside0 (w6.heap[gi]? = some (.stringIter s (k + 1))) := ⟨(hf6.block gi (blk_lt HI5.out) (by have := HG.out; omega)).trans HI5.out⟩
        clear hl6 hf6 hlk
        go_wp2_with fail
        go_roundg (s.size - (k + 1))
        case measure => have := HK.out; omega
        case rel => exact ⟨k + 1, ⟨by omega⟩, HI6, HL6, HF6⟩
      · rw [hv] at HW
        have HV := Aside0.mk hv
        have hlk : (Instr.lookup 58 (.map (some gm)) (.int .i32 72) false).run Try.prog w5 = .ok (.func (.func 31) #[] #[.pointer (some ⟨g4, 0, none⟩), .pointer (some ⟨ga, 0, none⟩)]) w5 := run_look (i := 1) Try.underlying58 Try.underlying21 HM5.out rfl
        clear hv
        go_wp2_with ((with_reducible refine gate_dst (N := 31) rfl ?_); refine next_arm rfl (.tmp 30) 0 rfl rfl gi rfl s k HI.out hlt HASC.out ?_; rw [← HW5.out, HV.out])
        refine (clos_H B gl g4 ga a _ w5 HL5.out HB5.out (by have := HLN.out; omega) HP5.out HA5.out HOK.out.i2 HOK.out.g2).mono ?_
        rintro e w6 ⟨rfl, hl6, hf6⟩
        have HL6 : Aside0 (LAY B w6 gl a (writeK a la s (k + 1))) := ⟨by rw [HW.out]; exact hl6⟩
        have HF6 := Aside0.mk (HF5.out.trans (hf6.mono (fun j _ hj => .inl hj)))
        have HI6 : Aside0 (w6.heap[gi]? = some (.stringIter s (k + 1))) := ⟨(hf6.block gi (blk_lt HI5.out) (by have := HG.out; omega)).trans HI5.out⟩
        clear hl6 hf6 hlk
        go_wp2_with fail
        go_roundg (s.size - (k + 1))
        case measure => have := HK.out; omega
        case rel => exact ⟨k + 1, ⟨by omega⟩, HI6, HL6, HF6⟩
      · rw [hv] at HW
        have HV := Aside0.mk hv
        have hlk : (Instr.lookup 58 (.map (some gm)) (.int .i32 115) false).run Try.prog w5 = .ok (.func (.func 32) #[] #[.pointer (some ⟨g4, 0, none⟩), .pointer (some ⟨ga, 0, none⟩)]) w5 := run_look (i := 2) Try.underlying58 Try.underlying21 HM5.out rfl
        clear hv
        go_wp2_with ((with_reducible refine gate_dst (N := 31) rfl ?_); refine next_arm rfl (.tmp 30) 0 rfl rfl gi rfl s k HI.out hlt HASC.out ?_; rw [← HW5.out, HV.out])
        refine (clos_s B gl g4 ga a _ w5 HL5.out HB5.out (by have := HLN.out; omega) HP5.out HA5.out HOK.out.z).mono ?_
        rintro e w6 ⟨rfl, hl6, hf6⟩
        have HL6 : Aside0 (LAY B w6 gl a (writeK a la s (k + 1))) := ⟨by rw [HW.out]; exact hl6⟩
        have HF6 := Aside0.mk (HF5.out.trans (hf6.mono (fun j _ hj => .inl hj)))
        have HI6 : Aside0 (w6.heap[gi]? = some (.stringIter s (k + 1))) := ⟨(hf6.block gi (blk_lt HI5.out) (by have := HG.out; omega)).trans HI5.out⟩
        clear hl6 hf6 hlk
        go_wp2_with fail
        go_roundg (s.size - (k + 1))
        case measure => have := HK.out; omega
        case rel => exact ⟨k + 1, ⟨by omega⟩, HI6, HL6, HF6⟩
      · rw [hv] at HW
        have HV := Aside0.mk hv
        have hlk : (Instr.lookup 58 (.map (some gm)) (.int .i32 99) false).run Try.prog w5 = .ok (.func (.func 34) #[] #[.pointer (some ⟨g4, 0, none⟩), .pointer (some ⟨ga, 0, none⟩)]) w5 := run_look (i := 3) Try.underlying58 Try.underlying21 HM5.out rfl
        clear hv
        go_wp2_with ((with_reducible refine gate_dst (N := 31) rfl ?_); refine next_arm rfl (.tmp 30) 0 rfl rfl gi rfl s k HI.out hlt HASC.out ?_; rw [← HW5.out, HV.out])
        refine (clos_c B gl g4 ga a _ w5 HL5.out HB5.out (by have := HLN.out; omega) HP5.out HA5.out HOK.out.c).mono ?_
        rintro e w6 ⟨rfl, hl6, hf6⟩
        have HL6 : Aside0 (LAY B w6 gl a (writeK a la s (k + 1))) := ⟨by rw [HW.out]; exact hl6⟩
        have HF6 := Aside0.mk (HF5.out.trans (hf6.mono (fun j _ hj => .inl hj)))
        have HI6 : Aside0 (w6.heap[gi]? = some (.stringIter s (k + 1))) := ⟨(hf6.block gi (blk_lt HI5.out) (by have := HG.out; omega)).trans HI5.out⟩
        clear hl6 hf6 hlk
        go_wp2_with fail
        go_roundg (s.size - (k + 1))
        case measure => have := HK.out; omega
        case rel => exact ⟨k + 1, ⟨by omega⟩, HI6, HL6, HF6⟩
      · rw [hv] at HW
        have HV := Aside0.mk hv
        have hlk : (Instr.lookup 58 (.map (some gm)) (.int .i32 109) false).run Try.prog w5 = .ok (.func (.func 35) #[] #[.pointer (some ⟨g4, 0, none⟩), .pointer (some ⟨ga, 0, none⟩)]) w5 := run_look (i := 4) Try.underlying58 Try.underlying21 HM5.out rfl
        clear hv
        go_wp2_with ((with_reducible refine gate_dst (N := 31) rfl ?_); refine next_arm rfl (.tmp 30) 0 rfl rfl gi rfl s k HI.out hlt HASC.out ?_; rw [← HW5.out, HV.out])
        refine (clos_m B gl g4 ga a _ w5 HL5.out HB5.out (by have := HLN.out; omega) HP5.out HA5.out HOK.out.m).mono ?_
        rintro e w6 ⟨rfl, hl6, hf6⟩
        have HL6 : Aside0 (LAY B w6 gl a (writeK a la s (k + 1))) := ⟨by rw [HW.out]; exact hl6⟩
        have HF6 := Aside0.mk (HF5.out.trans (hf6.mono (fun j _ hj => .inl hj)))
        have HI6 : Aside0 (w6.heap[gi]? = some (.stringIter s (k + 1))) := ⟨(hf6.block gi (blk_lt HI5.out) (by have := HG.out; omega)).trans HI5.out⟩
        clear hl6 hf6 hlk
        go_wp2_with fail
        go_roundg (s.size - (k + 1))
        case measure => have := HK.out; omega
        case rel => exact ⟨k + 1, ⟨by omega⟩, HI6, HL6, HF6⟩
      · rw [hv] at HW
        have HV := Aside0.mk hv
        have hlk : (Instr.lookup 58 (.map (some gm)) (.int .i32 110) false).run Try.prog w5 = .ok (.func (.func 36) #[] #[.pointer (some ⟨g4, 0, none⟩), .pointer (some ⟨ga, 0, none⟩)]) w5 := run_look (i := 5) Try.underlying58 Try.underlying21 HM5.out rfl
        clear hv
        go_wp2_with ((with_reducible refine gate_dst (N := 31) rfl ?_); refine next_arm rfl (.tmp 30) 0 rfl rfl gi rfl s k HI.out hlt HASC.out ?_; rw [← HW5.out, HV.out])
        refine (clos_n B gl g4 ga a _ w5 HL5.out HB5.out (by have := HLN.out; omega) HP5.out HA5.out (by have := HOK.out.n; omega)).mono ?_
        rintro e w6 ⟨rfl, hl6, hf6⟩
        have HL6 : Aside0 (LAY B w6 gl a (writeK a la s (k + 1))) := ⟨by rw [HW.out]; exact hl6⟩
        have HF6 := Aside0.mk (HF5.out.trans (hf6.mono (fun j _ hj => .inl hj)))
        have HI6 : Aside0 (w6.heap[gi]? = some (.stringIter s (k + 1))) := ⟨(hf6.block gi (blk_lt HI5.out) (by have := HG.out; omega)).trans HI5.out⟩
        clear hl6 hf6 hlk
        go_wp2_with fail
        go_roundg (s.size - (k + 1))
        case measure => have := HK.out; omega
        case rel => exact ⟨k + 1, ⟨by omega⟩, HI6, HL6, HF6⟩
      · rw [hv] at HW
        have HV := Aside0.mk hv
        have hlk : (Instr.lookup 58 (.map (some gm)) (.int .i32 78) false).run Try.prog w5 = .ok (.func (.func 38) #[] #[.pointer (some ⟨g4, 0, none⟩), .pointer (some ⟨ga, 0, none⟩)]) w5 := run_look (i := 6) Try.underlying58 Try.underlying21 HM5.out rfl
        clear hv
        go_wp2_with ((with_reducible refine gate_dst (N := 31) rfl ?_); refine next_arm rfl (.tmp 30) 0 rfl rfl gi rfl s k HI.out hlt HASC.out ?_; rw [← HW5.out, HV.out])
        refine (clos_N B gl g4 ga a _ w5 HL5.out HB5.out (by have := HLN.out; omega) HP5.out HA5.out (by have := HOK.out.n2; omega)).mono ?_
        rintro e w6 ⟨rfl, hl6, hf6⟩
        have HL6 : Aside0 (LAY B w6 gl a (writeK a la s (k + 1))) := ⟨by rw [HW.out]; exact hl6⟩
        have HF6 := Aside0.mk (HF5.out.trans (hf6.mono (fun j _ hj => .inl hj)))
        have HI6 : Aside0 (w6.heap[gi]? = some (.stringIter s (k + 1))) := ⟨(hf6.block gi (blk_lt HI5.out) (by have := HG.out; omega)).trans HI5.out⟩
        clear hl6 hf6 hlk
        go_wp2_with fail
        go_roundg (s.size - (k + 1))
        case measure => have := HK.out; omega
        case rel => exact ⟨k + 1, ⟨by omega⟩, HI6, HL6, HF6⟩
      · rw [hv] at HW
        have HV := Aside0.mk hv
        have hlk : (Instr.lookup 58 (.map (some gm)) (.int .i32 111) false).run Try.prog w5 = .ok (.func (.func 39) #[.pointer (some ⟨gl, 0, none⟩)] #[]) w5 := run_look (i := 7) Try.underlying58 Try.underlying21 HM5.out rfl
        clear hv
        go_wp2_with ((with_reducible refine gate_dst (N := 31) rfl ?_); refine next_arm rfl (.tmp 30) 0 rfl rfl gi rfl s k HI.out hlt HASC.out ?_; rw [← HW5.out, HV.out])
        refine (off_l B gl a _ w5 HL5.out HB5.out (by have := HLN.out; omega) HOK.out.o.1 HOK.out.o.2).mono ?_
        rintro e w6 ⟨rfl, hl6, hf6⟩
        have HL6 : Aside0 (LAY B w6 gl a (writeK a la s (k + 1))) := ⟨by rw [HW.out]; exact hl6⟩
        have HF6 := Aside0.mk (HF5.out.trans (hf6.mono (fun j _ hj => .inl hj)))
        have HI6 : Aside0 (w6.heap[gi]? = some (.stringIter s (k + 1))) := ⟨(hf6.block gi (blk_lt HI5.out) (by have := HG.out; omega)).trans HI5.out⟩
        clear hl6 hf6 hlk
        go_wp2_with fail
        go_roundg (s.size - (k + 1))
        case measure => have := HK.out; omega
        case rel => exact ⟨k + 1, ⟨by omega⟩, HI6, HL6, HF6⟩
      · rw [hv] at HW
        have HV := Aside0.mk hv
        have hlk : (Instr.lookup 58 (.map (some gm)) (.int .i32 100) false).run Try.prog w5 = .ok (.func (.func 40) #[.pointer (some ⟨gl, 0, none⟩)] #[]) w5 := run_look (i := 8) Try.underlying58 Try.underlying21 HM5.out rfl
        clear hv
        go_wp2_with ((with_reducible refine gate_dst (N := 31) rfl ?_); refine next_arm rfl (.tmp 30) 0 rfl rfl gi rfl s k HI.out hlt HASC.out ?_; rw [← HW5.out, HV.out])
        refine (data_l B gl a _ la w5 HL5.out HB5.out (by have := HLN.out; omega) (Kd.C_below H1.out HBW.out) HBY.out (by have := HLA.out; omega)).mono ?_
        rintro e w6 ⟨rfl, hl6, hf6⟩
        have HL6 : Aside0 (LAY B w6 gl a (writeK a la s (k + 1))) := ⟨by rw [HW.out]; exact hl6⟩
        have HF6 := Aside0.mk (HF5.out.trans (hf6.mono (fun j _ hj => .inl hj)))
        have HI6 : Aside0 (w6.heap[gi]? = some (.stringIter s (k + 1))) := ⟨(hf6.block gi (blk_lt HI5.out) (by have := HG.out; omega)).trans HI5.out⟩
        clear hl6 hf6 hlk
        go_wp2_with fail
        go_roundg (s.size - (k + 1))
        case measure => have := HK.out; omega
        case rel => exact ⟨k + 1, ⟨by omega⟩, HI6, HL6, HF6⟩
    · obtain rfl : k = s.size := by have := HK.out; omega
      obtain ⟨A, c, hb, hc, hf⟩ := HL.out
      have hsw : writeK a la s s.size = writeA a la := by unfold writeA; rw [← HS.out]
      rw [hsw] at hb hc hf
      have k12 : wr.cell? ⟨gl, 12, none⟩ = some (.slice A (writeA a la).length c) := (blk_cell hb 12).trans rfl
      have hp : wr.cell? ⟨g4, 0, none⟩ = some (.pointer (some ⟨gl, 0, none⟩)) := (blk_cell ((HF.out.block g4 (blk_lt HPI.out) (by have := HG.out; omega)).trans HPI.out) 0).trans rfl
      have HRES := Aside0.mk (And.intro hc hf)
      clear hb hc hf
      go_wp2_with ((with_reducible refine gate_dst (N := 31) rfl ?_); refine end_arm rfl (.tmp 30) 0 rfl rfl gi rfl s s.size HI.out (Nat.lt_irrefl _) ?_)
      go_ret2
      exact ⟨A, c, rfl, HRES.out.1, Kd.F_mono HRES.out.2 (fun j hj => by have := HG.out; omega), Frm.below HBI.out HF.out (Nat.le_refl _) (fun j hj => by have := HG.out; omega)⟩
end Go.Proofs.Ytffaljncdcldpaa.G
