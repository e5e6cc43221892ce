/- Hand-made contracts of calls.layer: number, handle, text, off, data. -/
import Derived.Test.YtffaljncdcldpaaE6
import Derived.Deep.RegionHeld3
import Derived.Deep.RegionWith
namespace Go.Proofs.Ytffaljncdcldpaa.G
open Go.RowKit Go.Proofs.YtffaljncdcldpaaW.PrintWords Go.Proofs.YtffaljncdcldpaaW.PrintLast Go.Proofs.YtffaljncdcldpaaW.PrintMore
set_option linter.unusedVariables false
set_option linter.unusedSimpArgs false

/-- A layer in memory: what it lays, and the bytes so far. -/
def LAY (B : Nat) (w : World) (gl : Nat) (a : AR) (l : List Int) : Prop :=
  ∃ (A : Option Addr) (c : Nat), w.heap[gl]? = some (.cells #[.int .i64 a.p, .int .i64 a.o, .int .i64 a.c, .int .i64 a.z, .int .i64 a.m, .int .i64 a.i, .int .i64 a.g, .int .i64 a.i2, .int .i64 a.g2, .string a.n, .string a.n2, .slice a.dA a.dN a.dC, .slice A l.length c] 54 (0, 0)) ∧ l.length ≤ c ∧ Kd.F (Kd.int .u8) w (fun k => B ≤ k ∧ k < w.heap.size ∧ k ≠ gl) A l.length l

theorem ssz (w : World) (p : Addr) (u : Value) : (w.setCell p u).heap.size = w.heap.size := by simp

theorem LAY_frm {B : Nat} {w w' : World} {gl : Nat} {a : AR} {l : List Int} {ok : Nat → Prop} (h : LAY B w gl a l) (m : Frm ok w w') (hn : ∀ k, ok k → k < B) (hg : ¬ ok gl) : LAY B w' gl a l := by
  obtain ⟨A, c, hb, hc, hf⟩ := h
  exact ⟨A, c, (m.block gl (blk_lt hb) hg).trans hb, hc, Kd.F_mono (Kd.F_step hf (fun k hk hlt => m.block k hlt (fun h => by have := hn k h; have := hk.1; omega))) (fun k hk => ⟨hk.1, Nat.lt_of_lt_of_le hk.2.1 m.size, hk.2.2⟩)⟩

theorem LAY_store {B : Nat} {w w1 : World} {gl : Nat} {a : AR} {l l2 : List Int} {A2 : Option Addr} {c2 : Nat} (h : LAY B w gl a l) (hB : B ≤ w.heap.size) (hb : Below w.heap.size w w1) (hl : l2.length ≤ c2) (hf : Kd.F (Kd.int .u8) w1 (fun k => w.heap.size ≤ k ∧ k < w1.heap.size) A2 l2.length l2) :
    LAY B (w1.setCell ⟨gl, 12, none⟩ (.slice A2 l2.length c2)) gl a l2 ∧ Frm (fun k => k = gl) w (w1.setCell ⟨gl, 12, none⟩ (.slice A2 l2.length c2)) := by
  obtain ⟨A, c, hk, hc, hf0⟩ := h
  have hlt := blk_lt hk
  have hk1 := (hb.block gl hlt).trans hk
  refine ⟨⟨A2, c2, blk_put hk1 12 (.slice A2 l2.length c2) rfl, hl, ?_⟩, (Frm.of_below hb).trans (Frm.set (ok := fun k => k = gl) (Frm.refl _ _) gl 12 rfl _)⟩
  refine Kd.F_mono (Kd.F_far hf (p := ⟨gl, 12, none⟩) (fun k hk2 => by show k ≠ gl; have := hk2.1; omega) _) (fun k hk2 => ⟨by omega, by rw [ssz]; exact hk2.2, by omega⟩)

set_option maxHeartbeats 8000000 in
set_option maxRecDepth 100000 in
theorem number_l (B gl : Nat) (a : AR) (l : List Int) (n : Int) (w : World) (h : LAY B w gl a l) (hB : B ≤ w.heap.size) (hl : l.length ≤ 20000) (h0 : 0 ≤ n) (h1 : n < 4294967296) :
    Calls Try.prog 33 #[.pointer (some ⟨gl, 0, none⟩), .int .i64 n] w fun e w' => e = .returned (.tuple #[]) ∧ LAY B w' gl a (l ++ beN n 4) ∧ Frm (fun k => k = gl) w w' := by
  have hu1 := Try.underlying26
  have hu2 := Try.underlying23
  have hu3 := Try.underlying54
  have HL := Aside0.mk h
  obtain ⟨A, c, hb, hc, hf⟩ := h
  have k12 : w.cell? ⟨gl, 12, none⟩ = some (.slice A l.length c) := (blk_cell hb 12).trans rfl
  have kf12 := blk_frozen hb 12
  have HC := Aside0.mk (And.intro hb (And.intro hc hf))
  clear hb hc hf
  go_enter Try.func33, Try.ntmps33
  go_wp2_with fail
  refine (U32_c A c l n _ (Kd.F_now HC.out.2.2) HC.out.2.1 h0 h1 (by omega)).mono ?_
  rintro e w1 ⟨A2, c2, rfl, hl2, hf2, hb2⟩
  obtain ⟨l2, hl2e⟩ : ∃ l2, l2 = l ++ beN n 4 := ⟨_, rfl⟩
  rw [← hl2e] at hl2 hf2 ⊢
  have hs := LAY_store HL.out hB hb2 hl2 hf2
  have kk : w1.cell? ⟨gl, 12, none⟩ = some (.slice A l.length c) := (blk_cell ((hb2.block gl (blk_lt HC.out.1)).trans HC.out.1) 12).trans rfl
  have kf := blk_frozen ((hb2.block gl (blk_lt HC.out.1)).trans HC.out.1) 12
  have HS := Aside0.mk hs
  have HE := Aside0.mk hl2e
  clear hs hl2 hf2 hl2e
  go_wp2_with fail
  go_end0
  exact ⟨rfl, by rw [← HE.out]; exact HS.out.1, HS.out.2⟩

theorem frm_alloc {ok : Nat → Prop} {w : World} (b : Obj) : Frm ok w (w.alloc b) := Frm.of_below (below_alloc (Below.refl _ _) b)

set_option maxHeartbeats 8000000 in
set_option maxRecDepth 100000 in
theorem handle_l (B gl : Nat) (a : AR) (l : List Int) (i g : Int) (w : World) (h : LAY B w gl a l) (hB : B ≤ w.heap.size) (hl : l.length ≤ 10000) (h0 : 0 ≤ i ∧ i < 4294967296) (h1 : 0 ≤ g ∧ g < 4294967296) :
    Calls Try.prog 30 #[.pointer (some ⟨gl, 0, none⟩), .agg #[.int .i64 i, .int .i64 g]] w fun e w' => e = .returned (.tuple #[]) ∧ LAY B w' gl a (l ++ beN i 4 ++ beN g 4) ∧ Frm (fun k => k = gl) w w' := by
  have hu2 := Try.underlying23
  have HL := Aside0.mk h
  have hgl : gl < w.heap.size := by obtain ⟨_, _, hb, _⟩ := h; exact blk_lt hb
  have H0 := Aside0.mk h0
  have H1 := Aside0.mk h1
  clear h h0 h1
  go_enter Try.func30, Try.ntmps30
  go_wp2_with fail
  obtain ⟨wa, hwa⟩ : ∃ wa, wa = w.alloc (.cells #[.int .i64 i, .int .i64 g] 23) := ⟨_, rfl⟩
  have hfa : Frm (fun k => k = gl) w wa := by rw [hwa]; exact frm_alloc _
  have hba : wa.heap[w.heap.size]? = some (.cells #[.int .i64 i, .int .i64 g] 23 (0, 0)) := by rw [hwa]; exact heap_alloc_new w _
  have hla : LAY B wa gl a l := LAY_frm HL.out (ok := fun _ => False) (by rw [hwa]; exact frm_alloc _) (fun _ h => h.elim) (fun h => h)
  rw [← hwa]
  refine (number_l B gl a l i wa hla (Nat.le_trans hB hfa.size) (by omega) H0.out.1 H0.out.2).mono ?_
  rintro e w1 ⟨rfl, hl1, hf1⟩
  have hb1 : w1.heap[w.heap.size]? = some (.cells #[.int .i64 i, .int .i64 g] 23 (0, 0)) := (hf1.block w.heap.size (blk_lt hba) (by omega)).trans hba
  have k0 : w1.cell? ⟨w.heap.size, 0, none⟩ = some (.int .i64 i) := (blk_cell hb1 0).trans rfl
  have k1 : w1.cell? ⟨w.heap.size, 1, none⟩ = some (.int .i64 g) := (blk_cell hb1 1).trans rfl
  have HL1 := Aside0.mk hl1
  have HF1 := Aside0.mk (hfa.trans hf1)
  clear hwa hfa hba hla hl1 hf1 hb1
  go_wp2_with fail
  refine (number_l B gl a (l ++ beN i 4) g w1 HL1.out (Nat.le_trans hB HF1.out.size) (by rw [List.length_append, beN_length]; omega) H1.out.1 H1.out.2).mono ?_
  rintro e w2 ⟨rfl, hl2, hf2⟩
  have HL2 := Aside0.mk hl2
  have HF2 := Aside0.mk (HF1.out.trans hf2)
  clear hl2 hf2
  go_wp2_with fail
  go_end0
  exact ⟨rfl, HL2.out, HF2.out⟩

set_option maxHeartbeats 8000000 in
set_option maxRecDepth 100000 in
theorem text_l (B gl : Nat) (a : AR) (l : List Int) (s : ByteArray) (w : World) (h : LAY B w gl a l) (hB : B ≤ w.heap.size) (hl : l.length ≤ 20000) (hs : s.size ≤ 5000) :
    Calls Try.prog 37 #[.pointer (some ⟨gl, 0, none⟩), .string s] w fun e w' => e = .returned (.tuple #[]) ∧ LAY B w' gl a (l ++ textB (bsL s)) ∧ Frm (fun k => k = gl) w w' := by
  have hu1 := Try.underlying26
  have hu2 := Try.underlying23
  have hu3 := Try.underlying54
  have HL := Aside0.mk h
  obtain ⟨A, c, hb, hc, hf⟩ := h
  have k12 : w.cell? ⟨gl, 12, none⟩ = some (.slice A l.length c) := (blk_cell hb 12).trans rfl
  have kf12 := blk_frozen hb 12
  have HC := Aside0.mk (And.intro hb (And.intro hc hf))
  clear hb hc hf
  go_enter Try.func37, Try.ntmps37
  go_wp2_with ((with_reducible refine gate_dst (N := 10) rfl ?_); refine conv_arm rfl 9 24 5 (.tmp 9) rfl s rfl ?hz Try.underlying9 Try.underlying24 Try.underlying5 ?_; (case hz => simp only [maxLen]; omega); intro cs ws hcs hfs hbs hlts; have HCS := Aside0.mk hcs; have HFS := Aside0.mk hfs; have HBS := Aside0.mk hbs; clear hcs hfs hbs hlts)
  refine (Text_c A c l _ cs (bsL s) ws (Kd.C_below (Kd.F_now HC.out.2.2) HBS.out) HC.out.2.1 (Kd.F_now HFS.out) HCS.out (by omega) (by rw [bsL_length]; omega)).mono ?_
  rintro e w1 ⟨A2, c2, rfl, hl2, hf2, hbt⟩
  have hb2 := below_then HBS.out HBS.out.size hbt
  replace hf2 := Kd.F_mono hf2 (fun k hk => (⟨Nat.le_trans HBS.out.size hk.1, hk.2⟩ : w.heap.size ≤ k ∧ k < w1.heap.size))
  obtain ⟨l2, hl2e⟩ : ∃ l2, l2 = l ++ textB (bsL s) := ⟨_, rfl⟩
  rw [← hl2e] at hl2 hf2 ⊢
  have hs := LAY_store HL.out hB hb2 hl2 hf2
  have kk : w1.cell? ⟨gl, 12, none⟩ = some (.slice A l.length c) := (blk_cell ((hb2.block gl (blk_lt HC.out.1)).trans HC.out.1) 12).trans rfl
  have kf := blk_frozen ((hb2.block gl (blk_lt HC.out.1)).trans HC.out.1) 12
  have HS := Aside0.mk hs
  have HE := Aside0.mk hl2e
  clear hs hl2 hf2 hl2e
  go_wp2_with fail
  go_end0
  exact ⟨rfl, by rw [← HE.out]; exact HS.out.1, HS.out.2⟩

set_option maxHeartbeats 8000000 in
set_option maxRecDepth 100000 in
theorem off_l (B gl : Nat) (a : AR) (l : List Int)  (w : World) (h : LAY B w gl a l) (hB : B ≤ w.heap.size) (hl : l.length ≤ 20000) (ho : 0 ≤ a.o) (ho2 : a.o ≤ 4611686018427387904) :
    Calls Try.prog 39 #[.pointer (some ⟨gl, 0, none⟩)] w fun e w' => e = .returned (.tuple #[]) ∧ LAY B w' gl a (l ++ beN a.o 8) ∧ Frm (fun k => k = gl) w w' := by
  have hu1 := Try.underlying26
  have hu2 := Try.underlying23
  have hu3 := Try.underlying54
  have HL := Aside0.mk h
  obtain ⟨A, c, hb, hc, hf⟩ := h
  have k1 : w.cell? ⟨gl, 1, none⟩ = some (.int .i64 a.o) := (blk_cell hb 1).trans rfl
  have kf1 := blk_frozen hb 1
  have k12 : w.cell? ⟨gl, 12, none⟩ = some (.slice A l.length c) := (blk_cell hb 12).trans rfl
  have kf12 := blk_frozen hb 12
  have HC := Aside0.mk (And.intro hb (And.intro hc hf))
  clear hb hc hf
  go_enter Try.func39, Try.ntmps39
  go_wp2_with fail
  have hlt := blk_lt HC.out.1
  have HW : Aside0 (IntKind.u64.wrap a.o = a.o) := ⟨u64w ho (by omega)⟩
  have hw64 := HW.out
  have HU : Aside0 (∀ W, Below w.heap.size w W → Calls Try.prog 60 #[.slice A l.length c, .int .u64 a.o] W fun e w' => ∃ (A2 : Option Addr) (c2 : Nat), e = .returned (.slice A2 (l ++ beN a.o 8).length c2) ∧ (l ++ beN a.o 8).length ≤ c2 ∧ Kd.F (Kd.int .u8) w' (fun k => W.heap.size ≤ k ∧ k < w'.heap.size) A2 (l ++ beN a.o 8).length (l ++ beN a.o 8) ∧ Below W.heap.size W w') := ⟨fun W hW => U64_c A c l a.o W (Kd.C_below (Kd.F_now HC.out.2.2) hW) HC.out.2.1 (by omega)⟩
  obtain ⟨ov, hov⟩ : ∃ ov, ov = a.o := ⟨_, rfl⟩
  rw [← hov] at HU hw64 k1 ho
  have HOV := Aside0.mk hov
  clear ho2 hov
  go_region_with ((go_at_call 60; refine (HU.out _ (by first | exact below_drew (Below.refl _ _) | exact Below.refl _ _)).mono ?_; rintro e w1 ⟨A2, c2, rfl, hl2, hf2, hbt⟩; have hb2 := below_then (below_drew (Below.refl w.heap.size w)) (Nat.le_refl _) hbt; obtain ⟨l2, hl2e⟩ : ∃ l2, l2 = l ++ beN ov 8 := ⟨_, rfl⟩; rw [← hl2e] at hl2 hf2 ⊢; have hs := LAY_store HL.out hB hb2 hl2 hf2; have kk : w1.cell? ⟨gl, 12, none⟩ = some (.slice A l.length c) := (blk_cell ((hb2.block gl (blk_lt HC.out.1)).trans HC.out.1) 12).trans rfl; have kj : w1.cell? ⟨gl, 1, none⟩ = some (.int .i64 ov) := (blk_cell ((hb2.block gl (blk_lt HC.out.1)).trans HC.out.1) 1).trans (congrArg (fun z => some (Value.int .i64 z)) HOV.out.symm); have kf := blk_frozen ((hb2.block gl (blk_lt HC.out.1)).trans HC.out.1) 12; have HS := Aside0.mk hs; have HE := Aside0.mk hl2e; clear hs hl2 hf2 hl2e))
  all_goals
    go_wp2_with fail
    go_end0
    exact ⟨rfl, by rw [← HOV.out, ← HE.out]; exact HS.out.1, HS.out.2⟩

theorem bsL_str (l : List Int) (h : ∀ x ∈ l, 0 ≤ x ∧ x ≤ 255) : bsL (strOfNums l) = l := by
  unfold bsL strOfNums
  simp only [List.map_map]
  rw [List.map_congr_left (g := id)]
  · simp
  · intro x hx
    have := h x hx
    simp
    omega

set_option maxHeartbeats 8000000 in
set_option maxRecDepth 100000 in
theorem data_l (B gl : Nat) (a : AR) (l la : List Int) (w : World) (h : LAY B w gl a l) (hB : B ≤ w.heap.size) (hl : l.length ≤ 20000) (hd : Kd.C (Kd.int .u8) w a.dA a.dN la) (hby : ∀ x ∈ la, 0 ≤ x ∧ x ≤ 255) (hla : la.length ≤ 4000) :
    Calls Try.prog 40 #[.pointer (some ⟨gl, 0, none⟩)] w fun e w' => e = .returned (.tuple #[]) ∧ LAY B w' gl a (l ++ textB la) ∧ Frm (fun k => k = gl) w w' := by
  have hu1 := Try.underlying26
  have hu3 := Try.underlying54
  have HL := Aside0.mk h
  obtain ⟨A, c, hb, hc, hf⟩ := h
  have k11 : w.cell? ⟨gl, 11, none⟩ = some (.slice a.dA a.dN a.dC) := (blk_cell hb 11).trans rfl
  have hcv := fun c => Kd.C_string (P := Try.prog) (src := 24) (dst := 9) (c := c) Try.underlying24 Try.underlying5 Try.underlying9 hd
  clear hb hc hf hd
  obtain ⟨s, hs⟩ : ∃ s, s = strOfNums la := ⟨_, rfl⟩
  have hsl : bsL s = la := by rw [hs]; exact bsL_str la hby
  have hsz : s.size ≤ 5000 := by rw [← bsL_length, hsl]; omega
  rw [← hs] at hcv
  have HSL := Aside0.mk hsl
  have HSZ := Aside0.mk hsz
  clear hs hsl hsz hby
  go_enter Try.func40, Try.ntmps40
  go_wp2_with fail
  refine (text_l B gl a l s w HL.out hB hl HSZ.out).mono ?_
  rw [HSL.out]
  rintro e w1 ⟨rfl, hl1, hf1⟩
  have HL1 := Aside0.mk hl1
  have HF1 := Aside0.mk hf1
  clear hl1 hf1
  go_wp2_with fail
  go_end0
  exact ⟨rfl, HL1.out, HF1.out⟩
end Go.Proofs.Ytffaljncdcldpaa.G
