/- The hand-made contracts of codes, second part: find by its two predicates. -/
import Derived.Test.YtemadfllannljaaDoorG8
namespace Go.Proofs.YtemadfllannljaaDoor.G
open Go.RowKit Go.Proofs.YtemadfllannljaaDoorW.PrintWords Go.Proofs.YtemadfllannljaaDoorW.PrintLast Go.Proofs.YtemadfllannljaaDoorW.PrintMore
set_option linter.unusedVariables false
set_option linter.unusedSimpArgs false

set_option maxHeartbeats 8000000 in
set_option maxRecDepth 100000 in
theorem find_err (n : Int) (b : Nat) (w : World) (hT : Tab w) (hb : w.heap[b]? = some (.cells #[.int .i64 n] 22 (0, 0))) :
    Calls Tryd.prog 24 #[.func (.func 27) #[] #[.pointer (some ⟨b, 0, none⟩)]] w fun r w' => r = .returned (.int .i64 ((findFrom (fun i => eOf i == n) 19 0 : Nat) : Int)) ∧ Below w.heap.size w w' := by
  have hu := Tryd.underlying38
  have HB := Aside0.mk (Below.refl w.heap.size w)
  have BKB := Aside0.mk hb
  have HT := Aside0.mk hT
  clear hb hT
  go_enter Tryd.func24, Tryd.ntmps24
  go_wp2_with (first | ((with_reducible refine gate_dst (N := 5) rfl ?_); obtain ⟨tT, frT, eT⟩ := HT.out; refine wpList_load_row rfl 39 (.global 0) rfl 0 (by rfl) tT tabA frT _ eT Tryd.underlying39 rfl (by kernel_rfl) ?_; clear eT))
  go_loopw [6] (fun v w' => ∃ i : Nat, v = .int .i64 (i : Int) ∧ Aside0 (i ≤ 19) ∧ Aside0 (findFrom (fun i => eOf i == n) (19 - i) i = findFrom (fun i => eOf i == n) 19 0) ∧ Aside0 (Below w.heap.size w w'))
    (fun v _ => (19 - intOf v).toNat)
  case atStart => exact ⟨0, rfl, ⟨by decide⟩, ⟨rfl⟩, HB⟩
  case round =>
    obtain ⟨i, rfl, HI, HF, HB⟩ := hrel
    by_cases h19 : i < 19
    · have c5 : decide ((i : Int) < 19) = true := decide_eq_true (by omega)
      go_wp2_with (first | ((with_reducible refine gate_dst (N := 9) rfl ?_); refine at_index rfl (.tmp 5) (.tmp 6) rfl i h19 rfl rfl ?_) | ((with_reducible refine gate_dst (N := 4) rfl ?_); refine box_event ?hg (N := 4) ?hd (cs := #[.int .i64 0, .int .u32 0, .string ⟨#[]⟩]) (t := 38) ?hr ?_; (case hd => rfl); (case hg => rfl); (case hr => first | (go_simp; done) | (go_simp; rfl)); intro gb hg w2 hbox hb; have n0_ := Aside0.mk (below_step (by repeat (first | (with_reducible first | exact HB.out | apply below_alloc | apply pw_below_drewN | apply below_drew1) | exact HB.out)) hb); have BKG := Aside0.mk hbox; have GE := Aside0.mk (by rw [hg]; exact HB.out.size : w.heap.size ≤ gb); have hcy0 : w2.cell? ⟨gb, 0, none⟩ = some (.int .i64 0) := (blk_cell hbox 0).trans rfl; have hcy1 : w2.cell? ⟨gb, 1, none⟩ = some (.int .u32 0) := (blk_cell hbox 1).trans rfl; have hcy2 : w2.cell? ⟨gb, 2, none⟩ = some (.string ⟨#[]⟩) := (blk_cell hbox 2).trans rfl; have hcz0 := blk_frozen hbox 0; have hcz1 := blk_frozen hbox 1; have hcz2 := blk_frozen hbox 2; clear HB; have HB := n0_; clear n0_ hb hbox hg) | ((with_reducible refine gate_dst (N := 11) rfl ?_); refine wpList_load_row rfl 38 (.tmp 4) rfl gb rfl 38 #[.int .i64 (eOf i), .int .u32 (sOf i), .string (tOf i)] (0, 0) _ ?hL hu rfl (by kernel_rfl) ?_; (case hL => refine blk_put (cs := #[.int .i64 (eOf i), .int .u32 (sOf i), .string ⟨#[]⟩]) ?_ 2 _ rfl; refine blk_put (cs := #[.int .i64 (eOf i), .int .u32 0, .string ⟨#[]⟩]) ?_ 1 _ rfl; refine blk_put (cs := #[.int .i64 0, .int .u32 0, .string ⟨#[]⟩]) ?_ 0 _ rfl; exact BKG.out)))
      have HB3 := Aside0.mk (below_set (below_set (below_set HB.out GE.out) GE.out) GE.out : Below w.heap.size w (((w2.setCell ⟨gb, 0, none⟩ (.int .i64 (eOf i))).setCell ⟨gb, 1, none⟩ (.int .u32 (sOf i))).setCell ⟨gb, 2, none⟩ (.string (tOf i))))
      refine (is_err (eOf i) (sOf i) (tOf i) n b _ (blk_below BKB.out HB3.out)).mono ?_
      rintro e w4 ⟨rfl, hb⟩
      have HB4 := Aside0.mk (below_step HB3.out hb)
      clear hb
      by_cases hp : eOf i = n
      · have hq : (eOf i == n) = true := beq_iff_eq.mpr hp
        go_wp2
        go_ret
        refine ⟨?_, HB4.out⟩
        rw [← HF.out, show 19 - i = (18 - i) + 1 by omega]
        simp only [findFrom]
        rw [if_pos hq]
        rfl
      · have hq : (eOf i == n) = false := beq_eq_false_iff_ne.mpr hp
        go_wp2
        go_roundw
        case rel =>
          refine ⟨i + 1, by simp, ⟨by omega⟩, ⟨?_⟩, HB4⟩
          rw [← HF.out, show 19 - i = (19 - (i + 1)) + 1 by omega]
          simp only [findFrom]
          rw [if_neg (by rw [hq]; decide)]
        case measure => simp [intOf]; omega
    · have c5 : decide ((i : Int) < 19) = false := decide_eq_false (by omega)
      have hi : i = 19 := by have := HI.out; omega
      go_wp2
      go_ret
      refine ⟨?_, HB.out⟩
      rw [← HF.out, hi]
      rfl

set_option maxHeartbeats 8000000 in
set_option maxRecDepth 100000 in
theorem find_status (n : Int) (b : Nat) (w : World) (hT : Tab w) (hb : w.heap[b]? = some (.cells #[.int .u32 n] 25 (0, 0))) :
    Calls Tryd.prog 24 #[.func (.func 25) #[] #[.pointer (some ⟨b, 0, none⟩)]] w fun r w' => r = .returned (.int .i64 ((findFrom (fun i => sOf i == n) 19 0 : Nat) : Int)) ∧ Below w.heap.size w w' := by
  have hu := Tryd.underlying38
  have HB := Aside0.mk (Below.refl w.heap.size w)
  have BKB := Aside0.mk hb
  have HT := Aside0.mk hT
  clear hb hT
  go_enter Tryd.func24, Tryd.ntmps24
  go_wp2_with (first | ((with_reducible refine gate_dst (N := 5) rfl ?_); obtain ⟨tT, frT, eT⟩ := HT.out; refine wpList_load_row rfl 39 (.global 0) rfl 0 (by rfl) tT tabA frT _ eT Tryd.underlying39 rfl (by kernel_rfl) ?_; clear eT))
  go_loopw [6] (fun v w' => ∃ i : Nat, v = .int .i64 (i : Int) ∧ Aside0 (i ≤ 19) ∧ Aside0 (findFrom (fun i => sOf i == n) (19 - i) i = findFrom (fun i => sOf i == n) 19 0) ∧ Aside0 (Below w.heap.size w w'))
    (fun v _ => (19 - intOf v).toNat)
  case atStart => exact ⟨0, rfl, ⟨by decide⟩, ⟨rfl⟩, HB⟩
  case round =>
    obtain ⟨i, rfl, HI, HF, HB⟩ := hrel
    by_cases h19 : i < 19
    · have c5 : decide ((i : Int) < 19) = true := decide_eq_true (by omega)
      go_wp2_with (first | ((with_reducible refine gate_dst (N := 9) rfl ?_); refine at_index rfl (.tmp 5) (.tmp 6) rfl i h19 rfl rfl ?_) | ((with_reducible refine gate_dst (N := 4) rfl ?_); refine box_event ?hg (N := 4) ?hd (cs := #[.int .i64 0, .int .u32 0, .string ⟨#[]⟩]) (t := 38) ?hr ?_; (case hd => rfl); (case hg => rfl); (case hr => first | (go_simp; done) | (go_simp; rfl)); intro gb hg w2 hbox hb; have n0_ := Aside0.mk (below_step (by repeat (first | (with_reducible first | exact HB.out | apply below_alloc | apply pw_below_drewN | apply below_drew1) | exact HB.out)) hb); have BKG := Aside0.mk hbox; have GE := Aside0.mk (by rw [hg]; exact HB.out.size : w.heap.size ≤ gb); have hcy0 : w2.cell? ⟨gb, 0, none⟩ = some (.int .i64 0) := (blk_cell hbox 0).trans rfl; have hcy1 : w2.cell? ⟨gb, 1, none⟩ = some (.int .u32 0) := (blk_cell hbox 1).trans rfl; have hcy2 : w2.cell? ⟨gb, 2, none⟩ = some (.string ⟨#[]⟩) := (blk_cell hbox 2).trans rfl; have hcz0 := blk_frozen hbox 0; have hcz1 := blk_frozen hbox 1; have hcz2 := blk_frozen hbox 2; clear HB; have HB := n0_; clear n0_ hb hbox hg) | ((with_reducible refine gate_dst (N := 11) rfl ?_); refine wpList_load_row rfl 38 (.tmp 4) rfl gb rfl 38 #[.int .i64 (eOf i), .int .u32 (sOf i), .string (tOf i)] (0, 0) _ ?hL hu rfl (by kernel_rfl) ?_; (case hL => refine blk_put (cs := #[.int .i64 (eOf i), .int .u32 (sOf i), .string ⟨#[]⟩]) ?_ 2 _ rfl; refine blk_put (cs := #[.int .i64 (eOf i), .int .u32 0, .string ⟨#[]⟩]) ?_ 1 _ rfl; refine blk_put (cs := #[.int .i64 0, .int .u32 0, .string ⟨#[]⟩]) ?_ 0 _ rfl; exact BKG.out)))
      have HB3 := Aside0.mk (below_set (below_set (below_set HB.out GE.out) GE.out) GE.out : Below w.heap.size w (((w2.setCell ⟨gb, 0, none⟩ (.int .i64 (eOf i))).setCell ⟨gb, 1, none⟩ (.int .u32 (sOf i))).setCell ⟨gb, 2, none⟩ (.string (tOf i))))
      refine (is_status (eOf i) (sOf i) (tOf i) n b _ (blk_below BKB.out HB3.out)).mono ?_
      rintro e w4 ⟨rfl, hb⟩
      have HB4 := Aside0.mk (below_step HB3.out hb)
      clear hb
      by_cases hp : sOf i = n
      · have hq : (sOf i == n) = true := beq_iff_eq.mpr hp
        go_wp2
        go_ret
        refine ⟨?_, HB4.out⟩
        rw [← HF.out, show 19 - i = (18 - i) + 1 by omega]
        simp only [findFrom]
        rw [if_pos hq]
        rfl
      · have hq : (sOf i == n) = false := beq_eq_false_iff_ne.mpr hp
        go_wp2
        go_roundw
        case rel =>
          refine ⟨i + 1, by simp, ⟨by omega⟩, ⟨?_⟩, HB4⟩
          rw [← HF.out, show 19 - i = (19 - (i + 1)) + 1 by omega]
          simp only [findFrom]
          rw [if_neg (by rw [hq]; decide)]
        case measure => simp [intOf]; omega
    · have c5 : decide ((i : Int) < 19) = false := decide_eq_false (by omega)
      have hi : i = 19 := by have := HI.out; omega
      go_wp2
      go_ret
      refine ⟨?_, HB.out⟩
      rw [← HF.out, hi]
      rfl


theorem cell_err (w : World) (hT : Tab w) (i : Nat) (h : i < 19) : w.cell? ⟨0, i * 3, none⟩ = some (.int .i64 (eOf i)) := by
  obtain ⟨t, fr, e⟩ := hT
  rw [cell_of_row w 0 _ tabA t fr e]
  have hs : i = 0 ∨ i = 1 ∨ i = 2 ∨ i = 3 ∨ i = 4 ∨ i = 5 ∨ i = 6 ∨ i = 7 ∨ i = 8 ∨ i = 9 ∨ i = 10 ∨ i = 11 ∨ i = 12 ∨ i = 13 ∨ i = 14 ∨ i = 15 ∨ i = 16 ∨ i = 17 ∨ i = 18 := by omega
  rcases hs with h | h | h | h | h | h | h | h | h | h | h | h | h | h | h | h | h | h | h <;> (subst h; rfl)
theorem cell_status (w : World) (hT : Tab w) (i : Nat) (h : i < 19) : w.cell? ⟨0, i * 3 + 1, none⟩ = some (.int .u32 (sOf i)) := by
  obtain ⟨t, fr, e⟩ := hT
  rw [cell_of_row w 0 _ tabA t fr e]
  have hs : i = 0 ∨ i = 1 ∨ i = 2 ∨ i = 3 ∨ i = 4 ∨ i = 5 ∨ i = 6 ∨ i = 7 ∨ i = 8 ∨ i = 9 ∨ i = 10 ∨ i = 11 ∨ i = 12 ∨ i = 13 ∨ i = 14 ∨ i = 15 ∨ i = 16 ∨ i = 17 ∨ i = 18 := by omega
  rcases hs with h | h | h | h | h | h | h | h | h | h | h | h | h | h | h | h | h | h | h <;> (subst h; rfl)
theorem cell_text (w : World) (hT : Tab w) (i : Nat) (h : i < 19) : w.cell? ⟨0, i * 3 + 2, none⟩ = some (.string (tOf i)) := by
  obtain ⟨t, fr, e⟩ := hT
  rw [cell_of_row w 0 _ tabA t fr e]
  have hs : i = 0 ∨ i = 1 ∨ i = 2 ∨ i = 3 ∨ i = 4 ∨ i = 5 ∨ i = 6 ∨ i = 7 ∨ i = 8 ∨ i = 9 ∨ i = 10 ∨ i = 11 ∨ i = 12 ∨ i = 13 ∨ i = 14 ∨ i = 15 ∨ i = 16 ∨ i = 17 ∨ i = 18 := by omega
  rcases hs with h | h | h | h | h | h | h | h | h | h | h | h | h | h | h | h | h | h | h <;> (subst h; rfl)

/-- An error's place, a status' place. -/
def codeOf (n : Int) : Nat := findFrom (fun i => eOf i == n) 19 0
def placeOf (n : Int) : Nat := findFrom (fun i => sOf i == n) 19 0
theorem codeOf_lt (n : Int) : codeOf n < 19 := findFrom_lt _ _ _ (by omega)
theorem placeOf_lt (n : Int) : placeOf n < 19 := findFrom_lt _ _ _ (by omega)

set_option maxHeartbeats 8000000 in
set_option maxRecDepth 100000 in
theorem of_calls (n : Int) (w : World) (hT : Tab w) :
    Calls Tryd.prog 22 #[.int .i64 n] w fun r w' => r = .returned (.int .i64 ((codeOf n : Nat) : Int)) ∧ Below w.heap.size w w' := by
  have hmf : ∀ (fn : Fn) (first cap : Array Value) (w : World), (Instr.makeFunc fn first cap).run Tryd.prog w = .ok (.func fn first cap) w := fun _ _ _ _ => rfl
  have HB := Aside0.mk (Below.refl w.heap.size w)
  have HT := Aside0.mk hT
  clear hT
  go_enter Tryd.func22, Tryd.ntmps22
  go_wp2_with (first | ((with_reducible refine gate_dst (N := 1) rfl ?_); refine box_event ?hg (N := 1) ?hd (cs := #[.int .i64 n]) (t := 22) ?hr ?_; (case hd => rfl); (case hg => rfl); (case hr => first | (go_simp; done) | (go_simp; rfl)); intro gb hg w2 hbox hb; have n0_ := Aside0.mk (below_step (by repeat (first | (with_reducible first | exact HB.out | apply below_alloc | apply pw_below_drewN | apply below_drew1) | exact HB.out)) hb); have BKG := Aside0.mk hbox; clear HB; have HB := n0_; clear n0_ hb hbox hg))
  refine (find_err n gb _ (Tab_at HT.out HB.out) BKG.out).mono ?_
  rintro e w4 ⟨rfl, hb⟩
  have HB4 := Aside0.mk (below_step HB.out hb)
  clear hb
  go_wp2
  go_ret
  exact ⟨rfl, HB4.out⟩

set_option maxHeartbeats 8000000 in
set_option maxRecDepth 100000 in
theorem Code_calls (n : Int) (w : World) (hT : Tab w) :
    Calls Tryd.prog 11 #[.int .i64 n] w fun r w' => r = .returned (.int .i64 ((codeOf n : Nat) : Int)) ∧ Below w.heap.size w w' := by
  have hu := Tryd.underlying38
  have HB := Aside0.mk (Below.refl w.heap.size w)
  have HT := Aside0.mk hT
  clear hT
  go_enter Tryd.func11, Tryd.ntmps11
  go_wp2_with fail
  refine (of_calls n _ HT.out).mono ?_
  rintro e w4 ⟨rfl, hb⟩
  have HB4 := Aside0.mk (below_step HB.out hb)
  clear hb
  go_wp2
  go_ret
  exact ⟨rfl, HB4.out⟩

set_option maxHeartbeats 8000000 in
set_option maxRecDepth 100000 in
theorem Status_calls (n : Int) (w : World) (hT : Tab w) :
    Calls Tryd.prog 9 #[.int .i64 n] w fun r w' => r = .returned (.int .u32 (sOf (codeOf n))) ∧ Below w.heap.size w w' := by
  have hu := Tryd.underlying38
  have HB := Aside0.mk (Below.refl w.heap.size w)
  have HT := Aside0.mk hT
  clear hT
  go_enter Tryd.func9, Tryd.ntmps9
  go_wp2_with fail
  refine (of_calls n _ HT.out).mono ?_
  rintro e w4 ⟨rfl, hb⟩
  have HB4 := Aside0.mk (below_step HB.out hb)
  have hlt := codeOf_lt n
  have hcz := cell_status w4 (Tab_at HT.out HB4.out) (codeOf n) hlt
  have hi0 : (0 : Int) ≤ ((codeOf n : Nat) : Int) ∧ ((codeOf n : Nat) : Int) < 19 := by omega
  clear hb
  go_wp2
  go_ret
  exact ⟨rfl, HB4.out⟩

set_option maxHeartbeats 8000000 in
set_option maxRecDepth 100000 in
theorem Text_calls (n : Int) (w : World) (hT : Tab w) :
    Calls Tryd.prog 13 #[.int .i64 n] w fun r w' => r = .returned (.string (tOf (codeOf n))) ∧ Below w.heap.size w w' := by
  have hu := Tryd.underlying38
  have HB := Aside0.mk (Below.refl w.heap.size w)
  have HT := Aside0.mk hT
  clear hT
  go_enter Tryd.func13, Tryd.ntmps13
  go_wp2_with fail
  refine (of_calls n _ HT.out).mono ?_
  rintro e w4 ⟨rfl, hb⟩
  have HB4 := Aside0.mk (below_step HB.out hb)
  have hlt := codeOf_lt n
  have hcz := cell_text w4 (Tab_at HT.out HB4.out) (codeOf n) hlt
  have hi0 : (0 : Int) ≤ ((codeOf n : Nat) : Int) ∧ ((codeOf n : Nat) : Int) < 19 := by omega
  clear hb
  go_wp2
  go_ret
  exact ⟨rfl, HB4.out⟩

set_option maxHeartbeats 8000000 in
set_option maxRecDepth 100000 in
theorem FromStatus_calls (n : Int) (w : World) (hT : Tab w) :
    Calls Tryd.prog 16 #[.int .u32 n] w fun r w' => r = .returned (.int .i64 (eOf (placeOf n))) ∧ Below w.heap.size w w' := by
  have hmf : ∀ (fn : Fn) (first cap : Array Value) (w : World), (Instr.makeFunc fn first cap).run Tryd.prog w = .ok (.func fn first cap) w := fun _ _ _ _ => rfl
  have hu := Tryd.underlying38
  have HB := Aside0.mk (Below.refl w.heap.size w)
  have HT := Aside0.mk hT
  clear hT
  go_enter Tryd.func16, Tryd.ntmps16
  go_wp2_with (first | ((with_reducible refine gate_dst (N := 1) rfl ?_); refine box_event ?hg (N := 1) ?hd (cs := #[.int .u32 n]) (t := 25) ?hr ?_; (case hd => rfl); (case hg => rfl); (case hr => first | (go_simp; done) | (go_simp; rfl)); intro gb hg w2 hbox hb; have n0_ := Aside0.mk (below_step (by repeat (first | (with_reducible first | exact HB.out | apply below_alloc | apply pw_below_drewN | apply below_drew1) | exact HB.out)) hb); have BKG := Aside0.mk hbox; clear HB; have HB := n0_; clear n0_ hb hbox hg))
  refine (find_status n gb _ (Tab_at HT.out HB.out) BKG.out).mono ?_
  rintro e w4 ⟨rfl, hb⟩
  have HB4 := Aside0.mk (below_step HB.out hb)
  have hlt := placeOf_lt n
  have hcz := cell_err w4 (Tab_at HT.out HB4.out) (placeOf n) hlt
  have hi0 : (0 : Int) ≤ ((placeOf n : Nat) : Int) ∧ ((placeOf n : Nat) : Int) < 19 := by omega
  clear hb
  rw [show findFrom (fun i => sOf i == n) 19 0 = placeOf n from rfl]
  go_wp2
  go_ret
  exact ⟨rfl, HB4.out⟩

/-- A code's error. -/
def fromCode (n : Int) : Int := if 0 ≤ n ∧ n < 19 then eOf n.toNat else eOf 15

set_option maxHeartbeats 8000000 in
set_option maxRecDepth 100000 in
theorem FromCode_calls (n : Int) (w : World) (hT : Tab w) :
    Calls Tryd.prog 18 #[.int .i64 n] w fun r w' => r = .returned (.int .i64 (fromCode n)) ∧ Below w.heap.size w w' := by
  have hu := Tryd.underlying38
  have HT := Aside0.mk hT
  have hc15 := cell_err w hT 15 (by decide)
  clear hT
  unfold fromCode
  by_cases h0 : n < 0
  · have c0 : decide (n < 0) = true := decide_eq_true h0
    rw [if_neg (by omega)]
    go_enter Tryd.func18, Tryd.ntmps18
    go_wp2
    go_ret
    exact ⟨rfl, Below.refl _ _⟩
  · have c0 : decide (n < 0) = false := decide_eq_false h0
    by_cases h1 : n ≥ 19
    · have c1 : decide (n ≥ 19) = true := decide_eq_true h1
      have c2 : decide (19 ≤ n) = true := decide_eq_true h1
      rw [if_neg (by omega)]
      go_enter Tryd.func18, Tryd.ntmps18
      go_wp2
      go_ret
      exact ⟨rfl, Below.refl _ _⟩
    · have c1 : decide (n ≥ 19) = false := decide_eq_false h1
      have c2 : decide (19 ≤ n) = false := decide_eq_false h1
      obtain ⟨i, rfl⟩ : ∃ i : Nat, n = (i : Int) := ⟨n.toNat, by omega⟩
      have hi : i < 19 := by omega
      have hcz := cell_err w HT.out i hi
      have hi0 : (0 : Int) ≤ (i : Int) ∧ (i : Int) < 19 := by omega
      rw [if_pos (by omega), Int.toNat_natCast]
      go_enter Tryd.func18, Tryd.ntmps18
      go_wp2
      go_ret
      exact ⟨rfl, Below.refl _ _⟩

end Go.Proofs.YtemadfllannljaaDoor.G
