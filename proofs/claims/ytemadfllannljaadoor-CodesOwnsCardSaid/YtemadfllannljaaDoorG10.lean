/- The hand-made contract of codes.All: the errors, in a row of its own that is clipped. -/
import Derived.Test.YtemadfllannljaaDoorG9
import Derived.WalkSpells
namespace Go.Proofs.YtemadfllannljaaDoor.G
open Go.RowKit Go.Proofs.YtemadfllannljaaDoorW.PrintWords Go.Proofs.YtemadfllannljaaDoorW.PrintLast Go.Proofs.YtemadfllannljaaDoorW.PrintMore
set_option linter.unusedVariables false
set_option linter.unusedSimpArgs false

theorem infoErr : (Tryd.prog.info? 22).map (fun i => (i.zero, i.size, i.bytes)) = some (some (.int .i64 0), 1, 8) := by kernel_rfl

set_option maxHeartbeats 8000000 in
set_option maxRecDepth 100000 in
theorem Clip_calls (g n c : Nat) (hc : n ≤ c) (w : World) :
    Calls Tryd.prog 26 #[.slice (some ⟨g, 0, none⟩) n c] w fun e w' => e = .returned (.slice (some ⟨g, 0, none⟩) n n) ∧ w' = w := by
  have h1 : (0 : Int) ≤ (n : Int) := by omega
  have h2 : (n : Int) ≤ (c : Int) := by omega
  go_enter Tryd.func26, Tryd.ntmps26
  go_wp2
  go_ret
  exact ⟨rfl, rfl⟩

/-- A row that is clipped: the block's first cells. -/
def Clipped (w : World) (base : Nat) (g : Nat) (xs : List Int) : Prop :=
  base ≤ g ∧ ∃ cur, w.heap[g]? = some (.cells cur 22 (0, 0)) ∧ cur.toList.take xs.length = encs (Value.int .i64) xs

theorem R_set {W : World} {base : Nat} {v : Value} {xs : List Int} (h : (Kd.int .i64).R 22 W base (fun _ => True) v xs) {gb : Nat} {cs : Array Value} (hg : W.heap[gb]? = some (.cells cs 38 (0, 0))) (j : Nat) (u : Value) :
    (Kd.int .i64).R 22 (W.setCell ⟨gb, j, none⟩ u) base (fun _ => True) v xs := by
  refine Kd.R_mono (Kd.R_move (Kd.R_bound h) (fun k hk => ?_)) (fun _ _ => trivial)
  obtain ⟨_, _, _, q, hq, cells, hc⟩ := hk
  have hq2 : q = 22 := by simpa [Kd.int, Kd.scalar] using hq
  have hne : k ≠ gb := by
    rintro rfl
    rw [hg] at hc
    simp [hq2] at hc
  exact Below.heap_setCell W ⟨gb, j, none⟩ u k hne

set_option maxHeartbeats 8000000 in
set_option maxRecDepth 100000 in
theorem All_calls (w : World) (hT : Tab w) :
    Calls Tryd.prog 20 #[] w fun e w' => ∃ g, e = .returned (.slice (some ⟨g, 0, none⟩) 19 19) ∧ Clipped w' w.heap.size g errs ∧ Below w.heap.size w w' := by
  have hu := Tryd.underlying38
  have HB := Aside0.mk (Below.refl w.heap.size w)
  have HT := Aside0.mk hT
  clear hT
  go_enter Tryd.func20, Tryd.ntmps20
  go_wp2_with (first | ((with_reducible refine gate_dst (N := 4) rfl ?_); obtain ⟨tT, frT, eT⟩ := HT.out; refine wpList_load_row rfl 39 (.global 0) rfl 0 (by rfl) tT tabA frT _ eT Tryd.underlying39 rfl (by kernel_rfl) ?_; clear eT))
  go_loopw [1, 5] (fun u v w' => ∃ i : Nat, v = .int .i64 (i : Int) ∧ Aside0 (i ≤ 19) ∧ Aside0 (Kd.R (Kd.int .i64) 22 w' w.heap.size (fun _ => True) u (errs.take i)) ∧ Aside0 (Below w.heap.size w w'))
    (fun _ v _ => (19 - intOf v).toNat)
  case atStart => exact ⟨0, rfl, ⟨by decide⟩, ⟨Kd.R_nil _ _ _ _ _⟩, HB⟩
  case round =>
    obtain ⟨i, rfl, HI, HR, HB⟩ := hrel
    by_cases h19 : i < 19
    · have c5 : decide ((i : Int) < 19) = true := decide_eq_true (by omega)
      go_wp2_with (first | ((with_reducible refine gate_dst (N := 7) rfl ?_); refine at_index rfl (.tmp 4) (.tmp 5) rfl i h19 rfl rfl ?_) | ((with_reducible refine gate_dst (N := 3) rfl ?_); refine box_event ?hg (N := 3) ?hd (cs := #[.int .i64 0, .int .u32 0, .string ⟨#[]⟩]) (t := 38) ?hr ?_; (case hd => rfl); (case hg => rfl); (case hr => first | (go_simp; done) | (go_simp; rfl)); intro gb hg w2 hbox hb; have n0_ := Aside0.mk (below_step (by repeat (first | (with_reducible first | exact HB.out | apply below_alloc | apply pw_below_drewN | apply below_drew1) | exact HB.out)) hb); have BKG := Aside0.mk hbox; have GE := Aside0.mk (by rw [hg]; exact HB.out.size : w.heap.size ≤ gb); have n1_ := Aside0.mk (Kd.R_below HR.out hb); clear HR; have HR := n1_; have hcy0 : w2.cell? ⟨gb, 0, none⟩ = some (.int .i64 0) := (blk_cell hbox 0).trans rfl; have hcy1 : w2.cell? ⟨gb, 1, none⟩ = some (.int .u32 0) := (blk_cell hbox 1).trans rfl; have hcy2 : w2.cell? ⟨gb, 2, none⟩ = some (.string ⟨#[]⟩) := (blk_cell hbox 2).trans rfl; have hcz0 := blk_frozen hbox 0; have hcz1 := blk_frozen hbox 1; have hcz2 := blk_frozen hbox 2; clear HB; have HB := n0_; clear n0_ n1_ hb hbox hg) | ((with_reducible refine gate_store (t := 38) (p := 3) rfl ?_); refine store_event (t := 38) (p := 3) (v := ?vo) (w1 := ((w2.setCell ⟨gb, 0, none⟩ (.int .i64 (eOf i))).setCell ⟨gb, 1, none⟩ (.int .u32 (sOf i))).setCell ⟨gb, 2, none⟩ (.string (tOf i))) ?hg ?ho ?hn ?hr ?_; (case ho => rfl); (case hg => rfl); (case hn => rfl); (case hr => first | (go_simp; done) | (go_simp; rfl)); intro w3 hw; have n0_ : Aside0 (Kd.R (Kd.int .i64) 22 w3 w.heap.size (fun _ => True) u1 (errs.take i)) := ⟨by rw [hw]; exact R_set (R_set (R_set HR.out BKG.out _ _) (blk_set BKG.out _ _) _ _) (blk_set (blk_set BKG.out _ _) _ _) _ _⟩; have n1_ : Aside0 (Below w.heap.size w w3) := ⟨by rw [hw]; exact below_set (below_set (below_set HB.out GE.out) GE.out) GE.out⟩; have hcw : w3.cell? ⟨gb, 0, none⟩ = some (.int .i64 (eOf i)) := (by rw [hw]; exact (blk_cell (blk_put (cs := #[.int .i64 (eOf i), .int .u32 (sOf i), .string ⟨#[]⟩]) (blk_put (cs := #[.int .i64 (eOf i), .int .u32 0, .string ⟨#[]⟩]) (blk_put (cs := #[.int .i64 0, .int .u32 0, .string ⟨#[]⟩]) BKG.out 0 _ rfl) 1 _ rfl) 2 _ rfl) 0).trans rfl); clear hw hcy0 hcy1 hcy2 hcz0 hcz1 hcz2; clear HR; clear HB; have HR := n0_; have HB := n1_; clear n0_ n1_) | ((with_reducible refine gate_builtin (b := .append) (xs := #[.tmp 8, .tmp 11]) rfl ?_); at_builtin; refine Kd.R_append (Kd.int .i64) (w0 := w) w.heap.size rfl (.tmp 8) (.tmp 11) 24 22 (.int .i64 0) 8 rfl Tryd.underlying24 infoErr rfl (by decide) (by omega) u1 (errs.take i) (eOf i) [.int .i64 (eOf i)] (fun _ => True) (fun _ => False) rfl rfl ?aP (fun _ hk => hk.elim) ?aF ?aO ?aB ?aS ?aL ?_; (case aP => exact rfl); (case aF => exact (fun _ _ => trivial)); (case aO => exact HR.out); (case aB => exact (by repeat (first | (with_reducible first | exact HB.out | apply below_alloc | apply pw_below_drewN | apply below_drew1) | exact HB.out))); (case aS => exact (below_size (by repeat (first | (with_reducible first | exact HB.out | apply below_alloc | apply pw_below_drewN | apply below_drew1) | exact HB.out)))); (case aL => simp only [List.length_take]; have : errs.length = 19 := rfl; omega); intro v1 w1 hr1 hb1 _ _; have n0_ := Aside0.mk hr1; have n1_ := Aside0.mk hb1; clear HR; clear HB; have HR := n0_; have HB := n1_; clear n0_ n1_ hr1 hb1))
      go_roundw
      case rel =>
        refine ⟨i + 1, by simp, ⟨by omega⟩, ⟨?_⟩, HB⟩
        have he : errs.take (i + 1) = errs.take i ++ [eOf i] := by
          have hl : i < errs.length := h19
          rw [List.take_succ_eq_append_getElem hl]
          congr 2
          unfold eOf
          rw [List.getD_eq_getElem?_getD, List.getElem?_eq_getElem hl]
          rfl
        rw [he]
        exact HR.out
      case measure => simp [intOf]; omega
    · have c5 : decide ((i : Int) < 19) = false := decide_eq_false (by omega)
      have hi : i = 19 := by have := HI.out; omega
      subst hi
      have hR := HR.out
      have hown := Kd.own_of_R hR
      obtain ⟨g, cap, rfl, hg0, _, cells, hcells⟩ := Kd.R_form hR (by decide)
      have hcap : 19 ≤ cap := by
        rcases hown.2 with ⟨h, _⟩ | ⟨g2, cap2, cur, hv, _, _, hn, _⟩
        · cases h
        · injection hv with _ _ e3
          rw [e3]; exact hn
      go_wp2_with fail
      refine (Clip_calls g 19 cap hcap _).mono ?_
      rintro e w4 ⟨rfl, rfl⟩
      go_wp2
      go_ret
      refine ⟨g, rfl, ⟨hg0, ?_⟩, HB.out⟩
      rcases hown.2 with ⟨h, _⟩ | ⟨g2, cap2, cur, hv, _, hc, _, _, _, ht⟩
      · cases h
      · injection hv with e1 _ _
        injection e1 with e1
        injection e1 with e1 _ _
        subst e1
        exact ⟨cur, hc, ht⟩

theorem V_clipped {w : World} {base g : Nat} {xs : List Int} (hm : xs.length ≤ 9223372036854775807) (h : Clipped w base g xs) : Kd.V (Kd.int .i64) 22 w base (fun k_ => base ≤ k_) (.slice (some ⟨g, 0, none⟩) xs.length xs.length) xs := by
  obtain ⟨hg, cur, hb, ht⟩ := h
  refine ⟨_, _, rfl, Nat.le_refl _, fun W' hW => ⟨rfl, hm, fun hn => ⟨_, rfl, fun j p hj => ⟨[.int .i64 p], rfl, rfl, fun i u hu => ?_⟩⟩⟩⟩
  have hb' := (hW g hg (blk_lt hb)).trans hb
  cases i with
  | succ i => simp at hu
  | zero =>
    have hu' : Value.int .i64 p = u := by simpa using hu
    subst hu'
    have hj' : j < xs.length := (List.getElem?_eq_some_iff.1 hj).1
    have h5 : cur[j]? = some (.int .i64 p) := by
      have := congrArg (fun l : List Value => l[j]?) ht
      simp only [List.getElem?_take, if_pos hj', encs, List.getElem?_map, hj, Option.map_some] at this
      simpa using this
    have ha : (⟨g, 0, none⟩ : Addr).add (j * (Kd.int .i64).sz + 0) = ⟨g, j, none⟩ := by
      rw [show j * (Kd.int .i64).sz + 0 = j from by rw [show (Kd.int .i64).sz = 1 from rfl]; omega]
      exact add_plain _ _
    rw [ha, cell_of_row W' g j cur _ _ hb']
    exact h5

theorem All_reads (w : World) (hT : Tab w) :
    Calls Tryd.prog 20 #[] w fun e w' => ∃ v0_ : Value, e = .returned v0_ ∧ Kd.V (Kd.int .i64) 22 w' w.heap.size (fun k_ => (w.heap.size ≤ k_)) v0_ errs ∧ Below w.heap.size w w' := by
  refine (All_calls w hT).mono ?_
  rintro e w' ⟨g, rfl, hc, hb⟩
  exact ⟨_, rfl, V_clipped (by decide) hc, hb⟩

/-- The same call, told with the block that the row lies in. -/
theorem All_clips (r : List Int) (w : World) (hT : Tab w) (hr : errs = r) :
    Calls Tryd.prog 20 #[] w fun e w' => ∃ v0_ : Value, e = .returned v0_ ∧ Kd.V (Kd.int .i64) 22 w' w.heap.size (fun k_ => (w.heap.size ≤ k_)) v0_ r ∧ (∃ g, v0_ = .slice (some ⟨g, 0, none⟩) r.length r.length ∧ Clipped w' w.heap.size g r) ∧ Below w.heap.size w w' := by
  subst hr
  refine (All_calls w hT).mono ?_
  rintro e w' ⟨g, rfl, hc, hb⟩
  exact ⟨_, rfl, V_clipped (by decide) hc, ⟨g, rfl, hc⟩, hb⟩
theorem Clip_at {W : World} {base n c : Nat} {A : Option Addr} {r : List Int} (h : ∃ g, (Value.slice A n c) = .slice (some ⟨g, 0, none⟩) r.length r.length ∧ Clipped W base g r) (i : Nat) :
    ∃ g, A = some ⟨g, 0, none⟩ ∧ base ≤ g ∧ ∀ ad, A = some ad → W.frozen? (ad.add i) = false := by
  obtain ⟨g, e, hg, cur, hc, _⟩ := h
  injection e with e1 _ _
  refine ⟨g, e1, hg, fun ad had => ?_⟩
  rw [e1] at had
  injection had with had
  subst had
  rw [add_plain]
  exact blk_frozen hc i
theorem Clip_base {ad : Addr} {g i b base : Nat} (e : some ad = some (⟨g, 0, none⟩ : Addr)) (hg : base ≤ g) (hb : b ≤ base) : b ≤ (ad.add i).block := by
  injection e with e
  subst e
  rw [add_plain]
  exact Nat.le_trans hb hg

end Go.Proofs.YtemadfllannljaaDoor.G
