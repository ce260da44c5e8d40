-- Written by xprint.py, a program of this repo that leads the kit's print.py: Lean checks it.
import Derived.Test.YtookjdhfpbmjkaaX0
import Derived.Test.YtookjdhfpbmjkaaX1
import Derived.Test.YtookjdhfpbmjkaaX5
namespace Go.Proofs.Ytookjdhfpbmjkaa.X
open Go.RowKit Go.Proofs.YtookjdhfpbmjkaaW.PrintWords Go.Proofs.YtookjdhfpbmjkaaW.PrintLast Go.Proofs.YtookjdhfpbmjkaaW.PrintMore
attribute [local go_sem] max2_int min2_int max_two min_two max_three min_three max_four min_four   -- for this text's walks alone
set_option linter.unusedVariables false
set_option linter.unusedSimpArgs false

attribute [local go_sem high] eqA27
/-! ### keyeventref04_Same: function 12 -/
mutual
def keyeventref04_Same.l0 : Nat → List (S25) → List (S25) → Int → Int → Option (Bool)
  | 0, _, _, _, _ => none
  | k + 1, x1, x14, x15, x16 => if x16 < x15 then (if 0 ≤ x16 then (if x16 < (x14.length : Int) then (if x16 < (x1.length : Int) then (if ((rd_T25 x14 x16).f0) = ((rd_T25 x1 x16).f0) then (keyeventref04_Same.j1 k x1 x16 x14 x15 x16 ((((rd_T25 x14 x16).f1).length : Int) != (((rd_T25 x1 x16).f1).length : Int)) ((rd_T25 x14 x16).f0) ((rd_T25 x14 x16).f1)) else (keyeventref04_Same.j1 k x1 x16 x14 x15 x16 true ((rd_T25 x14 x16).f0) ((rd_T25 x14 x16).f1))) else (none)) else (none)) else (none)) else (some true)
def keyeventref04_Same.j1 : Nat → List (S25) → Int → List (S25) → Int → Int → Bool → Int → List (S27) → Option (Bool)
  | 0, _, _, _, _, _, _, _, _ => none
  | k + 1, x1, x5, x14, x15, x16, x40, x312000, x312001 => if x40 = true then (some false) else (keyeventref04_Same.l1 k x1 x5 x14 x15 x16 x312001 (x312001.length : Int) 0)
def keyeventref04_Same.l1 : Nat → List (S25) → Int → List (S25) → Int → Int → List (S27) → Int → Int → Option (Bool)
  | 0, _, _, _, _, _, _, _, _ => none
  | k + 1, x1, x5, x14, x15, x16, x42, x43, x44 => if x44 < x43 then (if 0 ≤ x44 then (if x44 < (x42.length : Int) then (if 0 ≤ x5 then (if x5 < (x1.length : Int) then (if x44 < (((rd_T25 x1 x5).f1).length : Int) then (if (!(((rd_T27 ((rd_T25 x1 x5).f1) x44).f0) == ((rd_T27 x42 x44).f0)) || (!((((rd_T27 ((rd_T25 x1 x5).f1) x44).f1).toList) == (((rd_T27 x42 x44).f1).toList)))) = true then (some false) else (keyeventref04_Same.l1 k x1 x5 x14 x15 x16 x42 x43 (wrap64 (x44 + 1)))) else (none)) else (none)) else (none)) else (none)) else (none)) else (keyeventref04_Same.l0 k x1 x14 x15 (wrap64 (x16 + 1)))
end
def keyeventref04_Same.f (k : Nat) (l0 : List (S25)) (l1 : List (S25)) : Option (Bool) := if (l0.length : Int) = (l1.length : Int) then (keyeventref04_Same.l0 k l1 l0 (l0.length : Int) 0) else (some false)
theorem keyeventref04_Same.mono_l : ∀ k, (∀ y0 y1 y2 y3, LeO (keyeventref04_Same.l0 k y0 y1 y2 y3) (keyeventref04_Same.l0 (k + 1) y0 y1 y2 y3)) ∧ (∀ y0 y1 y2 y3 y4 y5 y6 y7, LeO (keyeventref04_Same.j1 k y0 y1 y2 y3 y4 y5 y6 y7) (keyeventref04_Same.j1 (k + 1) y0 y1 y2 y3 y4 y5 y6 y7)) ∧ (∀ y0 y1 y2 y3 y4 y5 y6 y7, LeO (keyeventref04_Same.l1 k y0 y1 y2 y3 y4 y5 y6 y7) (keyeventref04_Same.l1 (k + 1) y0 y1 y2 y3 y4 y5 y6 y7))
  | 0 => ⟨fun _ _ _ _ r h => by simp [keyeventref04_Same.l0] at h, fun _ _ _ _ _ _ _ _ r h => by simp [keyeventref04_Same.j1] at h, fun _ _ _ _ _ _ _ _ r h => by simp [keyeventref04_Same.l1] at h⟩
  | k + 1 => by
    obtain ⟨ih0, ih1, ih2⟩ := keyeventref04_Same.mono_l k
    refine ⟨?_, ?_, ?_⟩
    · intro y0 y1 y2 y3
      unfold keyeventref04_Same.l0
      repeat' first
      | (with_reducible exact ih0 _ _ _ _)
      | (with_reducible exact ih1 _ _ _ _ _ _ _ _)
      | (with_reducible exact ih2 _ _ _ _ _ _ _ _)
      | (with_reducible exact LeO.refl _)
      | (with_reducible exact LeO.none _)
      | (with_reducible refine LeO.ite ?_ ?_)
      | (with_reducible refine LeO.bind ?_ (fun _ => ?_))
      | exact ih0 _ _ _ _
      | exact ih1 _ _ _ _ _ _ _ _
      | exact ih2 _ _ _ _ _ _ _ _
      | exact LeO.none _
      | refine LeO.ite ?_ ?_
      | refine LeO.bind ?_ (fun _ => ?_)
    · intro y0 y1 y2 y3 y4 y5 y6 y7
      unfold keyeventref04_Same.j1
      repeat' first
      | (with_reducible exact ih0 _ _ _ _)
      | (with_reducible exact ih1 _ _ _ _ _ _ _ _)
      | (with_reducible exact ih2 _ _ _ _ _ _ _ _)
      | (with_reducible exact LeO.refl _)
      | (with_reducible exact LeO.none _)
      | (with_reducible refine LeO.ite ?_ ?_)
      | (with_reducible refine LeO.bind ?_ (fun _ => ?_))
      | exact ih0 _ _ _ _
      | exact ih1 _ _ _ _ _ _ _ _
      | exact ih2 _ _ _ _ _ _ _ _
      | exact LeO.none _
      | refine LeO.ite ?_ ?_
      | refine LeO.bind ?_ (fun _ => ?_)
    · intro y0 y1 y2 y3 y4 y5 y6 y7
      unfold keyeventref04_Same.l1
      repeat' first
      | (with_reducible exact ih0 _ _ _ _)
      | (with_reducible exact ih1 _ _ _ _ _ _ _ _)
      | (with_reducible exact ih2 _ _ _ _ _ _ _ _)
      | (with_reducible exact LeO.refl _)
      | (with_reducible exact LeO.none _)
      | (with_reducible refine LeO.ite ?_ ?_)
      | (with_reducible refine LeO.bind ?_ (fun _ => ?_))
      | exact ih0 _ _ _ _
      | exact ih1 _ _ _ _ _ _ _ _
      | exact ih2 _ _ _ _ _ _ _ _
      | exact LeO.none _
      | refine LeO.ite ?_ ?_
      | refine LeO.bind ?_ (fun _ => ?_)
theorem keyeventref04_Same.mono : ∀ a0 a1 k, LeO (keyeventref04_Same.f k a0 a1) (keyeventref04_Same.f (k + 1) a0 a1) := by
  intro a0 a1 k
  obtain ⟨ih0, ih1, ih2⟩ := keyeventref04_Same.mono_l k
  unfold keyeventref04_Same.f
  repeat' first
      | (with_reducible exact ih0 _ _ _ _)
      | (with_reducible exact ih1 _ _ _ _ _ _ _ _)
      | (with_reducible exact ih2 _ _ _ _ _ _ _ _)
      | (with_reducible exact LeO.refl _)
      | (with_reducible exact LeO.none _)
      | (with_reducible refine LeO.ite ?_ ?_)
      | (with_reducible refine LeO.bind ?_ (fun _ => ?_))
      | exact ih0 _ _ _ _
      | exact ih1 _ _ _ _ _ _ _ _
      | exact ih2 _ _ _ _ _ _ _ _
      | exact LeO.none _
      | refine LeO.ite ?_ ?_
      | refine LeO.bind ?_ (fun _ => ?_)
set_option maxHeartbeats 8000000 in
set_option maxRecDepth 100000 in
theorem keyeventref04_Same.calls (k : Nat) (A0 : Option Addr) (c0 : Nat) (l0 : List (S25)) (A1 : Option Addr) (c1 : Nat) (l1 : List (S25)) (r : Bool) (w : World) (hr0 : Kd.C k25 w A0 l0.length l0) (hc0 : l0.length ≤ c0) (hr1 : Kd.C k25 w A1 l1.length l1) (hc1 : l1.length ≤ c1) (h : keyeventref04_Same.f k l0 l1 = some r) :
    Calls Try.prog 12 #[.slice A0 l0.length c0, .slice A1 l1.length c1] w fun e w' => e = .returned (.bool r) ∧ Below w.heap.size w w' := by
 have hu25 := Try.underlying25
 have hu27 := Try.underlying27
 have HR0 := Aside0.mk hr0
 have HC0 := Aside0.mk hc0
 clear hr0 hc0
 have HR1 := Aside0.mk hr1
 have HC1 := Aside0.mk hc1
 clear hr1 hc1
 have HB := Aside0.mk (Below.refl w.heap.size w)
 have H : (if (l0.length : Int) = (l1.length : Int) then (keyeventref04_Same.l0 k l1 l0 (l0.length : Int) 0) else (some false)) = some r := h
 clear h
 by_cases c3 : (l0.length : Int) = (l1.length : Int)
 ·rw [if_pos c3] at H
  have c3b0 : ((l0.length : Int) == (l1.length : Int)) = true := beq_iff_eq.mpr c3
  have c3b1 : ((l0.length : Int) != (l1.length : Int)) = false := bne_eq_false_iff_eq.mpr c3
  have c3b2 : (l0.length == l1.length) = true := by first | simpa using c3 | (simp at c3 ⊢; omega)
  clear c3
  have H' := Aside0.mk H
  clear H
  go_enter Try.func12, Try.ntmps12
  go_wp2
  repeat (go_quiet (fail); try go_wp2)
  go_loopg [16] k (fun kq v16 w' => ∃ (x16_1 : Int), v16 = .int .i64 x16_1 ∧ Aside0 (keyeventref04_Same.l0 kq l1 l0 (l0.length : Int) x16_1 = some r) ∧ Aside0 (kq ≤ k) ∧ Aside0 (Below w.heap.size w w'))
  case atStart => exact ⟨(0), dq, H', ⟨Nat.le_refl _⟩, ⟨hq HB.out⟩⟩
  case round =>
   clear H'
   try clear c1
   try clear p2
   try clear c3
   try clear c3b0
   try clear c3b1
   try clear c3b2
   obtain ⟨x16_1, rfl, HA, HK1, HB⟩ := hrel
   cases gk with
   | zero => exact absurd HA.out (by simp [keyeventref04_Same.l0])
   | succ k1 =>
    have H := HA.out
    clear HA
    simp only [keyeventref04_Same.l0] at H
    by_cases c4 : x16_1 < (l0.length : Int)
    ·rw [if_pos c4] at H
     have c4b0 := decide_eq_true c4
     clear c4
     by_cases c5 : 0 ≤ x16_1
     ·rw [if_pos c5] at H
      have c5b0 := decide_eq_true c5
      clear c5
      by_cases c6 : x16_1 < (l0.length : Int)
      ·rw [if_pos c6] at H
       have c6b0 := decide_eq_true c6
       clear c6
       have HC7 := Aside0.mk H
       clear H
       have p310 : 0 ≤ (x16_1 : Int) := of_decide_eq_true aq
       have q310 : x16_1 < (l0.length : Int) := of_decide_eq_true aq
       obtain ⟨ad310, A310_1, c310_1, e310, hx310_0, hx310_1, hl310_1, hi310_1⟩ := at_T25 HR0.out x16_1 p310 q310
       cases e310
       replace hx310_0 := (HB.out.cell (World.block_lt_of_cell? w _ hx310_0)).trans hx310_0
       replace hx310_1 := (HB.out.cell (World.block_lt_of_cell? w _ hx310_1)).trans hx310_1
       have HR310_1 := Aside0.mk hi310_1
       have HC310_1 := Aside0.mk hl310_1
       clear hi310_1 hl310_1
       replace p310 := eq_true p310
       replace q310 := eq_true q310
       go_upto_region 6 with (first | ((with_reducible refine gate_dst (N := 6) rfl ?_); (try (refine gate_guard (by rfl) ?_; dsimp only)); refine box_event ?hg (N := 6) ?hd (cs := #[.int .i64 0, .slice none 0 0]) (t := 25) ?hr ?_; (case hd => rfl); (case hg => rfl); (case hr => first | (go_simp; done) | (go_simp; rfl)); intro gb311 hg w8 hbox hb; have BK311 := Aside0.mk (hbox); have GW311 := Aside0.mk ((by rw [hg]; exact (below_size (hq HB.out)) : w.heap.size ≤ gb311)); have GE311 := Aside0.mk ((by rw [hg]; exact (below_size (hq HB.out)) : w.heap.size ≤ gb311)); replace HB := Aside0.mk (below_step (hq HB.out) hb); clear hb hbox hg; have hcz9_0 : w8.cell? ⟨gb311, 0, none⟩ = some (.int .i64 0) := (blk_cell BK311.out 0).trans rfl; have hcz9_1 : w8.cell? ⟨gb311, 1, none⟩ = some (.slice none 0 0) := (blk_cell BK311.out 1).trans rfl; have hfz9_0 := blk_frozen BK311.out 0; have hfz9_1 := blk_frozen BK311.out 1))
       repeat (go_quiet (first | ((with_reducible refine gate_dst (N := 6) rfl ?_); (try (refine gate_guard (by rfl) ?_; dsimp only)); refine box_event ?hg (N := 6) ?hd (cs := #[.int .i64 0, .slice none 0 0]) (t := 25) ?hr ?_; (case hd => rfl); (case hg => rfl); (case hr => first | (go_simp; done) | (go_simp; rfl)); intro gb311 hg w8 hbox hb; have BK311 := Aside0.mk (hbox); have GW311 := Aside0.mk ((by rw [hg]; exact (below_size (hq HB.out)) : w.heap.size ≤ gb311)); have GE311 := Aside0.mk ((by rw [hg]; exact (below_size (hq HB.out)) : w.heap.size ≤ gb311)); replace HB := Aside0.mk (below_step (hq HB.out) hb); clear hb hbox hg; have hcz9_0 : w8.cell? ⟨gb311, 0, none⟩ = some (.int .i64 0) := (blk_cell BK311.out 0).trans rfl; have hcz9_1 : w8.cell? ⟨gb311, 1, none⟩ = some (.slice none 0 0) := (blk_cell BK311.out 1).trans rfl; have hfz9_0 := blk_frozen BK311.out 0; have hfz9_1 := blk_frozen BK311.out 1)); go_upto_region 6 with (first | ((with_reducible refine gate_dst (N := 6) rfl ?_); (try (refine gate_guard (by rfl) ?_; dsimp only)); refine box_event ?hg (N := 6) ?hd (cs := #[.int .i64 0, .slice none 0 0]) (t := 25) ?hr ?_; (case hd => rfl); (case hg => rfl); (case hr => first | (go_simp; done) | (go_simp; rfl)); intro gb311 hg w8 hbox hb; have BK311 := Aside0.mk (hbox); have GW311 := Aside0.mk ((by rw [hg]; exact (below_size (hq HB.out)) : w.heap.size ≤ gb311)); have GE311 := Aside0.mk ((by rw [hg]; exact (below_size (hq HB.out)) : w.heap.size ≤ gb311)); replace HB := Aside0.mk (below_step (hq HB.out) hb); clear hb hbox hg; have hcz9_0 : w8.cell? ⟨gb311, 0, none⟩ = some (.int .i64 0) := (blk_cell BK311.out 0).trans rfl; have hcz9_1 : w8.cell? ⟨gb311, 1, none⟩ = some (.slice none 0 0) := (blk_cell BK311.out 1).trans rfl; have hfz9_0 := blk_frozen BK311.out 0; have hfz9_1 := blk_frozen BK311.out 1)))
       (try simp only [Act.put, List.setIfInBounds_toArray, List.set_cons_zero, List.set_cons_succ])
       go_cut [40] (fun v40 wc => ∃ (kq : Nat) (x40_6 : Bool), v40 = .bool x40_6 ∧ Aside0 (keyeventref04_Same.j1 kq l1 x16_1 l0 (l0.length : Int) x16_1 x40_6 ((rd_T25 l0 x16_1).f0) ((rd_T25 l0 x16_1).f1) = some r) ∧ Aside0 (kq ≤ k1) ∧ Aside0 (wc.heap[gb311]? = some (.cells #[.int .i64 ((rd_T25 l0 x16_1).f0), (.slice A310_1 ((rd_T25 l0 x16_1).f1).length c310_1)] 25 (0, 0))) ∧ Aside0 (Below w.heap.size w wc))
       case first =>
        have H := HC7.out
        clear HC7
        by_cases c10 : x16_1 < (l1.length : Int)
        ·rw [if_pos c10] at H
         have c10b0 := decide_eq_true c10
         clear c10
         (first | rw [c10b0] | (simp only [i64_w, i32_w]; rw [c10b0]) | skip)
         by_cases c11 : ((rd_T25 l0 x16_1).f0) = ((rd_T25 l1 x16_1).f0)
         ·rw [if_pos c11] at H
          have c11b0 : (((rd_T25 l0 x16_1).f0) == ((rd_T25 l1 x16_1).f0)) = true := beq_iff_eq.mpr c11
          have c11b1 : (((rd_T25 l0 x16_1).f0) != ((rd_T25 l1 x16_1).f0)) = false := bne_eq_false_iff_eq.mpr c11
          clear c11
          have H' := Aside0.mk H
          clear H
          have hcz12_0 : w8.cell? ⟨gb311, 0, none⟩ = some (.int .i64 0) := (blk_cell BK311.out 0).trans rfl
          have hcz12_1 : w8.cell? ⟨gb311, 1, none⟩ = some (.slice none 0 0) := (blk_cell BK311.out 1).trans rfl
          have hfz12_0 := blk_frozen BK311.out 0
          have hfz12_1 := blk_frozen BK311.out 1
          have p312 : 0 ≤ (x16_1 : Int) := of_decide_eq_true aq
          have q312 : x16_1 < (l1.length : Int) := of_decide_eq_true aq
          obtain ⟨ad312, A312_1, c312_1, e312, hx312_0, hx312_1, hl312_1, hi312_1⟩ := at_T25 HR1.out x16_1 p312 q312
          cases e312
          have hn312_0 : ad312.block ≠ gb311 := Nat.ne_of_lt (Nat.lt_of_lt_of_le (by have := World.block_lt_of_cell? _ _ hx312_0; first | rwa [add_block] at this | exact this) GW311.out)
          have hn312_1 : ad312.block ≠ gb311 := Nat.ne_of_lt (Nat.lt_of_lt_of_le (by have := World.block_lt_of_cell? _ _ hx312_0; first | rwa [add_block] at this | exact this) GW311.out)
          replace hx312_0 := (HB.out.cell (World.block_lt_of_cell? w _ hx312_0)).trans hx312_0
          replace hx312_1 := (HB.out.cell (World.block_lt_of_cell? w _ hx312_1)).trans hx312_1
          have HR312_1 := Aside0.mk hi312_1
          have HC312_1 := Aside0.mk hl312_1
          clear hi312_1 hl312_1
          replace hx312_0 := (cell_far (p := ⟨gb311, 0, none⟩) (by first | (rw [add_block]; exact hn312_0) | (show (Addr.add _ _).block ≠ _; rw [add_block]; exact hn312_0) | exact hn312_0) (.int .i64 ((rd_T25 l0 x16_1).f0))).trans hx312_0
          replace hx312_1 := (cell_far (p := ⟨gb311, 0, none⟩) (by first | (rw [add_block]; exact hn312_0) | (show (Addr.add _ _).block ≠ _; rw [add_block]; exact hn312_0) | exact hn312_0) (.int .i64 ((rd_T25 l0 x16_1).f0))).trans hx312_1
          replace hx312_0 := (cell_far (p := ⟨gb311, 1, none⟩) (by first | (rw [add_block]; exact hn312_1) | (show (Addr.add _ _).block ≠ _; rw [add_block]; exact hn312_1) | exact hn312_1) (.slice A310_1 ((rd_T25 l0 x16_1).f1).length c310_1)).trans hx312_0
          replace hx312_1 := (cell_far (p := ⟨gb311, 1, none⟩) (by first | (rw [add_block]; exact hn312_1) | (show (Addr.add _ _).block ≠ _; rw [add_block]; exact hn312_1) | exact hn312_1) (.slice A310_1 ((rd_T25 l0 x16_1).f1).length c310_1)).trans hx312_1
          (try have hy312_0 := fun (n_ : Nat) => (show ((((w8.drewN n_).setCell ⟨gb311, 0, none⟩ (.int .i64 ((rd_T25 l0 x16_1).f0))).setCell ⟨gb311, 1, none⟩ (.slice A310_1 ((rd_T25 l0 x16_1).f1).length c310_1))).cell? _ = some _ from hx312_0))
          (try have hy312_1 := fun (n_ : Nat) => (show ((((w8.drewN n_).setCell ⟨gb311, 0, none⟩ (.int .i64 ((rd_T25 l0 x16_1).f0))).setCell ⟨gb311, 1, none⟩ (.slice A310_1 ((rd_T25 l0 x16_1).f1).length c310_1))).cell? _ = some _ from hx312_1))
          clear hn312_0
          clear hn312_1
          replace p312 := eq_true p312
          replace q312 := eq_true q312
          have p313 : 0 ≤ (x16_1 : Int) := of_decide_eq_true aq
          have q313 : x16_1 < (l1.length : Int) := of_decide_eq_true aq
          obtain ⟨ad313, A313_1, c313_1, e313, hx313_0, hx313_1, hl313_1, hi313_1⟩ := at_T25 HR1.out x16_1 p313 q313
          obtain rfl : ad312 = ad313 := (by injection e313)
          have hn313_0 : ad312.block ≠ gb311 := Nat.ne_of_lt (Nat.lt_of_lt_of_le (by have := World.block_lt_of_cell? _ _ hx313_0; first | rwa [add_block] at this | exact this) GW311.out)
          have hn313_1 : ad312.block ≠ gb311 := Nat.ne_of_lt (Nat.lt_of_lt_of_le (by have := World.block_lt_of_cell? _ _ hx313_0; first | rwa [add_block] at this | exact this) GW311.out)
          replace hx313_0 := (HB.out.cell (World.block_lt_of_cell? w _ hx313_0)).trans hx313_0
          replace hx313_1 := (HB.out.cell (World.block_lt_of_cell? w _ hx313_1)).trans hx313_1
          have HR313_1 := Aside0.mk hi313_1
          have HC313_1 := Aside0.mk hl313_1
          clear hi313_1 hl313_1
          replace hx313_0 := (cell_far (p := ⟨gb311, 0, none⟩) (by first | (rw [add_block]; exact hn313_0) | (show (Addr.add _ _).block ≠ _; rw [add_block]; exact hn313_0) | exact hn313_0) (.int .i64 ((rd_T25 l0 x16_1).f0))).trans hx313_0
          replace hx313_1 := (cell_far (p := ⟨gb311, 0, none⟩) (by first | (rw [add_block]; exact hn313_0) | (show (Addr.add _ _).block ≠ _; rw [add_block]; exact hn313_0) | exact hn313_0) (.int .i64 ((rd_T25 l0 x16_1).f0))).trans hx313_1
          replace hx313_0 := (cell_far (p := ⟨gb311, 1, none⟩) (by first | (rw [add_block]; exact hn313_1) | (show (Addr.add _ _).block ≠ _; rw [add_block]; exact hn313_1) | exact hn313_1) (.slice A310_1 ((rd_T25 l0 x16_1).f1).length c310_1)).trans hx313_0
          replace hx313_1 := (cell_far (p := ⟨gb311, 1, none⟩) (by first | (rw [add_block]; exact hn313_1) | (show (Addr.add _ _).block ≠ _; rw [add_block]; exact hn313_1) | exact hn313_1) (.slice A310_1 ((rd_T25 l0 x16_1).f1).length c310_1)).trans hx313_1
          (try have hy313_0 := fun (n_ : Nat) => (show ((((w8.drewN n_).setCell ⟨gb311, 0, none⟩ (.int .i64 ((rd_T25 l0 x16_1).f0))).setCell ⟨gb311, 1, none⟩ (.slice A310_1 ((rd_T25 l0 x16_1).f1).length c310_1))).cell? _ = some _ from hx313_0))
          (try have hy313_1 := fun (n_ : Nat) => (show ((((w8.drewN n_).setCell ⟨gb311, 0, none⟩ (.int .i64 ((rd_T25 l0 x16_1).f0))).setCell ⟨gb311, 1, none⟩ (.slice A310_1 ((rd_T25 l0 x16_1).f1).length c310_1))).cell? _ = some _ from hx313_1))
          clear hn313_0
          clear hn313_1
          replace p313 := eq_true p313
          replace q313 := eq_true q313
          go_wp2
          repeat (go_quiet (fail); try go_wp2)
          go_meet
          case rel => exact ⟨_, (((((rd_T25 l0 x16_1).f1).length : Int) != (((rd_T25 l1 x16_1).f1).length : Int))), dq, H', ⟨by have := HK1.out; first | omega | exact Nat.le_refl _⟩, ⟨by (with_reducible repeat (first | refine blk_drewN ?_ _ | refine blk_drew ?_ | refine blk_alloc ?_ _)); refine blk_put (cs := #[.int .i64 ((rd_T25 l0 x16_1).f0), .slice none 0 0]) ?_ 1 _ rfl; (with_reducible repeat (first | refine blk_drewN ?_ _ | refine blk_drew ?_ | refine blk_alloc ?_ _)); refine blk_put (cs := #[.int .i64 0, .slice none 0 0]) ?_ 0 _ rfl; (with_reducible repeat (first | refine blk_drewN ?_ _ | refine blk_drew ?_ | refine blk_alloc ?_ _)); exact BK311.out⟩, ⟨hq1 HB.out GE311.out⟩⟩
         ·rw [if_neg c11] at H
          have c11b0 : (((rd_T25 l0 x16_1).f0) == ((rd_T25 l1 x16_1).f0)) = false := beq_eq_false_iff_ne.mpr c11
          have c11b1 : (((rd_T25 l0 x16_1).f0) != ((rd_T25 l1 x16_1).f0)) = true := bne_iff_ne.mpr c11
          have H' := Aside0.mk H
          clear H
          have hcz13_0 : w8.cell? ⟨gb311, 0, none⟩ = some (.int .i64 0) := (blk_cell BK311.out 0).trans rfl
          have hcz13_1 : w8.cell? ⟨gb311, 1, none⟩ = some (.slice none 0 0) := (blk_cell BK311.out 1).trans rfl
          have hfz13_0 := blk_frozen BK311.out 0
          have hfz13_1 := blk_frozen BK311.out 1
          have p312 : 0 ≤ (x16_1 : Int) := of_decide_eq_true aq
          have q312 : x16_1 < (l1.length : Int) := of_decide_eq_true aq
          obtain ⟨ad312, A312_1, c312_1, e312, hx312_0, hx312_1, hl312_1, hi312_1⟩ := at_T25 HR1.out x16_1 p312 q312
          cases e312
          have hn312_0 : ad312.block ≠ gb311 := Nat.ne_of_lt (Nat.lt_of_lt_of_le (by have := World.block_lt_of_cell? _ _ hx312_0; first | rwa [add_block] at this | exact this) GW311.out)
          have hn312_1 : ad312.block ≠ gb311 := Nat.ne_of_lt (Nat.lt_of_lt_of_le (by have := World.block_lt_of_cell? _ _ hx312_0; first | rwa [add_block] at this | exact this) GW311.out)
          replace hx312_0 := (HB.out.cell (World.block_lt_of_cell? w _ hx312_0)).trans hx312_0
          replace hx312_1 := (HB.out.cell (World.block_lt_of_cell? w _ hx312_1)).trans hx312_1
          have HR312_1 := Aside0.mk hi312_1
          have HC312_1 := Aside0.mk hl312_1
          clear hi312_1 hl312_1
          replace hx312_0 := (cell_far (p := ⟨gb311, 0, none⟩) (by first | (rw [add_block]; exact hn312_0) | (show (Addr.add _ _).block ≠ _; rw [add_block]; exact hn312_0) | exact hn312_0) (.int .i64 ((rd_T25 l0 x16_1).f0))).trans hx312_0
          replace hx312_1 := (cell_far (p := ⟨gb311, 0, none⟩) (by first | (rw [add_block]; exact hn312_0) | (show (Addr.add _ _).block ≠ _; rw [add_block]; exact hn312_0) | exact hn312_0) (.int .i64 ((rd_T25 l0 x16_1).f0))).trans hx312_1
          replace hx312_0 := (cell_far (p := ⟨gb311, 1, none⟩) (by first | (rw [add_block]; exact hn312_1) | (show (Addr.add _ _).block ≠ _; rw [add_block]; exact hn312_1) | exact hn312_1) (.slice A310_1 ((rd_T25 l0 x16_1).f1).length c310_1)).trans hx312_0
          replace hx312_1 := (cell_far (p := ⟨gb311, 1, none⟩) (by first | (rw [add_block]; exact hn312_1) | (show (Addr.add _ _).block ≠ _; rw [add_block]; exact hn312_1) | exact hn312_1) (.slice A310_1 ((rd_T25 l0 x16_1).f1).length c310_1)).trans hx312_1
          (try have hy312_0 := fun (n_ : Nat) => (show ((((w8.drewN n_).setCell ⟨gb311, 0, none⟩ (.int .i64 ((rd_T25 l0 x16_1).f0))).setCell ⟨gb311, 1, none⟩ (.slice A310_1 ((rd_T25 l0 x16_1).f1).length c310_1))).cell? _ = some _ from hx312_0))
          (try have hy312_1 := fun (n_ : Nat) => (show ((((w8.drewN n_).setCell ⟨gb311, 0, none⟩ (.int .i64 ((rd_T25 l0 x16_1).f0))).setCell ⟨gb311, 1, none⟩ (.slice A310_1 ((rd_T25 l0 x16_1).f1).length c310_1))).cell? _ = some _ from hx312_1))
          clear hn312_0
          clear hn312_1
          replace p312 := eq_true p312
          replace q312 := eq_true q312
          go_wp2
          repeat (go_quiet (fail); try go_wp2)
          go_meet
          case rel => exact ⟨_, (true), dq, H', ⟨by have := HK1.out; first | omega | exact Nat.le_refl _⟩, ⟨by (with_reducible repeat (first | refine blk_drewN ?_ _ | refine blk_drew ?_ | refine blk_alloc ?_ _)); refine blk_put (cs := #[.int .i64 ((rd_T25 l0 x16_1).f0), .slice none 0 0]) ?_ 1 _ rfl; (with_reducible repeat (first | refine blk_drewN ?_ _ | refine blk_drew ?_ | refine blk_alloc ?_ _)); refine blk_put (cs := #[.int .i64 0, .slice none 0 0]) ?_ 0 _ rfl; (with_reducible repeat (first | refine blk_drewN ?_ _ | refine blk_drew ?_ | refine blk_alloc ?_ _)); exact BK311.out⟩, ⟨hq1 HB.out GE311.out⟩⟩
        ·rw [if_neg c10] at H
         exact absurd H (by simp)
       case rest =>
        clear HC7
        try clear c1
        try clear p2
        try clear c3
        try clear c3b0
        try clear c3b1
        try clear c3b2
        try clear p3
        try clear q3
        try clear hx3
        try clear c4
        try clear c4b0
        try clear c5
        try clear c5b0
        try clear c6
        try clear c6b0
        try clear c10
        try clear c10b0
        try clear c11
        try clear c11b0
        try clear c11b1
        try clear c12
        try clear hcz12_0
        try clear hcz12_1
        try clear hcz13_0
        try clear hcz13_1
        try clear hcz9_0
        try clear hcz9_1
        try clear hfz12_0
        try clear hfz12_1
        try clear hfz13_0
        try clear hfz13_1
        try clear hfz9_0
        try clear hfz9_1
        try clear hx310_0
        try clear hx310_1
        try clear hx312_0
        try clear hx312_1
        try clear hx313_0
        try clear hx313_1
        try clear p2
        try clear p310
        try clear p312
        try clear p313
        try clear q310
        try clear q312
        try clear q313
        obtain ⟨kq, x40_6, rfl, HA, HJ6, BK311, HB⟩ := hcut
        cases kq with
        | zero => exact absurd HA.out (by simp [keyeventref04_Same.j1])
        | succ kj6 =>
         have H := HA.out
         clear HA
         simp only [keyeventref04_Same.j1] at H
         by_cases c14 : x40_6 = true
         ·subst c14
          rw [if_pos rfl] at H
          obtain rfl := Option.some.inj H
          go_wp2
          repeat (go_quiet (fail); try go_wp2)
          go_ret
          exact ⟨rq_, hq1 HB.out GE311.out⟩
         ·replace c14 := Bool.eq_false_iff.mpr c14
          subst c14
          rw [if_neg (show ¬ (false = true) by decide)] at H
          have H' := Aside0.mk H
          clear H
          have hcz15_0 : wc.cell? ⟨gb311, 0, none⟩ = some (.int .i64 ((rd_T25 l0 x16_1).f0)) := (blk_cell BK311.out 0).trans rfl
          have hcz15_1 : wc.cell? ⟨gb311, 1, none⟩ = some (.slice A310_1 ((rd_T25 l0 x16_1).f1).length c310_1) := (blk_cell BK311.out 1).trans rfl
          have hfz15_0 := blk_frozen BK311.out 0
          have hfz15_1 := blk_frozen BK311.out 1
          go_wp2
          repeat (go_quiet (fail); try go_wp2)
          go_loopg [44] kj6 (fun kq v44 w' => ∃ (x44_3 : Int), v44 = .int .i64 x44_3 ∧ Aside0 (keyeventref04_Same.l1 kq l1 x16_1 l0 (l0.length : Int) x16_1 ((rd_T25 l0 x16_1).f1) (((rd_T25 l0 x16_1).f1).length : Int) x44_3 = some r) ∧ Aside0 (kq ≤ kj6) ∧ Aside0 (w'.heap[gb311]? = some (.cells #[.int .i64 ((rd_T25 l0 x16_1).f0), (.slice A310_1 ((rd_T25 l0 x16_1).f1).length c310_1)] 25 (0, 0))) ∧ Aside0 (Below w.heap.size w w'))
          case atStart => exact ⟨(0), dq, H', ⟨Nat.le_refl _⟩, ⟨by (with_reducible repeat (first | refine blk_drewN ?_ _ | refine blk_drew ?_ | refine blk_alloc ?_ _)); exact BK311.out⟩, ⟨hq1 HB.out GE311.out⟩⟩
          case round =>
           clear H'
           try clear c1
           try clear p2
           try clear c3
           try clear c3b0
           try clear c3b1
           try clear c3b2
           try clear p3
           try clear q3
           try clear hx3
           try clear c4
           try clear c4b0
           try clear c5
           try clear c5b0
           try clear c6
           try clear c6b0
           try clear c10
           try clear c10b0
           try clear c11
           try clear c11b0
           try clear c11b1
           try clear c12
           try clear c14
           try clear hcz12_0
           try clear hcz12_1
           try clear hcz13_0
           try clear hcz13_1
           try clear hcz15_0
           try clear hcz15_1
           try clear hcz9_0
           try clear hcz9_1
           try clear hfz12_0
           try clear hfz12_1
           try clear hfz13_0
           try clear hfz13_1
           try clear hfz15_0
           try clear hfz15_1
           try clear hfz9_0
           try clear hfz9_1
           try clear hx310_0
           try clear hx310_1
           try clear hx312_0
           try clear hx312_1
           try clear hx313_0
           try clear hx313_1
           try clear p2
           try clear p3
           try clear p310
           try clear p312
           try clear p313
           try clear q3
           try clear q310
           try clear q312
           try clear q313
           obtain ⟨x44_3, rfl, HA, HK3, BK311, HB⟩ := hrel
           cases gk with
           | zero => exact absurd HA.out (by simp [keyeventref04_Same.l1])
           | succ k3 =>
            have H := HA.out
            clear HA
            simp only [keyeventref04_Same.l1] at H
            by_cases c16 : x44_3 < (((rd_T25 l0 x16_1).f1).length : Int)
            ·rw [if_pos c16] at H
             have c16b0 := decide_eq_true c16
             clear c16
             by_cases c17 : 0 ≤ x44_3
             ·rw [if_pos c17] at H
              have c17b0 := decide_eq_true c17
              clear c17
              by_cases c18 : x44_3 < (((rd_T25 l0 x16_1).f1).length : Int)
              ·rw [if_pos c18] at H
               have c18b0 := decide_eq_true c18
               clear c18
               by_cases c19 : 0 ≤ x16_1
               ·rw [if_pos c19] at H
                have c19b0 := decide_eq_true c19
                clear c19
                by_cases c20 : x16_1 < (l1.length : Int)
                ·rw [if_pos c20] at H
                 have c20b0 := decide_eq_true c20
                 clear c20
                 by_cases c21 : x44_3 < (((rd_T25 l1 x16_1).f1).length : Int)
                 ·rw [if_pos c21] at H
                  have c21b0 := decide_eq_true c21
                  clear c21
                  by_cases c22 : (!(((rd_T27 ((rd_T25 l1 x16_1).f1) x44_3).f0) == ((rd_T27 ((rd_T25 l0 x16_1).f1) x44_3).f0)) || (!((((rd_T27 ((rd_T25 l1 x16_1).f1) x44_3).f1).toList) == (((rd_T27 ((rd_T25 l0 x16_1).f1) x44_3).f1).toList)))) = true
                  ·rw [if_pos c22] at H
                   have c22b0 : (!(((rd_T27 ((rd_T25 l1 x16_1).f1) x44_3).f0) == ((rd_T27 ((rd_T25 l0 x16_1).f1) x44_3).f0)) || (!((((rd_T27 ((rd_T25 l1 x16_1).f1) x44_3).f1).toList) == (((rd_T27 ((rd_T25 l0 x16_1).f1) x44_3).f1).toList)))) = true := c22
                   clear c22
                   obtain rfl := Option.some.inj H
                   have p314 : 0 ≤ (x44_3 : Int) := of_decide_eq_true aq
                   have q314 : x44_3 < (((rd_T25 l0 x16_1).f1).length : Int) := of_decide_eq_true aq
                   obtain ⟨ad314, e314, hx314_0, hx314_1⟩ := at_T27 HR310_1.out x44_3 p314 q314
                   cases e314
                   replace hx314_0 := (HB.out.cell (World.block_lt_of_cell? w _ hx314_0)).trans hx314_0
                   replace hx314_1 := (HB.out.cell (World.block_lt_of_cell? w _ hx314_1)).trans hx314_1
                   replace p314 := eq_true p314
                   replace q314 := eq_true q314
                   go_wp2_with (first | ((with_reducible refine gate_dst (N := 8) rfl ?_); (try (refine gate_guard (by rfl) ?_; dsimp only)); refine box_event ?hg (N := 8) ?hd (cs := #[.int .i64 0, .string (⟨#[]⟩ : ByteArray)]) (t := 27) ?hr ?_; (case hd => rfl); (case hg => rfl); (case hr => first | (go_simp; done) | (go_simp; rfl)); intro gb315 hg w23 hbox hb; have BK315 := Aside0.mk (hbox); have GW315 := Aside0.mk ((by rw [hg]; exact (below_size (hq1 HB.out GE311.out)) : w.heap.size ≤ gb315)); have GE315 := Aside0.mk ((by rw [hg]; exact (below_size (hq1 HB.out GE311.out)) : w.heap.size ≤ gb315)); replace HB := Aside0.mk (below_step (hq1 HB.out GE311.out) hb); have NB311_315 := Aside0.mk ((by rw [hg]; exact Nat.ne_of_lt (blk_lt (g := gb311) (o := .cells #[.int .i64 ((rd_T25 l0 x16_1).f0), .slice (some ad314) ((rd_T25 l0 x16_1).f1).length c310_1] 25 (0, 0)) (bq BK311.out)) : gb311 ≠ gb315)); have NB315_311 := Aside0.mk ((by rw [hg]; exact Nat.ne_of_gt (blk_lt (g := gb311) (o := .cells #[.int .i64 ((rd_T25 l0 x16_1).f0), .slice (some ad314) ((rd_T25 l0 x16_1).f1).length c310_1] 25 (0, 0)) (bq BK311.out)) : gb315 ≠ gb311)); replace BK311 := Aside0.mk (blk_below (g := gb311) (o := .cells #[.int .i64 ((rd_T25 l0 x16_1).f0), .slice (some ad314) ((rd_T25 l0 x16_1).f1).length c310_1] 25 (0, 0)) (bq BK311.out) hb); clear hb hbox hg; have hnb24 := NB315_311.out; have hnc24 := NB311_315.out; have hcz25_0 : w23.cell? ⟨gb315, 0, none⟩ = some (.int .i64 0) := (blk_cell BK315.out 0).trans rfl; have hcz25_1 : w23.cell? ⟨gb315, 1, none⟩ = some (.string (⟨#[]⟩ : ByteArray)) := (blk_cell BK315.out 1).trans rfl; have hfz25_0 := blk_frozen BK315.out 0; have hfz25_1 := blk_frozen BK315.out 1; have p316 : 0 ≤ (x16_1 : Int) := of_decide_eq_true aq; have q316 : x16_1 < (l1.length : Int) := of_decide_eq_true aq; obtain ⟨ad316, A316_1, c316_1, e316, hx316_0, hx316_1, hl316_1, hi316_1⟩ := at_T25 HR1.out x16_1 p316 q316; cases e316; have hn316_0 : ad316.block ≠ gb315 := Nat.ne_of_lt (Nat.lt_of_lt_of_le (by have := World.block_lt_of_cell? _ _ hx316_0; first | rwa [add_block] at this | exact this) GW315.out); have hn316_1 : ad316.block ≠ gb315 := Nat.ne_of_lt (Nat.lt_of_lt_of_le (by have := World.block_lt_of_cell? _ _ hx316_0; first | rwa [add_block] at this | exact this) GW315.out); replace hx316_0 := (HB.out.cell (World.block_lt_of_cell? w _ hx316_0)).trans hx316_0; replace hx316_1 := (HB.out.cell (World.block_lt_of_cell? w _ hx316_1)).trans hx316_1; have HR316_1 := Aside0.mk hi316_1; have HC316_1 := Aside0.mk hl316_1; clear hi316_1 hl316_1; replace hx316_0 := (cell_far (p := ⟨gb315, 0, none⟩) (by first | (rw [add_block]; exact hn316_0) | (show (Addr.add _ _).block ≠ _; rw [add_block]; exact hn316_0) | exact hn316_0) (.int .i64 ((rd_T27 ((rd_T25 l0 x16_1).f1) x44_3).f0))).trans hx316_0; replace hx316_1 := (cell_far (p := ⟨gb315, 0, none⟩) (by first | (rw [add_block]; exact hn316_0) | (show (Addr.add _ _).block ≠ _; rw [add_block]; exact hn316_0) | exact hn316_0) (.int .i64 ((rd_T27 ((rd_T25 l0 x16_1).f1) x44_3).f0))).trans hx316_1; replace hx316_0 := (cell_far (p := ⟨gb315, 1, none⟩) (by first | (rw [add_block]; exact hn316_1) | (show (Addr.add _ _).block ≠ _; rw [add_block]; exact hn316_1) | exact hn316_1) (.string ((rd_T27 ((rd_T25 l0 x16_1).f1) x44_3).f1))).trans hx316_0; replace hx316_1 := (cell_far (p := ⟨gb315, 1, none⟩) (by first | (rw [add_block]; exact hn316_1) | (show (Addr.add _ _).block ≠ _; rw [add_block]; exact hn316_1) | exact hn316_1) (.string ((rd_T27 ((rd_T25 l0 x16_1).f1) x44_3).f1))).trans hx316_1; (try have hy316_0 := fun (n_ : Nat) => (show ((((w23.drewN n_).setCell ⟨gb315, 0, none⟩ (.int .i64 ((rd_T27 ((rd_T25 l0 x16_1).f1) x44_3).f0))).setCell ⟨gb315, 1, none⟩ (.string ((rd_T27 ((rd_T25 l0 x16_1).f1) x44_3).f1)))).cell? _ = some _ from hx316_0)); (try have hy316_1 := fun (n_ : Nat) => (show ((((w23.drewN n_).setCell ⟨gb315, 0, none⟩ (.int .i64 ((rd_T27 ((rd_T25 l0 x16_1).f1) x44_3).f0))).setCell ⟨gb315, 1, none⟩ (.string ((rd_T27 ((rd_T25 l0 x16_1).f1) x44_3).f1)))).cell? _ = some _ from hx316_1)); clear hn316_0; clear hn316_1; replace p316 := eq_true p316; replace q316 := eq_true q316; have p317 : 0 ≤ (x44_3 : Int) := of_decide_eq_true aq; have q317 : x44_3 < (((rd_T25 l1 x16_1).f1).length : Int) := of_decide_eq_true aq; obtain ⟨ad317, e317, hx317_0, hx317_1⟩ := at_T27 HR316_1.out x44_3 p317 q317; cases e317; have hn317_0 : ad317.block ≠ gb315 := Nat.ne_of_lt (Nat.lt_of_lt_of_le (by have := World.block_lt_of_cell? _ _ hx317_0; first | rwa [add_block] at this | exact this) GW315.out); have hn317_1 : ad317.block ≠ gb315 := Nat.ne_of_lt (Nat.lt_of_lt_of_le (by have := World.block_lt_of_cell? _ _ hx317_0; first | rwa [add_block] at this | exact this) GW315.out); replace hx317_0 := (HB.out.cell (World.block_lt_of_cell? w _ hx317_0)).trans hx317_0; replace hx317_1 := (HB.out.cell (World.block_lt_of_cell? w _ hx317_1)).trans hx317_1; replace hx317_0 := (cell_far (p := ⟨gb315, 0, none⟩) (by first | (rw [add_block]; exact hn317_0) | (show (Addr.add _ _).block ≠ _; rw [add_block]; exact hn317_0) | exact hn317_0) (.int .i64 ((rd_T27 ((rd_T25 l0 x16_1).f1) x44_3).f0))).trans hx317_0; replace hx317_1 := (cell_far (p := ⟨gb315, 0, none⟩) (by first | (rw [add_block]; exact hn317_0) | (show (Addr.add _ _).block ≠ _; rw [add_block]; exact hn317_0) | exact hn317_0) (.int .i64 ((rd_T27 ((rd_T25 l0 x16_1).f1) x44_3).f0))).trans hx317_1; replace hx317_0 := (cell_far (p := ⟨gb315, 1, none⟩) (by first | (rw [add_block]; exact hn317_1) | (show (Addr.add _ _).block ≠ _; rw [add_block]; exact hn317_1) | exact hn317_1) (.string ((rd_T27 ((rd_T25 l0 x16_1).f1) x44_3).f1))).trans hx317_0; replace hx317_1 := (cell_far (p := ⟨gb315, 1, none⟩) (by first | (rw [add_block]; exact hn317_1) | (show (Addr.add _ _).block ≠ _; rw [add_block]; exact hn317_1) | exact hn317_1) (.string ((rd_T27 ((rd_T25 l0 x16_1).f1) x44_3).f1))).trans hx317_1; (try have hy317_0 := fun (n_ : Nat) => (show ((((w23.drewN n_).setCell ⟨gb315, 0, none⟩ (.int .i64 ((rd_T27 ((rd_T25 l0 x16_1).f1) x44_3).f0))).setCell ⟨gb315, 1, none⟩ (.string ((rd_T27 ((rd_T25 l0 x16_1).f1) x44_3).f1)))).cell? _ = some _ from hx317_0)); (try have hy317_1 := fun (n_ : Nat) => (show ((((w23.drewN n_).setCell ⟨gb315, 0, none⟩ (.int .i64 ((rd_T27 ((rd_T25 l0 x16_1).f1) x44_3).f0))).setCell ⟨gb315, 1, none⟩ (.string ((rd_T27 ((rd_T25 l0 x16_1).f1) x44_3).f1)))).cell? _ = some _ from hx317_1)); clear hn317_0; clear hn317_1; replace p317 := eq_true p317; replace q317 := eq_true q317))
                   repeat (go_quiet (first | ((with_reducible refine gate_dst (N := 8) rfl ?_); (try (refine gate_guard (by rfl) ?_; dsimp only)); refine box_event ?hg (N := 8) ?hd (cs := #[.int .i64 0, .string (⟨#[]⟩ : ByteArray)]) (t := 27) ?hr ?_; (case hd => rfl); (case hg => rfl); (case hr => first | (go_simp; done) | (go_simp; rfl)); intro gb315 hg w23 hbox hb; have BK315 := Aside0.mk (hbox); have GW315 := Aside0.mk ((by rw [hg]; exact (below_size (hq1 HB.out GE311.out)) : w.heap.size ≤ gb315)); have GE315 := Aside0.mk ((by rw [hg]; exact (below_size (hq1 HB.out GE311.out)) : w.heap.size ≤ gb315)); replace HB := Aside0.mk (below_step (hq1 HB.out GE311.out) hb); have NB311_315 := Aside0.mk ((by rw [hg]; exact Nat.ne_of_lt (blk_lt (g := gb311) (o := .cells #[.int .i64 ((rd_T25 l0 x16_1).f0), .slice (some ad314) ((rd_T25 l0 x16_1).f1).length c310_1] 25 (0, 0)) (bq BK311.out)) : gb311 ≠ gb315)); have NB315_311 := Aside0.mk ((by rw [hg]; exact Nat.ne_of_gt (blk_lt (g := gb311) (o := .cells #[.int .i64 ((rd_T25 l0 x16_1).f0), .slice (some ad314) ((rd_T25 l0 x16_1).f1).length c310_1] 25 (0, 0)) (bq BK311.out)) : gb315 ≠ gb311)); replace BK311 := Aside0.mk (blk_below (g := gb311) (o := .cells #[.int .i64 ((rd_T25 l0 x16_1).f0), .slice (some ad314) ((rd_T25 l0 x16_1).f1).length c310_1] 25 (0, 0)) (bq BK311.out) hb); clear hb hbox hg; have hnb24 := NB315_311.out; have hnc24 := NB311_315.out; have hcz25_0 : w23.cell? ⟨gb315, 0, none⟩ = some (.int .i64 0) := (blk_cell BK315.out 0).trans rfl; have hcz25_1 : w23.cell? ⟨gb315, 1, none⟩ = some (.string (⟨#[]⟩ : ByteArray)) := (blk_cell BK315.out 1).trans rfl; have hfz25_0 := blk_frozen BK315.out 0; have hfz25_1 := blk_frozen BK315.out 1; have p316 : 0 ≤ (x16_1 : Int) := of_decide_eq_true aq; have q316 : x16_1 < (l1.length : Int) := of_decide_eq_true aq; obtain ⟨ad316, A316_1, c316_1, e316, hx316_0, hx316_1, hl316_1, hi316_1⟩ := at_T25 HR1.out x16_1 p316 q316; cases e316; have hn316_0 : ad316.block ≠ gb315 := Nat.ne_of_lt (Nat.lt_of_lt_of_le (by have := World.block_lt_of_cell? _ _ hx316_0; first | rwa [add_block] at this | exact this) GW315.out); have hn316_1 : ad316.block ≠ gb315 := Nat.ne_of_lt (Nat.lt_of_lt_of_le (by have := World.block_lt_of_cell? _ _ hx316_0; first | rwa [add_block] at this | exact this) GW315.out); replace hx316_0 := (HB.out.cell (World.block_lt_of_cell? w _ hx316_0)).trans hx316_0; replace hx316_1 := (HB.out.cell (World.block_lt_of_cell? w _ hx316_1)).trans hx316_1; have HR316_1 := Aside0.mk hi316_1; have HC316_1 := Aside0.mk hl316_1; clear hi316_1 hl316_1; replace hx316_0 := (cell_far (p := ⟨gb315, 0, none⟩) (by first | (rw [add_block]; exact hn316_0) | (show (Addr.add _ _).block ≠ _; rw [add_block]; exact hn316_0) | exact hn316_0) (.int .i64 ((rd_T27 ((rd_T25 l0 x16_1).f1) x44_3).f0))).trans hx316_0; replace hx316_1 := (cell_far (p := ⟨gb315, 0, none⟩) (by first | (rw [add_block]; exact hn316_0) | (show (Addr.add _ _).block ≠ _; rw [add_block]; exact hn316_0) | exact hn316_0) (.int .i64 ((rd_T27 ((rd_T25 l0 x16_1).f1) x44_3).f0))).trans hx316_1; replace hx316_0 := (cell_far (p := ⟨gb315, 1, none⟩) (by first | (rw [add_block]; exact hn316_1) | (show (Addr.add _ _).block ≠ _; rw [add_block]; exact hn316_1) | exact hn316_1) (.string ((rd_T27 ((rd_T25 l0 x16_1).f1) x44_3).f1))).trans hx316_0; replace hx316_1 := (cell_far (p := ⟨gb315, 1, none⟩) (by first | (rw [add_block]; exact hn316_1) | (show (Addr.add _ _).block ≠ _; rw [add_block]; exact hn316_1) | exact hn316_1) (.string ((rd_T27 ((rd_T25 l0 x16_1).f1) x44_3).f1))).trans hx316_1; (try have hy316_0 := fun (n_ : Nat) => (show ((((w23.drewN n_).setCell ⟨gb315, 0, none⟩ (.int .i64 ((rd_T27 ((rd_T25 l0 x16_1).f1) x44_3).f0))).setCell ⟨gb315, 1, none⟩ (.string ((rd_T27 ((rd_T25 l0 x16_1).f1) x44_3).f1)))).cell? _ = some _ from hx316_0)); (try have hy316_1 := fun (n_ : Nat) => (show ((((w23.drewN n_).setCell ⟨gb315, 0, none⟩ (.int .i64 ((rd_T27 ((rd_T25 l0 x16_1).f1) x44_3).f0))).setCell ⟨gb315, 1, none⟩ (.string ((rd_T27 ((rd_T25 l0 x16_1).f1) x44_3).f1)))).cell? _ = some _ from hx316_1)); clear hn316_0; clear hn316_1; replace p316 := eq_true p316; replace q316 := eq_true q316; have p317 : 0 ≤ (x44_3 : Int) := of_decide_eq_true aq; have q317 : x44_3 < (((rd_T25 l1 x16_1).f1).length : Int) := of_decide_eq_true aq; obtain ⟨ad317, e317, hx317_0, hx317_1⟩ := at_T27 HR316_1.out x44_3 p317 q317; cases e317; have hn317_0 : ad317.block ≠ gb315 := Nat.ne_of_lt (Nat.lt_of_lt_of_le (by have := World.block_lt_of_cell? _ _ hx317_0; first | rwa [add_block] at this | exact this) GW315.out); have hn317_1 : ad317.block ≠ gb315 := Nat.ne_of_lt (Nat.lt_of_lt_of_le (by have := World.block_lt_of_cell? _ _ hx317_0; first | rwa [add_block] at this | exact this) GW315.out); replace hx317_0 := (HB.out.cell (World.block_lt_of_cell? w _ hx317_0)).trans hx317_0; replace hx317_1 := (HB.out.cell (World.block_lt_of_cell? w _ hx317_1)).trans hx317_1; replace hx317_0 := (cell_far (p := ⟨gb315, 0, none⟩) (by first | (rw [add_block]; exact hn317_0) | (show (Addr.add _ _).block ≠ _; rw [add_block]; exact hn317_0) | exact hn317_0) (.int .i64 ((rd_T27 ((rd_T25 l0 x16_1).f1) x44_3).f0))).trans hx317_0; replace hx317_1 := (cell_far (p := ⟨gb315, 0, none⟩) (by first | (rw [add_block]; exact hn317_0) | (show (Addr.add _ _).block ≠ _; rw [add_block]; exact hn317_0) | exact hn317_0) (.int .i64 ((rd_T27 ((rd_T25 l0 x16_1).f1) x44_3).f0))).trans hx317_1; replace hx317_0 := (cell_far (p := ⟨gb315, 1, none⟩) (by first | (rw [add_block]; exact hn317_1) | (show (Addr.add _ _).block ≠ _; rw [add_block]; exact hn317_1) | exact hn317_1) (.string ((rd_T27 ((rd_T25 l0 x16_1).f1) x44_3).f1))).trans hx317_0; replace hx317_1 := (cell_far (p := ⟨gb315, 1, none⟩) (by first | (rw [add_block]; exact hn317_1) | (show (Addr.add _ _).block ≠ _; rw [add_block]; exact hn317_1) | exact hn317_1) (.string ((rd_T27 ((rd_T25 l0 x16_1).f1) x44_3).f1))).trans hx317_1; (try have hy317_0 := fun (n_ : Nat) => (show ((((w23.drewN n_).setCell ⟨gb315, 0, none⟩ (.int .i64 ((rd_T27 ((rd_T25 l0 x16_1).f1) x44_3).f0))).setCell ⟨gb315, 1, none⟩ (.string ((rd_T27 ((rd_T25 l0 x16_1).f1) x44_3).f1)))).cell? _ = some _ from hx317_0)); (try have hy317_1 := fun (n_ : Nat) => (show ((((w23.drewN n_).setCell ⟨gb315, 0, none⟩ (.int .i64 ((rd_T27 ((rd_T25 l0 x16_1).f1) x44_3).f0))).setCell ⟨gb315, 1, none⟩ (.string ((rd_T27 ((rd_T25 l0 x16_1).f1) x44_3).f1)))).cell? _ = some _ from hx317_1)); clear hn317_0; clear hn317_1; replace p317 := eq_true p317; replace q317 := eq_true q317)); try go_wp2_with (first | ((with_reducible refine gate_dst (N := 8) rfl ?_); (try (refine gate_guard (by rfl) ?_; dsimp only)); refine box_event ?hg (N := 8) ?hd (cs := #[.int .i64 0, .string (⟨#[]⟩ : ByteArray)]) (t := 27) ?hr ?_; (case hd => rfl); (case hg => rfl); (case hr => first | (go_simp; done) | (go_simp; rfl)); intro gb315 hg w23 hbox hb; have BK315 := Aside0.mk (hbox); have GW315 := Aside0.mk ((by rw [hg]; exact (below_size (hq1 HB.out GE311.out)) : w.heap.size ≤ gb315)); have GE315 := Aside0.mk ((by rw [hg]; exact (below_size (hq1 HB.out GE311.out)) : w.heap.size ≤ gb315)); replace HB := Aside0.mk (below_step (hq1 HB.out GE311.out) hb); have NB311_315 := Aside0.mk ((by rw [hg]; exact Nat.ne_of_lt (blk_lt (g := gb311) (o := .cells #[.int .i64 ((rd_T25 l0 x16_1).f0), .slice (some ad314) ((rd_T25 l0 x16_1).f1).length c310_1] 25 (0, 0)) (bq BK311.out)) : gb311 ≠ gb315)); have NB315_311 := Aside0.mk ((by rw [hg]; exact Nat.ne_of_gt (blk_lt (g := gb311) (o := .cells #[.int .i64 ((rd_T25 l0 x16_1).f0), .slice (some ad314) ((rd_T25 l0 x16_1).f1).length c310_1] 25 (0, 0)) (bq BK311.out)) : gb315 ≠ gb311)); replace BK311 := Aside0.mk (blk_below (g := gb311) (o := .cells #[.int .i64 ((rd_T25 l0 x16_1).f0), .slice (some ad314) ((rd_T25 l0 x16_1).f1).length c310_1] 25 (0, 0)) (bq BK311.out) hb); clear hb hbox hg; have hnb24 := NB315_311.out; have hnc24 := NB311_315.out; have hcz25_0 : w23.cell? ⟨gb315, 0, none⟩ = some (.int .i64 0) := (blk_cell BK315.out 0).trans rfl; have hcz25_1 : w23.cell? ⟨gb315, 1, none⟩ = some (.string (⟨#[]⟩ : ByteArray)) := (blk_cell BK315.out 1).trans rfl; have hfz25_0 := blk_frozen BK315.out 0; have hfz25_1 := blk_frozen BK315.out 1; have p316 : 0 ≤ (x16_1 : Int) := of_decide_eq_true aq; have q316 : x16_1 < (l1.length : Int) := of_decide_eq_true aq; obtain ⟨ad316, A316_1, c316_1, e316, hx316_0, hx316_1, hl316_1, hi316_1⟩ := at_T25 HR1.out x16_1 p316 q316; cases e316; have hn316_0 : ad316.block ≠ gb315 := Nat.ne_of_lt (Nat.lt_of_lt_of_le (by have := World.block_lt_of_cell? _ _ hx316_0; first | rwa [add_block] at this | exact this) GW315.out); have hn316_1 : ad316.block ≠ gb315 := Nat.ne_of_lt (Nat.lt_of_lt_of_le (by have := World.block_lt_of_cell? _ _ hx316_0; first | rwa [add_block] at this | exact this) GW315.out); replace hx316_0 := (HB.out.cell (World.block_lt_of_cell? w _ hx316_0)).trans hx316_0; replace hx316_1 := (HB.out.cell (World.block_lt_of_cell? w _ hx316_1)).trans hx316_1; have HR316_1 := Aside0.mk hi316_1; have HC316_1 := Aside0.mk hl316_1; clear hi316_1 hl316_1; replace hx316_0 := (cell_far (p := ⟨gb315, 0, none⟩) (by first | (rw [add_block]; exact hn316_0) | (show (Addr.add _ _).block ≠ _; rw [add_block]; exact hn316_0) | exact hn316_0) (.int .i64 ((rd_T27 ((rd_T25 l0 x16_1).f1) x44_3).f0))).trans hx316_0; replace hx316_1 := (cell_far (p := ⟨gb315, 0, none⟩) (by first | (rw [add_block]; exact hn316_0) | (show (Addr.add _ _).block ≠ _; rw [add_block]; exact hn316_0) | exact hn316_0) (.int .i64 ((rd_T27 ((rd_T25 l0 x16_1).f1) x44_3).f0))).trans hx316_1; replace hx316_0 := (cell_far (p := ⟨gb315, 1, none⟩) (by first | (rw [add_block]; exact hn316_1) | (show (Addr.add _ _).block ≠ _; rw [add_block]; exact hn316_1) | exact hn316_1) (.string ((rd_T27 ((rd_T25 l0 x16_1).f1) x44_3).f1))).trans hx316_0; replace hx316_1 := (cell_far (p := ⟨gb315, 1, none⟩) (by first | (rw [add_block]; exact hn316_1) | (show (Addr.add _ _).block ≠ _; rw [add_block]; exact hn316_1) | exact hn316_1) (.string ((rd_T27 ((rd_T25 l0 x16_1).f1) x44_3).f1))).trans hx316_1; (try have hy316_0 := fun (n_ : Nat) => (show ((((w23.drewN n_).setCell ⟨gb315, 0, none⟩ (.int .i64 ((rd_T27 ((rd_T25 l0 x16_1).f1) x44_3).f0))).setCell ⟨gb315, 1, none⟩ (.string ((rd_T27 ((rd_T25 l0 x16_1).f1) x44_3).f1)))).cell? _ = some _ from hx316_0)); (try have hy316_1 := fun (n_ : Nat) => (show ((((w23.drewN n_).setCell ⟨gb315, 0, none⟩ (.int .i64 ((rd_T27 ((rd_T25 l0 x16_1).f1) x44_3).f0))).setCell ⟨gb315, 1, none⟩ (.string ((rd_T27 ((rd_T25 l0 x16_1).f1) x44_3).f1)))).cell? _ = some _ from hx316_1)); clear hn316_0; clear hn316_1; replace p316 := eq_true p316; replace q316 := eq_true q316; have p317 : 0 ≤ (x44_3 : Int) := of_decide_eq_true aq; have q317 : x44_3 < (((rd_T25 l1 x16_1).f1).length : Int) := of_decide_eq_true aq; obtain ⟨ad317, e317, hx317_0, hx317_1⟩ := at_T27 HR316_1.out x44_3 p317 q317; cases e317; have hn317_0 : ad317.block ≠ gb315 := Nat.ne_of_lt (Nat.lt_of_lt_of_le (by have := World.block_lt_of_cell? _ _ hx317_0; first | rwa [add_block] at this | exact this) GW315.out); have hn317_1 : ad317.block ≠ gb315 := Nat.ne_of_lt (Nat.lt_of_lt_of_le (by have := World.block_lt_of_cell? _ _ hx317_0; first | rwa [add_block] at this | exact this) GW315.out); replace hx317_0 := (HB.out.cell (World.block_lt_of_cell? w _ hx317_0)).trans hx317_0; replace hx317_1 := (HB.out.cell (World.block_lt_of_cell? w _ hx317_1)).trans hx317_1; replace hx317_0 := (cell_far (p := ⟨gb315, 0, none⟩) (by first | (rw [add_block]; exact hn317_0) | (show (Addr.add _ _).block ≠ _; rw [add_block]; exact hn317_0) | exact hn317_0) (.int .i64 ((rd_T27 ((rd_T25 l0 x16_1).f1) x44_3).f0))).trans hx317_0; replace hx317_1 := (cell_far (p := ⟨gb315, 0, none⟩) (by first | (rw [add_block]; exact hn317_0) | (show (Addr.add _ _).block ≠ _; rw [add_block]; exact hn317_0) | exact hn317_0) (.int .i64 ((rd_T27 ((rd_T25 l0 x16_1).f1) x44_3).f0))).trans hx317_1; replace hx317_0 := (cell_far (p := ⟨gb315, 1, none⟩) (by first | (rw [add_block]; exact hn317_1) | (show (Addr.add _ _).block ≠ _; rw [add_block]; exact hn317_1) | exact hn317_1) (.string ((rd_T27 ((rd_T25 l0 x16_1).f1) x44_3).f1))).trans hx317_0; replace hx317_1 := (cell_far (p := ⟨gb315, 1, none⟩) (by first | (rw [add_block]; exact hn317_1) | (show (Addr.add _ _).block ≠ _; rw [add_block]; exact hn317_1) | exact hn317_1) (.string ((rd_T27 ((rd_T25 l0 x16_1).f1) x44_3).f1))).trans hx317_1; (try have hy317_0 := fun (n_ : Nat) => (show ((((w23.drewN n_).setCell ⟨gb315, 0, none⟩ (.int .i64 ((rd_T27 ((rd_T25 l0 x16_1).f1) x44_3).f0))).setCell ⟨gb315, 1, none⟩ (.string ((rd_T27 ((rd_T25 l0 x16_1).f1) x44_3).f1)))).cell? _ = some _ from hx317_0)); (try have hy317_1 := fun (n_ : Nat) => (show ((((w23.drewN n_).setCell ⟨gb315, 0, none⟩ (.int .i64 ((rd_T27 ((rd_T25 l0 x16_1).f1) x44_3).f0))).setCell ⟨gb315, 1, none⟩ (.string ((rd_T27 ((rd_T25 l0 x16_1).f1) x44_3).f1)))).cell? _ = some _ from hx317_1)); clear hn317_0; clear hn317_1; replace p317 := eq_true p317; replace q317 := eq_true q317)))
                   go_ret
                   exact ⟨rq_, hq2 HB.out GE311.out GE315.out⟩
                  ·rw [if_neg c22] at H
                   have c22b0 : (!(((rd_T27 ((rd_T25 l1 x16_1).f1) x44_3).f0) == ((rd_T27 ((rd_T25 l0 x16_1).f1) x44_3).f0)) || (!((((rd_T27 ((rd_T25 l1 x16_1).f1) x44_3).f1).toList) == (((rd_T27 ((rd_T25 l0 x16_1).f1) x44_3).f1).toList)))) = false := by simpa using c22
                   clear c22
                   have H' := Aside0.mk H
                   clear H
                   have p314 : 0 ≤ (x44_3 : Int) := of_decide_eq_true aq
                   have q314 : x44_3 < (((rd_T25 l0 x16_1).f1).length : Int) := of_decide_eq_true aq
                   obtain ⟨ad314, e314, hx314_0, hx314_1⟩ := at_T27 HR310_1.out x44_3 p314 q314
                   cases e314
                   replace hx314_0 := (HB.out.cell (World.block_lt_of_cell? w _ hx314_0)).trans hx314_0
                   replace hx314_1 := (HB.out.cell (World.block_lt_of_cell? w _ hx314_1)).trans hx314_1
                   replace p314 := eq_true p314
                   replace q314 := eq_true q314
                   go_wp2_with (first | ((with_reducible refine gate_dst (N := 8) rfl ?_); (try (refine gate_guard (by rfl) ?_; dsimp only)); refine box_event ?hg (N := 8) ?hd (cs := #[.int .i64 0, .string (⟨#[]⟩ : ByteArray)]) (t := 27) ?hr ?_; (case hd => rfl); (case hg => rfl); (case hr => first | (go_simp; done) | (go_simp; rfl)); intro gb315 hg w26 hbox hb; have BK315 := Aside0.mk (hbox); have GW315 := Aside0.mk ((by rw [hg]; exact (below_size (hq1 HB.out GE311.out)) : w.heap.size ≤ gb315)); have GE315 := Aside0.mk ((by rw [hg]; exact (below_size (hq1 HB.out GE311.out)) : w.heap.size ≤ gb315)); replace HB := Aside0.mk (below_step (hq1 HB.out GE311.out) hb); have NB311_315 := Aside0.mk ((by rw [hg]; exact Nat.ne_of_lt (blk_lt (g := gb311) (o := .cells #[.int .i64 ((rd_T25 l0 x16_1).f0), .slice (some ad314) ((rd_T25 l0 x16_1).f1).length c310_1] 25 (0, 0)) (bq BK311.out)) : gb311 ≠ gb315)); have NB315_311 := Aside0.mk ((by rw [hg]; exact Nat.ne_of_gt (blk_lt (g := gb311) (o := .cells #[.int .i64 ((rd_T25 l0 x16_1).f0), .slice (some ad314) ((rd_T25 l0 x16_1).f1).length c310_1] 25 (0, 0)) (bq BK311.out)) : gb315 ≠ gb311)); replace BK311 := Aside0.mk (blk_below (g := gb311) (o := .cells #[.int .i64 ((rd_T25 l0 x16_1).f0), .slice (some ad314) ((rd_T25 l0 x16_1).f1).length c310_1] 25 (0, 0)) (bq BK311.out) hb); clear hb hbox hg; have hnb27 := NB315_311.out; have hnc27 := NB311_315.out; have hcz28_0 : w26.cell? ⟨gb315, 0, none⟩ = some (.int .i64 0) := (blk_cell BK315.out 0).trans rfl; have hcz28_1 : w26.cell? ⟨gb315, 1, none⟩ = some (.string (⟨#[]⟩ : ByteArray)) := (blk_cell BK315.out 1).trans rfl; have hfz28_0 := blk_frozen BK315.out 0; have hfz28_1 := blk_frozen BK315.out 1; have p316 : 0 ≤ (x16_1 : Int) := of_decide_eq_true aq; have q316 : x16_1 < (l1.length : Int) := of_decide_eq_true aq; obtain ⟨ad316, A316_1, c316_1, e316, hx316_0, hx316_1, hl316_1, hi316_1⟩ := at_T25 HR1.out x16_1 p316 q316; cases e316; have hn316_0 : ad316.block ≠ gb315 := Nat.ne_of_lt (Nat.lt_of_lt_of_le (by have := World.block_lt_of_cell? _ _ hx316_0; first | rwa [add_block] at this | exact this) GW315.out); have hn316_1 : ad316.block ≠ gb315 := Nat.ne_of_lt (Nat.lt_of_lt_of_le (by have := World.block_lt_of_cell? _ _ hx316_0; first | rwa [add_block] at this | exact this) GW315.out); replace hx316_0 := (HB.out.cell (World.block_lt_of_cell? w _ hx316_0)).trans hx316_0; replace hx316_1 := (HB.out.cell (World.block_lt_of_cell? w _ hx316_1)).trans hx316_1; have HR316_1 := Aside0.mk hi316_1; have HC316_1 := Aside0.mk hl316_1; clear hi316_1 hl316_1; replace hx316_0 := (cell_far (p := ⟨gb315, 0, none⟩) (by first | (rw [add_block]; exact hn316_0) | (show (Addr.add _ _).block ≠ _; rw [add_block]; exact hn316_0) | exact hn316_0) (.int .i64 ((rd_T27 ((rd_T25 l0 x16_1).f1) x44_3).f0))).trans hx316_0; replace hx316_1 := (cell_far (p := ⟨gb315, 0, none⟩) (by first | (rw [add_block]; exact hn316_0) | (show (Addr.add _ _).block ≠ _; rw [add_block]; exact hn316_0) | exact hn316_0) (.int .i64 ((rd_T27 ((rd_T25 l0 x16_1).f1) x44_3).f0))).trans hx316_1; replace hx316_0 := (cell_far (p := ⟨gb315, 1, none⟩) (by first | (rw [add_block]; exact hn316_1) | (show (Addr.add _ _).block ≠ _; rw [add_block]; exact hn316_1) | exact hn316_1) (.string ((rd_T27 ((rd_T25 l0 x16_1).f1) x44_3).f1))).trans hx316_0; replace hx316_1 := (cell_far (p := ⟨gb315, 1, none⟩) (by first | (rw [add_block]; exact hn316_1) | (show (Addr.add _ _).block ≠ _; rw [add_block]; exact hn316_1) | exact hn316_1) (.string ((rd_T27 ((rd_T25 l0 x16_1).f1) x44_3).f1))).trans hx316_1; (try have hy316_0 := fun (n_ : Nat) => (show ((((w26.drewN n_).setCell ⟨gb315, 0, none⟩ (.int .i64 ((rd_T27 ((rd_T25 l0 x16_1).f1) x44_3).f0))).setCell ⟨gb315, 1, none⟩ (.string ((rd_T27 ((rd_T25 l0 x16_1).f1) x44_3).f1)))).cell? _ = some _ from hx316_0)); (try have hy316_1 := fun (n_ : Nat) => (show ((((w26.drewN n_).setCell ⟨gb315, 0, none⟩ (.int .i64 ((rd_T27 ((rd_T25 l0 x16_1).f1) x44_3).f0))).setCell ⟨gb315, 1, none⟩ (.string ((rd_T27 ((rd_T25 l0 x16_1).f1) x44_3).f1)))).cell? _ = some _ from hx316_1)); clear hn316_0; clear hn316_1; replace p316 := eq_true p316; replace q316 := eq_true q316; have p317 : 0 ≤ (x44_3 : Int) := of_decide_eq_true aq; have q317 : x44_3 < (((rd_T25 l1 x16_1).f1).length : Int) := of_decide_eq_true aq; obtain ⟨ad317, e317, hx317_0, hx317_1⟩ := at_T27 HR316_1.out x44_3 p317 q317; cases e317; have hn317_0 : ad317.block ≠ gb315 := Nat.ne_of_lt (Nat.lt_of_lt_of_le (by have := World.block_lt_of_cell? _ _ hx317_0; first | rwa [add_block] at this | exact this) GW315.out); have hn317_1 : ad317.block ≠ gb315 := Nat.ne_of_lt (Nat.lt_of_lt_of_le (by have := World.block_lt_of_cell? _ _ hx317_0; first | rwa [add_block] at this | exact this) GW315.out); replace hx317_0 := (HB.out.cell (World.block_lt_of_cell? w _ hx317_0)).trans hx317_0; replace hx317_1 := (HB.out.cell (World.block_lt_of_cell? w _ hx317_1)).trans hx317_1; replace hx317_0 := (cell_far (p := ⟨gb315, 0, none⟩) (by first | (rw [add_block]; exact hn317_0) | (show (Addr.add _ _).block ≠ _; rw [add_block]; exact hn317_0) | exact hn317_0) (.int .i64 ((rd_T27 ((rd_T25 l0 x16_1).f1) x44_3).f0))).trans hx317_0; replace hx317_1 := (cell_far (p := ⟨gb315, 0, none⟩) (by first | (rw [add_block]; exact hn317_0) | (show (Addr.add _ _).block ≠ _; rw [add_block]; exact hn317_0) | exact hn317_0) (.int .i64 ((rd_T27 ((rd_T25 l0 x16_1).f1) x44_3).f0))).trans hx317_1; replace hx317_0 := (cell_far (p := ⟨gb315, 1, none⟩) (by first | (rw [add_block]; exact hn317_1) | (show (Addr.add _ _).block ≠ _; rw [add_block]; exact hn317_1) | exact hn317_1) (.string ((rd_T27 ((rd_T25 l0 x16_1).f1) x44_3).f1))).trans hx317_0; replace hx317_1 := (cell_far (p := ⟨gb315, 1, none⟩) (by first | (rw [add_block]; exact hn317_1) | (show (Addr.add _ _).block ≠ _; rw [add_block]; exact hn317_1) | exact hn317_1) (.string ((rd_T27 ((rd_T25 l0 x16_1).f1) x44_3).f1))).trans hx317_1; (try have hy317_0 := fun (n_ : Nat) => (show ((((w26.drewN n_).setCell ⟨gb315, 0, none⟩ (.int .i64 ((rd_T27 ((rd_T25 l0 x16_1).f1) x44_3).f0))).setCell ⟨gb315, 1, none⟩ (.string ((rd_T27 ((rd_T25 l0 x16_1).f1) x44_3).f1)))).cell? _ = some _ from hx317_0)); (try have hy317_1 := fun (n_ : Nat) => (show ((((w26.drewN n_).setCell ⟨gb315, 0, none⟩ (.int .i64 ((rd_T27 ((rd_T25 l0 x16_1).f1) x44_3).f0))).setCell ⟨gb315, 1, none⟩ (.string ((rd_T27 ((rd_T25 l0 x16_1).f1) x44_3).f1)))).cell? _ = some _ from hx317_1)); clear hn317_0; clear hn317_1; replace p317 := eq_true p317; replace q317 := eq_true q317))
                   repeat (go_quiet (first | ((with_reducible refine gate_dst (N := 8) rfl ?_); (try (refine gate_guard (by rfl) ?_; dsimp only)); refine box_event ?hg (N := 8) ?hd (cs := #[.int .i64 0, .string (⟨#[]⟩ : ByteArray)]) (t := 27) ?hr ?_; (case hd => rfl); (case hg => rfl); (case hr => first | (go_simp; done) | (go_simp; rfl)); intro gb315 hg w26 hbox hb; have BK315 := Aside0.mk (hbox); have GW315 := Aside0.mk ((by rw [hg]; exact (below_size (hq1 HB.out GE311.out)) : w.heap.size ≤ gb315)); have GE315 := Aside0.mk ((by rw [hg]; exact (below_size (hq1 HB.out GE311.out)) : w.heap.size ≤ gb315)); replace HB := Aside0.mk (below_step (hq1 HB.out GE311.out) hb); have NB311_315 := Aside0.mk ((by rw [hg]; exact Nat.ne_of_lt (blk_lt (g := gb311) (o := .cells #[.int .i64 ((rd_T25 l0 x16_1).f0), .slice (some ad314) ((rd_T25 l0 x16_1).f1).length c310_1] 25 (0, 0)) (bq BK311.out)) : gb311 ≠ gb315)); have NB315_311 := Aside0.mk ((by rw [hg]; exact Nat.ne_of_gt (blk_lt (g := gb311) (o := .cells #[.int .i64 ((rd_T25 l0 x16_1).f0), .slice (some ad314) ((rd_T25 l0 x16_1).f1).length c310_1] 25 (0, 0)) (bq BK311.out)) : gb315 ≠ gb311)); replace BK311 := Aside0.mk (blk_below (g := gb311) (o := .cells #[.int .i64 ((rd_T25 l0 x16_1).f0), .slice (some ad314) ((rd_T25 l0 x16_1).f1).length c310_1] 25 (0, 0)) (bq BK311.out) hb); clear hb hbox hg; have hnb27 := NB315_311.out; have hnc27 := NB311_315.out; have hcz28_0 : w26.cell? ⟨gb315, 0, none⟩ = some (.int .i64 0) := (blk_cell BK315.out 0).trans rfl; have hcz28_1 : w26.cell? ⟨gb315, 1, none⟩ = some (.string (⟨#[]⟩ : ByteArray)) := (blk_cell BK315.out 1).trans rfl; have hfz28_0 := blk_frozen BK315.out 0; have hfz28_1 := blk_frozen BK315.out 1; have p316 : 0 ≤ (x16_1 : Int) := of_decide_eq_true aq; have q316 : x16_1 < (l1.length : Int) := of_decide_eq_true aq; obtain ⟨ad316, A316_1, c316_1, e316, hx316_0, hx316_1, hl316_1, hi316_1⟩ := at_T25 HR1.out x16_1 p316 q316; cases e316; have hn316_0 : ad316.block ≠ gb315 := Nat.ne_of_lt (Nat.lt_of_lt_of_le (by have := World.block_lt_of_cell? _ _ hx316_0; first | rwa [add_block] at this | exact this) GW315.out); have hn316_1 : ad316.block ≠ gb315 := Nat.ne_of_lt (Nat.lt_of_lt_of_le (by have := World.block_lt_of_cell? _ _ hx316_0; first | rwa [add_block] at this | exact this) GW315.out); replace hx316_0 := (HB.out.cell (World.block_lt_of_cell? w _ hx316_0)).trans hx316_0; replace hx316_1 := (HB.out.cell (World.block_lt_of_cell? w _ hx316_1)).trans hx316_1; have HR316_1 := Aside0.mk hi316_1; have HC316_1 := Aside0.mk hl316_1; clear hi316_1 hl316_1; replace hx316_0 := (cell_far (p := ⟨gb315, 0, none⟩) (by first | (rw [add_block]; exact hn316_0) | (show (Addr.add _ _).block ≠ _; rw [add_block]; exact hn316_0) | exact hn316_0) (.int .i64 ((rd_T27 ((rd_T25 l0 x16_1).f1) x44_3).f0))).trans hx316_0; replace hx316_1 := (cell_far (p := ⟨gb315, 0, none⟩) (by first | (rw [add_block]; exact hn316_0) | (show (Addr.add _ _).block ≠ _; rw [add_block]; exact hn316_0) | exact hn316_0) (.int .i64 ((rd_T27 ((rd_T25 l0 x16_1).f1) x44_3).f0))).trans hx316_1; replace hx316_0 := (cell_far (p := ⟨gb315, 1, none⟩) (by first | (rw [add_block]; exact hn316_1) | (show (Addr.add _ _).block ≠ _; rw [add_block]; exact hn316_1) | exact hn316_1) (.string ((rd_T27 ((rd_T25 l0 x16_1).f1) x44_3).f1))).trans hx316_0; replace hx316_1 := (cell_far (p := ⟨gb315, 1, none⟩) (by first | (rw [add_block]; exact hn316_1) | (show (Addr.add _ _).block ≠ _; rw [add_block]; exact hn316_1) | exact hn316_1) (.string ((rd_T27 ((rd_T25 l0 x16_1).f1) x44_3).f1))).trans hx316_1; (try have hy316_0 := fun (n_ : Nat) => (show ((((w26.drewN n_).setCell ⟨gb315, 0, none⟩ (.int .i64 ((rd_T27 ((rd_T25 l0 x16_1).f1) x44_3).f0))).setCell ⟨gb315, 1, none⟩ (.string ((rd_T27 ((rd_T25 l0 x16_1).f1) x44_3).f1)))).cell? _ = some _ from hx316_0)); (try have hy316_1 := fun (n_ : Nat) => (show ((((w26.drewN n_).setCell ⟨gb315, 0, none⟩ (.int .i64 ((rd_T27 ((rd_T25 l0 x16_1).f1) x44_3).f0))).setCell ⟨gb315, 1, none⟩ (.string ((rd_T27 ((rd_T25 l0 x16_1).f1) x44_3).f1)))).cell? _ = some _ from hx316_1)); clear hn316_0; clear hn316_1; replace p316 := eq_true p316; replace q316 := eq_true q316; have p317 : 0 ≤ (x44_3 : Int) := of_decide_eq_true aq; have q317 : x44_3 < (((rd_T25 l1 x16_1).f1).length : Int) := of_decide_eq_true aq; obtain ⟨ad317, e317, hx317_0, hx317_1⟩ := at_T27 HR316_1.out x44_3 p317 q317; cases e317; have hn317_0 : ad317.block ≠ gb315 := Nat.ne_of_lt (Nat.lt_of_lt_of_le (by have := World.block_lt_of_cell? _ _ hx317_0; first | rwa [add_block] at this | exact this) GW315.out); have hn317_1 : ad317.block ≠ gb315 := Nat.ne_of_lt (Nat.lt_of_lt_of_le (by have := World.block_lt_of_cell? _ _ hx317_0; first | rwa [add_block] at this | exact this) GW315.out); replace hx317_0 := (HB.out.cell (World.block_lt_of_cell? w _ hx317_0)).trans hx317_0; replace hx317_1 := (HB.out.cell (World.block_lt_of_cell? w _ hx317_1)).trans hx317_1; replace hx317_0 := (cell_far (p := ⟨gb315, 0, none⟩) (by first | (rw [add_block]; exact hn317_0) | (show (Addr.add _ _).block ≠ _; rw [add_block]; exact hn317_0) | exact hn317_0) (.int .i64 ((rd_T27 ((rd_T25 l0 x16_1).f1) x44_3).f0))).trans hx317_0; replace hx317_1 := (cell_far (p := ⟨gb315, 0, none⟩) (by first | (rw [add_block]; exact hn317_0) | (show (Addr.add _ _).block ≠ _; rw [add_block]; exact hn317_0) | exact hn317_0) (.int .i64 ((rd_T27 ((rd_T25 l0 x16_1).f1) x44_3).f0))).trans hx317_1; replace hx317_0 := (cell_far (p := ⟨gb315, 1, none⟩) (by first | (rw [add_block]; exact hn317_1) | (show (Addr.add _ _).block ≠ _; rw [add_block]; exact hn317_1) | exact hn317_1) (.string ((rd_T27 ((rd_T25 l0 x16_1).f1) x44_3).f1))).trans hx317_0; replace hx317_1 := (cell_far (p := ⟨gb315, 1, none⟩) (by first | (rw [add_block]; exact hn317_1) | (show (Addr.add _ _).block ≠ _; rw [add_block]; exact hn317_1) | exact hn317_1) (.string ((rd_T27 ((rd_T25 l0 x16_1).f1) x44_3).f1))).trans hx317_1; (try have hy317_0 := fun (n_ : Nat) => (show ((((w26.drewN n_).setCell ⟨gb315, 0, none⟩ (.int .i64 ((rd_T27 ((rd_T25 l0 x16_1).f1) x44_3).f0))).setCell ⟨gb315, 1, none⟩ (.string ((rd_T27 ((rd_T25 l0 x16_1).f1) x44_3).f1)))).cell? _ = some _ from hx317_0)); (try have hy317_1 := fun (n_ : Nat) => (show ((((w26.drewN n_).setCell ⟨gb315, 0, none⟩ (.int .i64 ((rd_T27 ((rd_T25 l0 x16_1).f1) x44_3).f0))).setCell ⟨gb315, 1, none⟩ (.string ((rd_T27 ((rd_T25 l0 x16_1).f1) x44_3).f1)))).cell? _ = some _ from hx317_1)); clear hn317_0; clear hn317_1; replace p317 := eq_true p317; replace q317 := eq_true q317)); try go_wp2_with (first | ((with_reducible refine gate_dst (N := 8) rfl ?_); (try (refine gate_guard (by rfl) ?_; dsimp only)); refine box_event ?hg (N := 8) ?hd (cs := #[.int .i64 0, .string (⟨#[]⟩ : ByteArray)]) (t := 27) ?hr ?_; (case hd => rfl); (case hg => rfl); (case hr => first | (go_simp; done) | (go_simp; rfl)); intro gb315 hg w26 hbox hb; have BK315 := Aside0.mk (hbox); have GW315 := Aside0.mk ((by rw [hg]; exact (below_size (hq1 HB.out GE311.out)) : w.heap.size ≤ gb315)); have GE315 := Aside0.mk ((by rw [hg]; exact (below_size (hq1 HB.out GE311.out)) : w.heap.size ≤ gb315)); replace HB := Aside0.mk (below_step (hq1 HB.out GE311.out) hb); have NB311_315 := Aside0.mk ((by rw [hg]; exact Nat.ne_of_lt (blk_lt (g := gb311) (o := .cells #[.int .i64 ((rd_T25 l0 x16_1).f0), .slice (some ad314) ((rd_T25 l0 x16_1).f1).length c310_1] 25 (0, 0)) (bq BK311.out)) : gb311 ≠ gb315)); have NB315_311 := Aside0.mk ((by rw [hg]; exact Nat.ne_of_gt (blk_lt (g := gb311) (o := .cells #[.int .i64 ((rd_T25 l0 x16_1).f0), .slice (some ad314) ((rd_T25 l0 x16_1).f1).length c310_1] 25 (0, 0)) (bq BK311.out)) : gb315 ≠ gb311)); replace BK311 := Aside0.mk (blk_below (g := gb311) (o := .cells #[.int .i64 ((rd_T25 l0 x16_1).f0), .slice (some ad314) ((rd_T25 l0 x16_1).f1).length c310_1] 25 (0, 0)) (bq BK311.out) hb); clear hb hbox hg; have hnb27 := NB315_311.out; have hnc27 := NB311_315.out; have hcz28_0 : w26.cell? ⟨gb315, 0, none⟩ = some (.int .i64 0) := (blk_cell BK315.out 0).trans rfl; have hcz28_1 : w26.cell? ⟨gb315, 1, none⟩ = some (.string (⟨#[]⟩ : ByteArray)) := (blk_cell BK315.out 1).trans rfl; have hfz28_0 := blk_frozen BK315.out 0; have hfz28_1 := blk_frozen BK315.out 1; have p316 : 0 ≤ (x16_1 : Int) := of_decide_eq_true aq; have q316 : x16_1 < (l1.length : Int) := of_decide_eq_true aq; obtain ⟨ad316, A316_1, c316_1, e316, hx316_0, hx316_1, hl316_1, hi316_1⟩ := at_T25 HR1.out x16_1 p316 q316; cases e316; have hn316_0 : ad316.block ≠ gb315 := Nat.ne_of_lt (Nat.lt_of_lt_of_le (by have := World.block_lt_of_cell? _ _ hx316_0; first | rwa [add_block] at this | exact this) GW315.out); have hn316_1 : ad316.block ≠ gb315 := Nat.ne_of_lt (Nat.lt_of_lt_of_le (by have := World.block_lt_of_cell? _ _ hx316_0; first | rwa [add_block] at this | exact this) GW315.out); replace hx316_0 := (HB.out.cell (World.block_lt_of_cell? w _ hx316_0)).trans hx316_0; replace hx316_1 := (HB.out.cell (World.block_lt_of_cell? w _ hx316_1)).trans hx316_1; have HR316_1 := Aside0.mk hi316_1; have HC316_1 := Aside0.mk hl316_1; clear hi316_1 hl316_1; replace hx316_0 := (cell_far (p := ⟨gb315, 0, none⟩) (by first | (rw [add_block]; exact hn316_0) | (show (Addr.add _ _).block ≠ _; rw [add_block]; exact hn316_0) | exact hn316_0) (.int .i64 ((rd_T27 ((rd_T25 l0 x16_1).f1) x44_3).f0))).trans hx316_0; replace hx316_1 := (cell_far (p := ⟨gb315, 0, none⟩) (by first | (rw [add_block]; exact hn316_0) | (show (Addr.add _ _).block ≠ _; rw [add_block]; exact hn316_0) | exact hn316_0) (.int .i64 ((rd_T27 ((rd_T25 l0 x16_1).f1) x44_3).f0))).trans hx316_1; replace hx316_0 := (cell_far (p := ⟨gb315, 1, none⟩) (by first | (rw [add_block]; exact hn316_1) | (show (Addr.add _ _).block ≠ _; rw [add_block]; exact hn316_1) | exact hn316_1) (.string ((rd_T27 ((rd_T25 l0 x16_1).f1) x44_3).f1))).trans hx316_0; replace hx316_1 := (cell_far (p := ⟨gb315, 1, none⟩) (by first | (rw [add_block]; exact hn316_1) | (show (Addr.add _ _).block ≠ _; rw [add_block]; exact hn316_1) | exact hn316_1) (.string ((rd_T27 ((rd_T25 l0 x16_1).f1) x44_3).f1))).trans hx316_1; (try have hy316_0 := fun (n_ : Nat) => (show ((((w26.drewN n_).setCell ⟨gb315, 0, none⟩ (.int .i64 ((rd_T27 ((rd_T25 l0 x16_1).f1) x44_3).f0))).setCell ⟨gb315, 1, none⟩ (.string ((rd_T27 ((rd_T25 l0 x16_1).f1) x44_3).f1)))).cell? _ = some _ from hx316_0)); (try have hy316_1 := fun (n_ : Nat) => (show ((((w26.drewN n_).setCell ⟨gb315, 0, none⟩ (.int .i64 ((rd_T27 ((rd_T25 l0 x16_1).f1) x44_3).f0))).setCell ⟨gb315, 1, none⟩ (.string ((rd_T27 ((rd_T25 l0 x16_1).f1) x44_3).f1)))).cell? _ = some _ from hx316_1)); clear hn316_0; clear hn316_1; replace p316 := eq_true p316; replace q316 := eq_true q316; have p317 : 0 ≤ (x44_3 : Int) := of_decide_eq_true aq; have q317 : x44_3 < (((rd_T25 l1 x16_1).f1).length : Int) := of_decide_eq_true aq; obtain ⟨ad317, e317, hx317_0, hx317_1⟩ := at_T27 HR316_1.out x44_3 p317 q317; cases e317; have hn317_0 : ad317.block ≠ gb315 := Nat.ne_of_lt (Nat.lt_of_lt_of_le (by have := World.block_lt_of_cell? _ _ hx317_0; first | rwa [add_block] at this | exact this) GW315.out); have hn317_1 : ad317.block ≠ gb315 := Nat.ne_of_lt (Nat.lt_of_lt_of_le (by have := World.block_lt_of_cell? _ _ hx317_0; first | rwa [add_block] at this | exact this) GW315.out); replace hx317_0 := (HB.out.cell (World.block_lt_of_cell? w _ hx317_0)).trans hx317_0; replace hx317_1 := (HB.out.cell (World.block_lt_of_cell? w _ hx317_1)).trans hx317_1; replace hx317_0 := (cell_far (p := ⟨gb315, 0, none⟩) (by first | (rw [add_block]; exact hn317_0) | (show (Addr.add _ _).block ≠ _; rw [add_block]; exact hn317_0) | exact hn317_0) (.int .i64 ((rd_T27 ((rd_T25 l0 x16_1).f1) x44_3).f0))).trans hx317_0; replace hx317_1 := (cell_far (p := ⟨gb315, 0, none⟩) (by first | (rw [add_block]; exact hn317_0) | (show (Addr.add _ _).block ≠ _; rw [add_block]; exact hn317_0) | exact hn317_0) (.int .i64 ((rd_T27 ((rd_T25 l0 x16_1).f1) x44_3).f0))).trans hx317_1; replace hx317_0 := (cell_far (p := ⟨gb315, 1, none⟩) (by first | (rw [add_block]; exact hn317_1) | (show (Addr.add _ _).block ≠ _; rw [add_block]; exact hn317_1) | exact hn317_1) (.string ((rd_T27 ((rd_T25 l0 x16_1).f1) x44_3).f1))).trans hx317_0; replace hx317_1 := (cell_far (p := ⟨gb315, 1, none⟩) (by first | (rw [add_block]; exact hn317_1) | (show (Addr.add _ _).block ≠ _; rw [add_block]; exact hn317_1) | exact hn317_1) (.string ((rd_T27 ((rd_T25 l0 x16_1).f1) x44_3).f1))).trans hx317_1; (try have hy317_0 := fun (n_ : Nat) => (show ((((w26.drewN n_).setCell ⟨gb315, 0, none⟩ (.int .i64 ((rd_T27 ((rd_T25 l0 x16_1).f1) x44_3).f0))).setCell ⟨gb315, 1, none⟩ (.string ((rd_T27 ((rd_T25 l0 x16_1).f1) x44_3).f1)))).cell? _ = some _ from hx317_0)); (try have hy317_1 := fun (n_ : Nat) => (show ((((w26.drewN n_).setCell ⟨gb315, 0, none⟩ (.int .i64 ((rd_T27 ((rd_T25 l0 x16_1).f1) x44_3).f0))).setCell ⟨gb315, 1, none⟩ (.string ((rd_T27 ((rd_T25 l0 x16_1).f1) x44_3).f1)))).cell? _ = some _ from hx317_1)); clear hn317_0; clear hn317_1; replace p317 := eq_true p317; replace q317 := eq_true q317)))
                   go_roundg k3
                   case measure => have := HK1.out; have := HJ6.out; have := HK3.out; omega
                   case rel => exact ⟨(wrap64 (x44_3 + 1)), dq, H', ⟨by have := HK1.out; have := HJ6.out; have := HK3.out; omega⟩, ⟨by (with_reducible repeat (first | refine blk_drewN ?_ _ | refine blk_drew ?_ | refine blk_alloc ?_ _)); refine blk_far ?_ NB311_315.out _; (with_reducible repeat (first | refine blk_drewN ?_ _ | refine blk_drew ?_ | refine blk_alloc ?_ _)); refine blk_far ?_ NB311_315.out _; (with_reducible repeat (first | refine blk_drewN ?_ _ | refine blk_drew ?_ | refine blk_alloc ?_ _)); exact BK311.out⟩, ⟨hq2 HB.out GE311.out GE315.out⟩⟩
                 ·rw [if_neg c21] at H
                  exact absurd H (by simp)
                ·rw [if_neg c20] at H
                 exact absurd H (by simp)
               ·rw [if_neg c19] at H
                exact absurd H (by simp)
              ·rw [if_neg c18] at H
               exact absurd H (by simp)
             ·rw [if_neg c17] at H
              exact absurd H (by simp)
            ·rw [if_neg c16] at H
             have c16b0 := decide_eq_false c16
             clear c16
             have H' := Aside0.mk H
             clear H
             go_wp2
             repeat (go_quiet (fail); try go_wp2)
             go_roundg k3
             case measure => have := HK1.out; have := HJ6.out; have := HK3.out; omega
             case rel => exact ⟨(wrap64 (x16_1 + 1)), dq, H', ⟨by have := HK1.out; have := HJ6.out; have := HK3.out; omega⟩, ⟨hq1 HB.out GE311.out⟩⟩
      ·rw [if_neg c6] at H
       exact absurd H (by simp)
     ·rw [if_neg c5] at H
      exact absurd H (by simp)
    ·rw [if_neg c4] at H
     have c4b0 := decide_eq_false c4
     clear c4
     obtain rfl := Option.some.inj H
     go_wp2
     repeat (go_quiet (fail); try go_wp2)
     go_ret
     exact ⟨rq_, hq HB.out⟩
 ·rw [if_neg c3] at H
  have c3b0 : ((l0.length : Int) == (l1.length : Int)) = false := beq_eq_false_iff_ne.mpr c3
  have c3b1 : ((l0.length : Int) != (l1.length : Int)) = true := bne_iff_ne.mpr c3
  have c3b2 : (l0.length == l1.length) = false := by first | simpa using c3 | (simp at c3 ⊢; omega)
  obtain rfl := Option.some.inj H
  go_enter Try.func12, Try.ntmps12
  go_wp2
  repeat (go_quiet (fail); try go_wp2)
  go_ret
  exact ⟨rq_, hq HB.out⟩

/-! ### keyeventlaw04_awake: function 13 -/
def keyeventlaw04_awake.f (k : Nat)  : Option (Bool) := (stream_Encode.f k (([(⟨1, ([] : List (S27))⟩ : S25)] : List (S25)))).bind fun bt321 => (if bt321.1.toList = ([45,65,65,65] : List UInt8) then (some (bt321.2 == 0)) else (some false))
theorem keyeventlaw04_awake.mono : ∀ k, LeO (keyeventlaw04_awake.f k ) (keyeventlaw04_awake.f (k + 1) ) := by
  intro  k
  unfold keyeventlaw04_awake.f
  repeat' first
      | (with_reducible exact stream_Encode.mono _ _)
      | (with_reducible exact LeO.refl _)
      | (with_reducible exact LeO.none _)
      | (with_reducible refine LeO.ite ?_ ?_)
      | (with_reducible refine LeO.bind ?_ (fun _ => ?_))
      | exact stream_Encode.mono _ _
      | exact LeO.none _
      | refine LeO.ite ?_ ?_
      | refine LeO.bind ?_ (fun _ => ?_)
set_option maxHeartbeats 8000000 in
set_option maxRecDepth 100000 in
theorem keyeventlaw04_awake.calls (k : Nat)  (r : Bool) (w : World) (h : keyeventlaw04_awake.f k  = some r) :
    Calls Try.prog 13 #[] w fun e w' => e = .returned (.bool r) ∧ Below w.heap.size w w' := by
 have hu25 := Try.underlying25
 have HB := Aside0.mk (Below.refl w.heap.size w)
 have H : ((stream_Encode.f k (([(⟨1, ([] : List (S27))⟩ : S25)] : List (S25)))).bind fun bt321 => (if bt321.1.toList = ([45,65,65,65] : List UInt8) then (some (bt321.2 == 0)) else (some false))) = some r := h
 clear h
 obtain ⟨y318, hy318⟩ : ∃ y_ : List (S25), y_ = (([(⟨1, ([] : List (S27))⟩ : S25)] : List (S25))) := ⟨_, rfl⟩
 replace H : ((stream_Encode.f k y318).bind fun bt321 => (if bt321.1.toList = ([45,65,65,65] : List UInt8) then (some (bt321.2 == 0)) else (some false))) = some r := by first | (rw [hy318]; with_reducible exact H) | (have H2_ := (Option.bind_some _ _).symm.trans H; rw [hy318]; with_reducible exact H2_) | (have H2_ := (Option.bind_some _ _).symm.trans H; with_reducible exact H2_) | with_reducible exact H | (rw [hy318]; exact H) | exact H
 have Ny318 := Aside0.mk hy318
 clear hy318
 obtain ⟨⟨t321, t322⟩, A1, H⟩ := bindS H
 try dsimp only at H
 by_cases c2 : t321.toList = ([45,65,65,65] : List UInt8)
 ·rw [if_pos c2] at H
  have c2b0 : (t321.toList == ([45,65,65,65] : List UInt8)) = true := beq_iff_eq.mpr c2
  have c2b1 : (t321.toList != ([45,65,65,65] : List UInt8)) = false := bne_eq_false_iff_eq.mpr c2
  clear c2
  obtain rfl := Option.some.inj H
  go_enter Try.func13, Try.ntmps13
  go_wp2_with (first | ((with_reducible refine gate_dst (N := 5) rfl ?_); refine Kd.S_lit k25 _ 25 ?hg (N := 5) ?hd (xs := ([(⟨1, ([] : List (S27))⟩ : S25)] : List (S25))) (inner := [.int .i64 1, .slice none 0 0]) (ok := fun _ => True) (okp := fun _ => True) ?hr ?hp (fun _ hk => hk) trivial (Below.refl _ _) (Nat.le_refl _) (by simp) ?_; (case hd => rfl); (case hg => rfl); (case hr => first | (go_simp; done) | (go_simp; rfl)); (case hp => exact (Reps.c2 (show Kd.M k25 _ _ _ (⟨1, ([] : List (S27))⟩ : S25) [.int .i64 1, .slice none 0 0] from (k25_mkM _ _ _ (⟨1, ([] : List (S27))⟩ : S25) (Kd.R_nil _ _ _ _ _))) (Reps.none _ _))); intro v319 w3 ho4 hb hg_ hnew_; clear hg_ hnew_; (first | rw [← Ny318.out] at ho4 | (simp only [Int.reduceToNat] at ho4; rw [← Ny318.out] at ho4)); have HO320 := Aside0.mk (Kd.S_lower ho4 (below_size (hq HB.out))); replace HB := Aside0.mk (below_step (hq HB.out) hb); clear hb ho4; obtain ⟨Ao5, co5, eo5⟩ := Kd.S_slice HO320.out; subst eo5) | ((with_reducible refine gate_callee (f := 8) rfl ?_); refine goesL_ (some 6) rfl rfl Try.func8 (by kernel_rfl) rfl #[.slice Ao5 y318.length co5] rfl eq_ ?_; (with_reducible refine (stream_Encode.calls k _ _ y318 t321 t322 _ ?side1 ?side2 A1.out).mono ?_); (case side1 => repeat (first | exact (Kd.S_reads' HO320.out).2.2 | (with_reducible refine Kd.C_alloc ?_ _) | (with_reducible refine Kd.C_drewN ?_ _) | (with_reducible refine Kd.C_drew ?_))); (case side2 => exact (Kd.S_reads' HO320.out).2.1); rintro e w6 ⟨rfl, hb⟩; refine ⟨_, rfl, ?_⟩; replace HO320 := Aside0.mk (Kd.S_below (qS HO320.out) hb); replace HB := Aside0.mk (below_step (hq HB.out) hb); (try clear hb)))
  go_ret
  exact ⟨rq_, hq HB.out⟩
 ·rw [if_neg c2] at H
  have c2b0 : (t321.toList == ([45,65,65,65] : List UInt8)) = false := beq_eq_false_iff_ne.mpr c2
  have c2b1 : (t321.toList != ([45,65,65,65] : List UInt8)) = true := bne_iff_ne.mpr c2
  obtain rfl := Option.some.inj H
  go_enter Try.func13, Try.ntmps13
  go_wp2_with (first | ((with_reducible refine gate_dst (N := 5) rfl ?_); refine Kd.S_lit k25 _ 25 ?hg (N := 5) ?hd (xs := ([(⟨1, ([] : List (S27))⟩ : S25)] : List (S25))) (inner := [.int .i64 1, .slice none 0 0]) (ok := fun _ => True) (okp := fun _ => True) ?hr ?hp (fun _ hk => hk) trivial (Below.refl _ _) (Nat.le_refl _) (by simp) ?_; (case hd => rfl); (case hg => rfl); (case hr => first | (go_simp; done) | (go_simp; rfl)); (case hp => exact (Reps.c2 (show Kd.M k25 _ _ _ (⟨1, ([] : List (S27))⟩ : S25) [.int .i64 1, .slice none 0 0] from (k25_mkM _ _ _ (⟨1, ([] : List (S27))⟩ : S25) (Kd.R_nil _ _ _ _ _))) (Reps.none _ _))); intro v319 w7 ho8 hb hg_ hnew_; clear hg_ hnew_; (first | rw [← Ny318.out] at ho8 | (simp only [Int.reduceToNat] at ho8; rw [← Ny318.out] at ho8)); have HO320 := Aside0.mk (Kd.S_lower ho8 (below_size (hq HB.out))); replace HB := Aside0.mk (below_step (hq HB.out) hb); clear hb ho8; obtain ⟨Ao9, co9, eo9⟩ := Kd.S_slice HO320.out; subst eo9) | ((with_reducible refine gate_callee (f := 8) rfl ?_); refine goesL_ (some 6) rfl rfl Try.func8 (by kernel_rfl) rfl #[.slice Ao9 y318.length co9] rfl eq_ ?_; (with_reducible refine (stream_Encode.calls k _ _ y318 t321 t322 _ ?side1 ?side2 A1.out).mono ?_); (case side1 => repeat (first | exact (Kd.S_reads' HO320.out).2.2 | (with_reducible refine Kd.C_alloc ?_ _) | (with_reducible refine Kd.C_drewN ?_ _) | (with_reducible refine Kd.C_drew ?_))); (case side2 => exact (Kd.S_reads' HO320.out).2.1); rintro e w10 ⟨rfl, hb⟩; refine ⟨_, rfl, ?_⟩; replace HO320 := Aside0.mk (Kd.S_below (qS HO320.out) hb); replace HB := Aside0.mk (below_step (hq HB.out) hb); (try clear hb)))
  go_ret
  exact ⟨rq_, hq HB.out⟩

end Go.Proofs.Ytookjdhfpbmjkaa.X
