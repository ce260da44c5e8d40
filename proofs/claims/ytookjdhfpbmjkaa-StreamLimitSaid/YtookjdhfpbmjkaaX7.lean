-- Written by xprint.py, a program of this repo that leads the kit's print.py: Lean checks it.
import Derived.Test.YtookjdhfpbmjkaaX0
import Derived.Test.YtookjdhfpbmjkaaX6
namespace Go.Proofs.Ytookjdhfpbmjkaa.X
open Go.RowKit Go.Proofs.YtookjdhfpbmjkaaW.PrintWords Go.Proofs.YtookjdhfpbmjkaaW.PrintLast Go.Proofs.YtookjdhfpbmjkaaW.PrintMore
attribute [local go_sem] max2_int min2_int max_two min_two max_three min_three max_four min_four   -- for this text's walks alone
set_option linter.unusedVariables false
set_option linter.unusedSimpArgs false

/-! ### keyeventref04_follows: function 35 -/
mutual
def keyeventref04_follows.j0 : Nat → List Int → Bool → Int → List (S27) → Option (Bool)
  | 0, _, _, _, _ => none
  | k + 1, x3, x20, x145000, x145001 => if x20 = true then (some false) else (keyeventref04_follows.l0 k x3 x145001 (x145001.length : Int) 0)
def keyeventref04_follows.l0 : Nat → List Int → List (S27) → Int → Int → Option (Bool)
  | 0, _, _, _, _ => none
  | k + 1, x3, x22, x23, x24 => if x24 < x23 then (if 0 ≤ x24 then (if x24 < (x22.length : Int) then (if (x3.length : Int) = 0 then (none) else (if 0 ≤ (Int.tmod x24 (x3.length : Int)) then (if (Int.tmod x24 (x3.length : Int)) < (x3.length : Int) then (if ((rd_T27 x22 x24).f0) = (rd x3 (Int.tmod x24 (x3.length : Int))) then (keyeventref04_follows.l0 k x3 x22 x23 (wrap64 (x24 + 1))) else (some false)) else (none)) else (none))) else (none)) else (none)) else (some true)
end
def keyeventref04_follows.f (k : Nat) (a0_0 : Int) (l0_1 : List (S27)) : Option (Bool) := (keyeventref04_Permitted.f k a0_0).bind fun t145 => (if (t145.length : Int) = 0 then (keyeventref04_follows.j0 k t145 true a0_0 l0_1) else (keyeventref04_follows.j0 k t145 (((l0_1.length : Int) % (t145.length : Int)) != 0) a0_0 l0_1))
theorem keyeventref04_follows.mono_l : ∀ k, (∀ y0 y1 y2 y3, LeO (keyeventref04_follows.j0 k y0 y1 y2 y3) (keyeventref04_follows.j0 (k + 1) y0 y1 y2 y3)) ∧ (∀ y0 y1 y2 y3, LeO (keyeventref04_follows.l0 k y0 y1 y2 y3) (keyeventref04_follows.l0 (k + 1) y0 y1 y2 y3))
  | 0 => ⟨fun _ _ _ _ r h => by simp [keyeventref04_follows.j0] at h, fun _ _ _ _ r h => by simp [keyeventref04_follows.l0] at h⟩
  | k + 1 => by
    obtain ⟨ih0, ih1⟩ := keyeventref04_follows.mono_l k
    refine ⟨?_, ?_⟩
    · intro y0 y1 y2 y3
      unfold keyeventref04_follows.j0
      repeat' first
      | (with_reducible exact ih0 _ _ _ _)
      | (with_reducible exact ih1 _ _ _ _)
      | (with_reducible exact keyeventref04_Permitted.mono _ _)
      | (with_reducible exact LeO.refl _)
      | (with_reducible exact LeO.none _)
      | (with_reducible refine LeO.ite ?_ ?_)
      | (with_reducible refine LeO.bind ?_ (fun _ => ?_))
      | exact ih0 _ _ _ _
      | exact ih1 _ _ _ _
      | exact keyeventref04_Permitted.mono _ _
      | exact LeO.none _
      | refine LeO.ite ?_ ?_
      | refine LeO.bind ?_ (fun _ => ?_)
    · intro y0 y1 y2 y3
      unfold keyeventref04_follows.l0
      repeat' first
      | (with_reducible exact ih0 _ _ _ _)
      | (with_reducible exact ih1 _ _ _ _)
      | (with_reducible exact keyeventref04_Permitted.mono _ _)
      | (with_reducible exact LeO.refl _)
      | (with_reducible exact LeO.none _)
      | (with_reducible refine LeO.ite ?_ ?_)
      | (with_reducible refine LeO.bind ?_ (fun _ => ?_))
      | exact ih0 _ _ _ _
      | exact ih1 _ _ _ _
      | exact keyeventref04_Permitted.mono _ _
      | exact LeO.none _
      | refine LeO.ite ?_ ?_
      | refine LeO.bind ?_ (fun _ => ?_)
theorem keyeventref04_follows.mono : ∀ a0 a1 k, LeO (keyeventref04_follows.f k a0 a1) (keyeventref04_follows.f (k + 1) a0 a1) := by
  intro a0 a1 k
  obtain ⟨ih0, ih1⟩ := keyeventref04_follows.mono_l k
  unfold keyeventref04_follows.f
  repeat' first
      | (with_reducible exact ih0 _ _ _ _)
      | (with_reducible exact ih1 _ _ _ _)
      | (with_reducible exact keyeventref04_Permitted.mono _ _)
      | (with_reducible exact LeO.refl _)
      | (with_reducible exact LeO.none _)
      | (with_reducible refine LeO.ite ?_ ?_)
      | (with_reducible refine LeO.bind ?_ (fun _ => ?_))
      | exact ih0 _ _ _ _
      | exact ih1 _ _ _ _
      | exact keyeventref04_Permitted.mono _ _
      | exact LeO.none _
      | refine LeO.ite ?_ ?_
      | refine LeO.bind ?_ (fun _ => ?_)
set_option maxHeartbeats 8000000 in
set_option maxRecDepth 100000 in
theorem keyeventref04_follows.calls (k : Nat) (a0_0 : Int) (A0_1 : Option Addr) (c0_1 : Nat) (l0_1 : List (S27)) (r : Bool) (w : World) (hr0_1 : Kd.C k27 w A0_1 l0_1.length l0_1) (hc0_1 : l0_1.length ≤ c0_1) (h : keyeventref04_follows.f k a0_0 l0_1 = some r) :
    Calls Try.prog 35 #[.agg #[.int .i64 a0_0, .slice A0_1 l0_1.length c0_1]] w fun e w' => e = .returned (.bool r) ∧ Below w.heap.size w w' := by
 have hu25 := Try.underlying25
 have hu27 := Try.underlying27
 have HR0_1 := Aside0.mk hr0_1
 have HC0_1 := Aside0.mk hc0_1
 clear hr0_1 hc0_1
 have HB := Aside0.mk (Below.refl w.heap.size w)
 have H : ((keyeventref04_Permitted.f k a0_0).bind fun t145 => (if (t145.length : Int) = 0 then (keyeventref04_follows.j0 k t145 true a0_0 l0_1) else (keyeventref04_follows.j0 k t145 (((l0_1.length : Int) % (t145.length : Int)) != 0) a0_0 l0_1))) = some r := h
 clear h
 obtain ⟨t145, A2, H⟩ := bindS H
 have HC3 := Aside0.mk H
 clear H
 go_enter Try.func35, Try.ntmps35
 go_upto_region 2 with (first | ((with_reducible refine gate_dst (N := 1) rfl ?_); (try (refine gate_guard (by rfl) ?_; dsimp only)); refine box_event ?hg (N := 1) ?hd (cs := #[.int .i64 a0_0, .slice A0_1 l0_1.length c0_1]) (t := 25) ?hr ?_; (case hd => rfl); (case hg => rfl); (case hr => first | (go_simp; done) | (go_simp; rfl)); intro gb144 hg w4 hbox hb; have BK144 := Aside0.mk (hbox); have GW144 := Aside0.mk ((by rw [hg]; exact (below_size (hq HB.out)) : w.heap.size ≤ gb144)); have GE144 := Aside0.mk ((by rw [hg]; exact (below_size (hq HB.out)) : w.heap.size ≤ gb144)); replace HB := Aside0.mk (below_step (hq HB.out) hb); clear hb hbox hg; have hcz5_0 : w4.cell? ⟨gb144, 0, none⟩ = some (.int .i64 a0_0) := (blk_cell BK144.out 0).trans rfl; have hcz5_1 : w4.cell? ⟨gb144, 1, none⟩ = some (.slice A0_1 l0_1.length c0_1) := (blk_cell BK144.out 1).trans rfl; have hfz5_0 := blk_frozen BK144.out 0; have hfz5_1 := blk_frozen BK144.out 1) | (go_at_call 27; (with_reducible refine (keyeventref04_Permitted.calls k a0_0 t145 _ A2.out).mono ?_); rintro e w6 ⟨v146, rfl, ho0, hb⟩; have HO147 := Aside0.mk (Kd.R_lower ho0 (below_size (hq1 HB.out GE144.out))); replace BK144 := Aside0.mk (blk_below (g := gb144) (o := .cells #[.int .i64 a0_0, .slice A0_1 l0_1.length c0_1] 25 (0, 0)) (bq BK144.out) hb); replace HB := Aside0.mk (below_step (hq1 HB.out GE144.out) hb); (try clear hb); (try clear ho0)))
 repeat (go_quiet (first | ((with_reducible refine gate_dst (N := 1) rfl ?_); (try (refine gate_guard (by rfl) ?_; dsimp only)); refine box_event ?hg (N := 1) ?hd (cs := #[.int .i64 a0_0, .slice A0_1 l0_1.length c0_1]) (t := 25) ?hr ?_; (case hd => rfl); (case hg => rfl); (case hr => first | (go_simp; done) | (go_simp; rfl)); intro gb144 hg w4 hbox hb; have BK144 := Aside0.mk (hbox); have GW144 := Aside0.mk ((by rw [hg]; exact (below_size (hq HB.out)) : w.heap.size ≤ gb144)); have GE144 := Aside0.mk ((by rw [hg]; exact (below_size (hq HB.out)) : w.heap.size ≤ gb144)); replace HB := Aside0.mk (below_step (hq HB.out) hb); clear hb hbox hg; have hcz5_0 : w4.cell? ⟨gb144, 0, none⟩ = some (.int .i64 a0_0) := (blk_cell BK144.out 0).trans rfl; have hcz5_1 : w4.cell? ⟨gb144, 1, none⟩ = some (.slice A0_1 l0_1.length c0_1) := (blk_cell BK144.out 1).trans rfl; have hfz5_0 := blk_frozen BK144.out 0; have hfz5_1 := blk_frozen BK144.out 1) | (go_at_call 27; (with_reducible refine (keyeventref04_Permitted.calls k a0_0 t145 _ A2.out).mono ?_); rintro e w6 ⟨v146, rfl, ho0, hb⟩; have HO147 := Aside0.mk (Kd.R_lower ho0 (below_size (hq1 HB.out GE144.out))); replace BK144 := Aside0.mk (blk_below (g := gb144) (o := .cells #[.int .i64 a0_0, .slice A0_1 l0_1.length c0_1] 25 (0, 0)) (bq BK144.out) hb); replace HB := Aside0.mk (below_step (hq1 HB.out GE144.out) hb); (try clear hb); (try clear ho0))); go_upto_region 2 with (first | ((with_reducible refine gate_dst (N := 1) rfl ?_); (try (refine gate_guard (by rfl) ?_; dsimp only)); refine box_event ?hg (N := 1) ?hd (cs := #[.int .i64 a0_0, .slice A0_1 l0_1.length c0_1]) (t := 25) ?hr ?_; (case hd => rfl); (case hg => rfl); (case hr => first | (go_simp; done) | (go_simp; rfl)); intro gb144 hg w4 hbox hb; have BK144 := Aside0.mk (hbox); have GW144 := Aside0.mk ((by rw [hg]; exact (below_size (hq HB.out)) : w.heap.size ≤ gb144)); have GE144 := Aside0.mk ((by rw [hg]; exact (below_size (hq HB.out)) : w.heap.size ≤ gb144)); replace HB := Aside0.mk (below_step (hq HB.out) hb); clear hb hbox hg; have hcz5_0 : w4.cell? ⟨gb144, 0, none⟩ = some (.int .i64 a0_0) := (blk_cell BK144.out 0).trans rfl; have hcz5_1 : w4.cell? ⟨gb144, 1, none⟩ = some (.slice A0_1 l0_1.length c0_1) := (blk_cell BK144.out 1).trans rfl; have hfz5_0 := blk_frozen BK144.out 0; have hfz5_1 := blk_frozen BK144.out 1) | (go_at_call 27; (with_reducible refine (keyeventref04_Permitted.calls k a0_0 t145 _ A2.out).mono ?_); rintro e w6 ⟨v146, rfl, ho0, hb⟩; have HO147 := Aside0.mk (Kd.R_lower ho0 (below_size (hq1 HB.out GE144.out))); replace BK144 := Aside0.mk (blk_below (g := gb144) (o := .cells #[.int .i64 a0_0, .slice A0_1 l0_1.length c0_1] 25 (0, 0)) (bq BK144.out) hb); replace HB := Aside0.mk (below_step (hq1 HB.out GE144.out) hb); (try clear hb); (try clear ho0))))
 (try simp only [Act.put, List.setIfInBounds_toArray, List.set_cons_zero, List.set_cons_succ])
 go_cut [20] (fun v20 wc => ∃ (kq : Nat) (x20_2 : Bool), v20 = .bool x20_2 ∧ Aside0 (keyeventref04_follows.j0 kq t145 x20_2 a0_0 l0_1 = some r) ∧ Aside0 (kq ≤ k) ∧ Aside0 (Kd.R (Kd.int .i64) 3 wc w.heap.size (fun _ => True) v146 t145) ∧ Aside0 (wc.heap[gb144]? = some (.cells #[.int .i64 a0_0, (.slice A0_1 l0_1.length c0_1)] 25 (0, 0))) ∧ Aside0 (Below w.heap.size w wc))
 case first =>
  have H := HC3.out
  clear HC3
  by_cases c7 : (t145.length : Int) = 0
  ·rw [if_pos c7] at H
   have c7b0 : ((t145.length : Int) == 0) = true := beq_iff_eq.mpr c7
   have c7b1 : ((t145.length : Int) != 0) = false := bne_eq_false_iff_eq.mpr c7
   clear c7
   (first | rw [c7b0] | (simp only [i64_w, i32_w]; rw [c7b0]) | skip)
   have H' := Aside0.mk H
   clear H
   obtain ⟨Ao8, co8, eo8⟩ := Kd.R_slice HO147.out
   subst eo8
   go_wp2
   repeat (go_quiet (fail); try go_wp2)
   go_meet
   case rel => exact ⟨_, (true), dq, H', ⟨by first | omega | exact Nat.le_refl _⟩, ⟨by (with_reducible repeat (first | apply Kd.R_alloc | apply Kd.R_drewN | apply Kd.R_drew)); exact HO147.out⟩, ⟨by (with_reducible repeat (first | refine blk_drewN ?_ _ | refine blk_drew ?_ | refine blk_alloc ?_ _)); exact BK144.out⟩, ⟨hq1 HB.out GE144.out⟩⟩
  ·rw [if_neg c7] at H
   have c7b0 : ((t145.length : Int) == 0) = false := beq_eq_false_iff_ne.mpr c7
   have c7b1 : ((t145.length : Int) != 0) = true := bne_iff_ne.mpr c7
   have c7b2 : ¬ (t145 = []) := fun h_ => c7 (by rw [h_]; rfl)
   (first | rw [c7b0] | (simp only [i64_w, i32_w]; rw [c7b0]) | skip)
   have H' := Aside0.mk H
   clear H
   obtain ⟨Ao9, co9, eo9⟩ := Kd.R_slice HO147.out
   subst eo9
   have hcz10_0 : w6.cell? ⟨gb144, 0, none⟩ = some (.int .i64 a0_0) := (blk_cell BK144.out 0).trans rfl
   have hcz10_1 : w6.cell? ⟨gb144, 1, none⟩ = some (.slice A0_1 l0_1.length c0_1) := (blk_cell BK144.out 1).trans rfl
   have hfz10_0 := blk_frozen BK144.out 0
   have hfz10_1 := blk_frozen BK144.out 1
   go_wp2
   repeat (go_quiet (fail); try go_wp2)
   go_meet
   case rel => exact ⟨_, ((((l0_1.length : Int) % (t145.length : Int)) != 0)), dq, H', ⟨by first | omega | exact Nat.le_refl _⟩, ⟨by (with_reducible repeat (first | apply Kd.R_alloc | apply Kd.R_drewN | apply Kd.R_drew)); exact HO147.out⟩, ⟨by (with_reducible repeat (first | refine blk_drewN ?_ _ | refine blk_drew ?_ | refine blk_alloc ?_ _)); exact BK144.out⟩, ⟨hq1 HB.out GE144.out⟩⟩
 case rest =>
  clear HC3
  try clear p2
  try clear c3
  try clear c7
  try clear c7b0
  try clear c7b1
  try clear c7b2
  try clear hcz10_0
  try clear hcz10_1
  try clear hcz5_0
  try clear hcz5_1
  try clear hfz10_0
  try clear hfz10_1
  try clear hfz5_0
  try clear hfz5_1
  obtain ⟨kq, x20_2, rfl, HA, HJ2, HO_3, BK144, HB⟩ := hcut
  cases kq with
  | zero => exact absurd HA.out (by simp [keyeventref04_follows.j0])
  | succ kj2 =>
   have H := HA.out
   clear HA
   simp only [keyeventref04_follows.j0] at H
   by_cases c11 : x20_2 = true
   ·subst c11
    rw [if_pos rfl] at H
    obtain rfl := Option.some.inj H
    go_wp2
    repeat (go_quiet (fail); try go_wp2)
    go_ret
    exact ⟨rq_, hq1 HB.out GE144.out⟩
   ·replace c11 := Bool.eq_false_iff.mpr c11
    subst c11
    rw [if_neg (show ¬ (false = true) by decide)] at H
    have H' := Aside0.mk H
    clear H
    have hcz12_0 : wc.cell? ⟨gb144, 0, none⟩ = some (.int .i64 a0_0) := (blk_cell BK144.out 0).trans rfl
    have hcz12_1 : wc.cell? ⟨gb144, 1, none⟩ = some (.slice A0_1 l0_1.length c0_1) := (blk_cell BK144.out 1).trans rfl
    have hfz12_0 := blk_frozen BK144.out 0
    have hfz12_1 := blk_frozen BK144.out 1
    go_wp2
    repeat (go_quiet (fail); try go_wp2)
    go_loopg [24] kj2 (fun kq v24 w' => ∃ (x24_2 : Int), v24 = .int .i64 x24_2 ∧ Aside0 (keyeventref04_follows.l0 kq t145 l0_1 (l0_1.length : Int) x24_2 = some r) ∧ Aside0 (kq ≤ kj2) ∧ Aside0 (Kd.R (Kd.int .i64) 3 w' w.heap.size (fun _ => True) v146 t145) ∧ Aside0 (w'.heap[gb144]? = some (.cells #[.int .i64 a0_0, (.slice A0_1 l0_1.length c0_1)] 25 (0, 0))) ∧ Aside0 (Below w.heap.size w w'))
    case atStart => exact ⟨(0), dq, H', ⟨Nat.le_refl _⟩, ⟨by (with_reducible repeat (first | apply Kd.R_alloc | apply Kd.R_drewN | apply Kd.R_drew)); exact HO_3.out⟩, ⟨by (with_reducible repeat (first | refine blk_drewN ?_ _ | refine blk_drew ?_ | refine blk_alloc ?_ _)); exact BK144.out⟩, ⟨hq1 HB.out GE144.out⟩⟩
    case round =>
     clear H'
     try clear c1
     try clear p2
     try clear c3
     try clear c7
     try clear c7b0
     try clear c7b1
     try clear c7b2
     try clear c11
     try clear hcz10_0
     try clear hcz10_1
     try clear hcz12_0
     try clear hcz12_1
     try clear hcz5_0
     try clear hcz5_1
     try clear hfz10_0
     try clear hfz10_1
     try clear hfz12_0
     try clear hfz12_1
     try clear hfz5_0
     try clear hfz5_1
     try clear p2
     obtain ⟨x24_2, rfl, HA, HK2, HO_3, BK144, HB⟩ := hrel
     cases gk with
     | zero => exact absurd HA.out (by simp [keyeventref04_follows.l0])
     | succ k2 =>
      have H := HA.out
      clear HA
      simp only [keyeventref04_follows.l0] at H
      by_cases c13 : x24_2 < (l0_1.length : Int)
      ·rw [if_pos c13] at H
       have c13b0 := decide_eq_true c13
       clear c13
       by_cases c14 : 0 ≤ x24_2
       ·rw [if_pos c14] at H
        have c14b0 := decide_eq_true c14
        clear c14
        by_cases c15 : x24_2 < (l0_1.length : Int)
        ·rw [if_pos c15] at H
         have c15b0 := decide_eq_true c15
         clear c15
         by_cases c16 : (t145.length : Int) = 0
         ·rw [if_pos c16] at H
          exact absurd H (by simp)
         ·rw [if_neg c16] at H
          have c16b0 : ((t145.length : Int) == 0) = false := beq_eq_false_iff_ne.mpr c16
          have c16b1 : ((t145.length : Int) != 0) = true := bne_iff_ne.mpr c16
          have c16b2 : ¬ (t145 = []) := fun h_ => c16 (by rw [h_]; rfl)
          obtain ⟨ji17, hji17⟩ : ∃ j_ : Int, (Int.tmod x24_2 (t145.length : Int)) = j_ := ⟨_, rfl⟩
          replace H : (if 0 ≤ (ji17) then (if (ji17) < (t145.length : Int) then (if ((rd_T27 l0_1 x24_2).f0) = (rd t145 (ji17)) then (keyeventref04_follows.l0 k2 t145 l0_1 (l0_1.length : Int) (wrap64 (x24_2 + 1))) else (some false)) else (none)) else (none)) = some r := by first | (rw [hji17] at H; exact H) | (simp only [hji17] at H ⊢; exact H)
          by_cases c18 : 0 ≤ (ji17)
          ·rw [if_pos c18] at H
           have c18b0 := decide_eq_true c18
           clear c18
           by_cases c19 : (ji17) < (t145.length : Int)
           ·rw [if_pos c19] at H
            have c19b0 := decide_eq_true c19
            clear c19
            by_cases c20 : ((rd_T27 l0_1 x24_2).f0) = (rd t145 (ji17))
            ·rw [if_pos c20] at H
             have c20b0 : (((rd_T27 l0_1 x24_2).f0) == (rd t145 (ji17))) = true := beq_iff_eq.mpr c20
             have c20b1 : (((rd_T27 l0_1 x24_2).f0) != (rd t145 (ji17))) = false := bne_eq_false_iff_eq.mpr c20
             clear c20
             have H' := Aside0.mk H
             clear H
             have p148 : 0 ≤ (x24_2 : Int) := of_decide_eq_true aq
             have q148 : x24_2 < (l0_1.length : Int) := of_decide_eq_true aq
             obtain ⟨ad148, e148, hx148_0, hx148_1⟩ := at_T27 HR0_1.out x24_2 p148 q148
             cases e148
             replace hx148_0 := (HB.out.cell (World.block_lt_of_cell? w _ hx148_0)).trans hx148_0
             replace hx148_1 := (HB.out.cell (World.block_lt_of_cell? w _ hx148_1)).trans hx148_1
             replace p148 := eq_true p148
             replace q148 := eq_true q148
             go_wp2_with (first | ((with_reducible refine gate_dst (N := 5) rfl ?_); (try (refine gate_guard (by rfl) ?_; dsimp only)); refine box_event ?hg (N := 5) ?hd (cs := #[.int .i64 0, .string (⟨#[]⟩ : ByteArray)]) (t := 27) ?hr ?_; (case hd => rfl); (case hg => rfl); (case hr => first | (go_simp; done) | (go_simp; rfl)); intro gb149 hg w21 hbox hb; replace HO_3 := Aside0.mk (Kd.R_below (qR HO_3.out) hb); have BK149 := Aside0.mk (hbox); have GW149 := Aside0.mk ((by rw [hg]; exact (below_size (hq1 HB.out GE144.out)) : w.heap.size ≤ gb149)); have GE149 := Aside0.mk ((by rw [hg]; exact (below_size (hq1 HB.out GE144.out)) : w.heap.size ≤ gb149)); replace HB := Aside0.mk (below_step (hq1 HB.out GE144.out) hb); have NB144_149 := Aside0.mk ((by rw [hg]; exact Nat.ne_of_lt (blk_lt (g := gb144) (o := .cells #[.int .i64 a0_0, .slice (some ad148) l0_1.length c0_1] 25 (0, 0)) (bq BK144.out)) : gb144 ≠ gb149)); have NB149_144 := Aside0.mk ((by rw [hg]; exact Nat.ne_of_gt (blk_lt (g := gb144) (o := .cells #[.int .i64 a0_0, .slice (some ad148) l0_1.length c0_1] 25 (0, 0)) (bq BK144.out)) : gb149 ≠ gb144)); replace BK144 := Aside0.mk (blk_below (g := gb144) (o := .cells #[.int .i64 a0_0, .slice (some ad148) l0_1.length c0_1] 25 (0, 0)) (bq BK144.out) hb); clear hb hbox hg; have hnb22 := NB149_144.out; have hnc22 := NB144_149.out; have hcz23_0 : w21.cell? ⟨gb149, 0, none⟩ = some (.int .i64 0) := (blk_cell BK149.out 0).trans rfl; have hcz23_1 : w21.cell? ⟨gb149, 1, none⟩ = some (.string (⟨#[]⟩ : ByteArray)) := (blk_cell BK149.out 1).trans rfl; have hfz23_0 := blk_frozen BK149.out 0; have hfz23_1 := blk_frozen BK149.out 1; obtain ⟨Ao24, co24, eo24⟩ := Kd.R_slice HO_3.out; subst eo24; have p150 : 0 ≤ ((ji17) : Int) := of_decide_eq_true aq; have q150 : (ji17) < (t145.length : Int) := of_decide_eq_true aq; obtain ⟨ad150, e150, hx150_0⟩ := Kd.at_int (Kd.R_reads' HO_3.out).2.2 (ji17) p150 q150; cases e150; have hn150_0 : ad150.block ≠ gb149 := Kd.own_blk (Kd.R_ne HO_3.out BK149.out (by decide)); have hn150_1 : ad150.block ≠ gb149 := Kd.own_blk (Kd.R_ne HO_3.out BK149.out (by decide)); replace hx150_0 := (cell_far (p := ⟨gb149, 0, none⟩) (by first | (rw [add_block]; exact hn150_0) | (show (Addr.add _ _).block ≠ _; rw [add_block]; exact hn150_0) | exact hn150_0) (.int .i64 ((rd_T27 l0_1 x24_2).f0))).trans hx150_0; replace hx150_0 := (cell_far (p := ⟨gb149, 1, none⟩) (by first | (rw [add_block]; exact hn150_1) | (show (Addr.add _ _).block ≠ _; rw [add_block]; exact hn150_1) | exact hn150_1) (.string ((rd_T27 l0_1 x24_2).f1))).trans hx150_0; (try have hy150_0 := fun (n_ : Nat) => (show ((((w21.drewN n_).setCell ⟨gb149, 0, none⟩ (.int .i64 ((rd_T27 l0_1 x24_2).f0))).setCell ⟨gb149, 1, none⟩ (.string ((rd_T27 l0_1 x24_2).f1)))).cell? _ = some _ from hx150_0)); clear hn150_0; clear hn150_1; replace p150 := eq_true p150; replace q150 := eq_true q150))
             repeat (go_quiet (first | ((with_reducible refine gate_dst (N := 5) rfl ?_); (try (refine gate_guard (by rfl) ?_; dsimp only)); refine box_event ?hg (N := 5) ?hd (cs := #[.int .i64 0, .string (⟨#[]⟩ : ByteArray)]) (t := 27) ?hr ?_; (case hd => rfl); (case hg => rfl); (case hr => first | (go_simp; done) | (go_simp; rfl)); intro gb149 hg w21 hbox hb; replace HO_3 := Aside0.mk (Kd.R_below (qR HO_3.out) hb); have BK149 := Aside0.mk (hbox); have GW149 := Aside0.mk ((by rw [hg]; exact (below_size (hq1 HB.out GE144.out)) : w.heap.size ≤ gb149)); have GE149 := Aside0.mk ((by rw [hg]; exact (below_size (hq1 HB.out GE144.out)) : w.heap.size ≤ gb149)); replace HB := Aside0.mk (below_step (hq1 HB.out GE144.out) hb); have NB144_149 := Aside0.mk ((by rw [hg]; exact Nat.ne_of_lt (blk_lt (g := gb144) (o := .cells #[.int .i64 a0_0, .slice (some ad148) l0_1.length c0_1] 25 (0, 0)) (bq BK144.out)) : gb144 ≠ gb149)); have NB149_144 := Aside0.mk ((by rw [hg]; exact Nat.ne_of_gt (blk_lt (g := gb144) (o := .cells #[.int .i64 a0_0, .slice (some ad148) l0_1.length c0_1] 25 (0, 0)) (bq BK144.out)) : gb149 ≠ gb144)); replace BK144 := Aside0.mk (blk_below (g := gb144) (o := .cells #[.int .i64 a0_0, .slice (some ad148) l0_1.length c0_1] 25 (0, 0)) (bq BK144.out) hb); clear hb hbox hg; have hnb22 := NB149_144.out; have hnc22 := NB144_149.out; have hcz23_0 : w21.cell? ⟨gb149, 0, none⟩ = some (.int .i64 0) := (blk_cell BK149.out 0).trans rfl; have hcz23_1 : w21.cell? ⟨gb149, 1, none⟩ = some (.string (⟨#[]⟩ : ByteArray)) := (blk_cell BK149.out 1).trans rfl; have hfz23_0 := blk_frozen BK149.out 0; have hfz23_1 := blk_frozen BK149.out 1; obtain ⟨Ao24, co24, eo24⟩ := Kd.R_slice HO_3.out; subst eo24; have p150 : 0 ≤ ((ji17) : Int) := of_decide_eq_true aq; have q150 : (ji17) < (t145.length : Int) := of_decide_eq_true aq; obtain ⟨ad150, e150, hx150_0⟩ := Kd.at_int (Kd.R_reads' HO_3.out).2.2 (ji17) p150 q150; cases e150; have hn150_0 : ad150.block ≠ gb149 := Kd.own_blk (Kd.R_ne HO_3.out BK149.out (by decide)); have hn150_1 : ad150.block ≠ gb149 := Kd.own_blk (Kd.R_ne HO_3.out BK149.out (by decide)); replace hx150_0 := (cell_far (p := ⟨gb149, 0, none⟩) (by first | (rw [add_block]; exact hn150_0) | (show (Addr.add _ _).block ≠ _; rw [add_block]; exact hn150_0) | exact hn150_0) (.int .i64 ((rd_T27 l0_1 x24_2).f0))).trans hx150_0; replace hx150_0 := (cell_far (p := ⟨gb149, 1, none⟩) (by first | (rw [add_block]; exact hn150_1) | (show (Addr.add _ _).block ≠ _; rw [add_block]; exact hn150_1) | exact hn150_1) (.string ((rd_T27 l0_1 x24_2).f1))).trans hx150_0; (try have hy150_0 := fun (n_ : Nat) => (show ((((w21.drewN n_).setCell ⟨gb149, 0, none⟩ (.int .i64 ((rd_T27 l0_1 x24_2).f0))).setCell ⟨gb149, 1, none⟩ (.string ((rd_T27 l0_1 x24_2).f1)))).cell? _ = some _ from hx150_0)); clear hn150_0; clear hn150_1; replace p150 := eq_true p150; replace q150 := eq_true q150)); try go_wp2_with (first | ((with_reducible refine gate_dst (N := 5) rfl ?_); (try (refine gate_guard (by rfl) ?_; dsimp only)); refine box_event ?hg (N := 5) ?hd (cs := #[.int .i64 0, .string (⟨#[]⟩ : ByteArray)]) (t := 27) ?hr ?_; (case hd => rfl); (case hg => rfl); (case hr => first | (go_simp; done) | (go_simp; rfl)); intro gb149 hg w21 hbox hb; replace HO_3 := Aside0.mk (Kd.R_below (qR HO_3.out) hb); have BK149 := Aside0.mk (hbox); have GW149 := Aside0.mk ((by rw [hg]; exact (below_size (hq1 HB.out GE144.out)) : w.heap.size ≤ gb149)); have GE149 := Aside0.mk ((by rw [hg]; exact (below_size (hq1 HB.out GE144.out)) : w.heap.size ≤ gb149)); replace HB := Aside0.mk (below_step (hq1 HB.out GE144.out) hb); have NB144_149 := Aside0.mk ((by rw [hg]; exact Nat.ne_of_lt (blk_lt (g := gb144) (o := .cells #[.int .i64 a0_0, .slice (some ad148) l0_1.length c0_1] 25 (0, 0)) (bq BK144.out)) : gb144 ≠ gb149)); have NB149_144 := Aside0.mk ((by rw [hg]; exact Nat.ne_of_gt (blk_lt (g := gb144) (o := .cells #[.int .i64 a0_0, .slice (some ad148) l0_1.length c0_1] 25 (0, 0)) (bq BK144.out)) : gb149 ≠ gb144)); replace BK144 := Aside0.mk (blk_below (g := gb144) (o := .cells #[.int .i64 a0_0, .slice (some ad148) l0_1.length c0_1] 25 (0, 0)) (bq BK144.out) hb); clear hb hbox hg; have hnb22 := NB149_144.out; have hnc22 := NB144_149.out; have hcz23_0 : w21.cell? ⟨gb149, 0, none⟩ = some (.int .i64 0) := (blk_cell BK149.out 0).trans rfl; have hcz23_1 : w21.cell? ⟨gb149, 1, none⟩ = some (.string (⟨#[]⟩ : ByteArray)) := (blk_cell BK149.out 1).trans rfl; have hfz23_0 := blk_frozen BK149.out 0; have hfz23_1 := blk_frozen BK149.out 1; obtain ⟨Ao24, co24, eo24⟩ := Kd.R_slice HO_3.out; subst eo24; have p150 : 0 ≤ ((ji17) : Int) := of_decide_eq_true aq; have q150 : (ji17) < (t145.length : Int) := of_decide_eq_true aq; obtain ⟨ad150, e150, hx150_0⟩ := Kd.at_int (Kd.R_reads' HO_3.out).2.2 (ji17) p150 q150; cases e150; have hn150_0 : ad150.block ≠ gb149 := Kd.own_blk (Kd.R_ne HO_3.out BK149.out (by decide)); have hn150_1 : ad150.block ≠ gb149 := Kd.own_blk (Kd.R_ne HO_3.out BK149.out (by decide)); replace hx150_0 := (cell_far (p := ⟨gb149, 0, none⟩) (by first | (rw [add_block]; exact hn150_0) | (show (Addr.add _ _).block ≠ _; rw [add_block]; exact hn150_0) | exact hn150_0) (.int .i64 ((rd_T27 l0_1 x24_2).f0))).trans hx150_0; replace hx150_0 := (cell_far (p := ⟨gb149, 1, none⟩) (by first | (rw [add_block]; exact hn150_1) | (show (Addr.add _ _).block ≠ _; rw [add_block]; exact hn150_1) | exact hn150_1) (.string ((rd_T27 l0_1 x24_2).f1))).trans hx150_0; (try have hy150_0 := fun (n_ : Nat) => (show ((((w21.drewN n_).setCell ⟨gb149, 0, none⟩ (.int .i64 ((rd_T27 l0_1 x24_2).f0))).setCell ⟨gb149, 1, none⟩ (.string ((rd_T27 l0_1 x24_2).f1)))).cell? _ = some _ from hx150_0)); clear hn150_0; clear hn150_1; replace p150 := eq_true p150; replace q150 := eq_true q150)))
             go_roundg k2
             case measure => have := HJ2.out; have := HK2.out; omega
             case rel => exact ⟨(wrap64 (x24_2 + 1)), dq, H', ⟨by have := HJ2.out; have := HK2.out; omega⟩, ⟨by (with_reducible repeat (first | apply Kd.R_alloc | apply Kd.R_drewN | apply Kd.R_drew)); exact Kd.R_mono (Kd.R_far (p := ⟨gb149, 1, none⟩) (Kd.R_far (p := ⟨gb149, 0, none⟩) (Kd.R_types HO_3.out BK149.out (by decide)) (fun _ hk => hk.2) (.int .i64 ((rd_T27 l0_1 x24_2).f0))) (fun _ hk => hk.2) (.string ((rd_T27 l0_1 x24_2).f1))) (fun _ hk => trivial)⟩, ⟨by (with_reducible repeat (first | refine blk_drewN ?_ _ | refine blk_drew ?_ | refine blk_alloc ?_ _)); refine blk_far ?_ NB144_149.out _; (with_reducible repeat (first | refine blk_drewN ?_ _ | refine blk_drew ?_ | refine blk_alloc ?_ _)); refine blk_far ?_ NB144_149.out _; (with_reducible repeat (first | refine blk_drewN ?_ _ | refine blk_drew ?_ | refine blk_alloc ?_ _)); exact BK144.out⟩, ⟨hq2 HB.out GE144.out GE149.out⟩⟩
            ·rw [if_neg c20] at H
             have c20b0 : (((rd_T27 l0_1 x24_2).f0) == (rd t145 (ji17))) = false := beq_eq_false_iff_ne.mpr c20
             have c20b1 : (((rd_T27 l0_1 x24_2).f0) != (rd t145 (ji17))) = true := bne_iff_ne.mpr c20
             obtain rfl := Option.some.inj H
             have p148 : 0 ≤ (x24_2 : Int) := of_decide_eq_true aq
             have q148 : x24_2 < (l0_1.length : Int) := of_decide_eq_true aq
             obtain ⟨ad148, e148, hx148_0, hx148_1⟩ := at_T27 HR0_1.out x24_2 p148 q148
             cases e148
             replace hx148_0 := (HB.out.cell (World.block_lt_of_cell? w _ hx148_0)).trans hx148_0
             replace hx148_1 := (HB.out.cell (World.block_lt_of_cell? w _ hx148_1)).trans hx148_1
             replace p148 := eq_true p148
             replace q148 := eq_true q148
             go_wp2_with (first | ((with_reducible refine gate_dst (N := 5) rfl ?_); (try (refine gate_guard (by rfl) ?_; dsimp only)); refine box_event ?hg (N := 5) ?hd (cs := #[.int .i64 0, .string (⟨#[]⟩ : ByteArray)]) (t := 27) ?hr ?_; (case hd => rfl); (case hg => rfl); (case hr => first | (go_simp; done) | (go_simp; rfl)); intro gb149 hg w25 hbox hb; replace HO_3 := Aside0.mk (Kd.R_below (qR HO_3.out) hb); have BK149 := Aside0.mk (hbox); have GW149 := Aside0.mk ((by rw [hg]; exact (below_size (hq1 HB.out GE144.out)) : w.heap.size ≤ gb149)); have GE149 := Aside0.mk ((by rw [hg]; exact (below_size (hq1 HB.out GE144.out)) : w.heap.size ≤ gb149)); replace HB := Aside0.mk (below_step (hq1 HB.out GE144.out) hb); have NB144_149 := Aside0.mk ((by rw [hg]; exact Nat.ne_of_lt (blk_lt (g := gb144) (o := .cells #[.int .i64 a0_0, .slice (some ad148) l0_1.length c0_1] 25 (0, 0)) (bq BK144.out)) : gb144 ≠ gb149)); have NB149_144 := Aside0.mk ((by rw [hg]; exact Nat.ne_of_gt (blk_lt (g := gb144) (o := .cells #[.int .i64 a0_0, .slice (some ad148) l0_1.length c0_1] 25 (0, 0)) (bq BK144.out)) : gb149 ≠ gb144)); replace BK144 := Aside0.mk (blk_below (g := gb144) (o := .cells #[.int .i64 a0_0, .slice (some ad148) l0_1.length c0_1] 25 (0, 0)) (bq BK144.out) hb); clear hb hbox hg; have hnb26 := NB149_144.out; have hnc26 := NB144_149.out; have hcz27_0 : w25.cell? ⟨gb149, 0, none⟩ = some (.int .i64 0) := (blk_cell BK149.out 0).trans rfl; have hcz27_1 : w25.cell? ⟨gb149, 1, none⟩ = some (.string (⟨#[]⟩ : ByteArray)) := (blk_cell BK149.out 1).trans rfl; have hfz27_0 := blk_frozen BK149.out 0; have hfz27_1 := blk_frozen BK149.out 1; obtain ⟨Ao28, co28, eo28⟩ := Kd.R_slice HO_3.out; subst eo28; have p150 : 0 ≤ ((ji17) : Int) := of_decide_eq_true aq; have q150 : (ji17) < (t145.length : Int) := of_decide_eq_true aq; obtain ⟨ad150, e150, hx150_0⟩ := Kd.at_int (Kd.R_reads' HO_3.out).2.2 (ji17) p150 q150; cases e150; have hn150_0 : ad150.block ≠ gb149 := Kd.own_blk (Kd.R_ne HO_3.out BK149.out (by decide)); have hn150_1 : ad150.block ≠ gb149 := Kd.own_blk (Kd.R_ne HO_3.out BK149.out (by decide)); replace hx150_0 := (cell_far (p := ⟨gb149, 0, none⟩) (by first | (rw [add_block]; exact hn150_0) | (show (Addr.add _ _).block ≠ _; rw [add_block]; exact hn150_0) | exact hn150_0) (.int .i64 ((rd_T27 l0_1 x24_2).f0))).trans hx150_0; replace hx150_0 := (cell_far (p := ⟨gb149, 1, none⟩) (by first | (rw [add_block]; exact hn150_1) | (show (Addr.add _ _).block ≠ _; rw [add_block]; exact hn150_1) | exact hn150_1) (.string ((rd_T27 l0_1 x24_2).f1))).trans hx150_0; (try have hy150_0 := fun (n_ : Nat) => (show ((((w25.drewN n_).setCell ⟨gb149, 0, none⟩ (.int .i64 ((rd_T27 l0_1 x24_2).f0))).setCell ⟨gb149, 1, none⟩ (.string ((rd_T27 l0_1 x24_2).f1)))).cell? _ = some _ from hx150_0)); clear hn150_0; clear hn150_1; replace p150 := eq_true p150; replace q150 := eq_true q150))
             repeat (go_quiet (first | ((with_reducible refine gate_dst (N := 5) rfl ?_); (try (refine gate_guard (by rfl) ?_; dsimp only)); refine box_event ?hg (N := 5) ?hd (cs := #[.int .i64 0, .string (⟨#[]⟩ : ByteArray)]) (t := 27) ?hr ?_; (case hd => rfl); (case hg => rfl); (case hr => first | (go_simp; done) | (go_simp; rfl)); intro gb149 hg w25 hbox hb; replace HO_3 := Aside0.mk (Kd.R_below (qR HO_3.out) hb); have BK149 := Aside0.mk (hbox); have GW149 := Aside0.mk ((by rw [hg]; exact (below_size (hq1 HB.out GE144.out)) : w.heap.size ≤ gb149)); have GE149 := Aside0.mk ((by rw [hg]; exact (below_size (hq1 HB.out GE144.out)) : w.heap.size ≤ gb149)); replace HB := Aside0.mk (below_step (hq1 HB.out GE144.out) hb); have NB144_149 := Aside0.mk ((by rw [hg]; exact Nat.ne_of_lt (blk_lt (g := gb144) (o := .cells #[.int .i64 a0_0, .slice (some ad148) l0_1.length c0_1] 25 (0, 0)) (bq BK144.out)) : gb144 ≠ gb149)); have NB149_144 := Aside0.mk ((by rw [hg]; exact Nat.ne_of_gt (blk_lt (g := gb144) (o := .cells #[.int .i64 a0_0, .slice (some ad148) l0_1.length c0_1] 25 (0, 0)) (bq BK144.out)) : gb149 ≠ gb144)); replace BK144 := Aside0.mk (blk_below (g := gb144) (o := .cells #[.int .i64 a0_0, .slice (some ad148) l0_1.length c0_1] 25 (0, 0)) (bq BK144.out) hb); clear hb hbox hg; have hnb26 := NB149_144.out; have hnc26 := NB144_149.out; have hcz27_0 : w25.cell? ⟨gb149, 0, none⟩ = some (.int .i64 0) := (blk_cell BK149.out 0).trans rfl; have hcz27_1 : w25.cell? ⟨gb149, 1, none⟩ = some (.string (⟨#[]⟩ : ByteArray)) := (blk_cell BK149.out 1).trans rfl; have hfz27_0 := blk_frozen BK149.out 0; have hfz27_1 := blk_frozen BK149.out 1; obtain ⟨Ao28, co28, eo28⟩ := Kd.R_slice HO_3.out; subst eo28; have p150 : 0 ≤ ((ji17) : Int) := of_decide_eq_true aq; have q150 : (ji17) < (t145.length : Int) := of_decide_eq_true aq; obtain ⟨ad150, e150, hx150_0⟩ := Kd.at_int (Kd.R_reads' HO_3.out).2.2 (ji17) p150 q150; cases e150; have hn150_0 : ad150.block ≠ gb149 := Kd.own_blk (Kd.R_ne HO_3.out BK149.out (by decide)); have hn150_1 : ad150.block ≠ gb149 := Kd.own_blk (Kd.R_ne HO_3.out BK149.out (by decide)); replace hx150_0 := (cell_far (p := ⟨gb149, 0, none⟩) (by first | (rw [add_block]; exact hn150_0) | (show (Addr.add _ _).block ≠ _; rw [add_block]; exact hn150_0) | exact hn150_0) (.int .i64 ((rd_T27 l0_1 x24_2).f0))).trans hx150_0; replace hx150_0 := (cell_far (p := ⟨gb149, 1, none⟩) (by first | (rw [add_block]; exact hn150_1) | (show (Addr.add _ _).block ≠ _; rw [add_block]; exact hn150_1) | exact hn150_1) (.string ((rd_T27 l0_1 x24_2).f1))).trans hx150_0; (try have hy150_0 := fun (n_ : Nat) => (show ((((w25.drewN n_).setCell ⟨gb149, 0, none⟩ (.int .i64 ((rd_T27 l0_1 x24_2).f0))).setCell ⟨gb149, 1, none⟩ (.string ((rd_T27 l0_1 x24_2).f1)))).cell? _ = some _ from hx150_0)); clear hn150_0; clear hn150_1; replace p150 := eq_true p150; replace q150 := eq_true q150)); try go_wp2_with (first | ((with_reducible refine gate_dst (N := 5) rfl ?_); (try (refine gate_guard (by rfl) ?_; dsimp only)); refine box_event ?hg (N := 5) ?hd (cs := #[.int .i64 0, .string (⟨#[]⟩ : ByteArray)]) (t := 27) ?hr ?_; (case hd => rfl); (case hg => rfl); (case hr => first | (go_simp; done) | (go_simp; rfl)); intro gb149 hg w25 hbox hb; replace HO_3 := Aside0.mk (Kd.R_below (qR HO_3.out) hb); have BK149 := Aside0.mk (hbox); have GW149 := Aside0.mk ((by rw [hg]; exact (below_size (hq1 HB.out GE144.out)) : w.heap.size ≤ gb149)); have GE149 := Aside0.mk ((by rw [hg]; exact (below_size (hq1 HB.out GE144.out)) : w.heap.size ≤ gb149)); replace HB := Aside0.mk (below_step (hq1 HB.out GE144.out) hb); have NB144_149 := Aside0.mk ((by rw [hg]; exact Nat.ne_of_lt (blk_lt (g := gb144) (o := .cells #[.int .i64 a0_0, .slice (some ad148) l0_1.length c0_1] 25 (0, 0)) (bq BK144.out)) : gb144 ≠ gb149)); have NB149_144 := Aside0.mk ((by rw [hg]; exact Nat.ne_of_gt (blk_lt (g := gb144) (o := .cells #[.int .i64 a0_0, .slice (some ad148) l0_1.length c0_1] 25 (0, 0)) (bq BK144.out)) : gb149 ≠ gb144)); replace BK144 := Aside0.mk (blk_below (g := gb144) (o := .cells #[.int .i64 a0_0, .slice (some ad148) l0_1.length c0_1] 25 (0, 0)) (bq BK144.out) hb); clear hb hbox hg; have hnb26 := NB149_144.out; have hnc26 := NB144_149.out; have hcz27_0 : w25.cell? ⟨gb149, 0, none⟩ = some (.int .i64 0) := (blk_cell BK149.out 0).trans rfl; have hcz27_1 : w25.cell? ⟨gb149, 1, none⟩ = some (.string (⟨#[]⟩ : ByteArray)) := (blk_cell BK149.out 1).trans rfl; have hfz27_0 := blk_frozen BK149.out 0; have hfz27_1 := blk_frozen BK149.out 1; obtain ⟨Ao28, co28, eo28⟩ := Kd.R_slice HO_3.out; subst eo28; have p150 : 0 ≤ ((ji17) : Int) := of_decide_eq_true aq; have q150 : (ji17) < (t145.length : Int) := of_decide_eq_true aq; obtain ⟨ad150, e150, hx150_0⟩ := Kd.at_int (Kd.R_reads' HO_3.out).2.2 (ji17) p150 q150; cases e150; have hn150_0 : ad150.block ≠ gb149 := Kd.own_blk (Kd.R_ne HO_3.out BK149.out (by decide)); have hn150_1 : ad150.block ≠ gb149 := Kd.own_blk (Kd.R_ne HO_3.out BK149.out (by decide)); replace hx150_0 := (cell_far (p := ⟨gb149, 0, none⟩) (by first | (rw [add_block]; exact hn150_0) | (show (Addr.add _ _).block ≠ _; rw [add_block]; exact hn150_0) | exact hn150_0) (.int .i64 ((rd_T27 l0_1 x24_2).f0))).trans hx150_0; replace hx150_0 := (cell_far (p := ⟨gb149, 1, none⟩) (by first | (rw [add_block]; exact hn150_1) | (show (Addr.add _ _).block ≠ _; rw [add_block]; exact hn150_1) | exact hn150_1) (.string ((rd_T27 l0_1 x24_2).f1))).trans hx150_0; (try have hy150_0 := fun (n_ : Nat) => (show ((((w25.drewN n_).setCell ⟨gb149, 0, none⟩ (.int .i64 ((rd_T27 l0_1 x24_2).f0))).setCell ⟨gb149, 1, none⟩ (.string ((rd_T27 l0_1 x24_2).f1)))).cell? _ = some _ from hx150_0)); clear hn150_0; clear hn150_1; replace p150 := eq_true p150; replace q150 := eq_true q150)))
             go_ret
             exact ⟨by first | rfl | (simp [errW_none, errW_some] <;> rfl) | (simp only [← hji17]; first | rfl | (simp [errW_none, errW_some] <;> rfl)) | (simp [*, errW_none, errW_some] <;> rfl), hq2 HB.out GE144.out GE149.out⟩
           ·rw [if_neg c19] at H
            exact absurd H (by simp)
          ·rw [if_neg c18] at H
           exact absurd H (by simp)
        ·rw [if_neg c15] at H
         exact absurd H (by simp)
       ·rw [if_neg c14] at H
        exact absurd H (by simp)
      ·rw [if_neg c13] at H
       have c13b0 := decide_eq_false c13
       clear c13
       obtain rfl := Option.some.inj H
       go_wp2
       repeat (go_quiet (fail); try go_wp2)
       go_ret
       exact ⟨rq_, hq1 HB.out GE144.out⟩

/-! ### keyeventref03_Raw: function 41 -/
def keyeventref03_Raw.f (a0 : Int) : Option (Int) := if a0 < 1 then (some 0) else (if a0 > 8 then (some 0) else ((some (([0,32,32,32,32,16,2,626,6] : List Int) : List Int)).bind fun y151 => (if 0 ≤ a0 then (if a0 < (y151.length : Int) then (some (rd y151 a0)) else (none)) else (none))))
set_option maxHeartbeats 8000000 in
set_option maxRecDepth 100000 in
theorem keyeventref03_Raw.calls (a0 : Int) (r : Int) (w : World) (h : keyeventref03_Raw.f a0 = some r) :
    Calls Try.prog 41 #[.int .i64 a0] w fun e w' => e = .returned (.int .i64 r) ∧ Below w.heap.size w w' := by
 have HB := Aside0.mk (Below.refl w.heap.size w)
 have H : (if a0 < 1 then (some 0) else (if a0 > 8 then (some 0) else ((some (([0,32,32,32,32,16,2,626,6] : List Int) : List Int)).bind fun y151 => (if 0 ≤ a0 then (if a0 < (y151.length : Int) then (some (rd y151 a0)) else (none)) else (none))))) = some r := h
 clear h
 by_cases c2 : a0 < 1
 ·rw [if_pos c2] at H
  have c2b0 := decide_eq_true c2
  clear c2
  obtain rfl := Option.some.inj H
  go_enter Try.func41, Try.ntmps41
  go_wp2
  go_ret
  exact ⟨rq_, hq HB.out⟩
 ·rw [if_neg c2] at H
  have c2b0 := decide_eq_false c2
  clear c2
  by_cases c3 : a0 > 8
  ·rw [if_pos c3] at H
   have c3b0 := decide_eq_true c3
   clear c3
   obtain rfl := Option.some.inj H
   go_enter Try.func41, Try.ntmps41
   go_wp2
   go_ret
   exact ⟨rq_, hq HB.out⟩
  ·rw [if_neg c3] at H
   have c3b0 := decide_eq_false c3
   clear c3
   obtain ⟨y151, hy151⟩ : ∃ y_ : List Int, y_ = (([0,32,32,32,32,16,2,626,6] : List Int)) := ⟨_, rfl⟩
   replace H : (if 0 ≤ a0 then (if a0 < (y151.length : Int) then (some (rd y151 a0)) else (none)) else (none)) = some r := by first | (rw [hy151]; with_reducible exact H) | (have H2_ := (Option.bind_some _ _).symm.trans H; rw [hy151]; with_reducible exact H2_) | (have H2_ := (Option.bind_some _ _).symm.trans H; with_reducible exact H2_) | with_reducible exact H | (rw [hy151]; exact H) | exact H
   have Ny151 := Aside0.mk hy151
   clear hy151
   by_cases c4 : 0 ≤ a0
   ·rw [if_pos c4] at H
    have c4b0 := decide_eq_true c4
    clear c4
    by_cases c5 : a0 < (y151.length : Int)
    ·rw [if_pos c5] at H
     have c5b0 := decide_eq_true c5
     clear c5
     obtain rfl := Option.some.inj H
     go_enter Try.func41, Try.ntmps41
     go_wp2_with (first | ((with_reducible refine gate_dst (N := 9) rfl ?_); refine Kd.R_lit (Kd.int .i64) _ 3 ?hg (N := 9) ?hd (xs := ([0,32,32,32,32,16,2,626,6] : List Int)) (inner := [.int .i64 0, .int .i64 32, .int .i64 32, .int .i64 32, .int .i64 32, .int .i64 16, .int .i64 2, .int .i64 626, .int .i64 6]) (ok := fun _ => True) (okp := fun _ => True) ?hr ?hp (fun _ hk => hk) trivial (Below.refl _ _) (Nat.le_refl _) (by simp) ?_; (case hd => rfl); (case hg => rfl); (case hr => first | (go_simp; done) | (go_simp; rfl)); (case hp => exact (Reps.one (show Kd.M (Kd.int .i64) _ _ _ 0 [.int .i64 0] from rfl) (Reps.one (show Kd.M (Kd.int .i64) _ _ _ 32 [.int .i64 32] from rfl) (Reps.one (show Kd.M (Kd.int .i64) _ _ _ 32 [.int .i64 32] from rfl) (Reps.one (show Kd.M (Kd.int .i64) _ _ _ 32 [.int .i64 32] from rfl) (Reps.one (show Kd.M (Kd.int .i64) _ _ _ 32 [.int .i64 32] from rfl) (Reps.one (show Kd.M (Kd.int .i64) _ _ _ 16 [.int .i64 16] from rfl) (Reps.one (show Kd.M (Kd.int .i64) _ _ _ 2 [.int .i64 2] from rfl) (Reps.one (show Kd.M (Kd.int .i64) _ _ _ 626 [.int .i64 626] from rfl) (Reps.one (show Kd.M (Kd.int .i64) _ _ _ 6 [.int .i64 6] from rfl) (Reps.none _ _))))))))))); intro v152 w6 ho7 hb hg_ hnew_; clear hg_ hnew_; (first | rw [← Ny151.out] at ho7 | (simp only [Int.reduceToNat] at ho7; rw [← Ny151.out] at ho7)); have HO153 := Aside0.mk (Kd.R_lower ho7 (below_size (hq HB.out))); replace HB := Aside0.mk (below_step (hq HB.out) hb); clear hb ho7; obtain ⟨Ao8, co8, eo8⟩ := Kd.R_slice HO153.out; subst eo8; have p154 : 0 ≤ (a0 : Int) := of_decide_eq_true aq; have q154 : a0 < (y151.length : Int) := of_decide_eq_true aq; obtain ⟨ad154, e154, hx154_0⟩ := Kd.at_int (Kd.R_reads' HO153.out).2.2 a0 p154 q154; cases e154; replace p154 := eq_true p154; replace q154 := eq_true q154))
     go_ret
     exact ⟨rq_, hq HB.out⟩
    ·rw [if_neg c5] at H
     exact absurd H (by simp)
   ·rw [if_neg c4] at H
    exact absurd H (by simp)

/-! ### keyeventref03_Code: function 55 -/
def keyeventref03_Code.f (a0 : Int) : Option (ByteArray × Bool) := if a0 < 1 then (some ((⟨#[]⟩ : ByteArray), false)) else (if a0 > 8 then (some ((⟨#[]⟩ : ByteArray), false)) else ((some (([(⟨#[]⟩ : ByteArray), (⟨#[69]⟩ : ByteArray), (⟨#[68]⟩ : ByteArray), (⟨#[66]⟩ : ByteArray), (⟨#[65]⟩ : ByteArray), (⟨#[48,65]⟩ : ByteArray), (⟨#[77]⟩ : ByteArray), (⟨#[83]⟩ : ByteArray), (⟨#[49,65,65,76]⟩ : ByteArray)] : List ByteArray) : List ByteArray)).bind fun y155 => (if 0 ≤ a0 then (if a0 < (y155.length : Int) then (some (rdOf ByteArray.empty y155 a0, true)) else (none)) else (none))))
set_option maxHeartbeats 8000000 in
set_option maxRecDepth 100000 in
theorem keyeventref03_Code.calls (a0 : Int) (r1 : ByteArray) (r2 : Bool) (w : World) (h : keyeventref03_Code.f a0 = some (r1, r2)) :
    Calls Try.prog 55 #[.int .i64 a0] w fun e w' => e = .returned (.tuple #[.string r1, .bool r2]) ∧ Below w.heap.size w w' := by
 have HB := Aside0.mk (Below.refl w.heap.size w)
 have H : (if a0 < 1 then (some ((⟨#[]⟩ : ByteArray), false)) else (if a0 > 8 then (some ((⟨#[]⟩ : ByteArray), false)) else ((some (([(⟨#[]⟩ : ByteArray), (⟨#[69]⟩ : ByteArray), (⟨#[68]⟩ : ByteArray), (⟨#[66]⟩ : ByteArray), (⟨#[65]⟩ : ByteArray), (⟨#[48,65]⟩ : ByteArray), (⟨#[77]⟩ : ByteArray), (⟨#[83]⟩ : ByteArray), (⟨#[49,65,65,76]⟩ : ByteArray)] : List ByteArray) : List ByteArray)).bind fun y155 => (if 0 ≤ a0 then (if a0 < (y155.length : Int) then (some (rdOf ByteArray.empty y155 a0, true)) else (none)) else (none))))) = some (r1, r2) := h
 clear h
 by_cases c2 : a0 < 1
 ·rw [if_pos c2] at H
  have c2b0 := decide_eq_true c2
  clear c2
  simp only [Option.some.injEq, Prod.mk.injEq] at H
  obtain ⟨rfl, rfl⟩ := H
  go_enter Try.func55, Try.ntmps55
  go_wp2
  go_ret2
  exact ⟨rq_, hq HB.out⟩
 ·rw [if_neg c2] at H
  have c2b0 := decide_eq_false c2
  clear c2
  by_cases c3 : a0 > 8
  ·rw [if_pos c3] at H
   have c3b0 := decide_eq_true c3
   clear c3
   simp only [Option.some.injEq, Prod.mk.injEq] at H
   obtain ⟨rfl, rfl⟩ := H
   go_enter Try.func55, Try.ntmps55
   go_wp2
   go_ret2
   exact ⟨rq_, hq HB.out⟩
  ·rw [if_neg c3] at H
   have c3b0 := decide_eq_false c3
   clear c3
   obtain ⟨y155, hy155⟩ : ∃ y_ : List ByteArray, y_ = (([(⟨#[]⟩ : ByteArray), (⟨#[69]⟩ : ByteArray), (⟨#[68]⟩ : ByteArray), (⟨#[66]⟩ : ByteArray), (⟨#[65]⟩ : ByteArray), (⟨#[48,65]⟩ : ByteArray), (⟨#[77]⟩ : ByteArray), (⟨#[83]⟩ : ByteArray), (⟨#[49,65,65,76]⟩ : ByteArray)] : List ByteArray)) := ⟨_, rfl⟩
   replace H : (if 0 ≤ a0 then (if a0 < (y155.length : Int) then (some (rdOf ByteArray.empty y155 a0, true)) else (none)) else (none)) = some (r1, r2) := by first | (rw [hy155]; with_reducible exact H) | (have H2_ := (Option.bind_some _ _).symm.trans H; rw [hy155]; with_reducible exact H2_) | (have H2_ := (Option.bind_some _ _).symm.trans H; with_reducible exact H2_) | with_reducible exact H | (rw [hy155]; exact H) | exact H
   have Ny155 := Aside0.mk hy155
   clear hy155
   by_cases c4 : 0 ≤ a0
   ·rw [if_pos c4] at H
    have c4b0 := decide_eq_true c4
    clear c4
    by_cases c5 : a0 < (y155.length : Int)
    ·rw [if_pos c5] at H
     have c5b0 := decide_eq_true c5
     clear c5
     simp only [Option.some.injEq, Prod.mk.injEq] at H
     obtain ⟨rfl, rfl⟩ := H
     go_enter Try.func55, Try.ntmps55
     go_wp2_with (first | ((with_reducible refine gate_dst (N := 10) rfl ?_); refine Kd.R_lit Kd.string _ 9 ?hg (N := 10) ?hd (xs := ([(⟨#[]⟩ : ByteArray), (⟨#[69]⟩ : ByteArray), (⟨#[68]⟩ : ByteArray), (⟨#[66]⟩ : ByteArray), (⟨#[65]⟩ : ByteArray), (⟨#[48,65]⟩ : ByteArray), (⟨#[77]⟩ : ByteArray), (⟨#[83]⟩ : ByteArray), (⟨#[49,65,65,76]⟩ : ByteArray)] : List ByteArray)) (inner := [.string (⟨#[]⟩ : ByteArray), .string (⟨#[69]⟩ : ByteArray), .string (⟨#[68]⟩ : ByteArray), .string (⟨#[66]⟩ : ByteArray), .string (⟨#[65]⟩ : ByteArray), .string (⟨#[48,65]⟩ : ByteArray), .string (⟨#[77]⟩ : ByteArray), .string (⟨#[83]⟩ : ByteArray), .string (⟨#[49,65,65,76]⟩ : ByteArray)]) (ok := fun _ => True) (okp := fun _ => True) ?hr ?hp (fun _ hk => hk) trivial (Below.refl _ _) (Nat.le_refl _) (by simp) ?_; (case hd => rfl); (case hg => rfl); (case hr => first | (go_simp; done) | (go_simp; rfl)); (case hp => exact (Reps.one (show Kd.M Kd.string _ _ _ (⟨#[]⟩ : ByteArray) [.string (⟨#[]⟩ : ByteArray)] from rfl) (Reps.one (show Kd.M Kd.string _ _ _ (⟨#[69]⟩ : ByteArray) [.string (⟨#[69]⟩ : ByteArray)] from rfl) (Reps.one (show Kd.M Kd.string _ _ _ (⟨#[68]⟩ : ByteArray) [.string (⟨#[68]⟩ : ByteArray)] from rfl) (Reps.one (show Kd.M Kd.string _ _ _ (⟨#[66]⟩ : ByteArray) [.string (⟨#[66]⟩ : ByteArray)] from rfl) (Reps.one (show Kd.M Kd.string _ _ _ (⟨#[65]⟩ : ByteArray) [.string (⟨#[65]⟩ : ByteArray)] from rfl) (Reps.one (show Kd.M Kd.string _ _ _ (⟨#[48,65]⟩ : ByteArray) [.string (⟨#[48,65]⟩ : ByteArray)] from rfl) (Reps.one (show Kd.M Kd.string _ _ _ (⟨#[77]⟩ : ByteArray) [.string (⟨#[77]⟩ : ByteArray)] from rfl) (Reps.one (show Kd.M Kd.string _ _ _ (⟨#[83]⟩ : ByteArray) [.string (⟨#[83]⟩ : ByteArray)] from rfl) (Reps.one (show Kd.M Kd.string _ _ _ (⟨#[49,65,65,76]⟩ : ByteArray) [.string (⟨#[49,65,65,76]⟩ : ByteArray)] from rfl) (Reps.none _ _))))))))))); intro v156 w6 ho7 hb hg_ hnew_; clear hg_ hnew_; (first | rw [← Ny155.out] at ho7 | (simp only [Int.reduceToNat] at ho7; rw [← Ny155.out] at ho7)); have HO157 := Aside0.mk (Kd.R_lower ho7 (below_size (hq HB.out))); replace HB := Aside0.mk (below_step (hq HB.out) hb); clear hb ho7; obtain ⟨Ao8, co8, eo8⟩ := Kd.R_slice HO157.out; subst eo8; have p158 : 0 ≤ (a0 : Int) := of_decide_eq_true aq; have q158 : a0 < (y155.length : Int) := of_decide_eq_true aq; obtain ⟨ad158, e158, hx158_0⟩ := Kd.at_string (Kd.R_reads' HO157.out).2.2 a0 p158 q158; cases e158; replace p158 := eq_true p158; replace q158 := eq_true q158))
     go_ret2
     exact ⟨rq_, hq HB.out⟩
    ·rw [if_neg c5] at H
     exact absurd H (by simp)
   ·rw [if_neg c4] at H
    exact absurd H (by simp)

/-! ### keyeventref03_lead: function 56 -/
def keyeventref03_lead.f (a0 : Int) : Option (Int) := (keyeventref03_Raw.f a0).bind fun t159 => (some (Int.tmod (wrap64 (3 - (Int.tmod t159 3))) 3))
set_option maxHeartbeats 8000000 in
set_option maxRecDepth 100000 in
theorem keyeventref03_lead.calls (a0 : Int) (r : Int) (w : World) (h : keyeventref03_lead.f a0 = some r) :
    Calls Try.prog 56 #[.int .i64 a0] w fun e w' => e = .returned (.int .i64 r) ∧ Below w.heap.size w w' := by
 have HB := Aside0.mk (Below.refl w.heap.size w)
 have H : ((keyeventref03_Raw.f a0).bind fun t159 => (some (Int.tmod (wrap64 (3 - (Int.tmod t159 3))) 3))) = some r := h
 clear h
 obtain ⟨t159, A2, H⟩ := bindS H
 obtain rfl := Option.some.inj H
 go_enter Try.func56, Try.ntmps56
 go_wp2_with (first | ((with_reducible refine gate_callee (f := 41) rfl ?_); refine goesL_ (some 4) rfl rfl Try.func41 (by kernel_rfl) rfl #[.int .i64 a0] rfl eq_ ?_; (with_reducible refine (keyeventref03_Raw.calls a0 t159 _ A2.out).mono ?_); rintro e w3 ⟨rfl, hb⟩; refine ⟨_, rfl, ?_⟩; replace HB := Aside0.mk (below_step (hq HB.out) hb); (try clear hb)))
 go_ret
 exact ⟨rq_, hq HB.out⟩

end Go.Proofs.Ytookjdhfpbmjkaa.X
