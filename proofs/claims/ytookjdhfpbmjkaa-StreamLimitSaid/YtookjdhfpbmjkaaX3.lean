-- Written by xprint.py, a program of this repo that leads the kit's print.py: Lean checks it.
import Derived.Test.YtookjdhfpbmjkaaX0
import Derived.Test.YtookjdhfpbmjkaaX2
namespace Go.Proofs.Ytookjdhfpbmjkaa.X
open Go.RowKit Go.Proofs.YtookjdhfpbmjkaaW.PrintWords Go.Proofs.YtookjdhfpbmjkaaW.PrintLast Go.Proofs.YtookjdhfpbmjkaaW.PrintMore
attribute [local go_sem] max2_int min2_int max_two min_two max_three min_three max_four min_four   -- for this text's walks alone
set_option linter.unusedVariables false
set_option linter.unusedSimpArgs false

/-! ### stream_follows: function 31 -/
mutual
def stream_follows.j0 : Nat → List Int → Bool → Int → List (S27) → Option (Bool)
  | 0, _, _, _, _ => none
  | k + 1, x3, x20, x108000, x108001 => if x20 = true then (some false) else (stream_follows.l0 k x3 x108001 (x108001.length : Int) 0)
def stream_follows.l0 : Nat → List Int → List (S27) → Int → Int → Option (Bool)
  | 0, _, _, _, _ => none
  | k + 1, x3, x22, x23, x24 => if x24 < x23 then (if 0 ≤ x24 then (if x24 < (x22.length : Int) then (if (x3.length : Int) = 0 then (none) else (if 0 ≤ (Int.tmod x24 (x3.length : Int)) then (if (Int.tmod x24 (x3.length : Int)) < (x3.length : Int) then (if ((rd_T27 x22 x24).f0) = (rd x3 (Int.tmod x24 (x3.length : Int))) then (stream_follows.l0 k x3 x22 x23 (wrap64 (x24 + 1))) else (some false)) else (none)) else (none))) else (none)) else (none)) else (some true)
end
def stream_follows.f (k : Nat) (a0_0 : Int) (l0_1 : List (S27)) : Option (Bool) := (stream_Permitted.f a0_0).bind fun t108 => (if (t108.length : Int) = 0 then (stream_follows.j0 k t108 true a0_0 l0_1) else (stream_follows.j0 k t108 (((l0_1.length : Int) % (t108.length : Int)) != 0) a0_0 l0_1))
theorem stream_follows.mono_l : ∀ k, (∀ y0 y1 y2 y3, LeO (stream_follows.j0 k y0 y1 y2 y3) (stream_follows.j0 (k + 1) y0 y1 y2 y3)) ∧ (∀ y0 y1 y2 y3, LeO (stream_follows.l0 k y0 y1 y2 y3) (stream_follows.l0 (k + 1) y0 y1 y2 y3))
  | 0 => ⟨fun _ _ _ _ r h => by simp [stream_follows.j0] at h, fun _ _ _ _ r h => by simp [stream_follows.l0] at h⟩
  | k + 1 => by
    obtain ⟨ih0, ih1⟩ := stream_follows.mono_l k
    refine ⟨?_, ?_⟩
    · intro y0 y1 y2 y3
      unfold stream_follows.j0
      repeat' first
      | (with_reducible exact ih0 _ _ _ _)
      | (with_reducible exact ih1 _ _ _ _)
      | (with_reducible exact LeO.refl _)
      | (with_reducible exact LeO.none _)
      | (with_reducible refine LeO.ite ?_ ?_)
      | (with_reducible refine LeO.bind ?_ (fun _ => ?_))
      | exact ih0 _ _ _ _
      | exact ih1 _ _ _ _
      | exact LeO.none _
      | refine LeO.ite ?_ ?_
      | refine LeO.bind ?_ (fun _ => ?_)
    · intro y0 y1 y2 y3
      unfold stream_follows.l0
      repeat' first
      | (with_reducible exact ih0 _ _ _ _)
      | (with_reducible exact ih1 _ _ _ _)
      | (with_reducible exact LeO.refl _)
      | (with_reducible exact LeO.none _)
      | (with_reducible refine LeO.ite ?_ ?_)
      | (with_reducible refine LeO.bind ?_ (fun _ => ?_))
      | exact ih0 _ _ _ _
      | exact ih1 _ _ _ _
      | exact LeO.none _
      | refine LeO.ite ?_ ?_
      | refine LeO.bind ?_ (fun _ => ?_)
theorem stream_follows.mono : ∀ a0 a1 k, LeO (stream_follows.f k a0 a1) (stream_follows.f (k + 1) a0 a1) := by
  intro a0 a1 k
  obtain ⟨ih0, ih1⟩ := stream_follows.mono_l k
  unfold stream_follows.f
  repeat' first
      | (with_reducible exact ih0 _ _ _ _)
      | (with_reducible exact ih1 _ _ _ _)
      | (with_reducible exact LeO.refl _)
      | (with_reducible exact LeO.none _)
      | (with_reducible refine LeO.ite ?_ ?_)
      | (with_reducible refine LeO.bind ?_ (fun _ => ?_))
      | exact ih0 _ _ _ _
      | exact ih1 _ _ _ _
      | exact LeO.none _
      | refine LeO.ite ?_ ?_
      | refine LeO.bind ?_ (fun _ => ?_)
set_option maxHeartbeats 8000000 in
set_option maxRecDepth 100000 in
theorem stream_follows.calls (k : Nat) (a0_0 : Int) (A0_1 : Option Addr) (c0_1 : Nat) (l0_1 : List (S27)) (r : Bool) (w : World) (hr0_1 : Kd.C k27 w A0_1 l0_1.length l0_1) (hc0_1 : l0_1.length ≤ c0_1) (h : stream_follows.f k a0_0 l0_1 = some r) :
    Calls Try.prog 31 #[.agg #[.int .i64 a0_0, .slice A0_1 l0_1.length c0_1]] w fun e w' => e = .returned (.bool r) ∧ Below w.heap.size w w' := by
 have hu25 := Try.underlying25
 have hu27 := Try.underlying27
 have HR0_1 := Aside0.mk hr0_1
 have HC0_1 := Aside0.mk hc0_1
 clear hr0_1 hc0_1
 have HB := Aside0.mk (Below.refl w.heap.size w)
 have H : ((stream_Permitted.f a0_0).bind fun t108 => (if (t108.length : Int) = 0 then (stream_follows.j0 k t108 true a0_0 l0_1) else (stream_follows.j0 k t108 (((l0_1.length : Int) % (t108.length : Int)) != 0) a0_0 l0_1))) = some r := h
 clear h
 obtain ⟨t108, A2, H⟩ := bindS H
 have HC3 := Aside0.mk H
 clear H
 go_enter Try.func31, Try.ntmps31
 go_upto_region 2 with (first | ((with_reducible refine gate_dst (N := 1) rfl ?_); (try (refine gate_guard (by rfl) ?_; dsimp only)); refine box_event ?hg (N := 1) ?hd (cs := #[.int .i64 a0_0, .slice A0_1 l0_1.length c0_1]) (t := 25) ?hr ?_; (case hd => rfl); (case hg => rfl); (case hr => first | (go_simp; done) | (go_simp; rfl)); intro gb107 hg w4 hbox hb; have BK107 := Aside0.mk (hbox); have GW107 := Aside0.mk ((by rw [hg]; exact (below_size (hq HB.out)) : w.heap.size ≤ gb107)); have GE107 := Aside0.mk ((by rw [hg]; exact (below_size (hq HB.out)) : w.heap.size ≤ gb107)); replace HB := Aside0.mk (below_step (hq HB.out) hb); clear hb hbox hg; have hcz5_0 : w4.cell? ⟨gb107, 0, none⟩ = some (.int .i64 a0_0) := (blk_cell BK107.out 0).trans rfl; have hcz5_1 : w4.cell? ⟨gb107, 1, none⟩ = some (.slice A0_1 l0_1.length c0_1) := (blk_cell BK107.out 1).trans rfl; have hfz5_0 := blk_frozen BK107.out 0; have hfz5_1 := blk_frozen BK107.out 1) | (go_at_call 17; (with_reducible refine (stream_Permitted.calls a0_0 t108 _ A2.out).mono ?_); rintro e w6 ⟨v109, rfl, ho0, hb⟩; have HO110 := Aside0.mk (Kd.R_lower ho0 (below_size (hq1 HB.out GE107.out))); replace BK107 := Aside0.mk (blk_below (g := gb107) (o := .cells #[.int .i64 a0_0, .slice A0_1 l0_1.length c0_1] 25 (0, 0)) (bq BK107.out) hb); replace HB := Aside0.mk (below_step (hq1 HB.out GE107.out) hb); (try clear hb); (try clear ho0)))
 repeat (go_quiet (first | ((with_reducible refine gate_dst (N := 1) rfl ?_); (try (refine gate_guard (by rfl) ?_; dsimp only)); refine box_event ?hg (N := 1) ?hd (cs := #[.int .i64 a0_0, .slice A0_1 l0_1.length c0_1]) (t := 25) ?hr ?_; (case hd => rfl); (case hg => rfl); (case hr => first | (go_simp; done) | (go_simp; rfl)); intro gb107 hg w4 hbox hb; have BK107 := Aside0.mk (hbox); have GW107 := Aside0.mk ((by rw [hg]; exact (below_size (hq HB.out)) : w.heap.size ≤ gb107)); have GE107 := Aside0.mk ((by rw [hg]; exact (below_size (hq HB.out)) : w.heap.size ≤ gb107)); replace HB := Aside0.mk (below_step (hq HB.out) hb); clear hb hbox hg; have hcz5_0 : w4.cell? ⟨gb107, 0, none⟩ = some (.int .i64 a0_0) := (blk_cell BK107.out 0).trans rfl; have hcz5_1 : w4.cell? ⟨gb107, 1, none⟩ = some (.slice A0_1 l0_1.length c0_1) := (blk_cell BK107.out 1).trans rfl; have hfz5_0 := blk_frozen BK107.out 0; have hfz5_1 := blk_frozen BK107.out 1) | (go_at_call 17; (with_reducible refine (stream_Permitted.calls a0_0 t108 _ A2.out).mono ?_); rintro e w6 ⟨v109, rfl, ho0, hb⟩; have HO110 := Aside0.mk (Kd.R_lower ho0 (below_size (hq1 HB.out GE107.out))); replace BK107 := Aside0.mk (blk_below (g := gb107) (o := .cells #[.int .i64 a0_0, .slice A0_1 l0_1.length c0_1] 25 (0, 0)) (bq BK107.out) hb); replace HB := Aside0.mk (below_step (hq1 HB.out GE107.out) hb); (try clear hb); (try clear ho0))); go_upto_region 2 with (first | ((with_reducible refine gate_dst (N := 1) rfl ?_); (try (refine gate_guard (by rfl) ?_; dsimp only)); refine box_event ?hg (N := 1) ?hd (cs := #[.int .i64 a0_0, .slice A0_1 l0_1.length c0_1]) (t := 25) ?hr ?_; (case hd => rfl); (case hg => rfl); (case hr => first | (go_simp; done) | (go_simp; rfl)); intro gb107 hg w4 hbox hb; have BK107 := Aside0.mk (hbox); have GW107 := Aside0.mk ((by rw [hg]; exact (below_size (hq HB.out)) : w.heap.size ≤ gb107)); have GE107 := Aside0.mk ((by rw [hg]; exact (below_size (hq HB.out)) : w.heap.size ≤ gb107)); replace HB := Aside0.mk (below_step (hq HB.out) hb); clear hb hbox hg; have hcz5_0 : w4.cell? ⟨gb107, 0, none⟩ = some (.int .i64 a0_0) := (blk_cell BK107.out 0).trans rfl; have hcz5_1 : w4.cell? ⟨gb107, 1, none⟩ = some (.slice A0_1 l0_1.length c0_1) := (blk_cell BK107.out 1).trans rfl; have hfz5_0 := blk_frozen BK107.out 0; have hfz5_1 := blk_frozen BK107.out 1) | (go_at_call 17; (with_reducible refine (stream_Permitted.calls a0_0 t108 _ A2.out).mono ?_); rintro e w6 ⟨v109, rfl, ho0, hb⟩; have HO110 := Aside0.mk (Kd.R_lower ho0 (below_size (hq1 HB.out GE107.out))); replace BK107 := Aside0.mk (blk_below (g := gb107) (o := .cells #[.int .i64 a0_0, .slice A0_1 l0_1.length c0_1] 25 (0, 0)) (bq BK107.out) hb); replace HB := Aside0.mk (below_step (hq1 HB.out GE107.out) hb); (try clear hb); (try clear ho0))))
 (try simp only [Act.put, List.setIfInBounds_toArray, List.set_cons_zero, List.set_cons_succ])
 go_cut [20] (fun v20 wc => ∃ (kq : Nat) (x20_2 : Bool), v20 = .bool x20_2 ∧ Aside0 (stream_follows.j0 kq t108 x20_2 a0_0 l0_1 = some r) ∧ Aside0 (kq ≤ k) ∧ Aside0 (Kd.R (Kd.int .i64) 3 wc w.heap.size (fun _ => True) v109 t108) ∧ Aside0 (wc.heap[gb107]? = some (.cells #[.int .i64 a0_0, (.slice A0_1 l0_1.length c0_1)] 25 (0, 0))) ∧ Aside0 (Below w.heap.size w wc))
 case first =>
  have H := HC3.out
  clear HC3
  by_cases c7 : (t108.length : Int) = 0
  ·rw [if_pos c7] at H
   have c7b0 : ((t108.length : Int) == 0) = true := beq_iff_eq.mpr c7
   have c7b1 : ((t108.length : Int) != 0) = false := bne_eq_false_iff_eq.mpr c7
   clear c7
   (first | rw [c7b0] | (simp only [i64_w, i32_w]; rw [c7b0]) | skip)
   have H' := Aside0.mk H
   clear H
   obtain ⟨Ao8, co8, eo8⟩ := Kd.R_slice HO110.out
   subst eo8
   go_wp2
   repeat (go_quiet (fail); try go_wp2)
   go_meet
   case rel => exact ⟨_, (true), dq, H', ⟨by first | omega | exact Nat.le_refl _⟩, ⟨by (with_reducible repeat (first | apply Kd.R_alloc | apply Kd.R_drewN | apply Kd.R_drew)); exact HO110.out⟩, ⟨by (with_reducible repeat (first | refine blk_drewN ?_ _ | refine blk_drew ?_ | refine blk_alloc ?_ _)); exact BK107.out⟩, ⟨hq1 HB.out GE107.out⟩⟩
  ·rw [if_neg c7] at H
   have c7b0 : ((t108.length : Int) == 0) = false := beq_eq_false_iff_ne.mpr c7
   have c7b1 : ((t108.length : Int) != 0) = true := bne_iff_ne.mpr c7
   have c7b2 : ¬ (t108 = []) := fun h_ => c7 (by rw [h_]; rfl)
   (first | rw [c7b0] | (simp only [i64_w, i32_w]; rw [c7b0]) | skip)
   have H' := Aside0.mk H
   clear H
   obtain ⟨Ao9, co9, eo9⟩ := Kd.R_slice HO110.out
   subst eo9
   have hcz10_0 : w6.cell? ⟨gb107, 0, none⟩ = some (.int .i64 a0_0) := (blk_cell BK107.out 0).trans rfl
   have hcz10_1 : w6.cell? ⟨gb107, 1, none⟩ = some (.slice A0_1 l0_1.length c0_1) := (blk_cell BK107.out 1).trans rfl
   have hfz10_0 := blk_frozen BK107.out 0
   have hfz10_1 := blk_frozen BK107.out 1
   go_wp2
   repeat (go_quiet (fail); try go_wp2)
   go_meet
   case rel => exact ⟨_, ((((l0_1.length : Int) % (t108.length : Int)) != 0)), dq, H', ⟨by first | omega | exact Nat.le_refl _⟩, ⟨by (with_reducible repeat (first | apply Kd.R_alloc | apply Kd.R_drewN | apply Kd.R_drew)); exact HO110.out⟩, ⟨by (with_reducible repeat (first | refine blk_drewN ?_ _ | refine blk_drew ?_ | refine blk_alloc ?_ _)); exact BK107.out⟩, ⟨hq1 HB.out GE107.out⟩⟩
 case rest =>
  clear HC3
  try clear p2
  try clear c3
  try clear c7
  try clear c7b0
  try clear c7b1
  try clear c7b2
  try clear hcz10_0
  try clear hcz10_1
  try clear hcz5_0
  try clear hcz5_1
  try clear hfz10_0
  try clear hfz10_1
  try clear hfz5_0
  try clear hfz5_1
  obtain ⟨kq, x20_2, rfl, HA, HJ2, HO_3, BK107, HB⟩ := hcut
  cases kq with
  | zero => exact absurd HA.out (by simp [stream_follows.j0])
  | succ kj2 =>
   have H := HA.out
   clear HA
   simp only [stream_follows.j0] at H
   by_cases c11 : x20_2 = true
   ·subst c11
    rw [if_pos rfl] at H
    obtain rfl := Option.some.inj H
    go_wp2
    repeat (go_quiet (fail); try go_wp2)
    go_ret
    exact ⟨rq_, hq1 HB.out GE107.out⟩
   ·replace c11 := Bool.eq_false_iff.mpr c11
    subst c11
    rw [if_neg (show ¬ (false = true) by decide)] at H
    have H' := Aside0.mk H
    clear H
    have hcz12_0 : wc.cell? ⟨gb107, 0, none⟩ = some (.int .i64 a0_0) := (blk_cell BK107.out 0).trans rfl
    have hcz12_1 : wc.cell? ⟨gb107, 1, none⟩ = some (.slice A0_1 l0_1.length c0_1) := (blk_cell BK107.out 1).trans rfl
    have hfz12_0 := blk_frozen BK107.out 0
    have hfz12_1 := blk_frozen BK107.out 1
    go_wp2
    repeat (go_quiet (fail); try go_wp2)
    go_loopg [24] kj2 (fun kq v24 w' => ∃ (x24_2 : Int), v24 = .int .i64 x24_2 ∧ Aside0 (stream_follows.l0 kq t108 l0_1 (l0_1.length : Int) x24_2 = some r) ∧ Aside0 (kq ≤ kj2) ∧ Aside0 (Kd.R (Kd.int .i64) 3 w' w.heap.size (fun _ => True) v109 t108) ∧ Aside0 (w'.heap[gb107]? = some (.cells #[.int .i64 a0_0, (.slice A0_1 l0_1.length c0_1)] 25 (0, 0))) ∧ Aside0 (Below w.heap.size w w'))
    case atStart => exact ⟨(0), dq, H', ⟨Nat.le_refl _⟩, ⟨by (with_reducible repeat (first | apply Kd.R_alloc | apply Kd.R_drewN | apply Kd.R_drew)); exact HO_3.out⟩, ⟨by (with_reducible repeat (first | refine blk_drewN ?_ _ | refine blk_drew ?_ | refine blk_alloc ?_ _)); exact BK107.out⟩, ⟨hq1 HB.out GE107.out⟩⟩
    case round =>
     clear H'
     try clear c1
     try clear p2
     try clear c3
     try clear c7
     try clear c7b0
     try clear c7b1
     try clear c7b2
     try clear c11
     try clear hcz10_0
     try clear hcz10_1
     try clear hcz12_0
     try clear hcz12_1
     try clear hcz5_0
     try clear hcz5_1
     try clear hfz10_0
     try clear hfz10_1
     try clear hfz12_0
     try clear hfz12_1
     try clear hfz5_0
     try clear hfz5_1
     try clear p2
     obtain ⟨x24_2, rfl, HA, HK2, HO_3, BK107, HB⟩ := hrel
     cases gk with
     | zero => exact absurd HA.out (by simp [stream_follows.l0])
     | succ k2 =>
      have H := HA.out
      clear HA
      simp only [stream_follows.l0] at H
      by_cases c13 : x24_2 < (l0_1.length : Int)
      ·rw [if_pos c13] at H
       have c13b0 := decide_eq_true c13
       clear c13
       by_cases c14 : 0 ≤ x24_2
       ·rw [if_pos c14] at H
        have c14b0 := decide_eq_true c14
        clear c14
        by_cases c15 : x24_2 < (l0_1.length : Int)
        ·rw [if_pos c15] at H
         have c15b0 := decide_eq_true c15
         clear c15
         by_cases c16 : (t108.length : Int) = 0
         ·rw [if_pos c16] at H
          exact absurd H (by simp)
         ·rw [if_neg c16] at H
          have c16b0 : ((t108.length : Int) == 0) = false := beq_eq_false_iff_ne.mpr c16
          have c16b1 : ((t108.length : Int) != 0) = true := bne_iff_ne.mpr c16
          have c16b2 : ¬ (t108 = []) := fun h_ => c16 (by rw [h_]; rfl)
          obtain ⟨ji17, hji17⟩ : ∃ j_ : Int, (Int.tmod x24_2 (t108.length : Int)) = j_ := ⟨_, rfl⟩
          replace H : (if 0 ≤ (ji17) then (if (ji17) < (t108.length : Int) then (if ((rd_T27 l0_1 x24_2).f0) = (rd t108 (ji17)) then (stream_follows.l0 k2 t108 l0_1 (l0_1.length : Int) (wrap64 (x24_2 + 1))) else (some false)) else (none)) else (none)) = some r := by first | (rw [hji17] at H; exact H) | (simp only [hji17] at H ⊢; exact H)
          by_cases c18 : 0 ≤ (ji17)
          ·rw [if_pos c18] at H
           have c18b0 := decide_eq_true c18
           clear c18
           by_cases c19 : (ji17) < (t108.length : Int)
           ·rw [if_pos c19] at H
            have c19b0 := decide_eq_true c19
            clear c19
            by_cases c20 : ((rd_T27 l0_1 x24_2).f0) = (rd t108 (ji17))
            ·rw [if_pos c20] at H
             have c20b0 : (((rd_T27 l0_1 x24_2).f0) == (rd t108 (ji17))) = true := beq_iff_eq.mpr c20
             have c20b1 : (((rd_T27 l0_1 x24_2).f0) != (rd t108 (ji17))) = false := bne_eq_false_iff_eq.mpr c20
             clear c20
             have H' := Aside0.mk H
             clear H
             have p111 : 0 ≤ (x24_2 : Int) := of_decide_eq_true aq
             have q111 : x24_2 < (l0_1.length : Int) := of_decide_eq_true aq
             obtain ⟨ad111, e111, hx111_0, hx111_1⟩ := at_T27 HR0_1.out x24_2 p111 q111
             cases e111
             replace hx111_0 := (HB.out.cell (World.block_lt_of_cell? w _ hx111_0)).trans hx111_0
             replace hx111_1 := (HB.out.cell (World.block_lt_of_cell? w _ hx111_1)).trans hx111_1
             replace p111 := eq_true p111
             replace q111 := eq_true q111
             go_wp2_with (first | ((with_reducible refine gate_dst (N := 5) rfl ?_); (try (refine gate_guard (by rfl) ?_; dsimp only)); refine box_event ?hg (N := 5) ?hd (cs := #[.int .i64 0, .string (⟨#[]⟩ : ByteArray)]) (t := 27) ?hr ?_; (case hd => rfl); (case hg => rfl); (case hr => first | (go_simp; done) | (go_simp; rfl)); intro gb112 hg w21 hbox hb; replace HO_3 := Aside0.mk (Kd.R_below (qR HO_3.out) hb); have BK112 := Aside0.mk (hbox); have GW112 := Aside0.mk ((by rw [hg]; exact (below_size (hq1 HB.out GE107.out)) : w.heap.size ≤ gb112)); have GE112 := Aside0.mk ((by rw [hg]; exact (below_size (hq1 HB.out GE107.out)) : w.heap.size ≤ gb112)); replace HB := Aside0.mk (below_step (hq1 HB.out GE107.out) hb); have NB107_112 := Aside0.mk ((by rw [hg]; exact Nat.ne_of_lt (blk_lt (g := gb107) (o := .cells #[.int .i64 a0_0, .slice (some ad111) l0_1.length c0_1] 25 (0, 0)) (bq BK107.out)) : gb107 ≠ gb112)); have NB112_107 := Aside0.mk ((by rw [hg]; exact Nat.ne_of_gt (blk_lt (g := gb107) (o := .cells #[.int .i64 a0_0, .slice (some ad111) l0_1.length c0_1] 25 (0, 0)) (bq BK107.out)) : gb112 ≠ gb107)); replace BK107 := Aside0.mk (blk_below (g := gb107) (o := .cells #[.int .i64 a0_0, .slice (some ad111) l0_1.length c0_1] 25 (0, 0)) (bq BK107.out) hb); clear hb hbox hg; have hnb22 := NB112_107.out; have hnc22 := NB107_112.out; have hcz23_0 : w21.cell? ⟨gb112, 0, none⟩ = some (.int .i64 0) := (blk_cell BK112.out 0).trans rfl; have hcz23_1 : w21.cell? ⟨gb112, 1, none⟩ = some (.string (⟨#[]⟩ : ByteArray)) := (blk_cell BK112.out 1).trans rfl; have hfz23_0 := blk_frozen BK112.out 0; have hfz23_1 := blk_frozen BK112.out 1; obtain ⟨Ao24, co24, eo24⟩ := Kd.R_slice HO_3.out; subst eo24; have p113 : 0 ≤ ((ji17) : Int) := of_decide_eq_true aq; have q113 : (ji17) < (t108.length : Int) := of_decide_eq_true aq; obtain ⟨ad113, e113, hx113_0⟩ := Kd.at_int (Kd.R_reads' HO_3.out).2.2 (ji17) p113 q113; cases e113; have hn113_0 : ad113.block ≠ gb112 := Kd.own_blk (Kd.R_ne HO_3.out BK112.out (by decide)); have hn113_1 : ad113.block ≠ gb112 := Kd.own_blk (Kd.R_ne HO_3.out BK112.out (by decide)); replace hx113_0 := (cell_far (p := ⟨gb112, 0, none⟩) (by first | (rw [add_block]; exact hn113_0) | (show (Addr.add _ _).block ≠ _; rw [add_block]; exact hn113_0) | exact hn113_0) (.int .i64 ((rd_T27 l0_1 x24_2).f0))).trans hx113_0; replace hx113_0 := (cell_far (p := ⟨gb112, 1, none⟩) (by first | (rw [add_block]; exact hn113_1) | (show (Addr.add _ _).block ≠ _; rw [add_block]; exact hn113_1) | exact hn113_1) (.string ((rd_T27 l0_1 x24_2).f1))).trans hx113_0; (try have hy113_0 := fun (n_ : Nat) => (show ((((w21.drewN n_).setCell ⟨gb112, 0, none⟩ (.int .i64 ((rd_T27 l0_1 x24_2).f0))).setCell ⟨gb112, 1, none⟩ (.string ((rd_T27 l0_1 x24_2).f1)))).cell? _ = some _ from hx113_0)); clear hn113_0; clear hn113_1; replace p113 := eq_true p113; replace q113 := eq_true q113))
             repeat (go_quiet (first | ((with_reducible refine gate_dst (N := 5) rfl ?_); (try (refine gate_guard (by rfl) ?_; dsimp only)); refine box_event ?hg (N := 5) ?hd (cs := #[.int .i64 0, .string (⟨#[]⟩ : ByteArray)]) (t := 27) ?hr ?_; (case hd => rfl); (case hg => rfl); (case hr => first | (go_simp; done) | (go_simp; rfl)); intro gb112 hg w21 hbox hb; replace HO_3 := Aside0.mk (Kd.R_below (qR HO_3.out) hb); have BK112 := Aside0.mk (hbox); have GW112 := Aside0.mk ((by rw [hg]; exact (below_size (hq1 HB.out GE107.out)) : w.heap.size ≤ gb112)); have GE112 := Aside0.mk ((by rw [hg]; exact (below_size (hq1 HB.out GE107.out)) : w.heap.size ≤ gb112)); replace HB := Aside0.mk (below_step (hq1 HB.out GE107.out) hb); have NB107_112 := Aside0.mk ((by rw [hg]; exact Nat.ne_of_lt (blk_lt (g := gb107) (o := .cells #[.int .i64 a0_0, .slice (some ad111) l0_1.length c0_1] 25 (0, 0)) (bq BK107.out)) : gb107 ≠ gb112)); have NB112_107 := Aside0.mk ((by rw [hg]; exact Nat.ne_of_gt (blk_lt (g := gb107) (o := .cells #[.int .i64 a0_0, .slice (some ad111) l0_1.length c0_1] 25 (0, 0)) (bq BK107.out)) : gb112 ≠ gb107)); replace BK107 := Aside0.mk (blk_below (g := gb107) (o := .cells #[.int .i64 a0_0, .slice (some ad111) l0_1.length c0_1] 25 (0, 0)) (bq BK107.out) hb); clear hb hbox hg; have hnb22 := NB112_107.out; have hnc22 := NB107_112.out; have hcz23_0 : w21.cell? ⟨gb112, 0, none⟩ = some (.int .i64 0) := (blk_cell BK112.out 0).trans rfl; have hcz23_1 : w21.cell? ⟨gb112, 1, none⟩ = some (.string (⟨#[]⟩ : ByteArray)) := (blk_cell BK112.out 1).trans rfl; have hfz23_0 := blk_frozen BK112.out 0; have hfz23_1 := blk_frozen BK112.out 1; obtain ⟨Ao24, co24, eo24⟩ := Kd.R_slice HO_3.out; subst eo24; have p113 : 0 ≤ ((ji17) : Int) := of_decide_eq_true aq; have q113 : (ji17) < (t108.length : Int) := of_decide_eq_true aq; obtain ⟨ad113, e113, hx113_0⟩ := Kd.at_int (Kd.R_reads' HO_3.out).2.2 (ji17) p113 q113; cases e113; have hn113_0 : ad113.block ≠ gb112 := Kd.own_blk (Kd.R_ne HO_3.out BK112.out (by decide)); have hn113_1 : ad113.block ≠ gb112 := Kd.own_blk (Kd.R_ne HO_3.out BK112.out (by decide)); replace hx113_0 := (cell_far (p := ⟨gb112, 0, none⟩) (by first | (rw [add_block]; exact hn113_0) | (show (Addr.add _ _).block ≠ _; rw [add_block]; exact hn113_0) | exact hn113_0) (.int .i64 ((rd_T27 l0_1 x24_2).f0))).trans hx113_0; replace hx113_0 := (cell_far (p := ⟨gb112, 1, none⟩) (by first | (rw [add_block]; exact hn113_1) | (show (Addr.add _ _).block ≠ _; rw [add_block]; exact hn113_1) | exact hn113_1) (.string ((rd_T27 l0_1 x24_2).f1))).trans hx113_0; (try have hy113_0 := fun (n_ : Nat) => (show ((((w21.drewN n_).setCell ⟨gb112, 0, none⟩ (.int .i64 ((rd_T27 l0_1 x24_2).f0))).setCell ⟨gb112, 1, none⟩ (.string ((rd_T27 l0_1 x24_2).f1)))).cell? _ = some _ from hx113_0)); clear hn113_0; clear hn113_1; replace p113 := eq_true p113; replace q113 := eq_true q113)); try go_wp2_with (first | ((with_reducible refine gate_dst (N := 5) rfl ?_); (try (refine gate_guard (by rfl) ?_; dsimp only)); refine box_event ?hg (N := 5) ?hd (cs := #[.int .i64 0, .string (⟨#[]⟩ : ByteArray)]) (t := 27) ?hr ?_; (case hd => rfl); (case hg => rfl); (case hr => first | (go_simp; done) | (go_simp; rfl)); intro gb112 hg w21 hbox hb; replace HO_3 := Aside0.mk (Kd.R_below (qR HO_3.out) hb); have BK112 := Aside0.mk (hbox); have GW112 := Aside0.mk ((by rw [hg]; exact (below_size (hq1 HB.out GE107.out)) : w.heap.size ≤ gb112)); have GE112 := Aside0.mk ((by rw [hg]; exact (below_size (hq1 HB.out GE107.out)) : w.heap.size ≤ gb112)); replace HB := Aside0.mk (below_step (hq1 HB.out GE107.out) hb); have NB107_112 := Aside0.mk ((by rw [hg]; exact Nat.ne_of_lt (blk_lt (g := gb107) (o := .cells #[.int .i64 a0_0, .slice (some ad111) l0_1.length c0_1] 25 (0, 0)) (bq BK107.out)) : gb107 ≠ gb112)); have NB112_107 := Aside0.mk ((by rw [hg]; exact Nat.ne_of_gt (blk_lt (g := gb107) (o := .cells #[.int .i64 a0_0, .slice (some ad111) l0_1.length c0_1] 25 (0, 0)) (bq BK107.out)) : gb112 ≠ gb107)); replace BK107 := Aside0.mk (blk_below (g := gb107) (o := .cells #[.int .i64 a0_0, .slice (some ad111) l0_1.length c0_1] 25 (0, 0)) (bq BK107.out) hb); clear hb hbox hg; have hnb22 := NB112_107.out; have hnc22 := NB107_112.out; have hcz23_0 : w21.cell? ⟨gb112, 0, none⟩ = some (.int .i64 0) := (blk_cell BK112.out 0).trans rfl; have hcz23_1 : w21.cell? ⟨gb112, 1, none⟩ = some (.string (⟨#[]⟩ : ByteArray)) := (blk_cell BK112.out 1).trans rfl; have hfz23_0 := blk_frozen BK112.out 0; have hfz23_1 := blk_frozen BK112.out 1; obtain ⟨Ao24, co24, eo24⟩ := Kd.R_slice HO_3.out; subst eo24; have p113 : 0 ≤ ((ji17) : Int) := of_decide_eq_true aq; have q113 : (ji17) < (t108.length : Int) := of_decide_eq_true aq; obtain ⟨ad113, e113, hx113_0⟩ := Kd.at_int (Kd.R_reads' HO_3.out).2.2 (ji17) p113 q113; cases e113; have hn113_0 : ad113.block ≠ gb112 := Kd.own_blk (Kd.R_ne HO_3.out BK112.out (by decide)); have hn113_1 : ad113.block ≠ gb112 := Kd.own_blk (Kd.R_ne HO_3.out BK112.out (by decide)); replace hx113_0 := (cell_far (p := ⟨gb112, 0, none⟩) (by first | (rw [add_block]; exact hn113_0) | (show (Addr.add _ _).block ≠ _; rw [add_block]; exact hn113_0) | exact hn113_0) (.int .i64 ((rd_T27 l0_1 x24_2).f0))).trans hx113_0; replace hx113_0 := (cell_far (p := ⟨gb112, 1, none⟩) (by first | (rw [add_block]; exact hn113_1) | (show (Addr.add _ _).block ≠ _; rw [add_block]; exact hn113_1) | exact hn113_1) (.string ((rd_T27 l0_1 x24_2).f1))).trans hx113_0; (try have hy113_0 := fun (n_ : Nat) => (show ((((w21.drewN n_).setCell ⟨gb112, 0, none⟩ (.int .i64 ((rd_T27 l0_1 x24_2).f0))).setCell ⟨gb112, 1, none⟩ (.string ((rd_T27 l0_1 x24_2).f1)))).cell? _ = some _ from hx113_0)); clear hn113_0; clear hn113_1; replace p113 := eq_true p113; replace q113 := eq_true q113)))
             go_roundg k2
             case measure => have := HJ2.out; have := HK2.out; omega
             case rel => exact ⟨(wrap64 (x24_2 + 1)), dq, H', ⟨by have := HJ2.out; have := HK2.out; omega⟩, ⟨by (with_reducible repeat (first | apply Kd.R_alloc | apply Kd.R_drewN | apply Kd.R_drew)); exact Kd.R_mono (Kd.R_far (p := ⟨gb112, 1, none⟩) (Kd.R_far (p := ⟨gb112, 0, none⟩) (Kd.R_types HO_3.out BK112.out (by decide)) (fun _ hk => hk.2) (.int .i64 ((rd_T27 l0_1 x24_2).f0))) (fun _ hk => hk.2) (.string ((rd_T27 l0_1 x24_2).f1))) (fun _ hk => trivial)⟩, ⟨by (with_reducible repeat (first | refine blk_drewN ?_ _ | refine blk_drew ?_ | refine blk_alloc ?_ _)); refine blk_far ?_ NB107_112.out _; (with_reducible repeat (first | refine blk_drewN ?_ _ | refine blk_drew ?_ | refine blk_alloc ?_ _)); refine blk_far ?_ NB107_112.out _; (with_reducible repeat (first | refine blk_drewN ?_ _ | refine blk_drew ?_ | refine blk_alloc ?_ _)); exact BK107.out⟩, ⟨hq2 HB.out GE107.out GE112.out⟩⟩
            ·rw [if_neg c20] at H
             have c20b0 : (((rd_T27 l0_1 x24_2).f0) == (rd t108 (ji17))) = false := beq_eq_false_iff_ne.mpr c20
             have c20b1 : (((rd_T27 l0_1 x24_2).f0) != (rd t108 (ji17))) = true := bne_iff_ne.mpr c20
             obtain rfl := Option.some.inj H
             have p111 : 0 ≤ (x24_2 : Int) := of_decide_eq_true aq
             have q111 : x24_2 < (l0_1.length : Int) := of_decide_eq_true aq
             obtain ⟨ad111, e111, hx111_0, hx111_1⟩ := at_T27 HR0_1.out x24_2 p111 q111
             cases e111
             replace hx111_0 := (HB.out.cell (World.block_lt_of_cell? w _ hx111_0)).trans hx111_0
             replace hx111_1 := (HB.out.cell (World.block_lt_of_cell? w _ hx111_1)).trans hx111_1
             replace p111 := eq_true p111
             replace q111 := eq_true q111
             go_wp2_with (first | ((with_reducible refine gate_dst (N := 5) rfl ?_); (try (refine gate_guard (by rfl) ?_; dsimp only)); refine box_event ?hg (N := 5) ?hd (cs := #[.int .i64 0, .string (⟨#[]⟩ : ByteArray)]) (t := 27) ?hr ?_; (case hd => rfl); (case hg => rfl); (case hr => first | (go_simp; done) | (go_simp; rfl)); intro gb112 hg w25 hbox hb; replace HO_3 := Aside0.mk (Kd.R_below (qR HO_3.out) hb); have BK112 := Aside0.mk (hbox); have GW112 := Aside0.mk ((by rw [hg]; exact (below_size (hq1 HB.out GE107.out)) : w.heap.size ≤ gb112)); have GE112 := Aside0.mk ((by rw [hg]; exact (below_size (hq1 HB.out GE107.out)) : w.heap.size ≤ gb112)); replace HB := Aside0.mk (below_step (hq1 HB.out GE107.out) hb); have NB107_112 := Aside0.mk ((by rw [hg]; exact Nat.ne_of_lt (blk_lt (g := gb107) (o := .cells #[.int .i64 a0_0, .slice (some ad111) l0_1.length c0_1] 25 (0, 0)) (bq BK107.out)) : gb107 ≠ gb112)); have NB112_107 := Aside0.mk ((by rw [hg]; exact Nat.ne_of_gt (blk_lt (g := gb107) (o := .cells #[.int .i64 a0_0, .slice (some ad111) l0_1.length c0_1] 25 (0, 0)) (bq BK107.out)) : gb112 ≠ gb107)); replace BK107 := Aside0.mk (blk_below (g := gb107) (o := .cells #[.int .i64 a0_0, .slice (some ad111) l0_1.length c0_1] 25 (0, 0)) (bq BK107.out) hb); clear hb hbox hg; have hnb26 := NB112_107.out; have hnc26 := NB107_112.out; have hcz27_0 : w25.cell? ⟨gb112, 0, none⟩ = some (.int .i64 0) := (blk_cell BK112.out 0).trans rfl; have hcz27_1 : w25.cell? ⟨gb112, 1, none⟩ = some (.string (⟨#[]⟩ : ByteArray)) := (blk_cell BK112.out 1).trans rfl; have hfz27_0 := blk_frozen BK112.out 0; have hfz27_1 := blk_frozen BK112.out 1; obtain ⟨Ao28, co28, eo28⟩ := Kd.R_slice HO_3.out; subst eo28; have p113 : 0 ≤ ((ji17) : Int) := of_decide_eq_true aq; have q113 : (ji17) < (t108.length : Int) := of_decide_eq_true aq; obtain ⟨ad113, e113, hx113_0⟩ := Kd.at_int (Kd.R_reads' HO_3.out).2.2 (ji17) p113 q113; cases e113; have hn113_0 : ad113.block ≠ gb112 := Kd.own_blk (Kd.R_ne HO_3.out BK112.out (by decide)); have hn113_1 : ad113.block ≠ gb112 := Kd.own_blk (Kd.R_ne HO_3.out BK112.out (by decide)); replace hx113_0 := (cell_far (p := ⟨gb112, 0, none⟩) (by first | (rw [add_block]; exact hn113_0) | (show (Addr.add _ _).block ≠ _; rw [add_block]; exact hn113_0) | exact hn113_0) (.int .i64 ((rd_T27 l0_1 x24_2).f0))).trans hx113_0; replace hx113_0 := (cell_far (p := ⟨gb112, 1, none⟩) (by first | (rw [add_block]; exact hn113_1) | (show (Addr.add _ _).block ≠ _; rw [add_block]; exact hn113_1) | exact hn113_1) (.string ((rd_T27 l0_1 x24_2).f1))).trans hx113_0; (try have hy113_0 := fun (n_ : Nat) => (show ((((w25.drewN n_).setCell ⟨gb112, 0, none⟩ (.int .i64 ((rd_T27 l0_1 x24_2).f0))).setCell ⟨gb112, 1, none⟩ (.string ((rd_T27 l0_1 x24_2).f1)))).cell? _ = some _ from hx113_0)); clear hn113_0; clear hn113_1; replace p113 := eq_true p113; replace q113 := eq_true q113))
             repeat (go_quiet (first | ((with_reducible refine gate_dst (N := 5) rfl ?_); (try (refine gate_guard (by rfl) ?_; dsimp only)); refine box_event ?hg (N := 5) ?hd (cs := #[.int .i64 0, .string (⟨#[]⟩ : ByteArray)]) (t := 27) ?hr ?_; (case hd => rfl); (case hg => rfl); (case hr => first | (go_simp; done) | (go_simp; rfl)); intro gb112 hg w25 hbox hb; replace HO_3 := Aside0.mk (Kd.R_below (qR HO_3.out) hb); have BK112 := Aside0.mk (hbox); have GW112 := Aside0.mk ((by rw [hg]; exact (below_size (hq1 HB.out GE107.out)) : w.heap.size ≤ gb112)); have GE112 := Aside0.mk ((by rw [hg]; exact (below_size (hq1 HB.out GE107.out)) : w.heap.size ≤ gb112)); replace HB := Aside0.mk (below_step (hq1 HB.out GE107.out) hb); have NB107_112 := Aside0.mk ((by rw [hg]; exact Nat.ne_of_lt (blk_lt (g := gb107) (o := .cells #[.int .i64 a0_0, .slice (some ad111) l0_1.length c0_1] 25 (0, 0)) (bq BK107.out)) : gb107 ≠ gb112)); have NB112_107 := Aside0.mk ((by rw [hg]; exact Nat.ne_of_gt (blk_lt (g := gb107) (o := .cells #[.int .i64 a0_0, .slice (some ad111) l0_1.length c0_1] 25 (0, 0)) (bq BK107.out)) : gb112 ≠ gb107)); replace BK107 := Aside0.mk (blk_below (g := gb107) (o := .cells #[.int .i64 a0_0, .slice (some ad111) l0_1.length c0_1] 25 (0, 0)) (bq BK107.out) hb); clear hb hbox hg; have hnb26 := NB112_107.out; have hnc26 := NB107_112.out; have hcz27_0 : w25.cell? ⟨gb112, 0, none⟩ = some (.int .i64 0) := (blk_cell BK112.out 0).trans rfl; have hcz27_1 : w25.cell? ⟨gb112, 1, none⟩ = some (.string (⟨#[]⟩ : ByteArray)) := (blk_cell BK112.out 1).trans rfl; have hfz27_0 := blk_frozen BK112.out 0; have hfz27_1 := blk_frozen BK112.out 1; obtain ⟨Ao28, co28, eo28⟩ := Kd.R_slice HO_3.out; subst eo28; have p113 : 0 ≤ ((ji17) : Int) := of_decide_eq_true aq; have q113 : (ji17) < (t108.length : Int) := of_decide_eq_true aq; obtain ⟨ad113, e113, hx113_0⟩ := Kd.at_int (Kd.R_reads' HO_3.out).2.2 (ji17) p113 q113; cases e113; have hn113_0 : ad113.block ≠ gb112 := Kd.own_blk (Kd.R_ne HO_3.out BK112.out (by decide)); have hn113_1 : ad113.block ≠ gb112 := Kd.own_blk (Kd.R_ne HO_3.out BK112.out (by decide)); replace hx113_0 := (cell_far (p := ⟨gb112, 0, none⟩) (by first | (rw [add_block]; exact hn113_0) | (show (Addr.add _ _).block ≠ _; rw [add_block]; exact hn113_0) | exact hn113_0) (.int .i64 ((rd_T27 l0_1 x24_2).f0))).trans hx113_0; replace hx113_0 := (cell_far (p := ⟨gb112, 1, none⟩) (by first | (rw [add_block]; exact hn113_1) | (show (Addr.add _ _).block ≠ _; rw [add_block]; exact hn113_1) | exact hn113_1) (.string ((rd_T27 l0_1 x24_2).f1))).trans hx113_0; (try have hy113_0 := fun (n_ : Nat) => (show ((((w25.drewN n_).setCell ⟨gb112, 0, none⟩ (.int .i64 ((rd_T27 l0_1 x24_2).f0))).setCell ⟨gb112, 1, none⟩ (.string ((rd_T27 l0_1 x24_2).f1)))).cell? _ = some _ from hx113_0)); clear hn113_0; clear hn113_1; replace p113 := eq_true p113; replace q113 := eq_true q113)); try go_wp2_with (first | ((with_reducible refine gate_dst (N := 5) rfl ?_); (try (refine gate_guard (by rfl) ?_; dsimp only)); refine box_event ?hg (N := 5) ?hd (cs := #[.int .i64 0, .string (⟨#[]⟩ : ByteArray)]) (t := 27) ?hr ?_; (case hd => rfl); (case hg => rfl); (case hr => first | (go_simp; done) | (go_simp; rfl)); intro gb112 hg w25 hbox hb; replace HO_3 := Aside0.mk (Kd.R_below (qR HO_3.out) hb); have BK112 := Aside0.mk (hbox); have GW112 := Aside0.mk ((by rw [hg]; exact (below_size (hq1 HB.out GE107.out)) : w.heap.size ≤ gb112)); have GE112 := Aside0.mk ((by rw [hg]; exact (below_size (hq1 HB.out GE107.out)) : w.heap.size ≤ gb112)); replace HB := Aside0.mk (below_step (hq1 HB.out GE107.out) hb); have NB107_112 := Aside0.mk ((by rw [hg]; exact Nat.ne_of_lt (blk_lt (g := gb107) (o := .cells #[.int .i64 a0_0, .slice (some ad111) l0_1.length c0_1] 25 (0, 0)) (bq BK107.out)) : gb107 ≠ gb112)); have NB112_107 := Aside0.mk ((by rw [hg]; exact Nat.ne_of_gt (blk_lt (g := gb107) (o := .cells #[.int .i64 a0_0, .slice (some ad111) l0_1.length c0_1] 25 (0, 0)) (bq BK107.out)) : gb112 ≠ gb107)); replace BK107 := Aside0.mk (blk_below (g := gb107) (o := .cells #[.int .i64 a0_0, .slice (some ad111) l0_1.length c0_1] 25 (0, 0)) (bq BK107.out) hb); clear hb hbox hg; have hnb26 := NB112_107.out; have hnc26 := NB107_112.out; have hcz27_0 : w25.cell? ⟨gb112, 0, none⟩ = some (.int .i64 0) := (blk_cell BK112.out 0).trans rfl; have hcz27_1 : w25.cell? ⟨gb112, 1, none⟩ = some (.string (⟨#[]⟩ : ByteArray)) := (blk_cell BK112.out 1).trans rfl; have hfz27_0 := blk_frozen BK112.out 0; have hfz27_1 := blk_frozen BK112.out 1; obtain ⟨Ao28, co28, eo28⟩ := Kd.R_slice HO_3.out; subst eo28; have p113 : 0 ≤ ((ji17) : Int) := of_decide_eq_true aq; have q113 : (ji17) < (t108.length : Int) := of_decide_eq_true aq; obtain ⟨ad113, e113, hx113_0⟩ := Kd.at_int (Kd.R_reads' HO_3.out).2.2 (ji17) p113 q113; cases e113; have hn113_0 : ad113.block ≠ gb112 := Kd.own_blk (Kd.R_ne HO_3.out BK112.out (by decide)); have hn113_1 : ad113.block ≠ gb112 := Kd.own_blk (Kd.R_ne HO_3.out BK112.out (by decide)); replace hx113_0 := (cell_far (p := ⟨gb112, 0, none⟩) (by first | (rw [add_block]; exact hn113_0) | (show (Addr.add _ _).block ≠ _; rw [add_block]; exact hn113_0) | exact hn113_0) (.int .i64 ((rd_T27 l0_1 x24_2).f0))).trans hx113_0; replace hx113_0 := (cell_far (p := ⟨gb112, 1, none⟩) (by first | (rw [add_block]; exact hn113_1) | (show (Addr.add _ _).block ≠ _; rw [add_block]; exact hn113_1) | exact hn113_1) (.string ((rd_T27 l0_1 x24_2).f1))).trans hx113_0; (try have hy113_0 := fun (n_ : Nat) => (show ((((w25.drewN n_).setCell ⟨gb112, 0, none⟩ (.int .i64 ((rd_T27 l0_1 x24_2).f0))).setCell ⟨gb112, 1, none⟩ (.string ((rd_T27 l0_1 x24_2).f1)))).cell? _ = some _ from hx113_0)); clear hn113_0; clear hn113_1; replace p113 := eq_true p113; replace q113 := eq_true q113)))
             go_ret
             exact ⟨by first | rfl | (simp [errW_none, errW_some] <;> rfl) | (simp only [← hji17]; first | rfl | (simp [errW_none, errW_some] <;> rfl)) | (simp [*, errW_none, errW_some] <;> rfl), hq2 HB.out GE107.out GE112.out⟩
           ·rw [if_neg c19] at H
            exact absurd H (by simp)
          ·rw [if_neg c18] at H
           exact absurd H (by simp)
        ·rw [if_neg c15] at H
         exact absurd H (by simp)
       ·rw [if_neg c14] at H
        exact absurd H (by simp)
      ·rw [if_neg c13] at H
       have c13b0 := decide_eq_false c13
       clear c13
       obtain rfl := Option.some.inj H
       go_wp2
       repeat (go_quiet (fail); try go_wp2)
       go_ret
       exact ⟨rq_, hq1 HB.out GE107.out⟩

-- NOT PRINTED: function 64 (abi_NoEscape)

-- NOT PRINTED: function 50 (strings_Builder_copyCheck)

-- NOT PRINTED: function 32 (strings_Builder_WriteString)

-- NOT PRINTED: function 51 (primitive_forms)

end Go.Proofs.Ytookjdhfpbmjkaa.X
