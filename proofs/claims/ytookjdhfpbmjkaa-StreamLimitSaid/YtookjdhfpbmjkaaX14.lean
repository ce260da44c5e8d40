-- Written by xprint.py, a program of this repo that leads the kit's print.py: Lean checks it.
import Derived.Test.YtookjdhfpbmjkaaX0
import Derived.Test.YtookjdhfpbmjkaaX2
import Derived.Test.YtookjdhfpbmjkaaX11
import Derived.Test.YtookjdhfpbmjkaaX13
namespace Go.Proofs.Ytookjdhfpbmjkaa.X
open Go.RowKit Go.Proofs.YtookjdhfpbmjkaaW.PrintWords Go.Proofs.YtookjdhfpbmjkaaW.PrintLast Go.Proofs.YtookjdhfpbmjkaaW.PrintMore
attribute [local go_sem] max2_int min2_int max_two min_two max_three min_three max_four min_four   -- for this text's walks alone
set_option linter.unusedVariables false
set_option linter.unusedSimpArgs false

/-! ### stream_group: function 59 -/
mutual
def stream_group.l0 : Nat → ByteArray → Int → Int → Int → Int → List (S27) → Option (Int × (List (S27)) × ByteArray × Int)
  | 0, _, _, _, _, _, _ => none
  | k + 1, x0, x1, x17, x18, x229000, x229001 => if x18 < x17 then ((stream_Permitted.f x1).bind fun t229 => (stream_group.l1 k x0 x1 x17 x18 t229 (t229.length : Int) 0 x229000 x229001)) else (some (x229000, x229001, x0, 0))
def stream_group.l1 : Nat → ByteArray → Int → Int → Int → List Int → Int → Int → Int → List (S27) → Option (Int × (List (S27)) × ByteArray × Int)
  | 0, _, _, _, _, _, _, _, _, _ => none
  | k + 1, x0, x1, x17, x18, x21, x22, x23, x229000, x229001 => if x23 < x22 then (if 0 ≤ x23 then (if x23 < (x21.length : Int) then ((primitive_Decode.f k x0).bind fun bt233 => (if bt233.2.2.2 = 0 then (if bt233.1 = (rd x21 x23) then (if x229001.length < 5864062014805 then (if 0 ≤ bt233.2.2.1 then (if bt233.2.2.1 ≤ (x0.size : Int) then (stream_group.l1 k (x0.extract (bt233.2.2.1 : Int).toNat x0.size) x1 x17 x18 x21 x22 (wrap64 (x23 + 1)) x229000 (x229001 ++ [(⟨bt233.1, bt233.2.1⟩ : S27)])) else (none)) else (none)) else (none)) else (some (x229000, x229001, (⟨#[]⟩ : ByteArray), 7))) else (some (x229000, x229001, (⟨#[]⟩ : ByteArray), bt233.2.2.2)))) else (none)) else (none)) else (stream_group.l0 k x0 x1 x17 (wrap64 (x18 + 1)) x229000 x229001)
end
def stream_group.f (k : Nat) (a0 : ByteArray) (a1 : Int) (a2 : Int) : Option (Int × (List (S27)) × ByteArray × Int) := stream_group.l0 k a0 a1 a2 0 a1 ([] : List (S27))
theorem stream_group.mono_l : ∀ k, (∀ y0 y1 y2 y3 y4 y5, LeO (stream_group.l0 k y0 y1 y2 y3 y4 y5) (stream_group.l0 (k + 1) y0 y1 y2 y3 y4 y5)) ∧ (∀ y0 y1 y2 y3 y4 y5 y6 y7 y8, LeO (stream_group.l1 k y0 y1 y2 y3 y4 y5 y6 y7 y8) (stream_group.l1 (k + 1) y0 y1 y2 y3 y4 y5 y6 y7 y8))
  | 0 => ⟨fun _ _ _ _ _ _ r h => by simp [stream_group.l0] at h, fun _ _ _ _ _ _ _ _ _ r h => by simp [stream_group.l1] at h⟩
  | k + 1 => by
    obtain ⟨ih0, ih1⟩ := stream_group.mono_l k
    refine ⟨?_, ?_⟩
    · intro y0 y1 y2 y3 y4 y5
      unfold stream_group.l0
      repeat' first
      | (with_reducible exact ih0 _ _ _ _ _ _)
      | (with_reducible exact ih1 _ _ _ _ _ _ _ _ _)
      | (with_reducible exact primitive_Decode.mono _ _)
      | (with_reducible exact LeO.refl _)
      | (with_reducible exact LeO.none _)
      | (with_reducible refine LeO.ite ?_ ?_)
      | (with_reducible refine LeO.bind ?_ (fun _ => ?_))
      | exact ih0 _ _ _ _ _ _
      | exact ih1 _ _ _ _ _ _ _ _ _
      | exact primitive_Decode.mono _ _
      | exact LeO.none _
      | refine LeO.ite ?_ ?_
      | refine LeO.bind ?_ (fun _ => ?_)
    · intro y0 y1 y2 y3 y4 y5 y6 y7 y8
      unfold stream_group.l1
      repeat' first
      | (with_reducible exact ih0 _ _ _ _ _ _)
      | (with_reducible exact ih1 _ _ _ _ _ _ _ _ _)
      | (with_reducible exact primitive_Decode.mono _ _)
      | (with_reducible exact LeO.refl _)
      | (with_reducible exact LeO.none _)
      | (with_reducible refine LeO.ite ?_ ?_)
      | (with_reducible refine LeO.bind ?_ (fun _ => ?_))
      | exact ih0 _ _ _ _ _ _
      | exact ih1 _ _ _ _ _ _ _ _ _
      | exact primitive_Decode.mono _ _
      | exact LeO.none _
      | refine LeO.ite ?_ ?_
      | refine LeO.bind ?_ (fun _ => ?_)
theorem stream_group.mono : ∀ a0 a1 a2 k, LeO (stream_group.f k a0 a1 a2) (stream_group.f (k + 1) a0 a1 a2) := by
  intro a0 a1 a2 k
  obtain ⟨ih0, ih1⟩ := stream_group.mono_l k
  unfold stream_group.f
  repeat' first
      | (with_reducible exact ih0 _ _ _ _ _ _)
      | (with_reducible exact ih1 _ _ _ _ _ _ _ _ _)
      | (with_reducible exact primitive_Decode.mono _ _)
      | (with_reducible exact LeO.refl _)
      | (with_reducible exact LeO.none _)
      | (with_reducible refine LeO.ite ?_ ?_)
      | (with_reducible refine LeO.bind ?_ (fun _ => ?_))
      | exact ih0 _ _ _ _ _ _
      | exact ih1 _ _ _ _ _ _ _ _ _
      | exact primitive_Decode.mono _ _
      | exact LeO.none _
      | refine LeO.ite ?_ ?_
      | refine LeO.bind ?_ (fun _ => ?_)
def stream_group.T12 : Bool × List (List Nat × List Nat) := (true, [([], []), ([0], [0]), ([], []), ([2], [2]), ([1,3], [1,3]), ([], []), ([], []), ([5,6], [5,6]), ([0,1,2,3,4], []), ([8,4,4,0,1,2,3,4], [4,8]), ([7,9,0,1,2,3,4,5,6,7,8,9], [5,7])])
def stream_group.B12 : List Nat := [0,1,0,4,15,0,0,96,31,287,1023]
theorem stream_group.tab12 : rtab .any (opsOf Try.f59 12) = stream_group.T12 := by kernel_rfl
theorem stream_group.bits12 : waitsOk stream_group.T12.2 stream_group.B12 = true := by kernel_rfl
set_option maxHeartbeats 8000000 in
set_option maxRecDepth 100000 in
theorem stream_group.calls (k : Nat) (a0 : ByteArray) (a1 : Int) (a2 : Int) (r1 : Int) (r2 : List (S27)) (r3 : ByteArray) (r4 : Int) (w : World) (h : stream_group.f k a0 a1 a2 = some (r1, r2, r3, r4)) :
    Calls Try.prog 59 #[.string a0, .int .i64 a1, .int .i64 a2] w fun e w' => ∃ v1_ : Value, e = .returned (.tuple #[.agg #[.int .i64 r1, v1_], .string r3, .int .i64 r4]) ∧ Kd.R k27 27 w' w.heap.size (fun _ => True) v1_ r2 ∧ Below w.heap.size w w' := by
 have hu25 := Try.underlying25
 have hu27 := Try.underlying27
 have HB := Aside0.mk (Below.refl w.heap.size w)
 have H : (stream_group.l0 k a0 a1 a2 0 a1 ([] : List (S27))) = some (r1, r2, r3, r4) := h
 clear h
 have H' := Aside0.mk H
 clear H
 go_enter Try.func59, Try.ntmps59
 go_wp2_with (first | ((with_reducible refine gate_dst (N := 6) rfl ?_); refine box_event ?hg (N := 6) ?hd (cs := #[.int .i64 0, .slice none 0 0]) (t := 25) ?hr ?_; (case hd => rfl); (case hg => rfl); (case hr => first | (go_simp; done) | (go_simp; rfl)); intro gb227 hg w4 hbox hb; have BK227 := Aside0.mk (hbox); have GW227 := Aside0.mk ((by rw [hg]; exact (below_size (hq HB.out)) : w.heap.size ≤ gb227)); have GE227 := Aside0.mk ((by rw [hg]; exact (below_size (hq HB.out)) : w.heap.size ≤ gb227)); replace HB := Aside0.mk (below_step (hq HB.out) hb); clear hb hbox hg) | ((with_reducible refine gate_dst (N := 9) rfl ?_); refine box_event ?hg (N := 9) ?hd (cs := #[.int .i64 0, .slice none 0 0]) (t := 25) ?hr ?_; (case hd => rfl); (case hg => rfl); (case hr => first | (go_simp; done) | (go_simp; rfl)); intro gb228 hg w5 hbox hb; have BK228 := Aside0.mk (hbox); have GW228 := Aside0.mk ((by rw [hg]; exact (below_size (hq1 HB.out GE227.out)) : w.heap.size ≤ gb228)); have GE228 := Aside0.mk ((by rw [hg]; exact (below_size (hq1 HB.out GE227.out)) : w.heap.size ≤ gb228)); replace HB := Aside0.mk (below_step (hq1 HB.out GE227.out) hb); have NB227_228 := Aside0.mk ((by rw [hg]; exact Nat.ne_of_lt (blk_lt (g := gb227) (o := .cells #[.int .i64 0, .slice none 0 0] 25 (0, 0)) (bq BK227.out)) : gb227 ≠ gb228)); have NB228_227 := Aside0.mk ((by rw [hg]; exact Nat.ne_of_gt (blk_lt (g := gb227) (o := .cells #[.int .i64 0, .slice none 0 0] 25 (0, 0)) (bq BK227.out)) : gb228 ≠ gb227)); replace BK227 := Aside0.mk (blk_below (g := gb227) (o := .cells #[.int .i64 0, .slice none 0 0] 25 (0, 0)) (bq BK227.out) hb); clear hb hbox hg; have hnb6 := NB228_227.out; have hnc6 := NB227_228.out; have hcz7_0 : w5.cell? ⟨gb228, 0, none⟩ = some (.int .i64 0) := (blk_cell BK228.out 0).trans rfl; have hcz7_1 : w5.cell? ⟨gb228, 1, none⟩ = some (.slice none 0 0) := (blk_cell BK228.out 1).trans rfl; have hfz7_0 := blk_frozen BK228.out 0; have hfz7_1 := blk_frozen BK228.out 1))
 go_loopg [0,18] k (fun kq v0 v18 w' => ∃ (x0_1 : ByteArray) (x18_1 : Int) (x228000_1 : Int) (x229001_1 : List (S27)) (u229001 : Value), v0 = .string x0_1 ∧ v18 = .int .i64 x18_1 ∧ Aside0 (stream_group.l0 kq x0_1 a1 a2 x18_1 a1 x229001_1 = some (r1, r2, r3, r4)) ∧ Aside0 (kq ≤ k) ∧ Aside0 (Kd.R k27 27 w' w.heap.size (fun _ => True) u229001 x229001_1) ∧ Aside0 (w'.heap[gb227]? = some (.cells #[.int .i64 x228000_1, (.slice none 0 0)] 25 (0, 0))) ∧ Aside0 (w'.heap[gb228]? = some (.cells #[.int .i64 a1, u229001] 25 (0, 0))) ∧ Aside0 (Below w.heap.size w w'))
 case atStart => exact ⟨(a0), (0), (0), (([] : List (S27))), (.slice none 0 0), dq, dq, H', ⟨Nat.le_refl _⟩, ⟨by first | exact Kd.R_nil _ _ _ _ _ | exact Kd.N_nil _ _ _ _ _ | exact Kd.V_nil _ _ _ _ _ | exact Kd.Q_nil _ _ _ _ _ | exact Kd.S_nil _ _ _ _ _⟩, ⟨by (with_reducible repeat (first | refine blk_drewN ?_ _ | refine blk_drew ?_ | refine blk_alloc ?_ _)); refine blk_far ?_ NB227_228.out _; (with_reducible repeat (first | refine blk_drewN ?_ _ | refine blk_drew ?_ | refine blk_alloc ?_ _)); refine blk_far ?_ NB227_228.out _; (with_reducible repeat (first | refine blk_drewN ?_ _ | refine blk_drew ?_ | refine blk_alloc ?_ _)); exact BK227.out⟩, ⟨by (with_reducible repeat (first | refine blk_drewN ?_ _ | refine blk_drew ?_ | refine blk_alloc ?_ _)); refine blk_put (cs := #[.int .i64 a1, .slice none 0 0]) ?_ 1 _ rfl; (with_reducible repeat (first | refine blk_drewN ?_ _ | refine blk_drew ?_ | refine blk_alloc ?_ _)); refine blk_put (cs := #[.int .i64 0, .slice none 0 0]) ?_ 0 _ rfl; (with_reducible repeat (first | refine blk_drewN ?_ _ | refine blk_drew ?_ | refine blk_alloc ?_ _)); exact BK228.out⟩, ⟨hq2 HB.out GE227.out GE228.out⟩⟩
 case round =>
  clear H'
  try clear p2
  try clear c5
  try clear c6
  try clear hcz7_0
  try clear hcz7_1
  try clear hfz7_0
  try clear hfz7_1
  obtain ⟨x0_1, x18_1, x228000_1, x229001_1, u229001, rfl, rfl, HA, HK1, HO_229001, BK227, BK228, HB⟩ := hrel
  cases gk with
  | zero => exact absurd HA.out (by simp [stream_group.l0])
  | succ k1 =>
   have H := HA.out
   clear HA
   simp only [stream_group.l0] at H
   by_cases c8 : x18_1 < a2
   ·rw [if_pos c8] at H
    have c8b0 := decide_eq_true c8
    clear c8
    obtain ⟨t229, A9, H⟩ := bindS H
    have H' := Aside0.mk H
    clear H
    go_wp2_with (first | ((with_reducible refine gate_callee (f := 17) rfl ?_); refine goesL_ (some 21) rfl rfl Try.func17 (by kernel_rfl) rfl #[.int .i64 a1] rfl eq_ ?_; (with_reducible refine (stream_Permitted.calls a1 t229 _ A9.out).mono ?_); rintro e w10 ⟨v230, rfl, ho0, hb⟩; refine ⟨_, rfl, ?_⟩; replace HO_229001 := Aside0.mk (Kd.R_below (qR HO_229001.out) hb); have HO231 := Aside0.mk (Kd.R_lower ho0 (below_size (hq2 HB.out GE227.out GE228.out))); replace BK227 := Aside0.mk (blk_below (g := gb227) (o := .cells #[.int .i64 x228000_1, .slice none 0 0] 25 (0, 0)) (bq BK227.out) hb); replace BK228 := Aside0.mk (blk_below (g := gb228) (o := .cells #[.int .i64 a1, u229001] 25 (0, 0)) (bq BK228.out) hb); replace HB := Aside0.mk (below_step (hq2 HB.out GE227.out GE228.out) hb); (try clear hb); (try clear ho0); obtain ⟨Ao11, co11, eo11⟩ := Kd.R_slice HO231.out; subst eo11))
    go_loopg [0,23] k1 (fun kq v0 v23 w' => ∃ (x0_2 : ByteArray) (x23_2 : Int) (x228000_2 : Int) (x229001_2 : List (S27)) (u229001 : Value), v0 = .string x0_2 ∧ v23 = .int .i64 x23_2 ∧ Aside0 (stream_group.l1 kq x0_2 a1 a2 x18_1 t229 (t229.length : Int) x23_2 a1 x229001_2 = some (r1, r2, r3, r4)) ∧ Aside0 (kq ≤ k1) ∧ Aside0 (Kd.R (Kd.int .i64) 3 w' w.heap.size (fun _ => True) (.slice Ao11 t229.length co11) t229) ∧ Aside0 (Kd.R k27 27 w' w.heap.size (fun _ => True) u229001 x229001_2) ∧ Aside0 (w'.heap[gb227]? = some (.cells #[.int .i64 x228000_2, (.slice none 0 0)] 25 (0, 0))) ∧ Aside0 (w'.heap[gb228]? = some (.cells #[.int .i64 a1, u229001] 25 (0, 0))) ∧ Aside0 (Below w.heap.size w w'))
    case atStart => exact ⟨(x0_1), (0), (x228000_1), (x229001_1), (u229001), dq, dq, H', ⟨Nat.le_refl _⟩, ⟨by (with_reducible repeat (first | apply Kd.R_alloc | apply Kd.R_drewN | apply Kd.R_drew)); exact HO231.out⟩, ⟨by (with_reducible repeat (first | apply Kd.R_alloc | apply Kd.R_drewN | apply Kd.R_drew)); exact HO_229001.out⟩, ⟨by (with_reducible repeat (first | refine blk_drewN ?_ _ | refine blk_drew ?_ | refine blk_alloc ?_ _)); exact BK227.out⟩, ⟨by (with_reducible repeat (first | refine blk_drewN ?_ _ | refine blk_drew ?_ | refine blk_alloc ?_ _)); exact BK228.out⟩, ⟨hq2 HB.out GE227.out GE228.out⟩⟩
    case round =>
     clear H'
     try clear c1
     try clear p2
     try clear c5
     try clear c6
     try clear c8
     try clear c8b0
     try clear hcz7_0
     try clear hcz7_1
     try clear hfz7_0
     try clear hfz7_1
     try clear p2
     obtain ⟨x0_2, x23_2, x228000_2, x229001_2, u229001, rfl, rfl, HA, HK2, HO_21, HO_229001, BK227, BK228, HB⟩ := hrel
     cases gk with
     | zero => exact absurd HA.out (by simp [stream_group.l1])
     | succ k2 =>
      have H := HA.out
      clear HA
      simp only [stream_group.l1] at H
      by_cases c12 : x23_2 < (t229.length : Int)
      ·rw [if_pos c12] at H
       have c12b0 := decide_eq_true c12
       clear c12
       by_cases c13 : 0 ≤ x23_2
       ·rw [if_pos c13] at H
        have c13b0 := decide_eq_true c13
        clear c13
        by_cases c14 : x23_2 < (t229.length : Int)
        ·rw [if_pos c14] at H
         have c14b0 := decide_eq_true c14
         clear c14
         obtain ⟨⟨t233, t234, t235, t236⟩, A15, H⟩ := bindS H
         try dsimp only at H
         by_cases c16 : t236 = 0
         ·rw [if_pos c16] at H
          have c16b0 : (t236 == 0) = true := beq_iff_eq.mpr c16
          have c16b1 : (t236 != 0) = false := bne_eq_false_iff_eq.mpr c16
          clear c16
          by_cases c17 : t233 = (rd t229 x23_2)
          ·rw [if_pos c17] at H
           have c17b0 : (t233 == (rd t229 x23_2)) = true := beq_iff_eq.mpr c17
           have c17b1 : (t233 != (rd t229 x23_2)) = false := bne_eq_false_iff_eq.mpr c17
           clear c17
           by_cases c18 : x229001_2.length < 5864062014805
           ·rw [if_pos c18] at H
            have LMc18 := Aside0.mk c18
            clear c18
            obtain ⟨y238, hy238⟩ : ∃ y_ : List (S27), y_ = (x229001_2 ++ [(⟨t233, t234⟩ : S27)]) := ⟨_, rfl⟩
            replace H : (if 0 ≤ t235 then (if t235 ≤ (x0_2.size : Int) then (stream_group.l1 k2 (x0_2.extract (t235 : Int).toNat x0_2.size) a1 a2 x18_1 t229 (t229.length : Int) (wrap64 (x23_2 + 1)) a1 y238) else (none)) else (none)) = some (r1, r2, r3, r4) := by first | (rw [hy238]; with_reducible exact H) | (have H2_ := (Option.bind_some _ _).symm.trans H; rw [hy238]; with_reducible exact H2_) | (have H2_ := (Option.bind_some _ _).symm.trans H; with_reducible exact H2_) | with_reducible exact H | (rw [hy238]; exact H) | exact H
            have Ny238 := Aside0.mk hy238
            clear hy238
            by_cases c19 : 0 ≤ t235
            ·rw [if_pos c19] at H
             have c19b0 := eq_true c19
             have c19b1 := decide_eq_true c19
             clear c19
             by_cases c20 : t235 ≤ (x0_2.size : Int)
             ·rw [if_pos c20] at H
              have c20b0 := eq_true c20
              have c20b1 := decide_eq_true c20
              clear c20
              have H' := Aside0.mk H
              clear H
              have p232 : 0 ≤ (x23_2 : Int) := of_decide_eq_true aq
              have q232 : x23_2 < (t229.length : Int) := of_decide_eq_true aq
              obtain ⟨ad232, e232, hx232_0⟩ := Kd.at_int (Kd.R_reads' HO_21.out).2.2 x23_2 p232 q232
              cases e232
              replace p232 := eq_true p232
              replace q232 := eq_true q232
              try go_wp2_with (first | ((with_reducible refine gate_callee (f := 70) rfl ?_); refine goesL_ (some 29) rfl rfl Try.func70 (by kernel_rfl) rfl #[.string x0_2] rfl eq_ ?_; (with_reducible refine (primitive_Decode.calls k2 x0_2 t233 t234 t235 t236 _ A15.out).mono ?_); rintro e w21 ⟨rfl, hb⟩; refine ⟨_, rfl, ?_⟩; replace HO_21 := Aside0.mk (Kd.R_below (qR HO_21.out) hb); replace HO_229001 := Aside0.mk (Kd.R_below (qR HO_229001.out) hb); replace BK227 := Aside0.mk (blk_below (g := gb227) (o := .cells #[.int .i64 x228000_2, .slice none 0 0] 25 (0, 0)) (bq BK227.out) hb); replace BK228 := Aside0.mk (blk_below (g := gb228) (o := .cells #[.int .i64 a1, u229001] 25 (0, 0)) (bq BK228.out) hb); replace HB := Aside0.mk (below_step (hq2 HB.out GE227.out GE228.out) hb); (try clear hb)) | ((with_reducible refine gate_dst (N := 12) rfl ?_); refine box_event ?hg (N := 12) ?hd (cs := #[.int .i64 0, .string (⟨#[]⟩ : ByteArray)]) (t := 27) ?hr ?_; (case hd => rfl); (case hg => rfl); (case hr => first | (go_simp; done) | (go_simp; rfl)); intro gb237 hg w22 hbox hb; replace HO_21 := Aside0.mk (Kd.R_below (qR HO_21.out) hb); replace HO_229001 := Aside0.mk (Kd.R_below (Kd.R_elderB (qR HO_229001.out) gb237 (Nat.le_of_eq hg.symm)) hb); have BK237 := Aside0.mk (hbox); have GW237 := Aside0.mk ((by rw [hg]; exact (below_size (hq2 HB.out GE227.out GE228.out)) : w.heap.size ≤ gb237)); have GE237 := Aside0.mk ((by rw [hg]; exact (below_size (hq2 HB.out GE227.out GE228.out)) : w.heap.size ≤ gb237)); replace HB := Aside0.mk (below_step (hq2 HB.out GE227.out GE228.out) hb); have NB227_237 := Aside0.mk ((by rw [hg]; exact Nat.ne_of_lt (blk_lt (g := gb227) (o := .cells #[.int .i64 x228000_2, .slice none 0 0] 25 (0, 0)) (bq BK227.out)) : gb227 ≠ gb237)); have NB237_227 := Aside0.mk ((by rw [hg]; exact Nat.ne_of_gt (blk_lt (g := gb227) (o := .cells #[.int .i64 x228000_2, .slice none 0 0] 25 (0, 0)) (bq BK227.out)) : gb237 ≠ gb227)); replace BK227 := Aside0.mk (blk_below (g := gb227) (o := .cells #[.int .i64 x228000_2, .slice none 0 0] 25 (0, 0)) (bq BK227.out) hb); have NB228_237 := Aside0.mk ((by rw [hg]; exact Nat.ne_of_lt (blk_lt (g := gb228) (o := .cells #[.int .i64 a1, u229001] 25 (0, 0)) (bq BK228.out)) : gb228 ≠ gb237)); have NB237_228 := Aside0.mk ((by rw [hg]; exact Nat.ne_of_gt (blk_lt (g := gb228) (o := .cells #[.int .i64 a1, u229001] 25 (0, 0)) (bq BK228.out)) : gb237 ≠ gb228)); replace BK228 := Aside0.mk (blk_below (g := gb228) (o := .cells #[.int .i64 a1, u229001] 25 (0, 0)) (bq BK228.out) hb); clear hb hbox hg; have hnb23 := NB237_227.out; have hnc23 := NB227_237.out; have hnb24 := NB237_228.out; have hnc24 := NB228_237.out; have hcz25_0 : w22.cell? ⟨gb237, 0, none⟩ = some (.int .i64 0) := (blk_cell BK237.out 0).trans rfl; have hcz25_1 : w22.cell? ⟨gb237, 1, none⟩ = some (.string (⟨#[]⟩ : ByteArray)) := (blk_cell BK237.out 1).trans rfl; have hfz25_0 := blk_frozen BK237.out 0; have hfz25_1 := blk_frozen BK237.out 1))
              have n0_ : Aside0 (Kd.R (Kd.int .i64) 3 ((w22.setCell ⟨gb237, 0, none⟩ (.int .i64 t233)).setCell ⟨gb237, 1, none⟩ (.string t234)) w.heap.size (fun _ => True) (.slice (some ad232) t229.length co11) t229) := ⟨by (with_reducible repeat (first | apply Kd.R_alloc | apply Kd.R_drewN | apply Kd.R_drew)); exact Kd.R_mono (Kd.R_far (p := ⟨gb237, 1, none⟩) (Kd.R_far (p := ⟨gb237, 0, none⟩) (Kd.R_types HO_21.out BK237.out (by decide)) (fun _ hk => hk.2) (.int .i64 t233)) (fun _ hk => hk.2) (.string t234)) (fun _ hk => trivial)⟩
              have n1_ : Aside0 (Kd.R k27 27 ((w22.setCell ⟨gb237, 0, none⟩ (.int .i64 t233)).setCell ⟨gb237, 1, none⟩ (.string t234)) w.heap.size (fun k_ => k_ ≠ gb237) u229001 x229001_2) := ⟨by (with_reducible repeat (first | apply Kd.R_alloc | apply Kd.R_drewN | apply Kd.R_drew)); exact Kd.R_mono (Kd.R_far (p := ⟨gb237, 1, none⟩) (Kd.R_far (p := ⟨gb237, 0, none⟩) (Kd.R_mono HO_229001.out (fun k_ hk => (⟨hk, hk.2⟩ : _ ∧ k_ ≠ gb237))) (fun _ hk => hk.2) (.int .i64 t233)) (fun _ hk => hk.2) (.string t234)) (fun _ hk => hk.1.2)⟩
              have n2_ : Aside0 (((w22.setCell ⟨gb237, 0, none⟩ (.int .i64 t233)).setCell ⟨gb237, 1, none⟩ (.string t234)).heap[gb227]? = some (.cells #[.int .i64 x228000_2, .slice none 0 0] 25 (0, 0))) := ⟨by (with_reducible repeat (first | refine blk_drewN ?_ _ | refine blk_drew ?_ | refine blk_alloc ?_ _)); refine blk_far ?_ NB227_237.out _; (with_reducible repeat (first | refine blk_drewN ?_ _ | refine blk_drew ?_ | refine blk_alloc ?_ _)); refine blk_far ?_ NB227_237.out _; (with_reducible repeat (first | refine blk_drewN ?_ _ | refine blk_drew ?_ | refine blk_alloc ?_ _)); exact BK227.out⟩
              have n3_ : Aside0 (((w22.setCell ⟨gb237, 0, none⟩ (.int .i64 t233)).setCell ⟨gb237, 1, none⟩ (.string t234)).heap[gb228]? = some (.cells #[.int .i64 a1, u229001] 25 (0, 0))) := ⟨by (with_reducible repeat (first | refine blk_drewN ?_ _ | refine blk_drew ?_ | refine blk_alloc ?_ _)); refine blk_far ?_ NB228_237.out _; (with_reducible repeat (first | refine blk_drewN ?_ _ | refine blk_drew ?_ | refine blk_alloc ?_ _)); refine blk_far ?_ NB228_237.out _; (with_reducible repeat (first | refine blk_drewN ?_ _ | refine blk_drew ?_ | refine blk_alloc ?_ _)); exact BK228.out⟩
              have n4_ : Aside0 (((w22.setCell ⟨gb237, 0, none⟩ (.int .i64 t233)).setCell ⟨gb237, 1, none⟩ (.string t234)).heap[gb237]? = some (.cells #[.int .i64 t233, .string t234] 27 (0, 0))) := ⟨by (with_reducible repeat (first | refine blk_drewN ?_ _ | refine blk_drew ?_ | refine blk_alloc ?_ _)); refine blk_put (cs := #[.int .i64 t233, .string (⟨#[]⟩ : ByteArray)]) ?_ 1 _ rfl; (with_reducible repeat (first | refine blk_drewN ?_ _ | refine blk_drew ?_ | refine blk_alloc ?_ _)); refine blk_put (cs := #[.int .i64 0, .string (⟨#[]⟩ : ByteArray)]) ?_ 0 _ rfl; (with_reducible repeat (first | refine blk_drewN ?_ _ | refine blk_drew ?_ | refine blk_alloc ?_ _)); exact BK237.out⟩
              have n5_ : Aside0 (Below w.heap.size w ((w22.setCell ⟨gb237, 0, none⟩ (.int .i64 t233)).setCell ⟨gb237, 1, none⟩ (.string t234))) := ⟨by repeat (first | (with_reducible first | exact HB.out | apply below_alloc | apply pw_below_drewN | apply below_drew1 | refine below_set ?_ GE227.out | refine below_set ?_ GE228.out | refine below_set ?_ GE237.out) | exact HB.out)⟩
              (try clear HO_21)
              (try clear HO_229001)
              (try clear BK227)
              (try clear BK228)
              (try clear BK237)
              (try clear HB)
              generalize ((w22.setCell ⟨gb237, 0, none⟩ (.int .i64 t233)).setCell ⟨gb237, 1, none⟩ (.string t234)) = w26 at n0_ n1_ n2_ n3_ n4_ n5_ ⊢
              have HO_21 := n0_
              have HO_229001 := n1_
              have BK227 := n2_
              have BK228 := n3_
              have BK237 := n4_
              have HB := n5_
              clear n0_ n1_ n2_ n3_ n4_ n5_
              replace HO_21 := Aside0.mk (Kd.R_drew HO_21.out)
              replace HO_229001 := Aside0.mk (Kd.R_drew HO_229001.out)
              replace BK227 := Aside0.mk (blk_drew BK227.out)
              replace BK228 := Aside0.mk (blk_drew BK228.out)
              replace BK237 := Aside0.mk (blk_drew BK237.out)
              replace HB := Aside0.mk (below_drew1 HB.out)
              refine start_ (n := 11) (S := fun w' => w'.cell? ⟨gb228, 0, none⟩ = some (.int .i64 a1) ∧ w'.cell? ⟨gb228, 1, none⟩ = some (u229001) ∧ w'.cell? ⟨gb237, 0, none⟩ = some (.int .i64 t233) ∧ w'.cell? ⟨gb237, 1, none⟩ = some (.string t234)) (ds := [9]) #[false,false,false,false,false,false,false,false,false,false,false] (by kernel_rfl) rfl rfl ⟨(blk_cell BK228.out 0).trans rfl, (blk_cell BK228.out 1).trans rfl, (blk_cell BK237.out 0).trans rfl, (blk_cell BK237.out 1).trans rfl⟩ (fun hHeld => ?_); refine with_tabW stream_group.tab12 stream_group.bits12 (fun HT_ HW_ => ?_)
              generalize w26.drew = w27 at HO_21 HO_229001 BK227 BK228 BK237 HB hHeld ⊢
              refine pure_ (i := 0) (N := some 44) (v := ?_) (a' := ?_) #[true,false,false,false,false,false,false,false,false,false,false] rfl rfl (any_of HT_.out (by kernel_rfl)) (fun _ _ _ h => h) (Or.inl ⟨by rfl, pv⟩) pp ?_
              refine pure_ (i := 5) (N := some 49) (v := ?_) (a' := ?_) #[true,false,false,false,false,true,false,false,false,false,false] rfl rfl (any_of HT_.out (by kernel_rfl)) (fun _ _ _ h => h) (Or.inl ⟨by rfl, pv⟩) pp ?_
              refine pure_ (i := 6) (N := some 50) (v := ?_) (a' := ?_) #[true,false,false,false,false,true,true,false,false,false,false] rfl rfl (any_of HT_.out (by kernel_rfl)) (fun _ _ _ h => h) (Or.inl ⟨by rfl, pv⟩) pp ?_
              refine pure_ (i := 7) (N := some 51) (v := ?_) (a' := ?_) #[true,false,false,false,false,true,true,true,false,false,false] rfl rfl (any_of HT_.out (by kernel_rfl)) (fun _ _ _ h => h) (Or.inl ⟨by rfl, pv⟩) pp ?_
              refine take_ (i := 1) (N := some 45) (v := ?_) (a' := ?_) #[true,true,false,false,false,true,true,true,false,false,false] rfl rfl (take_ofW HT_.out HW_.out (by kernel_rfl)) (fun _ _ _ h => h) (Or.inl ⟨by rfl, by rintro w' ⟨s0, s1, s2, s3⟩; go_simp; with_reducible rfl⟩) hHeld pp ?_
              refine take_ (i := 2) (N := some 46) (v := ?_) (a' := ?_) #[true,true,true,false,false,true,true,true,false,false,false] rfl rfl (take_ofW HT_.out HW_.out (by kernel_rfl)) (fun _ _ _ h => h) (Or.inl ⟨by rfl, by rintro w' ⟨s0, s1, s2, s3⟩; go_simp; with_reducible rfl⟩) hHeld pp ?_
              refine one_ (i := 3) (N := some 47) #[true,true,true,true,false,true,true,true,false,false,false] rfl rfl (one_of HT_.out (by kernel_rfl)) (by decide) (fun K hK => ?_)
              refine value_ (w1 := ?_) (v := ?_) (by rfl) rfl ?_ ?_
              rotate_left 2
              ·go_simp
               constructor
               ·rfl
               ·rfl
              refine hK.out _ _ ⟨(blk_cell (blk_alloc BK228.out _) 0).trans rfl, (blk_cell (blk_alloc BK228.out _) 1).trans rfl, (blk_cell (blk_alloc BK237.out _) 0).trans rfl, (blk_cell (blk_alloc BK237.out _) 1).trans rfl⟩ (fun hHeld => ?_)
              clear hK K
              refine norm_ (a' := ?_) (show Act.put _ (some 47) _ = _ from pp) ?_
              refine one_ (i := 4) (N := some 48) #[true,true,true,true,true,true,true,true,false,false,false] rfl rfl (one_of HT_.out (by kernel_rfl)) (by decide) (fun K hK => ?_)
              refine Kd.R_append_step k27 (w0 := w) w.heap.size (by rfl) (.tmp 45) (.tmp 47) 23 27 (.agg #[(.int .i64 0), (.string ⟨#[]⟩)]) 24 rfl Try.underlying23 info27 rfl (by decide) (by omega) u229001 x229001_2 (⟨t233, t234⟩ : S27) [.int .i64 t233, .string t234] (fun k_ => k_ ≠ gb237) (fun _ => False) rfl rfl ?aP (fun _ hk => hk.elim) ?aF ?aO ?aB ?aS ?aL ?_
              (case aP => exact k27_mkM _ _ _ (⟨t233, t234⟩ : S27))
              (case aB => exact (by repeat (first | (with_reducible first | exact HB.out | apply below_alloc | apply pw_below_drewN | apply below_drew1 | refine below_set ?_ GE227.out | refine below_set ?_ GE228.out | refine below_set ?_ GE237.out) | exact HB.out)))
              (case aF => exact (fun k_ hk => Kd.freshB (g := gb237) (o := .cells #[.int .i64 t233, .string t234] 27 (0, 0)) (bq BK237.out) k_ hk))
              (case aO => exact (qR HO_229001.out))
              (case aS => exact (below_size (by repeat (first | (with_reducible first | exact HB.out | apply below_alloc | apply pw_below_drewN | apply below_drew1 | refine below_set ?_ GE227.out | refine below_set ?_ GE228.out | refine below_set ?_ GE237.out) | exact HB.out))))
              (case aL => have := LMc18.out; omega)
              intro v239 w28 ho hb hg hat
              rw [← Ny238.out] at ho
              have n0_ := Aside0.mk (Kd.R_over' (qR HO_21.out) (Kd.R_typed (qR HO_229001.out)) (by decide) hg)
              have n1_ := Aside0.mk (blk_grown (g := gb227) (o := .cells #[.int .i64 x228000_2, .slice none 0 0] 25 (0, 0)) (bq BK227.out) hg (Kd.R_ne HO_229001.out BK227.out (by decide)))
              have n2_ := Aside0.mk (blk_grown (g := gb228) (o := .cells #[.int .i64 a1, u229001] 25 (0, 0)) (bq BK228.out) hg (Kd.R_ne HO_229001.out BK228.out (by decide)))
              have n3_ := Aside0.mk (blk_grown (g := gb237) (o := .cells #[.int .i64 t233, .string t234] 27 (0, 0)) (bq BK237.out) hg (Kd.R_away HO_229001.out (fun _ hk => hk)))
              have n4_ := Aside0.mk (hb)
              have n5_ := Aside0.mk (ho)
              clear HO_21
              clear BK227
              clear BK228
              clear BK237
              clear HB
              clear HO_229001
              have HO_21 := n0_
              have BK227 := n1_
              have BK228 := n2_
              have BK237 := n3_
              have HB := n4_
              have HO240 := n5_
              clear n0_ n1_ n2_ n3_ n4_ n5_
              clear ho hb hg hat
              obtain ⟨Ao29, co29, eo29⟩ := Kd.R_slice HO240.out
              (first | subst eo29 | (injection eo29 with f1_ f2_ f3_; have f4_ := f1_.symm; have f5_ := f3_.symm; clear f1_ f2_ f3_; subst f4_; subst f5_))
              refine hK.out _ _ ⟨(blk_cell BK228.out 0).trans rfl, (blk_cell BK228.out 1).trans rfl, (blk_cell BK237.out 0).trans rfl, (blk_cell BK237.out 1).trans rfl⟩ (fun hHeld => ?_)
              clear hK K
              refine norm_ (a' := ?_) (show Act.put _ (some 48) _ = _ from pp) ?_
              refine pure_ (i := 8) (N := some 52) (v := ?_) (a' := ?_) #[true,true,true,true,true,true,true,true,true,false,false] rfl rfl (any_of HT_.out (by kernel_rfl)) (fun _ _ _ h => h) (Or.inl ⟨by rfl, pv⟩) pp ?_
              refine last_ (i := 9) (N := none) #[true,true,true,true,true,true,true,true,true,true,false] rfl rfl (one_of HT_.out (by kernel_rfl)) (by decide) (fun K hK => ?_)
              have hs30 : w28.cell? ⟨gb228, 1, none⟩ = some (u229001) := (blk_cell BK228.out 1).trans rfl
              have hfs30 := blk_frozen BK228.out 1
              have hns30_0 := NB227_228.out
              have hns30_2 := NB237_228.out
              have hms30_0 := NB228_227.out
              have hms30_2 := NB228_237.out
              refine skip_ (w1 := ?_) (by rfl) rfl ?_ ?_
              rotate_left
              ·go_simp
               rfl
              refine hK.out _ _ ?_
              clear hK K
              refine pure_ (i := 10) (N := some 0) (v := ?_) (a' := ?_) #[true,true,true,true,true,true,true,true,true,true,true] rfl rfl (any_of HT_.out (by kernel_rfl)) (fun _ _ _ h => h) (Or.inl ⟨by rfl, pv⟩) pp ?_
              refine done_ (done_of HT_.out (by kernel_rfl)) ?_
              try go_wp2
              go_roundg k2
              case measure => have := HK1.out; have := HK2.out; omega
              case rel => exact ⟨(x0_2.extract (t235 : Int).toNat x0_2.size), (wrap64 (x23_2 + 1)), (x228000_2), (y238), (.slice Ao29 y238.length co29), dq, dq, H', ⟨by have := HK1.out; have := HK2.out; omega⟩, ⟨by (with_reducible repeat (first | apply Kd.R_alloc | apply Kd.R_drewN | apply Kd.R_drew)); exact Kd.R_mono (Kd.R_far (p := ⟨gb228, 1, none⟩) (Kd.R_types HO_21.out BK228.out (by decide)) (fun _ hk => hk.2) (.slice Ao29 y238.length co29)) (fun _ hk => trivial)⟩, ⟨by (with_reducible repeat (first | apply Kd.R_alloc | apply Kd.R_drewN | apply Kd.R_drew)); exact Kd.R_mono (Kd.R_far (p := ⟨gb228, 1, none⟩) (Kd.R_types HO240.out BK228.out (by decide)) (fun _ hk => hk.2) (.slice Ao29 y238.length co29)) (fun _ hk => trivial)⟩, ⟨by (with_reducible repeat (first | refine blk_drewN ?_ _ | refine blk_drew ?_ | refine blk_alloc ?_ _)); refine blk_far ?_ NB227_228.out _; (with_reducible repeat (first | refine blk_drewN ?_ _ | refine blk_drew ?_ | refine blk_alloc ?_ _)); exact BK227.out⟩, ⟨by (with_reducible repeat (first | refine blk_drewN ?_ _ | refine blk_drew ?_ | refine blk_alloc ?_ _)); refine blk_put (cs := #[.int .i64 a1, u229001]) ?_ 1 _ rfl; (with_reducible repeat (first | refine blk_drewN ?_ _ | refine blk_drew ?_ | refine blk_alloc ?_ _)); exact BK228.out⟩, ⟨by repeat (first | (with_reducible first | exact HB.out | apply below_alloc | apply pw_below_drewN | apply below_drew1 | refine below_set ?_ GE227.out | refine below_set ?_ GE228.out | refine below_set ?_ GE237.out) | exact HB.out)⟩⟩
             ·rw [if_neg c20] at H
              exact absurd H (by simp)
            ·rw [if_neg c19] at H
             exact absurd H (by simp)
           ·rw [if_neg c18] at H
            exact absurd H (by simp)
          ·rw [if_neg c17] at H
           have c17b0 : (t233 == (rd t229 x23_2)) = false := beq_eq_false_iff_ne.mpr c17
           have c17b1 : (t233 != (rd t229 x23_2)) = true := bne_iff_ne.mpr c17
           simp only [Option.some.injEq, Prod.mk.injEq] at H
           obtain ⟨rfl, rfl, rfl, rfl⟩ := H
           have p232 : 0 ≤ (x23_2 : Int) := of_decide_eq_true aq
           have q232 : x23_2 < (t229.length : Int) := of_decide_eq_true aq
           obtain ⟨ad232, e232, hx232_0⟩ := Kd.at_int (Kd.R_reads' HO_21.out).2.2 x23_2 p232 q232
           cases e232
           replace p232 := eq_true p232
           replace q232 := eq_true q232
           go_wp2_with (first | ((with_reducible refine gate_callee (f := 70) rfl ?_); refine goesL_ (some 29) rfl rfl Try.func70 (by kernel_rfl) rfl #[.string x0_2] rfl eq_ ?_; (with_reducible refine (primitive_Decode.calls k2 x0_2 t233 t234 t235 t236 _ A15.out).mono ?_); rintro e w31 ⟨rfl, hb⟩; refine ⟨_, rfl, ?_⟩; replace HO_21 := Aside0.mk (Kd.R_below (qR HO_21.out) hb); replace HO_229001 := Aside0.mk (Kd.R_below (qR HO_229001.out) hb); replace BK227 := Aside0.mk (blk_below (g := gb227) (o := .cells #[.int .i64 x228000_2, .slice none 0 0] 25 (0, 0)) (bq BK227.out) hb); replace BK228 := Aside0.mk (blk_below (g := gb228) (o := .cells #[.int .i64 a1, u229001] 25 (0, 0)) (bq BK228.out) hb); replace HB := Aside0.mk (below_step (hq2 HB.out GE227.out GE228.out) hb); (try clear hb)) | ((with_reducible refine gate_dst (N := 12) rfl ?_); refine box_event ?hg (N := 12) ?hd (cs := #[.int .i64 0, .string (⟨#[]⟩ : ByteArray)]) (t := 27) ?hr ?_; (case hd => rfl); (case hg => rfl); (case hr => first | (go_simp; done) | (go_simp; rfl)); intro gb237 hg w32 hbox hb; replace HO_21 := Aside0.mk (Kd.R_below (qR HO_21.out) hb); replace HO_229001 := Aside0.mk (Kd.R_below (Kd.R_elderB (qR HO_229001.out) gb237 (Nat.le_of_eq hg.symm)) hb); have BK237 := Aside0.mk (hbox); have GW237 := Aside0.mk ((by rw [hg]; exact (below_size (hq2 HB.out GE227.out GE228.out)) : w.heap.size ≤ gb237)); have GE237 := Aside0.mk ((by rw [hg]; exact (below_size (hq2 HB.out GE227.out GE228.out)) : w.heap.size ≤ gb237)); replace HB := Aside0.mk (below_step (hq2 HB.out GE227.out GE228.out) hb); have NB227_237 := Aside0.mk ((by rw [hg]; exact Nat.ne_of_lt (blk_lt (g := gb227) (o := .cells #[.int .i64 x228000_2, .slice none 0 0] 25 (0, 0)) (bq BK227.out)) : gb227 ≠ gb237)); have NB237_227 := Aside0.mk ((by rw [hg]; exact Nat.ne_of_gt (blk_lt (g := gb227) (o := .cells #[.int .i64 x228000_2, .slice none 0 0] 25 (0, 0)) (bq BK227.out)) : gb237 ≠ gb227)); replace BK227 := Aside0.mk (blk_below (g := gb227) (o := .cells #[.int .i64 x228000_2, .slice none 0 0] 25 (0, 0)) (bq BK227.out) hb); have NB228_237 := Aside0.mk ((by rw [hg]; exact Nat.ne_of_lt (blk_lt (g := gb228) (o := .cells #[.int .i64 a1, u229001] 25 (0, 0)) (bq BK228.out)) : gb228 ≠ gb237)); have NB237_228 := Aside0.mk ((by rw [hg]; exact Nat.ne_of_gt (blk_lt (g := gb228) (o := .cells #[.int .i64 a1, u229001] 25 (0, 0)) (bq BK228.out)) : gb237 ≠ gb228)); replace BK228 := Aside0.mk (blk_below (g := gb228) (o := .cells #[.int .i64 a1, u229001] 25 (0, 0)) (bq BK228.out) hb); clear hb hbox hg; have hnb33 := NB237_227.out; have hnc33 := NB227_237.out; have hnb34 := NB237_228.out; have hnc34 := NB228_237.out; have hcz35_0 : w32.cell? ⟨gb237, 0, none⟩ = some (.int .i64 0) := (blk_cell BK237.out 0).trans rfl; have hcz35_1 : w32.cell? ⟨gb237, 1, none⟩ = some (.string (⟨#[]⟩ : ByteArray)) := (blk_cell BK237.out 1).trans rfl; have hfz35_0 := blk_frozen BK237.out 0; have hfz35_1 := blk_frozen BK237.out 1; have hnb36 := NB228_227.out; have hnc36 := NB227_228.out; have hcz37_0 : w32.cell? ⟨gb228, 0, none⟩ = some (.int .i64 a1) := (blk_cell BK228.out 0).trans rfl; have hcz37_1 : w32.cell? ⟨gb228, 1, none⟩ = some (u229001) := (blk_cell BK228.out 1).trans rfl; have hfz37_0 := blk_frozen BK228.out 0; have hfz37_1 := blk_frozen BK228.out 1; have hcz38_0 : w32.cell? ⟨gb227, 0, none⟩ = some (.int .i64 x228000_2) := (blk_cell BK227.out 0).trans rfl; have hcz38_1 : w32.cell? ⟨gb227, 1, none⟩ = some (.slice none 0 0) := (blk_cell BK227.out 1).trans rfl; have hfz38_0 := blk_frozen BK227.out 0; have hfz38_1 := blk_frozen BK227.out 1; obtain ⟨Ao39, co39, eo39⟩ := Kd.R_slice HO_229001.out; subst eo39))
           refine bodyPost_ret (results_ctt rfl _ _ gb227 25 #[.int .i64 a1, .slice Ao39 x229001_2.length co39] (0, 0) _ rfl (by (with_reducible repeat (first | refine blk_drewN ?_ _ | refine blk_drew ?_ | refine blk_alloc ?_ _)); refine blk_put (cs := #[.int .i64 a1, .slice none 0 0]) ?_ 1 _ rfl; (with_reducible repeat (first | refine blk_drewN ?_ _ | refine blk_drew ?_ | refine blk_alloc ?_ _)); refine blk_put (cs := #[.int .i64 x228000_2, .slice none 0 0]) ?_ 0 _ rfl; (with_reducible repeat (first | refine blk_drewN ?_ _ | refine blk_drew ?_ | refine blk_alloc ?_ _)); refine blk_far ?_ NB227_237.out _; (with_reducible repeat (first | refine blk_drewN ?_ _ | refine blk_drew ?_ | refine blk_alloc ?_ _)); refine blk_far ?_ NB227_237.out _; (with_reducible repeat (first | refine blk_drewN ?_ _ | refine blk_drew ?_ | refine blk_alloc ?_ _)); exact BK227.out) Try.underlying25 rfl (by kernel_rfl)) rfl ?_
           exact ⟨_, rq_, by (with_reducible repeat (first | apply Kd.R_alloc | apply Kd.R_drewN | apply Kd.R_drew)); exact Kd.R_mono (Kd.R_far (p := ⟨gb227, 1, none⟩) (Kd.R_far (p := ⟨gb227, 0, none⟩) (Kd.R_far (p := ⟨gb237, 1, none⟩) (Kd.R_far (p := ⟨gb237, 0, none⟩) (Kd.R_types (Kd.R_mono HO_229001.out (fun k_ hk => (⟨hk, hk.2⟩ : _ ∧ k_ ≠ gb237))) BK227.out (by decide)) (fun _ hk => hk.1.2) (.int .i64 t233)) (fun _ hk => hk.1.2) (.string t234)) (fun _ hk => hk.2) (.int .i64 a1)) (fun _ hk => hk.2) (.slice Ao39 x229001_2.length co39)) (fun _ hk => trivial), by repeat (first | (with_reducible first | exact HB.out | apply below_alloc | apply pw_below_drewN | apply below_drew1 | refine below_set ?_ GE227.out | refine below_set ?_ GE228.out | refine below_set ?_ GE237.out) | exact HB.out)⟩
         ·rw [if_neg c16] at H
          have c16b0 : (t236 == 0) = false := beq_eq_false_iff_ne.mpr c16
          have c16b1 : (t236 != 0) = true := bne_iff_ne.mpr c16
          simp only [Option.some.injEq, Prod.mk.injEq] at H
          obtain ⟨rfl, rfl, rfl, rfl⟩ := H
          have p232 : 0 ≤ (x23_2 : Int) := of_decide_eq_true aq
          have q232 : x23_2 < (t229.length : Int) := of_decide_eq_true aq
          obtain ⟨ad232, e232, hx232_0⟩ := Kd.at_int (Kd.R_reads' HO_21.out).2.2 x23_2 p232 q232
          cases e232
          replace p232 := eq_true p232
          replace q232 := eq_true q232
          go_wp2_with (first | ((with_reducible refine gate_callee (f := 70) rfl ?_); refine goesL_ (some 29) rfl rfl Try.func70 (by kernel_rfl) rfl #[.string x0_2] rfl eq_ ?_; (with_reducible refine (primitive_Decode.calls k2 x0_2 t233 t234 t235 t236 _ A15.out).mono ?_); rintro e w40 ⟨rfl, hb⟩; refine ⟨_, rfl, ?_⟩; replace HO_21 := Aside0.mk (Kd.R_below (qR HO_21.out) hb); replace HO_229001 := Aside0.mk (Kd.R_below (qR HO_229001.out) hb); replace BK227 := Aside0.mk (blk_below (g := gb227) (o := .cells #[.int .i64 x228000_2, .slice none 0 0] 25 (0, 0)) (bq BK227.out) hb); replace BK228 := Aside0.mk (blk_below (g := gb228) (o := .cells #[.int .i64 a1, u229001] 25 (0, 0)) (bq BK228.out) hb); replace HB := Aside0.mk (below_step (hq2 HB.out GE227.out GE228.out) hb); (try clear hb)) | ((with_reducible refine gate_dst (N := 12) rfl ?_); refine box_event ?hg (N := 12) ?hd (cs := #[.int .i64 0, .string (⟨#[]⟩ : ByteArray)]) (t := 27) ?hr ?_; (case hd => rfl); (case hg => rfl); (case hr => first | (go_simp; done) | (go_simp; rfl)); intro gb237 hg w41 hbox hb; replace HO_21 := Aside0.mk (Kd.R_below (qR HO_21.out) hb); replace HO_229001 := Aside0.mk (Kd.R_below (Kd.R_elderB (qR HO_229001.out) gb237 (Nat.le_of_eq hg.symm)) hb); have BK237 := Aside0.mk (hbox); have GW237 := Aside0.mk ((by rw [hg]; exact (below_size (hq2 HB.out GE227.out GE228.out)) : w.heap.size ≤ gb237)); have GE237 := Aside0.mk ((by rw [hg]; exact (below_size (hq2 HB.out GE227.out GE228.out)) : w.heap.size ≤ gb237)); replace HB := Aside0.mk (below_step (hq2 HB.out GE227.out GE228.out) hb); have NB227_237 := Aside0.mk ((by rw [hg]; exact Nat.ne_of_lt (blk_lt (g := gb227) (o := .cells #[.int .i64 x228000_2, .slice none 0 0] 25 (0, 0)) (bq BK227.out)) : gb227 ≠ gb237)); have NB237_227 := Aside0.mk ((by rw [hg]; exact Nat.ne_of_gt (blk_lt (g := gb227) (o := .cells #[.int .i64 x228000_2, .slice none 0 0] 25 (0, 0)) (bq BK227.out)) : gb237 ≠ gb227)); replace BK227 := Aside0.mk (blk_below (g := gb227) (o := .cells #[.int .i64 x228000_2, .slice none 0 0] 25 (0, 0)) (bq BK227.out) hb); have NB228_237 := Aside0.mk ((by rw [hg]; exact Nat.ne_of_lt (blk_lt (g := gb228) (o := .cells #[.int .i64 a1, u229001] 25 (0, 0)) (bq BK228.out)) : gb228 ≠ gb237)); have NB237_228 := Aside0.mk ((by rw [hg]; exact Nat.ne_of_gt (blk_lt (g := gb228) (o := .cells #[.int .i64 a1, u229001] 25 (0, 0)) (bq BK228.out)) : gb237 ≠ gb228)); replace BK228 := Aside0.mk (blk_below (g := gb228) (o := .cells #[.int .i64 a1, u229001] 25 (0, 0)) (bq BK228.out) hb); clear hb hbox hg; have hnb42 := NB237_227.out; have hnc42 := NB227_237.out; have hnb43 := NB237_228.out; have hnc43 := NB228_237.out; have hcz44_0 : w41.cell? ⟨gb237, 0, none⟩ = some (.int .i64 0) := (blk_cell BK237.out 0).trans rfl; have hcz44_1 : w41.cell? ⟨gb237, 1, none⟩ = some (.string (⟨#[]⟩ : ByteArray)) := (blk_cell BK237.out 1).trans rfl; have hfz44_0 := blk_frozen BK237.out 0; have hfz44_1 := blk_frozen BK237.out 1; have hnb45 := NB228_227.out; have hnc45 := NB227_228.out; have hcz46_0 : w41.cell? ⟨gb228, 0, none⟩ = some (.int .i64 a1) := (blk_cell BK228.out 0).trans rfl; have hcz46_1 : w41.cell? ⟨gb228, 1, none⟩ = some (u229001) := (blk_cell BK228.out 1).trans rfl; have hfz46_0 := blk_frozen BK228.out 0; have hfz46_1 := blk_frozen BK228.out 1; have hcz47_0 : w41.cell? ⟨gb227, 0, none⟩ = some (.int .i64 x228000_2) := (blk_cell BK227.out 0).trans rfl; have hcz47_1 : w41.cell? ⟨gb227, 1, none⟩ = some (.slice none 0 0) := (blk_cell BK227.out 1).trans rfl; have hfz47_0 := blk_frozen BK227.out 0; have hfz47_1 := blk_frozen BK227.out 1; obtain ⟨Ao48, co48, eo48⟩ := Kd.R_slice HO_229001.out; subst eo48))
          refine bodyPost_ret (results_ctt rfl _ _ gb227 25 #[.int .i64 a1, .slice Ao48 x229001_2.length co48] (0, 0) _ rfl (by (with_reducible repeat (first | refine blk_drewN ?_ _ | refine blk_drew ?_ | refine blk_alloc ?_ _)); refine blk_put (cs := #[.int .i64 a1, .slice none 0 0]) ?_ 1 _ rfl; (with_reducible repeat (first | refine blk_drewN ?_ _ | refine blk_drew ?_ | refine blk_alloc ?_ _)); refine blk_put (cs := #[.int .i64 x228000_2, .slice none 0 0]) ?_ 0 _ rfl; (with_reducible repeat (first | refine blk_drewN ?_ _ | refine blk_drew ?_ | refine blk_alloc ?_ _)); refine blk_far ?_ NB227_237.out _; (with_reducible repeat (first | refine blk_drewN ?_ _ | refine blk_drew ?_ | refine blk_alloc ?_ _)); refine blk_far ?_ NB227_237.out _; (with_reducible repeat (first | refine blk_drewN ?_ _ | refine blk_drew ?_ | refine blk_alloc ?_ _)); exact BK227.out) Try.underlying25 rfl (by kernel_rfl)) rfl ?_
          exact ⟨_, rq_, by (with_reducible repeat (first | apply Kd.R_alloc | apply Kd.R_drewN | apply Kd.R_drew)); exact Kd.R_mono (Kd.R_far (p := ⟨gb227, 1, none⟩) (Kd.R_far (p := ⟨gb227, 0, none⟩) (Kd.R_far (p := ⟨gb237, 1, none⟩) (Kd.R_far (p := ⟨gb237, 0, none⟩) (Kd.R_types (Kd.R_mono HO_229001.out (fun k_ hk => (⟨hk, hk.2⟩ : _ ∧ k_ ≠ gb237))) BK227.out (by decide)) (fun _ hk => hk.1.2) (.int .i64 t233)) (fun _ hk => hk.1.2) (.string t234)) (fun _ hk => hk.2) (.int .i64 a1)) (fun _ hk => hk.2) (.slice Ao48 x229001_2.length co48)) (fun _ hk => trivial), by repeat (first | (with_reducible first | exact HB.out | apply below_alloc | apply pw_below_drewN | apply below_drew1 | refine below_set ?_ GE227.out | refine below_set ?_ GE228.out | refine below_set ?_ GE237.out) | exact HB.out)⟩
        ·rw [if_neg c14] at H
         exact absurd H (by simp)
       ·rw [if_neg c13] at H
        exact absurd H (by simp)
      ·rw [if_neg c12] at H
       have c12b0 := decide_eq_false c12
       clear c12
       have H' := Aside0.mk H
       clear H
       go_wp2
       go_roundg k2
       case measure => have := HK1.out; have := HK2.out; omega
       case rel => exact ⟨(x0_2), (wrap64 (x18_1 + 1)), (x228000_2), (x229001_2), (u229001), dq, dq, H', ⟨by have := HK1.out; have := HK2.out; omega⟩, ⟨by (with_reducible repeat (first | apply Kd.R_alloc | apply Kd.R_drewN | apply Kd.R_drew)); exact HO_229001.out⟩, ⟨by (with_reducible repeat (first | refine blk_drewN ?_ _ | refine blk_drew ?_ | refine blk_alloc ?_ _)); exact BK227.out⟩, ⟨by (with_reducible repeat (first | refine blk_drewN ?_ _ | refine blk_drew ?_ | refine blk_alloc ?_ _)); exact BK228.out⟩, ⟨hq2 HB.out GE227.out GE228.out⟩⟩
   ·rw [if_neg c8] at H
    have c8b0 := decide_eq_false c8
    clear c8
    simp only [Option.some.injEq, Prod.mk.injEq] at H
    obtain ⟨rfl, rfl, rfl, rfl⟩ := H
    have hnb49 := NB228_227.out
    have hnc49 := NB227_228.out
    have hcz50_0 : wr.cell? ⟨gb228, 0, none⟩ = some (.int .i64 a1) := (blk_cell BK228.out 0).trans rfl
    have hcz50_1 : wr.cell? ⟨gb228, 1, none⟩ = some (u229001) := (blk_cell BK228.out 1).trans rfl
    have hfz50_0 := blk_frozen BK228.out 0
    have hfz50_1 := blk_frozen BK228.out 1
    have hcz51_0 : wr.cell? ⟨gb227, 0, none⟩ = some (.int .i64 x228000_1) := (blk_cell BK227.out 0).trans rfl
    have hcz51_1 : wr.cell? ⟨gb227, 1, none⟩ = some (.slice none 0 0) := (blk_cell BK227.out 1).trans rfl
    have hfz51_0 := blk_frozen BK227.out 0
    have hfz51_1 := blk_frozen BK227.out 1
    obtain ⟨Ao52, co52, eo52⟩ := Kd.R_slice HO_229001.out
    subst eo52
    go_wp2
    refine bodyPost_ret (results_ctt rfl _ _ gb227 25 #[.int .i64 a1, .slice Ao52 x229001_1.length co52] (0, 0) _ rfl (by (with_reducible repeat (first | refine blk_drewN ?_ _ | refine blk_drew ?_ | refine blk_alloc ?_ _)); refine blk_put (cs := #[.int .i64 a1, .slice none 0 0]) ?_ 1 _ rfl; (with_reducible repeat (first | refine blk_drewN ?_ _ | refine blk_drew ?_ | refine blk_alloc ?_ _)); refine blk_put (cs := #[.int .i64 x228000_1, .slice none 0 0]) ?_ 0 _ rfl; (with_reducible repeat (first | refine blk_drewN ?_ _ | refine blk_drew ?_ | refine blk_alloc ?_ _)); exact BK227.out) Try.underlying25 rfl (by kernel_rfl)) rfl ?_
    exact ⟨_, rq_, by (with_reducible repeat (first | apply Kd.R_alloc | apply Kd.R_drewN | apply Kd.R_drew)); exact Kd.R_mono (Kd.R_far (p := ⟨gb227, 1, none⟩) (Kd.R_far (p := ⟨gb227, 0, none⟩) (Kd.R_types HO_229001.out BK227.out (by decide)) (fun _ hk => hk.2) (.int .i64 a1)) (fun _ hk => hk.2) (.slice Ao52 x229001_1.length co52)) (fun _ hk => trivial), hq2 HB.out GE227.out GE228.out⟩

/-! ### stream_read: function 37 -/
mutual
def stream_read.l0 : Nat → ByteArray → List (S25) → Option ((List (S25)) × ByteArray × Int)
  | 0, _, _ => none
  | k + 1, x0, x5 => if x0.toList = ([] : List UInt8) then (stream_read.j1 k x0 x5 false) else (if 0 < (x0.size : Int) then (stream_read.j1 k x0 x5 ((bt x0 0) == 45)) else (none))
def stream_read.j1 : Nat → ByteArray → List (S25) → Bool → Option ((List (S25)) × ByteArray × Int)
  | 0, _, _, _ => none
  | k + 1, x0, x5, x18 => if x18 = true then ((stream_marked.f k x0).bind fun bt241 => (if bt241.2.2 = true then (if 4 ≤ (x0.size : Int) then ((stream_group.f k (x0.extract 4 x0.size) bt241.1 bt241.2.1).bind fun bt244 => (if bt244.2.2.2 = 0 then (if x5.length < 4398046511104 then (stream_read.l0 k bt244.2.2.1 (x5 ++ [(⟨bt244.1, bt244.2.1⟩ : S25)])) else (none)) else (some (([] : List (S25)), (⟨#[]⟩ : ByteArray), bt244.2.2.2)))) else (none)) else (some (([] : List (S25)), (⟨#[]⟩ : ByteArray), 4)))) else (some (x5, x0, 0))
end
def stream_read.f (k : Nat) (a0 : ByteArray) : Option ((List (S25)) × ByteArray × Int) := stream_read.l0 k a0 ([] : List (S25))
theorem stream_read.mono_l : ∀ k, (∀ y0 y1, LeO (stream_read.l0 k y0 y1) (stream_read.l0 (k + 1) y0 y1)) ∧ (∀ y0 y1 y2, LeO (stream_read.j1 k y0 y1 y2) (stream_read.j1 (k + 1) y0 y1 y2))
  | 0 => ⟨fun _ _ r h => by simp [stream_read.l0] at h, fun _ _ _ r h => by simp [stream_read.j1] at h⟩
  | k + 1 => by
    obtain ⟨ih0, ih1⟩ := stream_read.mono_l k
    refine ⟨?_, ?_⟩
    · intro y0 y1
      unfold stream_read.l0
      repeat' first
      | (with_reducible exact ih0 _ _)
      | (with_reducible exact ih1 _ _ _)
      | (with_reducible exact stream_group.mono _ _ _ _)
      | (with_reducible exact stream_marked.mono _ _)
      | (with_reducible exact LeO.refl _)
      | (with_reducible exact LeO.none _)
      | (with_reducible refine LeO.ite ?_ ?_)
      | (with_reducible refine LeO.bind ?_ (fun _ => ?_))
      | exact ih0 _ _
      | exact ih1 _ _ _
      | exact stream_group.mono _ _ _ _
      | exact stream_marked.mono _ _
      | exact LeO.none _
      | refine LeO.ite ?_ ?_
      | refine LeO.bind ?_ (fun _ => ?_)
    · intro y0 y1 y2
      unfold stream_read.j1
      repeat' first
      | (with_reducible exact ih0 _ _)
      | (with_reducible exact ih1 _ _ _)
      | (with_reducible exact stream_group.mono _ _ _ _)
      | (with_reducible exact stream_marked.mono _ _)
      | (with_reducible exact LeO.refl _)
      | (with_reducible exact LeO.none _)
      | (with_reducible refine LeO.ite ?_ ?_)
      | (with_reducible refine LeO.bind ?_ (fun _ => ?_))
      | exact ih0 _ _
      | exact ih1 _ _ _
      | exact stream_group.mono _ _ _ _
      | exact stream_marked.mono _ _
      | exact LeO.none _
      | refine LeO.ite ?_ ?_
      | refine LeO.bind ?_ (fun _ => ?_)
theorem stream_read.mono : ∀ a0 k, LeO (stream_read.f k a0) (stream_read.f (k + 1) a0) := by
  intro a0 k
  obtain ⟨ih0, ih1⟩ := stream_read.mono_l k
  unfold stream_read.f
  repeat' first
      | (with_reducible exact ih0 _ _)
      | (with_reducible exact ih1 _ _ _)
      | (with_reducible exact stream_group.mono _ _ _ _)
      | (with_reducible exact stream_marked.mono _ _)
      | (with_reducible exact LeO.refl _)
      | (with_reducible exact LeO.none _)
      | (with_reducible refine LeO.ite ?_ ?_)
      | (with_reducible refine LeO.bind ?_ (fun _ => ?_))
      | exact ih0 _ _
      | exact ih1 _ _ _
      | exact stream_group.mono _ _ _ _
      | exact stream_marked.mono _ _
      | exact LeO.none _
      | refine LeO.ite ?_ ?_
      | refine LeO.bind ?_ (fun _ => ?_)
set_option maxHeartbeats 8000000 in
set_option maxRecDepth 100000 in
theorem stream_read.calls (k : Nat) (a0 : ByteArray) (r1 : List (S25)) (r2 : ByteArray) (r3 : Int) (w : World) (h : stream_read.f k a0 = some (r1, r2, r3)) :
    Calls Try.prog 37 #[.string a0] w fun e w' => ∃ v0_ : Value, e = .returned (.tuple #[v0_, .string r2, .int .i64 r3]) ∧ Kd.S k25 25 w' w.heap.size (fun _ => True) v0_ r1 ∧ Below w.heap.size w w' := by
 have hu25 := Try.underlying25
 have HB := Aside0.mk (Below.refl w.heap.size w)
 have H : (stream_read.l0 k a0 ([] : List (S25))) = some (r1, r2, r3) := h
 clear h
 have H' := Aside0.mk H
 clear H
 go_enter Try.func37, Try.ntmps37
 go_wp2
 go_loopg [0,5] k (fun kq v0 v5 w' => ∃ (x0_1 : ByteArray) (x5_1 : List (S25)), v0 = .string x0_1 ∧ Aside0 (stream_read.l0 kq x0_1 x5_1 = some (r1, r2, r3)) ∧ Aside0 (kq ≤ k) ∧ Aside0 (Kd.S k25 25 w' w.heap.size (fun _ => True) v5 x5_1) ∧ Aside0 (Below w.heap.size w w'))
 case atStart => exact ⟨(a0), (([] : List (S25))), dq, H', ⟨Nat.le_refl _⟩, ⟨by first | exact Kd.S_nil _ _ _ _ _ | exact Kd.N_nil _ _ _ _ _ | exact Kd.V_nil _ _ _ _ _ | exact Kd.Q_nil _ _ _ _ _ | exact Kd.R_nil _ _ _ _ _⟩, ⟨hq HB.out⟩⟩
 case round =>
  clear H'
  obtain ⟨x0_1, x5_1, rfl, HA, HK1, HO_5, HB⟩ := hrel
  cases gk with
  | zero => exact absurd HA.out (by simp [stream_read.l0])
  | succ k1 =>
   have H := HA.out
   clear HA
   simp only [stream_read.l0] at H
   have HC2 := Aside0.mk H
   clear H
   go_upto_region 2 with (fail)
   go_cut [18] (fun v18 wc => ∃ (kq : Nat) (x18_1 : Bool), v18 = .bool x18_1 ∧ Aside0 (stream_read.j1 kq x0_1 x5_1 x18_1 = some (r1, r2, r3)) ∧ Aside0 (kq ≤ k1) ∧ Aside0 (Kd.S k25 25 wc w.heap.size (fun _ => True) u5 x5_1) ∧ Aside0 (Below w.heap.size w wc))
   case first =>
    have H := HC2.out
    clear HC2
    by_cases c3 : x0_1.toList = ([] : List UInt8)
    ·rw [if_pos c3] at H
     have c3b0 : (x0_1.toList == ([] : List UInt8)) = true := beq_iff_eq.mpr c3
     have c3b1 : (x0_1.toList != ([] : List UInt8)) = false := bne_eq_false_iff_eq.mpr c3
     clear c3
     (first | rw [c3b0] | (simp only [i64_w, i32_w]; rw [c3b0]) | skip)
     have H' := Aside0.mk H
     clear H
     go_wp2
     go_meet
     case rel => exact ⟨_, (false), dq, H', ⟨by have := HK1.out; first | omega | exact Nat.le_refl _⟩, ⟨by (with_reducible repeat (first | apply Kd.S_alloc | apply Kd.S_drewN | apply Kd.S_drew)); exact HO_5.out⟩, ⟨hq HB.out⟩⟩
    ·rw [if_neg c3] at H
     have c3b0 : (x0_1.toList == ([] : List UInt8)) = false := beq_eq_false_iff_ne.mpr c3
     have c3b1 : (x0_1.toList != ([] : List UInt8)) = true := bne_iff_ne.mpr c3
     (first | rw [c3b0] | (simp only [i64_w, i32_w]; rw [c3b0]) | skip)
     by_cases c4 : 0 < (x0_1.size : Int)
     ·rw [if_pos c4] at H
      have c4b0 := decide_eq_true c4
      have c4b1 : decide (0 < x0_1.size) = true := decide_eq_true (by omega)
      clear c4
      have H' := Aside0.mk H
      clear H
      have p5 : 0 ≤ (0 : Int) := (by omega)
      have q5 : 0 < x0_1.size := (by have : (0 : Int) < (x0_1.size : Int) := of_decide_eq_true aq; omega)
      have hx5 : ∀ h : 0 < x0_1.size, ((x0_1[0]'h).toNat : Int) = bt x0_1 0 := bt_at x0_1 0
      clear p5
      have qi5 : (0 < (x0_1.size : Int)) = True := eq_true (of_decide_eq_true aq)
      replace q5 := eq_true q5
      go_wp2
      go_meet
      case rel => exact ⟨_, (((bt x0_1 0) == 45)), dq, H', ⟨by have := HK1.out; first | omega | exact Nat.le_refl _⟩, ⟨by (with_reducible repeat (first | apply Kd.S_alloc | apply Kd.S_drewN | apply Kd.S_drew)); exact HO_5.out⟩, ⟨hq HB.out⟩⟩
     ·rw [if_neg c4] at H
      exact absurd H (by simp)
   case rest =>
    clear HC2
    try clear p2
    try clear c3
    try clear c3b0
    try clear c3b1
    try clear c4
    try clear c4b0
    try clear c4b1
    try clear p5
    try clear q5
    try clear hx5
    try clear qi5
    try clear p5
    try clear q5
    obtain ⟨kq, x18_1, rfl, HA, HJ1, HO_5, HB⟩ := hcut
    cases kq with
    | zero => exact absurd HA.out (by simp [stream_read.j1])
    | succ kj1 =>
     have H := HA.out
     clear HA
     simp only [stream_read.j1] at H
     by_cases c6 : x18_1 = true
     ·subst c6
      rw [if_pos rfl] at H
      obtain ⟨⟨t241, t242, t243⟩, A7, H⟩ := bindS H
      try dsimp only at H
      by_cases c8 : t243 = true
      ·subst c8
       rw [if_pos rfl] at H
       by_cases c9 : 4 ≤ (x0_1.size : Int)
       ·rw [if_pos c9] at H
        have c9b0 := eq_true c9
        have c9b1 := decide_eq_true c9
        clear c9
        obtain ⟨⟨t244, t245, t248, t249⟩, A10, H⟩ := bindS H
        try dsimp only at H
        by_cases c11 : t249 = 0
        ·rw [if_pos c11] at H
         have c11b0 : (t249 == 0) = true := beq_iff_eq.mpr c11
         have c11b1 : (t249 != 0) = false := bne_eq_false_iff_eq.mpr c11
         clear c11
         by_cases c12 : x5_1.length < 4398046511104
         ·rw [if_pos c12] at H
          have LMc12 := Aside0.mk c12
          clear c12
          obtain ⟨y251, hy251⟩ : ∃ y_ : List (S25), y_ = (x5_1 ++ [(⟨t244, t245⟩ : S25)]) := ⟨_, rfl⟩
          replace H : (stream_read.l0 kj1 t248 y251) = some (r1, r2, r3) := by first | (rw [hy251]; with_reducible exact H) | (have H2_ := (Option.bind_some _ _).symm.trans H; rw [hy251]; with_reducible exact H2_) | (have H2_ := (Option.bind_some _ _).symm.trans H; with_reducible exact H2_) | with_reducible exact H | (rw [hy251]; exact H) | exact H
          have Ny251 := Aside0.mk hy251
          clear hy251
          have H' := Aside0.mk H
          clear H
          go_wp2_with (first | ((with_reducible refine gate_callee (f := 58) rfl ?_); refine goesL_ (some 21) rfl rfl Try.func58 (by kernel_rfl) rfl #[.string x0_1] rfl eq_ ?_; (with_reducible refine (stream_marked.calls kj1 x0_1 t241 t242 true _ A7.out).mono ?_); rintro e w13 ⟨rfl, hb⟩; refine ⟨_, rfl, ?_⟩; replace HO_5 := Aside0.mk (Kd.S_below (qS HO_5.out) hb); replace HB := Aside0.mk (below_step (hq HB.out) hb); (try clear hb)) | ((with_reducible refine gate_callee (f := 59) rfl ?_); refine goesL_ (some 32) rfl rfl Try.func59 (by kernel_rfl) rfl #[.string (x0_1.extract 4 x0_1.size), .int .i64 t241, .int .i64 t242] rfl eq_ ?_; (with_reducible refine (stream_group.calls kj1 (x0_1.extract 4 x0_1.size) t241 t242 t244 t245 t248 t249 _ A10.out).mono ?_); rintro e w14 ⟨v246, rfl, ho0, hb⟩; refine ⟨_, rfl, ?_⟩; replace HO_5 := Aside0.mk (Kd.S_elder' (qS HO_5.out) (Kd.R_base ho0) hb); have HO247 := Aside0.mk (Kd.R_lower ho0 (below_size (hq HB.out))); replace HB := Aside0.mk (below_step (hq HB.out) hb); (try clear hb); (try clear ho0)) | ((with_reducible refine gate_dst (N := 9) rfl ?_); refine box_event ?hg (N := 9) ?hd (cs := #[.int .i64 0, .slice none 0 0]) (t := 25) ?hr ?_; (case hd => rfl); (case hg => rfl); (case hr => first | (go_simp; done) | (go_simp; rfl)); intro gb250 hg w15 hbox hb; replace HO_5 := Aside0.mk (Kd.S_below (Kd.S_elderB (qS HO_5.out) gb250 (Nat.le_of_eq hg.symm)) hb); replace HO247 := Aside0.mk (Kd.R_below (qR HO247.out) hb); have BK250 := Aside0.mk (hbox); have GW250 := Aside0.mk ((by rw [hg]; exact (below_size (hq HB.out)) : w.heap.size ≤ gb250)); have GE250 := Aside0.mk ((by rw [hg]; exact (below_size (hq HB.out)) : w.heap.size ≤ gb250)); replace HB := Aside0.mk (below_step (hq HB.out) hb); clear hb hbox hg; have hcz16_0 : w15.cell? ⟨gb250, 0, none⟩ = some (.int .i64 0) := (blk_cell BK250.out 0).trans rfl; have hcz16_1 : w15.cell? ⟨gb250, 1, none⟩ = some (.slice none 0 0) := (blk_cell BK250.out 1).trans rfl; have hfz16_0 := blk_frozen BK250.out 0; have hfz16_1 := blk_frozen BK250.out 1; obtain ⟨Ao17, co17, eo17⟩ := Kd.R_slice HO247.out; subst eo17) | ((with_reducible refine gate_store (t := 25) (p := 9) rfl ?_); refine store_event (t := 25) (p := 9) (v := ?vo_w18) (w1 := ((w15.setCell ⟨gb250, 0, none⟩ (.int .i64 t244)).setCell ⟨gb250, 1, none⟩ (.slice Ao17 t245.length co17))) ?hg ?ho ?hn ?hr ?_; (case ho => rfl); (case hg => rfl); (case hn => rfl); (case hr => first | (go_simp; done) | (go_simp; rfl)); intro w18 hw; have n0_ : Aside0 (Kd.S k25 25 w18 w.heap.size (fun k_ => some k_ ≠ (.slice Ao17 t245.length co17 : Value).ownBlock ∧ k_ ≠ gb250) u5 x5_1) := ⟨(by rw [hw]; exact (by (with_reducible repeat (first | apply Kd.S_alloc | apply Kd.S_drewN | apply Kd.S_drew)); exact Kd.S_mono (Kd.S_far (p := ⟨gb250, 1, none⟩) (Kd.S_far (p := ⟨gb250, 0, none⟩) (Kd.S_mono HO_5.out (fun k_ hk => (⟨hk, hk.2⟩ : _ ∧ k_ ≠ gb250))) (fun _ hk => hk.2) (.int .i64 t244)) (fun _ hk => hk.2) (.slice Ao17 t245.length co17)) (fun _ hk => ⟨hk.1.1.2, hk.1.2⟩)))⟩; have n1_ : Aside0 (Kd.R k27 27 w18 w.heap.size (fun _ => True) (.slice Ao17 t245.length co17) t245) := ⟨(by rw [hw]; exact (by (with_reducible repeat (first | apply Kd.R_alloc | apply Kd.R_drewN | apply Kd.R_drew)); exact Kd.R_mono (Kd.R_far (p := ⟨gb250, 1, none⟩) (Kd.R_far (p := ⟨gb250, 0, none⟩) (Kd.R_types HO247.out BK250.out (by decide)) (fun _ hk => hk.2) (.int .i64 t244)) (fun _ hk => hk.2) (.slice Ao17 t245.length co17)) (fun _ hk => trivial)))⟩; have n2_ : Aside0 (w18.heap[gb250]? = some (.cells #[.int .i64 t244, .slice Ao17 t245.length co17] 25 (0, 0))) := ⟨(by rw [hw]; exact (by (with_reducible repeat (first | refine blk_drewN ?_ _ | refine blk_drew ?_ | refine blk_alloc ?_ _)); refine blk_put (cs := #[.int .i64 t244, .slice none 0 0]) ?_ 1 _ rfl; (with_reducible repeat (first | refine blk_drewN ?_ _ | refine blk_drew ?_ | refine blk_alloc ?_ _)); refine blk_put (cs := #[.int .i64 0, .slice none 0 0]) ?_ 0 _ rfl; (with_reducible repeat (first | refine blk_drewN ?_ _ | refine blk_drew ?_ | refine blk_alloc ?_ _)); exact BK250.out))⟩; have n3_ : Aside0 (Below w.heap.size w w18) := ⟨(by rw [hw]; exact (hq1 HB.out GE250.out))⟩; clear hw; clear HO_5; clear HO247; clear BK250; clear HB; have HO_5 := n0_; have HO247 := n1_; have BK250 := n2_; have HB := n3_; clear n0_ n1_ n2_ n3_; have hcz19_0 : w18.cell? ⟨gb250, 0, none⟩ = some (.int .i64 t244) := (blk_cell BK250.out 0).trans rfl; have hcz19_1 : w18.cell? ⟨gb250, 1, none⟩ = some (.slice Ao17 t245.length co17) := (blk_cell BK250.out 1).trans rfl; have hfz19_0 := blk_frozen BK250.out 0; have hfz19_1 := blk_frozen BK250.out 1) | ((with_reducible refine gate_builtin (b := .append) (xs := #[.tmp 39, .tmp 41]) rfl ?_); at_builtin; refine Kd.S_append k25 (w0 := w) w.heap.size rfl (.tmp 39) (.tmp 41) 22 25 (.agg #[(.int .i64 0), (.slice none 0 0)]) 32 rfl Try.underlying22 info25 rfl (by decide) (by omega) u5 x5_1 (⟨t244, t245⟩ : S25) [.int .i64 t244, .slice Ao17 t245.length co17] (fun k_ => k_ ≠ gb250) (fun k_ => some k_ = (.slice Ao17 t245.length co17 : Value).ownBlock) rfl rfl ?aP (fun k_ hk_ => ((Kd.R_mono (ok' := fun k_ => ((fun k_ => k_ ≠ gb250)) k_ ∧ some k_ ≠ (u5 : Value).ownBlock) (Kd.R_types (Kd.R_apart' (HO247.out) (Kd.S_typed HO_5.out) (by decide)) BK250.out (by decide)) (fun k_ hk => ⟨hk.2, hk.1.2⟩))).1 k_ hk_.symm) ?aF ?aO ?aB ?aS ?aL ?_; (case aP => exact k25_mkM _ _ _ (⟨t244, t245⟩ : S25) (Kd.R_mono (Kd.R_tight rfl (Kd.R_mono (ok' := fun k_ => ((fun k_ => k_ ≠ gb250)) k_ ∧ some k_ ≠ (u5 : Value).ownBlock) (Kd.R_types (Kd.R_apart' (HO247.out) (Kd.S_typed HO_5.out) (by decide)) BK250.out (by decide)) (fun k_ hk => ⟨hk.2, hk.1.2⟩))) (fun _ h_ => h_))); (case aB => exact (hq1 HB.out GE250.out)); (case aF => exact (fun k_ hk => Kd.freshB (g := gb250) (o := .cells #[.int .i64 t244, .slice Ao17 t245.length co17] 25 (0, 0)) (bq BK250.out) k_ hk)); (case aO => exact (by (with_reducible repeat (first | apply Kd.S_alloc | apply Kd.S_drewN | apply Kd.S_drew)); exact Kd.S_mono HO_5.out (fun k_ hk => ⟨hk.2, fun e_ => hk.1 e_⟩))); (case aS => exact (below_size (hq1 HB.out GE250.out))); (case aL => have := LMc12.out; omega); intro v252 w20 ho hb hg hat; rw [← Ny251.out] at ho; have n0_ := Aside0.mk (blk_grown (g := gb250) (o := .cells #[.int .i64 t244, .slice Ao17 t245.length co17] 25 (0, 0)) (bq BK250.out) hg (Kd.S_away HO_5.out (fun _ hk => hk.2))); have n1_ := Aside0.mk (hb); have n2_ := Aside0.mk (ho); clear BK250; clear HB; clear HO_5; clear HO247; have BK250 := n0_; have HB := n1_; have HO253 := n2_; clear n0_ n1_ n2_; clear ho hb hg hat))
          go_roundg kj1
          case measure => have := HK1.out; have := HJ1.out; omega
          case rel => exact ⟨(t248), (y251), dq, H', ⟨by have := HK1.out; have := HJ1.out; omega⟩, ⟨by (with_reducible repeat (first | apply Kd.S_alloc | apply Kd.S_drewN | apply Kd.S_drew)); exact Kd.S_mono HO253.out (fun _ hk => trivial)⟩, ⟨hq1 HB.out GE250.out⟩⟩
         ·rw [if_neg c12] at H
          exact absurd H (by simp)
        ·rw [if_neg c11] at H
         have c11b0 : (t249 == 0) = false := beq_eq_false_iff_ne.mpr c11
         have c11b1 : (t249 != 0) = true := bne_iff_ne.mpr c11
         simp only [Option.some.injEq, Prod.mk.injEq] at H
         obtain ⟨rfl, rfl, rfl⟩ := H
         go_wp2_with (first | ((with_reducible refine gate_callee (f := 58) rfl ?_); refine goesL_ (some 21) rfl rfl Try.func58 (by kernel_rfl) rfl #[.string x0_1] rfl eq_ ?_; (with_reducible refine (stream_marked.calls kj1 x0_1 t241 t242 true _ A7.out).mono ?_); rintro e w21 ⟨rfl, hb⟩; refine ⟨_, rfl, ?_⟩; replace HO_5 := Aside0.mk (Kd.S_below (qS HO_5.out) hb); replace HB := Aside0.mk (below_step (hq HB.out) hb); (try clear hb)) | ((with_reducible refine gate_callee (f := 59) rfl ?_); refine goesL_ (some 32) rfl rfl Try.func59 (by kernel_rfl) rfl #[.string (x0_1.extract 4 x0_1.size), .int .i64 t241, .int .i64 t242] rfl eq_ ?_; (with_reducible refine (stream_group.calls kj1 (x0_1.extract 4 x0_1.size) t241 t242 t244 t245 t248 t249 _ A10.out).mono ?_); rintro e w22 ⟨v246, rfl, ho0, hb⟩; refine ⟨_, rfl, ?_⟩; replace HO_5 := Aside0.mk (Kd.S_elder' (qS HO_5.out) (Kd.R_base ho0) hb); have HO247 := Aside0.mk (Kd.R_lower ho0 (below_size (hq HB.out))); replace HB := Aside0.mk (below_step (hq HB.out) hb); (try clear hb); (try clear ho0)) | ((with_reducible refine gate_dst (N := 9) rfl ?_); refine box_event ?hg (N := 9) ?hd (cs := #[.int .i64 0, .slice none 0 0]) (t := 25) ?hr ?_; (case hd => rfl); (case hg => rfl); (case hr => first | (go_simp; done) | (go_simp; rfl)); intro gb250 hg w23 hbox hb; replace HO_5 := Aside0.mk (Kd.S_below (Kd.S_elderB (qS HO_5.out) gb250 (Nat.le_of_eq hg.symm)) hb); replace HO247 := Aside0.mk (Kd.R_below (qR HO247.out) hb); have BK250 := Aside0.mk (hbox); have GW250 := Aside0.mk ((by rw [hg]; exact (below_size (hq HB.out)) : w.heap.size ≤ gb250)); have GE250 := Aside0.mk ((by rw [hg]; exact (below_size (hq HB.out)) : w.heap.size ≤ gb250)); replace HB := Aside0.mk (below_step (hq HB.out) hb); clear hb hbox hg; have hcz24_0 : w23.cell? ⟨gb250, 0, none⟩ = some (.int .i64 0) := (blk_cell BK250.out 0).trans rfl; have hcz24_1 : w23.cell? ⟨gb250, 1, none⟩ = some (.slice none 0 0) := (blk_cell BK250.out 1).trans rfl; have hfz24_0 := blk_frozen BK250.out 0; have hfz24_1 := blk_frozen BK250.out 1; obtain ⟨Ao25, co25, eo25⟩ := Kd.R_slice HO247.out; subst eo25))
         go_ret3
         exact ⟨_, rq_, by first | exact Kd.S_nil _ _ _ _ _ | exact Kd.N_nil _ _ _ _ _ | exact Kd.V_nil _ _ _ _ _ | exact Kd.Q_nil _ _ _ _ _ | exact Kd.R_nil _ _ _ _ _, hq1 HB.out GE250.out⟩
       ·rw [if_neg c9] at H
        exact absurd H (by simp)
      ·replace c8 := Bool.eq_false_iff.mpr c8
       subst c8
       rw [if_neg (show ¬ (false = true) by decide)] at H
       simp only [Option.some.injEq, Prod.mk.injEq] at H
       obtain ⟨rfl, rfl, rfl⟩ := H
       go_wp2_with (first | ((with_reducible refine gate_callee (f := 58) rfl ?_); refine goesL_ (some 21) rfl rfl Try.func58 (by kernel_rfl) rfl #[.string x0_1] rfl eq_ ?_; (with_reducible refine (stream_marked.calls kj1 x0_1 t241 t242 false _ A7.out).mono ?_); rintro e w26 ⟨rfl, hb⟩; refine ⟨_, rfl, ?_⟩; replace HO_5 := Aside0.mk (Kd.S_below (qS HO_5.out) hb); replace HB := Aside0.mk (below_step (hq HB.out) hb); (try clear hb)))
       go_ret3
       exact ⟨_, rq_, by first | exact Kd.S_nil _ _ _ _ _ | exact Kd.N_nil _ _ _ _ _ | exact Kd.V_nil _ _ _ _ _ | exact Kd.Q_nil _ _ _ _ _ | exact Kd.R_nil _ _ _ _ _, hq HB.out⟩
     ·replace c6 := Bool.eq_false_iff.mpr c6
      subst c6
      rw [if_neg (show ¬ (false = true) by decide)] at H
      simp only [Option.some.injEq, Prod.mk.injEq] at H
      obtain ⟨rfl, rfl, rfl⟩ := H
      go_wp2
      go_ret3
      exact ⟨_, rq_, by (with_reducible repeat (first | apply Kd.S_alloc | apply Kd.S_drewN | apply Kd.S_drew)); exact HO_5.out, hq HB.out⟩

end Go.Proofs.Ytookjdhfpbmjkaa.X
