-- Written by xprint.py, a program of this repo that leads the kit's print.py: Lean checks it.
import Derived.Test.YtgicgdiklinomaaX0
import Derived.Test.YtgicgdiklinomaaX1
import Derived.Test.YtgicgdiklinomaaX2
import Derived.Test.YtgicgdiklinomaaX4
import Derived.Test.YtgicgdiklinomaaX5
import Derived.Test.YtgicgdiklinomaaX6
import Derived.Test.YtgicgdiklinomaaX7
import Derived.Test.YtgicgdiklinomaaX8
import Derived.Test.YtgicgdiklinomaaX12
import Derived.Test.YtgicgdiklinomaaX13
import Derived.Test.YtgicgdiklinomaaX15
import Derived.Test.YtgicgdiklinomaaX16
import Derived.Test.YtgicgdiklinomaaX18
import Derived.Test.YtgicgdiklinomaaX19
import Derived.Test.YtgicgdiklinomaaActsA
namespace Go.Proofs.Ytgicgdiklinomaa.X
open Go.RowKit Go.Proofs.YtgicgdiklinomaaW.PrintWords Go.Proofs.YtgicgdiklinomaaW.PrintLast Go.Proofs.YtgicgdiklinomaaW.PrintMore
attribute [local go_sem] max2_int min2_int max_two min_two max_three min_three max_four min_four   -- for this text's walks alone
set_option linter.unusedVariables false
set_option linter.unusedSimpArgs false

attribute [local go_sem high] eqA29
def keyeventlaw03_PrimitiveActs.T11 : Bool × List (List Nat × List Nat) := (true, [([], []), ([], []), ([0, 1], [0, 1]), ([2], [2]), ([3], [3]), ([3], [3]), ([4, 5, 3], [3, 4, 5]), ([3, 6], [3, 6]), ([7, 3], [7]), ([8], [8]), ([9, 8], [8, 9]), ([8], [8]), ([11, 8], [8, 11]), ([10, 12, 8, 8], [8, 10, 12]), ([8], [8]), ([14, 8], [8, 14]), ([8], [8]), ([16, 8], [8, 16]), ([15, 17, 13, 8], [8, 15, 17]), ([13, 18, 8], [8, 13, 18]), ([8, 19], [8, 19])])
def keyeventlaw03_PrimitiveActs.B11 : List Nat := [0, 0, 3, 7, 15, 15, 63, 127, 255, 511, 1023, 511, 2559, 8191, 511, 16895, 511, 66047, 262143, 524287, 1048575]
theorem keyeventlaw03_PrimitiveActs.tab11 : rtab .any (opsOf Try.f7 11) = keyeventlaw03_PrimitiveActs.T11 := by kernel_rfl
theorem keyeventlaw03_PrimitiveActs.bits11 : waitsOk keyeventlaw03_PrimitiveActs.T11.2 keyeventlaw03_PrimitiveActs.B11 = true := by kernel_rfl
def keyeventlaw03_PrimitiveActs.T21 : Bool × List (List Nat × List Nat) := (true, [([], []), ([], []), ([1], [1]), ([], []), ([3], [3]), ([4], [4]), ([0, 2, 5], [0, 2, 5]), ([6], [6]), ([], [])])
def keyeventlaw03_PrimitiveActs.B21 : List Nat := [0, 0, 2, 0, 8, 24, 63, 127, 0]
theorem keyeventlaw03_PrimitiveActs.tab21 : rtab .any (opsOf Try.f7 21) = keyeventlaw03_PrimitiveActs.T21 := by kernel_rfl
theorem keyeventlaw03_PrimitiveActs.bits21 : waitsOk keyeventlaw03_PrimitiveActs.T21.2 keyeventlaw03_PrimitiveActs.B21 = true := by kernel_rfl
set_option maxHeartbeats 8000000 in
set_option maxRecDepth 100000 in
theorem keyeventlaw03_PrimitiveActs.calls (k : Nat) (A0 : Option Addr) (c0 : Nat) (l0 : List Int) (a1_0 : Int) (a1_1 : ByteArray) (a2 : ByteArray) (a3 : Int) (a4 : Int) (a5 : Int) (r : Bool) (w : World) (hr0 : Kd.C (Kd.int .i64) w A0 l0.length l0) (hc0 : l0.length ≤ c0) (h : keyeventlaw03_PrimitiveActs.f k l0 a1_0 a1_1 a2 a3 a4 a5 = some r) :
    Calls Try.prog 7 #[.slice A0 l0.length c0, .agg #[.int .i64 a1_0, .string a1_1], .string a2, .int .i64 a3, .int .i64 a4, .int .i64 a5] w fun e w' => e = .returned (.bool r) ∧ Below w.heap.size w w' := by
 have hu29 := Try.underlying29
 have HR0 := Aside0.mk hr0
 have HC0 := Aside0.mk hc0
 clear hr0 hc0
 have HB := Aside0.mk (Below.refl w.heap.size w)
 have H : ((keyeventkit_Light.f l0).bind fun t240 => (if t240 = true then (if (a1_1.size : Int) > 2000 then (keyeventlaw03_PrimitiveActs.j0 k l0 a2 a3 a4 a5 true a1_0 a1_1) else (keyeventlaw03_PrimitiveActs.j0 k l0 a2 a3 a4 a5 (decide ((a2.size : Int) > 2000)) a1_0 a1_1)) else (keyeventlaw03_PrimitiveActs.j0 k l0 a2 a3 a4 a5 true a1_0 a1_1))) = some r := h
 clear h
 have HC7 := Aside0.mk H
 clear H
 go_enter Try.func7, Try.ntmps7
 go_upto_region 1 with (first | ((with_reducible refine gate_dst (N := 7) rfl ?_); (try (refine gate_guard (by rfl) ?_; dsimp only)); refine box_event ?hg (N := 7) ?hd (cs := #[.int .i64 a1_0, .string a1_1]) (t := 29) ?hr ?_; (case hd => rfl); (case hg => rfl); (case hr => first | (go_simp; done) | (go_simp; rfl)); intro gb239 hg w8 hbox hb; have n0_ := Aside0.mk (below_step (by repeat (first | (with_reducible first | exact HB.out | apply below_alloc | apply pw_below_drewN | apply below_drew1) | exact HB.out)) hb); have n1_ := Aside0.mk (hbox); have n2_ := Aside0.mk ((by rw [hg]; exact (below_size (by repeat (first | (with_reducible first | exact HB.out | apply below_alloc | apply pw_below_drewN | apply below_drew1) | exact HB.out))) : w.heap.size ≤ gb239)); have n3_ := Aside0.mk ((by rw [hg]; exact (below_size (by repeat (first | (with_reducible first | exact HB.out | apply below_alloc | apply pw_below_drewN | apply below_drew1) | exact HB.out))) : w.heap.size ≤ gb239)); clear HB; have HB := n0_; have BK239 := n1_; have GW239 := n2_; have GE239 := n3_; clear n0_ n1_ n2_ n3_; clear hb hbox hg))
 (try simp only [Act.put, List.setIfInBounds_toArray, List.set_cons_zero, List.set_cons_succ])
 go_cut [64] (fun v64 wc => ∃ (kq : Nat) (x64_6 : Bool), v64 = .bool x64_6 ∧ Aside0 (keyeventlaw03_PrimitiveActs.j0 kq l0 a2 a3 a4 a5 x64_6 a1_0 a1_1 = some r) ∧ Aside0 (kq ≤ k) ∧ Aside0 (wc.heap[gb239]? = some (.cells #[.int .i64 a1_0, .string a1_1] 29 (0, 0))) ∧ Aside0 (Below w.heap.size w wc))
 case first =>
  have H := HC7.out
  clear HC7
  replace H := Option.bind_eq_some_iff.mp H
  obtain ⟨t240, A90, H⟩ := H
  replace H : (if t240 = true then (if (a1_1.size : Int) > 2000 then (keyeventlaw03_PrimitiveActs.j0 k l0 a2 a3 a4 a5 true a1_0 a1_1) else (keyeventlaw03_PrimitiveActs.j0 k l0 a2 a3 a4 a5 (decide ((a2.size : Int) > 2000)) a1_0 a1_1)) else (keyeventlaw03_PrimitiveActs.j0 k l0 a2 a3 a4 a5 true a1_0 a1_1)) = some r := H
  have A9 := Aside0.mk A90
  clear A90
  by_cases c10 : t240 = true
  ·subst c10
   have H1 : (if (a1_1.size : Int) > 2000 then (keyeventlaw03_PrimitiveActs.j0 k l0 a2 a3 a4 a5 true a1_0 a1_1) else (keyeventlaw03_PrimitiveActs.j0 k l0 a2 a3 a4 a5 (decide ((a2.size : Int) > 2000)) a1_0 a1_1)) = some r := by rw [if_pos rfl] at H; exact H
   clear H
   have H := H1
   clear H1
   by_cases c11 : (a1_1.size : Int) > 2000
   ·rw [if_pos c11] at H
    have c11b0 : decide (2000 < (a1_1.size : Int)) = true := decide_eq_true c11
    have c11b1 : decide (2000 < a1_1.size) = true := decide_eq_true (by omega)
    clear c11
    (first | rw [c11b0] | (simp only [i64_w, i32_w]; rw [c11b0]) | skip)
    have H' := Aside0.mk H
    clear H
    go_wp2_with (first | ((with_reducible refine gate_callee (f := 8) rfl ?_); refine goesL_ (some 52) rfl rfl Try.func8 (by kernel_rfl) rfl #[.slice A0 l0.length c0] rfl eq_ ?_; (with_reducible refine (keyeventkit_Light.calls _ _ l0 true _ ?side1 ?side2 A9.out).mono ?_); (case side1 => repeat (first | exact (Kd.C_below HR0.out HB.out) | (with_reducible refine Kd.C_alloc ?_ _) | (with_reducible refine Kd.C_drewN ?_ _) | (with_reducible refine Kd.C_drew ?_))); (case side2 => exact HC0.out); rintro e w' ⟨rfl, ⟨nd, rfl⟩⟩; refine ⟨_, rfl, ?_⟩; have hcz12_0 : w8.cell? ⟨gb239, 0, none⟩ = some (.int .i64 a1_0) := (blk_cell BK239.out 0).trans rfl; have hcz12_1 : w8.cell? ⟨gb239, 1, none⟩ = some (.string a1_1) := (blk_cell BK239.out 1).trans rfl; have hfz12_0 := blk_frozen BK239.out 0; have hfz12_1 := blk_frozen BK239.out 1))
    go_meet
    case rel => exact ⟨_, (true), (by first | rfl | (simp; done) | (simp [*]; done)), H', ⟨by first | omega | exact Nat.le_refl _⟩, ⟨by (with_reducible repeat (first | refine blk_drewN ?_ _ | refine blk_drew ?_ | refine blk_alloc ?_ _)); exact BK239.out⟩, ⟨by repeat (first | (with_reducible first | exact HB.out | apply below_alloc | apply pw_below_drewN | apply below_drew1 | refine below_set ?_ GE239.out) | exact HB.out)⟩⟩
   ·rw [if_neg c11] at H
    have c11b0 : decide (2000 < (a1_1.size : Int)) = false := decide_eq_false c11
    have c11b1 : decide (2000 < a1_1.size) = false := decide_eq_false (by omega)
    clear c11
    (first | rw [c11b0] | (simp only [i64_w, i32_w]; rw [c11b0]) | skip)
    have H' := Aside0.mk H
    clear H
    go_wp2_with (first | ((with_reducible refine gate_callee (f := 8) rfl ?_); refine goesL_ (some 52) rfl rfl Try.func8 (by kernel_rfl) rfl #[.slice A0 l0.length c0] rfl eq_ ?_; (with_reducible refine (keyeventkit_Light.calls _ _ l0 true _ ?side1 ?side2 A9.out).mono ?_); (case side1 => repeat (first | exact (Kd.C_below HR0.out HB.out) | (with_reducible refine Kd.C_alloc ?_ _) | (with_reducible refine Kd.C_drewN ?_ _) | (with_reducible refine Kd.C_drew ?_))); (case side2 => exact HC0.out); rintro e w' ⟨rfl, ⟨nd, rfl⟩⟩; refine ⟨_, rfl, ?_⟩; have hcz13_0 : w8.cell? ⟨gb239, 0, none⟩ = some (.int .i64 a1_0) := (blk_cell BK239.out 0).trans rfl; have hcz13_1 : w8.cell? ⟨gb239, 1, none⟩ = some (.string a1_1) := (blk_cell BK239.out 1).trans rfl; have hfz13_0 := blk_frozen BK239.out 0; have hfz13_1 := blk_frozen BK239.out 1))
    go_meet
    case rel => exact ⟨_, (decide ((a2.size : Int) > 2000)), (by first | rfl | (simp; done) | (simp [*]; done)), H', ⟨by first | omega | exact Nat.le_refl _⟩, ⟨by (with_reducible repeat (first | refine blk_drewN ?_ _ | refine blk_drew ?_ | refine blk_alloc ?_ _)); exact BK239.out⟩, ⟨by repeat (first | (with_reducible first | exact HB.out | apply below_alloc | apply pw_below_drewN | apply below_drew1 | refine below_set ?_ GE239.out) | exact HB.out)⟩⟩
  ·replace c10 := Bool.eq_false_iff.mpr c10
   subst c10
   have H1 : (keyeventlaw03_PrimitiveActs.j0 k l0 a2 a3 a4 a5 true a1_0 a1_1) = some r := by rw [if_neg (show ¬ (false = true) by decide)] at H; exact H
   clear H
   have H := H1
   clear H1
   have H' := Aside0.mk H
   clear H
   go_wp2_with (first | ((with_reducible refine gate_callee (f := 8) rfl ?_); refine goesL_ (some 52) rfl rfl Try.func8 (by kernel_rfl) rfl #[.slice A0 l0.length c0] rfl eq_ ?_; (with_reducible refine (keyeventkit_Light.calls _ _ l0 false _ ?side1 ?side2 A9.out).mono ?_); (case side1 => repeat (first | exact (Kd.C_below HR0.out HB.out) | (with_reducible refine Kd.C_alloc ?_ _) | (with_reducible refine Kd.C_drewN ?_ _) | (with_reducible refine Kd.C_drew ?_))); (case side2 => exact HC0.out); rintro e w' ⟨rfl, ⟨nd, rfl⟩⟩; refine ⟨_, rfl, ?_⟩))
   go_meet
   case rel => exact ⟨_, (true), (by first | rfl | (simp; done) | (simp [*]; done)), H', ⟨by first | omega | exact Nat.le_refl _⟩, ⟨by (with_reducible repeat (first | refine blk_drewN ?_ _ | refine blk_drew ?_ | refine blk_alloc ?_ _)); exact BK239.out⟩, ⟨by repeat (first | (with_reducible first | exact HB.out | apply below_alloc | apply pw_below_drewN | apply below_drew1 | refine below_set ?_ GE239.out) | exact HB.out)⟩⟩
 case rest =>
  clear HC7
  try clear c1
  try clear p2
  try clear c7
  try clear c8
  try clear c10
  try clear c11
  try clear c11b0
  try clear c11b1
  try clear hcz12_0
  try clear hcz12_1
  try clear hcz13_0
  try clear hcz13_1
  try clear hfz12_0
  try clear hfz12_1
  try clear hfz13_0
  try clear hfz13_1
  obtain ⟨kq, x64_6, rfl, HA, HJ6, BK239, HB⟩ := hcut
  cases kq with
  | zero => exact absurd HA.out (by simp [keyeventlaw03_PrimitiveActs.j0])
  | succ kj6 =>
   have H := HA.out
   clear HA
   simp only [keyeventlaw03_PrimitiveActs.j0] at H
   by_cases c14 : x64_6 = true
   ·subst c14
    have H1 : ((keyeventlaw03_awake.f kj6).bind fun t241 => (some t241)) = some r := by rw [if_pos rfl] at H; exact H
    clear H
    have H := H1
    clear H1
    replace H := Option.bind_eq_some_iff.mp H
    obtain ⟨t241, A150, H⟩ := H
    replace H : (some t241) = some r := H
    have A15 := Aside0.mk A150
    clear A150
    obtain rfl := Option.some.inj H
    go_wp2_with (first | ((with_reducible refine gate_callee (f := 9) rfl ?_); refine goesL_ (some 65) rfl rfl Try.func9 (by kernel_rfl) rfl #[] rfl eq_ ?_; (with_reducible refine (keyeventlaw03_awake.calls kj6  t241 _ A15.out).mono ?_); rintro e w16 ⟨rfl, hb⟩; refine ⟨_, rfl, ?_⟩; have n0_ := Aside0.mk (blk_below (g := gb239) (o := .cells #[.int .i64 a1_0, .string a1_1] 29 (0, 0)) (bq BK239.out) hb); have n1_ := Aside0.mk (below_step (by repeat (first | (with_reducible first | exact HB.out | apply below_alloc | apply pw_below_drewN | apply below_drew1 | refine below_set ?_ GE239.out) | exact HB.out)) hb); clear BK239; clear HB; have BK239 := n0_; have HB := n1_; clear n0_ n1_; (try clear hb); (try clear hb2); (try clear hk); (try clear hi)))
    go_ret
    exact ⟨by first | rfl | (simp [errW_none, errW_some] <;> rfl) | (simp [*, errW_none, errW_some] <;> rfl), by repeat (first | (with_reducible first | exact HB.out | apply below_alloc | apply pw_below_drewN | apply below_drew1 | refine below_set ?_ GE239.out) | exact HB.out)⟩
   ·replace c14 := Bool.eq_false_iff.mpr c14
    subst c14
    have H1 : ((keyeventkit_Roll.f l0).bind fun bt242 => ((keyeventkit_Primitive.f kj6 bt242.1 bt242.2).bind fun bt245 => ((keyeventref03_Encode.f kj6 bt245.1 bt245.2.1).bind fun bt249 => ((some (([(⟨bt245.1, bt245.2.1⟩ : S29), (⟨a1_0, a1_1⟩ : S29)] : List (S29)) : List (S29))).bind fun y251 => (keyeventlaw03_PrimitiveActs.l0 kj6 a2 a3 a4 a5 bt249.1 y251 (y251.length : Int) 0 bt245.1 bt245.2.1))))) = some r := by rw [if_neg (show ¬ (false = true) by decide)] at H; exact H
    clear H
    have H := H1
    clear H1
    replace H := Option.bind_eq_some_iff.mp H
    obtain ⟨⟨t242, t243⟩, A170, H⟩ := H
    replace H : ((keyeventkit_Primitive.f kj6 t242 t243).bind fun bt245 => ((keyeventref03_Encode.f kj6 bt245.1 bt245.2.1).bind fun bt249 => ((some (([(⟨bt245.1, bt245.2.1⟩ : S29), (⟨a1_0, a1_1⟩ : S29)] : List (S29)) : List (S29))).bind fun y251 => (keyeventlaw03_PrimitiveActs.l0 kj6 a2 a3 a4 a5 bt249.1 y251 (y251.length : Int) 0 bt245.1 bt245.2.1)))) = some r := H
    have A17 := Aside0.mk A170
    clear A170
    replace H := Option.bind_eq_some_iff.mp H
    obtain ⟨⟨t245, t246, t247⟩, A180, H⟩ := H
    replace H : ((keyeventref03_Encode.f kj6 t245 t246).bind fun bt249 => ((some (([(⟨t245, t246⟩ : S29), (⟨a1_0, a1_1⟩ : S29)] : List (S29)) : List (S29))).bind fun y251 => (keyeventlaw03_PrimitiveActs.l0 kj6 a2 a3 a4 a5 bt249.1 y251 (y251.length : Int) 0 t245 t246))) = some r := H
    have A18 := Aside0.mk A180
    clear A180
    replace H := Option.bind_eq_some_iff.mp H
    obtain ⟨⟨t249, t250⟩, A190, H⟩ := H
    replace H : ((some (([(⟨t245, t246⟩ : S29), (⟨a1_0, a1_1⟩ : S29)] : List (S29)) : List (S29))).bind fun y251 => (keyeventlaw03_PrimitiveActs.l0 kj6 a2 a3 a4 a5 t249 y251 (y251.length : Int) 0 t245 t246)) = some r := H
    have A19 := Aside0.mk A190
    clear A190
    obtain ⟨y251, hy251⟩ : ∃ y_ : List (S29), y_ = (([(⟨t245, t246⟩ : S29), (⟨a1_0, a1_1⟩ : S29)] : List (S29))) := ⟨_, rfl⟩
    replace H : (keyeventlaw03_PrimitiveActs.l0 kj6 a2 a3 a4 a5 t249 y251 (y251.length : Int) 0 t245 t246) = some r := by first | (rw [hy251]; with_reducible exact H) | (have H2_ := (Option.bind_some _ _).symm.trans H; rw [hy251]; with_reducible exact H2_) | (have H2_ := (Option.bind_some _ _).symm.trans H; with_reducible exact H2_) | with_reducible exact H | (rw [hy251]; exact H) | exact H
    have Ny251 := Aside0.mk hy251
    clear hy251
    have H' := Aside0.mk H
    clear H
    go_wp2_with (first | ((with_reducible refine gate_callee (f := 12) rfl ?_); refine goesL_ (some 67) rfl rfl Try.func12 (by kernel_rfl) rfl #[.slice A0 l0.length c0] rfl eq_ ?_; (with_reducible refine (keyeventkit_Roll.calls _ _ l0 t242 t243 w _ ?side1 ?side2 ?side3 A17.out).mono ?_); (case side1 => repeat (first | (with_reducible first | exact HB.out | apply below_alloc | apply pw_below_drewN | apply below_drew1 | refine below_set ?_ GE239.out) | exact HB.out)); (case side2 => exact HR0.out); (case side3 => exact HC0.out); rintro e w20 ⟨g244, rfl, hi, hb, hb2⟩; refine ⟨_, rfl, ?_⟩; have n0_ := Aside0.mk (blk_below (g := gb239) (o := .cells #[.int .i64 a1_0, .string a1_1] 29 (0, 0)) (bq BK239.out) hb2); have n1_ := Aside0.mk (hb); have n2_ := Aside0.mk (hi); have n3_ := Aside0.mk (IsS59.ne_blk hi (blk_below (g := gb239) (o := .cells #[.int .i64 a1_0, .string a1_1] 29 (0, 0)) (bq BK239.out) hb2) (by decide)); have n4_ := Aside0.mk (Ne.symm (IsS59.ne_blk hi (blk_below (g := gb239) (o := .cells #[.int .i64 a1_0, .string a1_1] 29 (0, 0)) (bq BK239.out) hb2) (by decide))); clear BK239; clear HB; have BK239 := n0_; have HB := n1_; have HI244 := n2_; have NB244_239 := n3_; have NB239_244 := n4_; clear n0_ n1_ n2_ n3_ n4_; (try clear hb); (try clear hb2); (try clear hk); (try clear hi)) | ((with_reducible refine gate_callee (f := 11) rfl ?_); refine goesL_ (some 69) rfl rfl Try.func11 (by kernel_rfl) rfl #[.pointer (some ⟨g244, 0, none⟩)] rfl eq_ ?_; (with_reducible refine (keyeventkit_Primitive.calls kj6 g244 t242 t243 t245 t246 t247 w _ ?side1 ?side2 A18.out).mono ?_); (case side1 => repeat (first | (with_reducible first | exact HI244.out | apply IsS59.alloc | apply IsS59.drewN | apply IsS59.drew | apply IsS59.set_1 | refine IsS59.far ?_ NB244_239.out _) | exact HI244.out)); (case side2 => repeat (first | (with_reducible first | exact HB.out | apply below_alloc | apply pw_below_drewN | apply below_drew1 | refine below_set ?_ (IsS59.ge HI244.out) | refine below_set ?_ GE239.out) | exact HB.out)); rintro e w21 ⟨rfl, hi, hb, hk⟩; refine ⟨_, rfl, ?_⟩; have n0_ := Aside0.mk (KeepBut.blk hk (g' := gb239) (o := .cells #[.int .i64 a1_0, .string a1_1] 29 (0, 0)) (bq BK239.out) NB239_244.out (by simp)); have n1_ := Aside0.mk (hb); have n2_ := Aside0.mk (hi); clear BK239; clear HB; clear HI244; have BK239 := n0_; have HB := n1_; have HI244 := n2_; clear n0_ n1_ n2_; (try clear hb); (try clear hb2); (try clear hk); (try clear hi)) | ((with_reducible refine gate_dst (N := 14) rfl ?_); (try (refine gate_guard (by rfl) ?_; dsimp only)); refine box_event ?hg (N := 14) ?hd (cs := #[.int .i64 0, .string (⟨#[]⟩ : ByteArray)]) (t := 29) ?hr ?_; (case hd => rfl); (case hg => rfl); (case hr => first | (go_simp; done) | (go_simp; rfl)); intro gb248 hg w22 hbox hb; have n0_ := Aside0.mk (blk_below (g := gb239) (o := .cells #[.int .i64 a1_0, .string a1_1] 29 (0, 0)) (bq BK239.out) hb); have n1_ := Aside0.mk (IsS59.below (by repeat (first | (with_reducible first | exact HI244.out | apply IsS59.alloc | apply IsS59.drewN | apply IsS59.drew | apply IsS59.set_1 | refine IsS59.far ?_ NB244_239.out _) | exact HI244.out)) hb); have n2_ := Aside0.mk (below_step (by repeat (first | (with_reducible first | exact HB.out | apply below_alloc | apply pw_below_drewN | apply below_drew1 | refine below_set ?_ (IsS59.ge HI244.out) | refine below_set ?_ GE239.out) | exact HB.out)) hb); have n3_ := Aside0.mk (hbox); have n4_ := Aside0.mk ((by rw [hg]; exact (below_size (by repeat (first | (with_reducible first | exact HB.out | apply below_alloc | apply pw_below_drewN | apply below_drew1 | refine below_set ?_ (IsS59.ge HI244.out) | refine below_set ?_ GE239.out) | exact HB.out))) : w.heap.size ≤ gb248)); have n5_ := Aside0.mk ((by rw [hg]; exact (below_size (by repeat (first | (with_reducible first | exact HB.out | apply below_alloc | apply pw_below_drewN | apply below_drew1 | refine below_set ?_ (IsS59.ge HI244.out) | refine below_set ?_ GE239.out) | exact HB.out))) : w.heap.size ≤ gb248)); have n6_ := Aside0.mk ((by rw [hg]; exact Nat.ne_of_lt (blk_lt (g := gb239) (o := .cells #[.int .i64 a1_0, .string a1_1] 29 (0, 0)) (bq BK239.out)) : gb239 ≠ gb248)); have n7_ := Aside0.mk ((by rw [hg]; exact Nat.ne_of_gt (blk_lt (g := gb239) (o := .cells #[.int .i64 a1_0, .string a1_1] 29 (0, 0)) (bq BK239.out)) : gb248 ≠ gb239)); have n8_ := Aside0.mk ((by rw [hg]; exact Nat.ne_of_lt (IsS59.lt (show IsS59 w _ g244 t242 t247 from by repeat (first | (with_reducible first | exact HI244.out | apply IsS59.alloc | apply IsS59.drewN | apply IsS59.drew | apply IsS59.set_1 | refine IsS59.far ?_ NB244_239.out _) | exact HI244.out))) : g244 ≠ gb248)); have n9_ := Aside0.mk ((by rw [hg]; exact Nat.ne_of_gt (IsS59.lt (show IsS59 w _ g244 t242 t247 from by repeat (first | (with_reducible first | exact HI244.out | apply IsS59.alloc | apply IsS59.drewN | apply IsS59.drew | apply IsS59.set_1 | refine IsS59.far ?_ NB244_239.out _) | exact HI244.out))) : gb248 ≠ g244)); clear BK239; clear HI244; clear HB; have BK239 := n0_; have HI244 := n1_; have HB := n2_; have BK248 := n3_; have GW248 := n4_; have GE248 := n5_; have NB239_248 := n6_; have NB248_239 := n7_; have NB244_248 := n8_; have NB248_244 := n9_; clear n0_ n1_ n2_ n3_ n4_ n5_ n6_ n7_ n8_ n9_; clear hb hbox hg; have hnb23 := NB248_239.out; have hnc23 := NB239_248.out; have hnb24 := NB248_244.out; have hnc24 := NB244_248.out; have hcz25_0 : w22.cell? ⟨gb248, 0, none⟩ = some (.int .i64 0) := (blk_cell BK248.out 0).trans rfl; have hcz25_1 : w22.cell? ⟨gb248, 1, none⟩ = some (.string (⟨#[]⟩ : ByteArray)) := (blk_cell BK248.out 1).trans rfl; have hfz25_0 := blk_frozen BK248.out 0; have hfz25_1 := blk_frozen BK248.out 1) | ((with_reducible refine gate_callee (f := 22) rfl ?_); refine goesL_ (some 72) rfl rfl Try.func22 (by kernel_rfl) rfl #[.agg #[.int .i64 t245, .string t246]] rfl eq_ ?_; (with_reducible refine (keyeventref03_Encode.calls kj6 t245 t246 t249 t250 _ A19.out).mono ?_); rintro e w26 ⟨rfl, hb⟩; refine ⟨_, rfl, ?_⟩; have n0_ := Aside0.mk (blk_below (g := gb239) (o := .cells #[.int .i64 a1_0, .string a1_1] 29 (0, 0)) (by (with_reducible repeat (first | refine blk_drewN ?_ _ | refine blk_drew ?_ | refine blk_alloc ?_ _)); refine blk_far ?_ NB239_248.out _; (with_reducible repeat (first | refine blk_drewN ?_ _ | refine blk_drew ?_ | refine blk_alloc ?_ _)); refine blk_far ?_ NB239_248.out _; (with_reducible repeat (first | refine blk_drewN ?_ _ | refine blk_drew ?_ | refine blk_alloc ?_ _)); exact BK239.out) hb); have n1_ := Aside0.mk (IsS59.below (show IsS59 w ((w22.setCell ⟨gb248, 0, none⟩ (.int .i64 t245)).setCell ⟨gb248, 1, none⟩ (.string t246)) g244 t242 t247 from by repeat (first | (with_reducible first | exact HI244.out | apply IsS59.alloc | apply IsS59.drewN | apply IsS59.drew | apply IsS59.set_1 | refine IsS59.far ?_ NB244_239.out _ | refine IsS59.far ?_ NB244_248.out _) | exact HI244.out)) hb); have n2_ := Aside0.mk (blk_below (g := gb248) (o := .cells #[.int .i64 t245, .string t246] 29 (0, 0)) (by (with_reducible repeat (first | refine blk_drewN ?_ _ | refine blk_drew ?_ | refine blk_alloc ?_ _)); refine blk_put (cs := #[.int .i64 t245, .string (⟨#[]⟩ : ByteArray)]) ?_ 1 _ rfl; (with_reducible repeat (first | refine blk_drewN ?_ _ | refine blk_drew ?_ | refine blk_alloc ?_ _)); refine blk_put (cs := #[.int .i64 0, .string (⟨#[]⟩ : ByteArray)]) ?_ 0 _ rfl; (with_reducible repeat (first | refine blk_drewN ?_ _ | refine blk_drew ?_ | refine blk_alloc ?_ _)); exact BK248.out) hb); have n3_ := Aside0.mk (below_step (by repeat (first | (with_reducible first | exact HB.out | apply below_alloc | apply pw_below_drewN | apply below_drew1 | refine below_set ?_ (IsS59.ge HI244.out) | refine below_set ?_ GE239.out | refine below_set ?_ GE248.out) | exact HB.out)) hb); clear BK239; clear HI244; clear BK248; clear HB; have BK239 := n0_; have HI244 := n1_; have BK248 := n2_; have HB := n3_; clear n0_ n1_ n2_ n3_; (try clear hb); (try clear hb2); (try clear hk); (try clear hi); have hcz27_0 : w26.cell? ⟨gb248, 0, none⟩ = some (.int .i64 t245) := (blk_cell BK248.out 0).trans rfl; have hcz27_1 : w26.cell? ⟨gb248, 1, none⟩ = some (.string t246) := (blk_cell BK248.out 1).trans rfl; have hfz27_0 := blk_frozen BK248.out 0; have hfz27_1 := blk_frozen BK248.out 1; have hnb28 := NB239_244.out; have hnc28 := NB244_239.out; have hcz29_0 : w26.cell? ⟨gb239, 0, none⟩ = some (.int .i64 a1_0) := (blk_cell BK239.out 0).trans rfl; have hcz29_1 : w26.cell? ⟨gb239, 1, none⟩ = some (.string a1_1) := (blk_cell BK239.out 1).trans rfl; have hfz29_0 := blk_frozen BK239.out 0; have hfz29_1 := blk_frozen BK239.out 1) | ((with_reducible refine gate_dst (N := 77) rfl ?_); (try (refine gate_guard (by rfl) ?_; dsimp only)); refine Kd.R_lit k29 _ 29 ?hg (N := 77) ?hd (xs := ([(⟨t245, t246⟩ : S29), (⟨a1_0, a1_1⟩ : S29)] : List (S29))) (inner := [.int .i64 t245, .string t246, .int .i64 a1_0, .string a1_1]) (ok := fun _ => True) (okp := fun _ => True) ?hr ?hp (fun _ hk => hk) trivial (Below.refl _ _) (Nat.le_refl _) (by simp) ?_; (case hd => rfl); (case hg => rfl); (case hr => first | (go_simp; done) | (go_simp; rfl)); (case hp => exact (Reps.c2 (show Kd.M k29 _ _ _ (⟨t245, t246⟩ : S29) [.int .i64 t245, .string t246] from (k29_mkM _ _ _ (⟨t245, t246⟩ : S29) )) (Reps.c2 (show Kd.M k29 _ _ _ (⟨a1_0, a1_1⟩ : S29) [.int .i64 a1_0, .string a1_1] from (k29_mkM _ _ _ (⟨a1_0, a1_1⟩ : S29) )) (Reps.none _ _)))); intro v252 w30 ho31 hb hg_ hnew_; clear hg_ hnew_; (first | rw [← Ny251.out] at ho31 | (simp only [Int.reduceToNat] at ho31; rw [← Ny251.out] at ho31)); have n0_ := Aside0.mk (Kd.R_lower (Kd.R_newB (Kd.R_newB ho31 (g := gb239) (o := .cells #[.int .i64 a1_0, .string a1_1] 29 (0, 0)) (bq BK239.out)) (g := gb248) (o := .cells #[.int .i64 t245, .string t246] 29 (0, 0)) (bq BK248.out)) (below_size (by repeat (first | (with_reducible first | exact HB.out | apply below_alloc | apply pw_below_drewN | apply below_drew1 | refine below_set ?_ (IsS59.ge HI244.out) | refine below_set ?_ GE239.out | refine below_set ?_ GE248.out) | exact HB.out)))); have n1_ := Aside0.mk (blk_below (g := gb239) (o := .cells #[.int .i64 a1_0, .string a1_1] 29 (0, 0)) (bq BK239.out) hb); have n2_ := Aside0.mk (IsS59.below (by repeat (first | (with_reducible first | exact HI244.out | apply IsS59.alloc | apply IsS59.drewN | apply IsS59.drew | apply IsS59.set_1 | refine IsS59.far ?_ NB244_239.out _ | refine IsS59.far ?_ NB244_248.out _) | exact HI244.out)) hb); have n3_ := Aside0.mk (blk_below (g := gb248) (o := .cells #[.int .i64 t245, .string t246] 29 (0, 0)) (bq BK248.out) hb); have n4_ := Aside0.mk (below_step (by repeat (first | (with_reducible first | exact HB.out | apply below_alloc | apply pw_below_drewN | apply below_drew1 | refine below_set ?_ (IsS59.ge HI244.out) | refine below_set ?_ GE239.out | refine below_set ?_ GE248.out) | exact HB.out)) hb); clear BK239; clear HI244; clear BK248; clear HB; have HO253 := n0_; have BK239 := n1_; have HI244 := n2_; have BK248 := n3_; have HB := n4_; clear n0_ n1_ n2_ n3_ n4_; clear hb ho31; obtain ⟨Ao32, co32, eo32⟩ := Kd.R_slice HO253.out; subst eo32))
    go_loopg [79] kj6 (fun kq v79 w' => ∃ (x79_2 : Int), v79 = .int .i64 x79_2 ∧ Aside0 (keyeventlaw03_PrimitiveActs.l0 kq a2 a3 a4 a5 t249 y251 (y251.length : Int) x79_2 t245 t246 = some r) ∧ Aside0 (kq ≤ kj6) ∧ Aside0 (Kd.R k29 29 w' w.heap.size (fun k_ => k_ ≠ gb239 ∧ k_ ≠ gb248) (.slice Ao32 y251.length co32) y251) ∧ Aside0 (w'.heap[gb239]? = some (.cells #[.int .i64 a1_0, .string a1_1] 29 (0, 0))) ∧ Aside0 (w'.heap[gb248]? = some (.cells #[.int .i64 t245, .string t246] 29 (0, 0))) ∧ Aside0 (Below w.heap.size w w'))
    case atStart => exact ⟨(0), (by first | rfl | (simp; done) | (simp [*]; done)), H', ⟨Nat.le_refl _⟩, ⟨by (with_reducible repeat (first | apply Kd.R_alloc | apply Kd.R_drewN | apply Kd.R_drew)); exact Kd.R_mono HO253.out (fun _ hk => ⟨hk.1.2, hk.2⟩)⟩, ⟨by (with_reducible repeat (first | refine blk_drewN ?_ _ | refine blk_drew ?_ | refine blk_alloc ?_ _)); exact BK239.out⟩, ⟨by (with_reducible repeat (first | refine blk_drewN ?_ _ | refine blk_drew ?_ | refine blk_alloc ?_ _)); exact BK248.out⟩, ⟨by repeat (first | (with_reducible first | exact HB.out | apply below_alloc | apply pw_below_drewN | apply below_drew1 | refine below_set ?_ (IsS59.ge HI244.out) | refine below_set ?_ GE239.out | refine below_set ?_ GE248.out) | exact HB.out)⟩⟩
    case round =>
     clear H'
     try clear c1
     try clear c2
     try clear p2
     try clear c7
     try clear c8
     try clear c9
     try clear c10
     try clear c11
     try clear c11b0
     try clear c11b1
     try clear c12
     try clear c14
     try clear c22
     try clear c23
     try clear c24
     try clear c28
     try clear hcz12_0
     try clear hcz12_1
     try clear hcz13_0
     try clear hcz13_1
     try clear hcz25_0
     try clear hcz25_1
     try clear hcz27_0
     try clear hcz27_1
     try clear hcz29_0
     try clear hcz29_1
     try clear hfz12_0
     try clear hfz12_1
     try clear hfz13_0
     try clear hfz13_1
     try clear hfz25_0
     try clear hfz25_1
     try clear hfz27_0
     try clear hfz27_1
     try clear hfz29_0
     try clear hfz29_1
     try clear p2
     obtain ⟨x79_2, rfl, HA, HK2, HO_77, BK239, BK248, HB⟩ := hrel
     cases gk with
     | zero => exact absurd HA.out (by simp [keyeventlaw03_PrimitiveActs.l0])
     | succ k2 =>
      have H := HA.out
      clear HA
      simp only [keyeventlaw03_PrimitiveActs.l0] at H
      by_cases c33 : x79_2 < (y251.length : Int)
      ·rw [if_pos c33] at H
       have c33b0 : decide (x79_2 < (y251.length : Int)) = true := decide_eq_true c33
       clear c33
       by_cases c34 : 0 ≤ x79_2
       ·rw [if_pos c34] at H
        have c34b0 : decide (0 ≤ x79_2) = true := decide_eq_true c34
        clear c34
        by_cases c35 : x79_2 < (y251.length : Int)
        ·rw [if_pos c35] at H
         have c35b0 : decide (x79_2 < (y251.length : Int)) = true := decide_eq_true c35
         clear c35
         replace H := Option.bind_eq_some_iff.mp H
         obtain ⟨⟨t256, t257⟩, A360, H⟩ := H
         replace H : ((keyeventref03_Encode.f k2 ((rd_T29 y251 x79_2).f0) ((rd_T29 y251 x79_2).f1)).bind fun bt258 => (if t256.toList = bt258.1.toList then (if t257 = bt258.2 then ((primitive_Make.f k2 ((rd_T29 y251 x79_2).f0) ((rd_T29 y251 x79_2).f1)).bind fun t260 => ((keyeventref03_Make.f k2 ((rd_T29 y251 x79_2).f0) ((rd_T29 y251 x79_2).f1)).bind fun t261 => (if t260.toList = t261.toList then (keyeventlaw03_PrimitiveActs.l0 k2 a2 a3 a4 a5 t249 y251 (y251.length : Int) (wrap64 (x79_2 + 1)) t245 t246) else (some false)))) else (some false)) else (some false))) = some r := H
         have A36 := Aside0.mk A360
         clear A360
         replace H := Option.bind_eq_some_iff.mp H
         obtain ⟨⟨t258, t259⟩, A370, H⟩ := H
         replace H : (if t256.toList = t258.toList then (if t257 = t259 then ((primitive_Make.f k2 ((rd_T29 y251 x79_2).f0) ((rd_T29 y251 x79_2).f1)).bind fun t260 => ((keyeventref03_Make.f k2 ((rd_T29 y251 x79_2).f0) ((rd_T29 y251 x79_2).f1)).bind fun t261 => (if t260.toList = t261.toList then (keyeventlaw03_PrimitiveActs.l0 k2 a2 a3 a4 a5 t249 y251 (y251.length : Int) (wrap64 (x79_2 + 1)) t245 t246) else (some false)))) else (some false)) else (some false)) = some r := H
         have A37 := Aside0.mk A370
         clear A370
         by_cases c38 : t256.toList = t258.toList
         ·rw [if_pos c38] at H
          have c38b0 : (t256.toList == t258.toList) = true := beq_iff_eq.mpr c38
          have c38b1 : (t256.toList != t258.toList) = false := bne_eq_false_iff_eq.mpr c38
          clear c38
          by_cases c39 : t257 = t259
          ·rw [if_pos c39] at H
           have c39b0 : (t257 == t259) = true := beq_iff_eq.mpr c39
           have c39b1 : (t257 != t259) = false := bne_eq_false_iff_eq.mpr c39
           clear c39
           replace H := Option.bind_eq_some_iff.mp H
           obtain ⟨t260, A400, H⟩ := H
           replace H : ((keyeventref03_Make.f k2 ((rd_T29 y251 x79_2).f0) ((rd_T29 y251 x79_2).f1)).bind fun t261 => (if t260.toList = t261.toList then (keyeventlaw03_PrimitiveActs.l0 k2 a2 a3 a4 a5 t249 y251 (y251.length : Int) (wrap64 (x79_2 + 1)) t245 t246) else (some false))) = some r := H
           have A40 := Aside0.mk A400
           clear A400
           replace H := Option.bind_eq_some_iff.mp H
           obtain ⟨t261, A410, H⟩ := H
           replace H : (if t260.toList = t261.toList then (keyeventlaw03_PrimitiveActs.l0 k2 a2 a3 a4 a5 t249 y251 (y251.length : Int) (wrap64 (x79_2 + 1)) t245 t246) else (some false)) = some r := H
           have A41 := Aside0.mk A410
           clear A410
           by_cases c42 : t260.toList = t261.toList
           ·rw [if_pos c42] at H
            have c42b0 : (t260.toList == t261.toList) = true := beq_iff_eq.mpr c42
            have c42b1 : (t260.toList != t261.toList) = false := bne_eq_false_iff_eq.mpr c42
            clear c42
            have H' := Aside0.mk H
            clear H
            have p254 : 0 ≤ (x79_2 : Int) := of_decide_eq_true aq
            have q254 : x79_2 < (y251.length : Int) := of_decide_eq_true aq
            obtain ⟨ad254, e254, hx254_0, hx254_1⟩ := at_T29 (Kd.R_reads' HO_77.out).2.2 x79_2 p254 q254
            cases e254
            replace p254 := eq_true p254
            replace q254 := eq_true q254
            try go_wp2_with (first | ((with_reducible refine gate_dst (N := 18) rfl ?_); (try (refine gate_guard (by rfl) ?_; dsimp only)); refine box_event ?hg (N := 18) ?hd (cs := #[.int .i64 0, .string (⟨#[]⟩ : ByteArray)]) (t := 29) ?hr ?_; (case hd => rfl); (case hg => rfl); (case hr => first | (go_simp; done) | (go_simp; rfl)); intro gb255 hg w43 hbox hb; have n0_ := Aside0.mk (Kd.R_below (Kd.R_elderB (rq HO_77.out) gb255 (Nat.le_of_eq hg.symm)) hb); have n1_ := Aside0.mk (blk_below (g := gb239) (o := .cells #[.int .i64 a1_0, .string a1_1] 29 (0, 0)) (bq BK239.out) hb); have n2_ := Aside0.mk (blk_below (g := gb248) (o := .cells #[.int .i64 t245, .string t246] 29 (0, 0)) (bq BK248.out) hb); have n3_ := Aside0.mk (below_step (by repeat (first | (with_reducible first | exact HB.out | apply below_alloc | apply pw_below_drewN | apply below_drew1 | refine below_set ?_ GE239.out | refine below_set ?_ GE248.out) | exact HB.out)) hb); have n4_ := Aside0.mk (hbox); have n5_ := Aside0.mk ((by rw [hg]; exact (below_size (by repeat (first | (with_reducible first | exact HB.out | apply below_alloc | apply pw_below_drewN | apply below_drew1 | refine below_set ?_ GE239.out | refine below_set ?_ GE248.out) | exact HB.out))) : w.heap.size ≤ gb255)); have n6_ := Aside0.mk ((by rw [hg]; exact (below_size (by repeat (first | (with_reducible first | exact HB.out | apply below_alloc | apply pw_below_drewN | apply below_drew1 | refine below_set ?_ GE239.out | refine below_set ?_ GE248.out) | exact HB.out))) : w.heap.size ≤ gb255)); have n7_ := Aside0.mk ((by rw [hg]; exact Nat.ne_of_lt (blk_lt (g := gb239) (o := .cells #[.int .i64 a1_0, .string a1_1] 29 (0, 0)) (bq BK239.out)) : gb239 ≠ gb255)); have n8_ := Aside0.mk ((by rw [hg]; exact Nat.ne_of_gt (blk_lt (g := gb239) (o := .cells #[.int .i64 a1_0, .string a1_1] 29 (0, 0)) (bq BK239.out)) : gb255 ≠ gb239)); have n9_ := Aside0.mk ((by rw [hg]; exact Nat.ne_of_lt (blk_lt (g := gb248) (o := .cells #[.int .i64 t245, .string t246] 29 (0, 0)) (bq BK248.out)) : gb248 ≠ gb255)); have n10_ := Aside0.mk ((by rw [hg]; exact Nat.ne_of_gt (blk_lt (g := gb248) (o := .cells #[.int .i64 t245, .string t246] 29 (0, 0)) (bq BK248.out)) : gb255 ≠ gb248)); clear HO_77; clear BK239; clear BK248; clear HB; have HO_77 := n0_; have BK239 := n1_; have BK248 := n2_; have HB := n3_; have BK255 := n4_; have GW255 := n5_; have GE255 := n6_; have NB239_255 := n7_; have NB255_239 := n8_; have NB248_255 := n9_; have NB255_248 := n10_; clear n0_ n1_ n2_ n3_ n4_ n5_ n6_ n7_ n8_ n9_ n10_; clear hb hbox hg; have hnb44 := NB255_239.out; have hnc44 := NB239_255.out; have hnb45 := NB255_248.out; have hnc45 := NB248_255.out; have hcz46_0 : w43.cell? ⟨gb255, 0, none⟩ = some (.int .i64 0) := (blk_cell BK255.out 0).trans rfl; have hcz46_1 : w43.cell? ⟨gb255, 1, none⟩ = some (.string (⟨#[]⟩ : ByteArray)) := (blk_cell BK255.out 1).trans rfl; have hfz46_0 := blk_frozen BK255.out 0; have hfz46_1 := blk_frozen BK255.out 1) | ((with_reducible refine gate_callee (f := 10) rfl ?_); refine goesL_ (some 85) rfl rfl Try.func10 (by kernel_rfl) rfl #[.agg #[.int .i64 ((rd_T29 y251 x79_2).f0), .string ((rd_T29 y251 x79_2).f1)]] rfl eq_ ?_; (with_reducible refine (primitive_Encode.calls k2 ((rd_T29 y251 x79_2).f0) ((rd_T29 y251 x79_2).f1) t256 t257 _ A36.out).mono ?_); rintro e w47 ⟨rfl, hb⟩; refine ⟨_, rfl, ?_⟩; have n0_ := Aside0.mk (Kd.R_below (by (with_reducible repeat (first | apply Kd.R_alloc | apply Kd.R_drewN | apply Kd.R_drew)); exact (Kd.R_mono (Kd.R_far (p := ⟨gb255, 1, none⟩) (Kd.R_far (p := ⟨gb255, 0, none⟩) (Kd.R_mono HO_77.out (fun k_ hk => (⟨hk, hk.2⟩ : _ ∧ k_ ≠ gb255))) (fun _ hk => hk.2) (.int .i64 ((rd_T29 y251 x79_2).f0))) (fun _ hk => hk.2) (.string ((rd_T29 y251 x79_2).f1))) (fun _ h_ => h_.1))) hb); have n1_ := Aside0.mk (blk_below (g := gb239) (o := .cells #[.int .i64 a1_0, .string a1_1] 29 (0, 0)) (by (with_reducible repeat (first | refine blk_drewN ?_ _ | refine blk_drew ?_ | refine blk_alloc ?_ _)); refine blk_far ?_ NB239_255.out _; (with_reducible repeat (first | refine blk_drewN ?_ _ | refine blk_drew ?_ | refine blk_alloc ?_ _)); refine blk_far ?_ NB239_255.out _; (with_reducible repeat (first | refine blk_drewN ?_ _ | refine blk_drew ?_ | refine blk_alloc ?_ _)); exact BK239.out) hb); have n2_ := Aside0.mk (blk_below (g := gb248) (o := .cells #[.int .i64 t245, .string t246] 29 (0, 0)) (by (with_reducible repeat (first | refine blk_drewN ?_ _ | refine blk_drew ?_ | refine blk_alloc ?_ _)); refine blk_far ?_ NB248_255.out _; (with_reducible repeat (first | refine blk_drewN ?_ _ | refine blk_drew ?_ | refine blk_alloc ?_ _)); refine blk_far ?_ NB248_255.out _; (with_reducible repeat (first | refine blk_drewN ?_ _ | refine blk_drew ?_ | refine blk_alloc ?_ _)); exact BK248.out) hb); have n3_ := Aside0.mk (blk_below (g := gb255) (o := .cells #[.int .i64 ((rd_T29 y251 x79_2).f0), .string ((rd_T29 y251 x79_2).f1)] 29 (0, 0)) (by (with_reducible repeat (first | refine blk_drewN ?_ _ | refine blk_drew ?_ | refine blk_alloc ?_ _)); refine blk_put (cs := #[.int .i64 ((rd_T29 y251 x79_2).f0), .string (⟨#[]⟩ : ByteArray)]) ?_ 1 _ rfl; (with_reducible repeat (first | refine blk_drewN ?_ _ | refine blk_drew ?_ | refine blk_alloc ?_ _)); refine blk_put (cs := #[.int .i64 0, .string (⟨#[]⟩ : ByteArray)]) ?_ 0 _ rfl; (with_reducible repeat (first | refine blk_drewN ?_ _ | refine blk_drew ?_ | refine blk_alloc ?_ _)); exact BK255.out) hb); have n4_ := Aside0.mk (below_step (by repeat (first | (with_reducible first | exact HB.out | apply below_alloc | apply pw_below_drewN | apply below_drew1 | refine below_set ?_ GE239.out | refine below_set ?_ GE248.out | refine below_set ?_ GE255.out) | exact HB.out)) hb); clear HO_77; clear BK239; clear BK248; clear BK255; clear HB; have HO_77 := n0_; have BK239 := n1_; have BK248 := n2_; have BK255 := n3_; have HB := n4_; clear n0_ n1_ n2_ n3_ n4_; (try clear hb); (try clear hb2); (try clear hk); (try clear hi); have hcz48_0 : w47.cell? ⟨gb255, 0, none⟩ = some (.int .i64 ((rd_T29 y251 x79_2).f0)) := (blk_cell BK255.out 0).trans rfl; have hcz48_1 : w47.cell? ⟨gb255, 1, none⟩ = some (.string ((rd_T29 y251 x79_2).f1)) := (blk_cell BK255.out 1).trans rfl; have hfz48_0 := blk_frozen BK255.out 0; have hfz48_1 := blk_frozen BK255.out 1) | ((with_reducible refine gate_callee (f := 22) rfl ?_); refine goesL_ (some 90) rfl rfl Try.func22 (by kernel_rfl) rfl #[.agg #[.int .i64 ((rd_T29 y251 x79_2).f0), .string ((rd_T29 y251 x79_2).f1)]] rfl eq_ ?_; (with_reducible refine (keyeventref03_Encode.calls k2 ((rd_T29 y251 x79_2).f0) ((rd_T29 y251 x79_2).f1) t258 t259 _ A37.out).mono ?_); rintro e w49 ⟨rfl, hb⟩; refine ⟨_, rfl, ?_⟩; have n0_ := Aside0.mk (Kd.R_below (rq HO_77.out) hb); have n1_ := Aside0.mk (blk_below (g := gb239) (o := .cells #[.int .i64 a1_0, .string a1_1] 29 (0, 0)) (bq BK239.out) hb); have n2_ := Aside0.mk (blk_below (g := gb248) (o := .cells #[.int .i64 t245, .string t246] 29 (0, 0)) (bq BK248.out) hb); have n3_ := Aside0.mk (blk_below (g := gb255) (o := .cells #[.int .i64 ((rd_T29 y251 x79_2).f0), .string ((rd_T29 y251 x79_2).f1)] 29 (0, 0)) (bq BK255.out) hb); have n4_ := Aside0.mk (below_step (by repeat (first | (with_reducible first | exact HB.out | apply below_alloc | apply pw_below_drewN | apply below_drew1 | refine below_set ?_ GE239.out | refine below_set ?_ GE248.out | refine below_set ?_ GE255.out) | exact HB.out)) hb); clear HO_77; clear BK239; clear BK248; clear BK255; clear HB; have HO_77 := n0_; have BK239 := n1_; have BK248 := n2_; have BK255 := n3_; have HB := n4_; clear n0_ n1_ n2_ n3_ n4_; (try clear hb); (try clear hb2); (try clear hk); (try clear hi)))
            have n0_ := Aside0.mk (Kd.R_drew HO_77.out)
            have n1_ := Aside0.mk (blk_drew BK239.out)
            have n2_ := Aside0.mk (blk_drew BK248.out)
            have n3_ := Aside0.mk (blk_drew BK255.out)
            have n4_ := Aside0.mk (below_drew1 HB.out)
            clear HO_77
            clear BK239
            clear BK248
            clear BK255
            clear HB
            have HO_77 := n0_
            have BK239 := n1_
            have BK248 := n2_
            have BK255 := n3_
            have HB := n4_
            clear n0_ n1_ n2_ n3_ n4_
            refine start_ (n := 21) (S := fun w' => w'.cell? ⟨gb255, 0, none⟩ = some (.int .i64 ((rd_T29 y251 x79_2).f0)) ∧ w'.cell? ⟨gb255, 1, none⟩ = some (.string ((rd_T29 y251 x79_2).f1))) (ds := []) #[false, false, false, false, false, false, false, false, false, false, false, false, false, false, false, false, false, false, false, false, false] (by kernel_rfl) rfl rfl ⟨(blk_cell BK255.out 0).trans rfl, (blk_cell BK255.out 1).trans rfl⟩ (fun hHeld => ?_); refine with_tabW keyeventlaw03_PrimitiveActs.tab11 keyeventlaw03_PrimitiveActs.bits11 (fun HT_ HW_ => ?_)
            generalize w49.drew = w50 at HO_77 BK239 BK248 BK255 HB hHeld ⊢
            refine pure_ (i := 0) (N := some 93) (v := ?_) (a' := ?_) #[true, false, false, false, false, false, false, false, false, false, false, false, false, false, false, false, false, false, false, false, false] rfl rfl (any_of HT_.out (by kernel_rfl)) (fun _ _ _ h => h) (Or.inl ⟨by rfl, ?_⟩) ?_ ?_
            rotate_left
            ·intro w'
             go_simp
             with_reducible rfl
            rotate_left
            ·simp only [Act.put, List.setIfInBounds_toArray, List.set_cons_zero, List.set_cons_succ, i64_w, i32_w]
             rfl
            refine pure_ (i := 1) (N := some 94) (v := ?_) (a' := ?_) #[true, true, false, false, false, false, false, false, false, false, false, false, false, false, false, false, false, false, false, false, false] rfl rfl (any_of HT_.out (by kernel_rfl)) (fun _ _ _ h => h) (Or.inl ⟨by rfl, ?_⟩) ?_ ?_
            rotate_left
            ·intro w'
             go_simp
             with_reducible rfl
            rotate_left
            ·simp only [Act.put, List.setIfInBounds_toArray, List.set_cons_zero, List.set_cons_succ, i64_w, i32_w]
             rfl
            refine pure_ (i := 2) (N := some 95) (v := ?_) (a' := ?_) #[true, true, true, false, false, false, false, false, false, false, false, false, false, false, false, false, false, false, false, false, false] rfl rfl (any_of HT_.out (by kernel_rfl)) (fun _ _ _ h => h) (Or.inl ⟨by rfl, ?_⟩) ?_ ?_
            rotate_left
            ·intro w'
             go_simp
             with_reducible rfl
            rotate_left
            ·simp only [Act.put, List.setIfInBounds_toArray, List.set_cons_zero, List.set_cons_succ, i64_w, i32_w]
             rfl
            refine pure_ (i := 3) (N := some 96) (v := ?_) (a' := ?_) #[true, true, true, true, false, false, false, false, false, false, false, false, false, false, false, false, false, false, false, false, false] rfl rfl (any_of HT_.out (by kernel_rfl)) (fun _ _ _ h => h) (Or.inl ⟨by rfl, ?_⟩) ?_ ?_
            rotate_left
            ·intro w'
             go_simp
             with_reducible rfl
            rotate_left
            ·simp only [Act.put, List.setIfInBounds_toArray, List.set_cons_zero, List.set_cons_succ, i64_w, i32_w]
             rfl
            refine pure_ (i := 4) (N := some 97) (v := ?_) (a' := ?_) #[true, true, true, true, true, false, false, false, false, false, false, false, false, false, false, false, false, false, false, false, false] rfl rfl (any_of HT_.out (by kernel_rfl)) (fun _ _ _ h => h) (Or.inl ⟨by rfl, ?_⟩) ?_ ?_
            rotate_left
            ·intro w'
             go_simp
             with_reducible rfl
            rotate_left
            ·simp only [Act.put, List.setIfInBounds_toArray, List.set_cons_zero, List.set_cons_succ, i64_w, i32_w]
             rfl
            refine pure_ (i := 5) (N := some 98) (v := ?_) (a' := ?_) #[true, true, true, true, true, true, false, false, false, false, false, false, false, false, false, false, false, false, false, false, false] rfl rfl (any_of HT_.out (by kernel_rfl)) (fun _ _ _ h => h) (Or.inl ⟨by rfl, ?_⟩) ?_ ?_
            rotate_left
            ·intro w'
             go_simp
             with_reducible rfl
            rotate_left
            ·simp only [Act.put, List.setIfInBounds_toArray, List.set_cons_zero, List.set_cons_succ, i64_w, i32_w]
             rfl
            refine pure_ (i := 6) (N := some 99) (v := ?_) (a' := ?_) #[true, true, true, true, true, true, true, false, false, false, false, false, false, false, false, false, false, false, false, false, false] rfl rfl (any_of HT_.out (by kernel_rfl)) (fun _ _ _ h => h) (Or.inl ⟨by rfl, ?_⟩) ?_ ?_
            rotate_left
            ·intro w'
             go_simp
             with_reducible rfl
            rotate_left
            ·simp only [Act.put, List.setIfInBounds_toArray, List.set_cons_zero, List.set_cons_succ, i64_w, i32_w]
             rfl
            refine pure_ (i := 7) (N := some 100) (v := ?_) (a' := ?_) #[true, true, true, true, true, true, true, true, false, false, false, false, false, false, false, false, false, false, false, false, false] rfl rfl (any_of HT_.out (by kernel_rfl)) (fun _ _ _ h => h) (Or.inl ⟨by rfl, ?_⟩) ?_ ?_
            rotate_left
            ·intro w'
             go_simp
             with_reducible rfl
            rotate_left
            ·simp only [Act.put, List.setIfInBounds_toArray, List.set_cons_zero, List.set_cons_succ, i64_w, i32_w]
             rfl
            refine pure_ (i := 8) (N := some 101) (v := ?_) (a' := ?_) #[true, true, true, true, true, true, true, true, true, false, false, false, false, false, false, false, false, false, false, false, false] rfl rfl (any_of HT_.out (by kernel_rfl)) (fun _ _ _ h => h) (Or.inl ⟨by rfl, ?_⟩) ?_ ?_
            rotate_left
            ·intro w'
             go_simp
             with_reducible rfl
            rotate_left
            ·simp only [Act.put, List.setIfInBounds_toArray, List.set_cons_zero, List.set_cons_succ, i64_w, i32_w]
             rfl
            refine pure_ (i := 9) (N := some 102) (v := ?_) (a' := ?_) #[true, true, true, true, true, true, true, true, true, true, false, false, false, false, false, false, false, false, false, false, false] rfl rfl (any_of HT_.out (by kernel_rfl)) (fun _ _ _ h => h) (Or.inl ⟨by rfl, ?_⟩) ?_ ?_
            rotate_left
            ·intro w'
             go_simp
             with_reducible rfl
            rotate_left
            ·simp only [Act.put, List.setIfInBounds_toArray, List.set_cons_zero, List.set_cons_succ, i64_w, i32_w]
             rfl
            refine pure_ (i := 11) (N := some 104) (v := ?_) (a' := ?_) #[true, true, true, true, true, true, true, true, true, true, false, true, false, false, false, false, false, false, false, false, false] rfl rfl (any_of HT_.out (by kernel_rfl)) (fun _ _ _ h => h) (Or.inl ⟨by rfl, ?_⟩) ?_ ?_
            rotate_left
            ·intro w'
             go_simp
             with_reducible rfl
            rotate_left
            ·simp only [Act.put, List.setIfInBounds_toArray, List.set_cons_zero, List.set_cons_succ, i64_w, i32_w]
             rfl
            refine pure_ (i := 14) (N := some 107) (v := ?_) (a' := ?_) #[true, true, true, true, true, true, true, true, true, true, false, true, false, false, true, false, false, false, false, false, false] rfl rfl (any_of HT_.out (by kernel_rfl)) (fun _ _ _ h => h) (Or.inl ⟨by rfl, ?_⟩) ?_ ?_
            rotate_left
            ·intro w'
             go_simp
             with_reducible rfl
            rotate_left
            ·simp only [Act.put, List.setIfInBounds_toArray, List.set_cons_zero, List.set_cons_succ, i64_w, i32_w]
             rfl
            refine pure_ (i := 16) (N := some 109) (v := ?_) (a' := ?_) #[true, true, true, true, true, true, true, true, true, true, false, true, false, false, true, false, true, false, false, false, false] rfl rfl (any_of HT_.out (by kernel_rfl)) (fun _ _ _ h => h) (Or.inl ⟨by rfl, ?_⟩) ?_ ?_
            rotate_left
            ·intro w'
             go_simp
             with_reducible rfl
            rotate_left
            ·simp only [Act.put, List.setIfInBounds_toArray, List.set_cons_zero, List.set_cons_succ, i64_w, i32_w]
             rfl
            refine take_ (i := 10) (N := some 103) (v := ?_) (a' := ?_) #[true, true, true, true, true, true, true, true, true, true, true, true, false, false, true, false, true, false, false, false, false] rfl rfl (take_ofW HT_.out HW_.out (by kernel_rfl)) (fun _ _ _ h => h) (Or.inl ⟨by rfl, ?_⟩) hHeld ?_ ?_
            rotate_left
            ·rintro w' ⟨s0, s1⟩
             go_simp
             with_reducible rfl
            rotate_left
            ·simp only [Act.put, List.setIfInBounds_toArray, List.set_cons_zero, List.set_cons_succ, i64_w, i32_w]
             rfl
            refine take_ (i := 12) (N := some 105) (v := ?_) (a' := ?_) #[true, true, true, true, true, true, true, true, true, true, true, true, true, false, true, false, true, false, false, false, false] rfl rfl (take_ofW HT_.out HW_.out (by kernel_rfl)) (fun _ _ _ h => h) (Or.inl ⟨by rfl, ?_⟩) hHeld ?_ ?_
            rotate_left
            ·rintro w' ⟨s0, s1⟩
             go_simp
             with_reducible rfl
            rotate_left
            ·simp only [Act.put, List.setIfInBounds_toArray, List.set_cons_zero, List.set_cons_succ, i64_w, i32_w]
             rfl
            refine take_ (i := 15) (N := some 108) (v := ?_) (a' := ?_) #[true, true, true, true, true, true, true, true, true, true, true, true, true, false, true, true, true, false, false, false, false] rfl rfl (take_ofW HT_.out HW_.out (by kernel_rfl)) (fun _ _ _ h => h) (Or.inl ⟨by rfl, ?_⟩) hHeld ?_ ?_
            rotate_left
            ·rintro w' ⟨s0, s1⟩
             go_simp
             with_reducible rfl
            rotate_left
            ·simp only [Act.put, List.setIfInBounds_toArray, List.set_cons_zero, List.set_cons_succ, i64_w, i32_w]
             rfl
            refine take_ (i := 17) (N := some 110) (v := ?_) (a' := ?_) #[true, true, true, true, true, true, true, true, true, true, true, true, true, false, true, true, true, true, false, false, false] rfl rfl (take_ofW HT_.out HW_.out (by kernel_rfl)) (fun _ _ _ h => h) (Or.inl ⟨by rfl, ?_⟩) hHeld ?_ ?_
            rotate_left
            ·rintro w' ⟨s0, s1⟩
             go_simp
             with_reducible rfl
            rotate_left
            ·simp only [Act.put, List.setIfInBounds_toArray, List.set_cons_zero, List.set_cons_succ, i64_w, i32_w]
             rfl
            refine one_ (i := 13) (N := some 106) #[true, true, true, true, true, true, true, true, true, true, true, true, true, true, true, true, true, true, false, false, false] rfl rfl (one_of HT_.out (by kernel_rfl)) (by decide) (fun K hK => ?_)
            refine goes_ Try.func19 (by kernel_rfl) rfl #[.int .i64 ((rd_T29 y251 x79_2).f0), .string ((rd_T29 y251 x79_2).f1)] (by rfl) rfl rfl eq_ ?_
            with_reducible refine (primitive_Make.calls k2 ((rd_T29 y251 x79_2).f0) ((rd_T29 y251 x79_2).f1) t260 _ A40.out).mono ?_
            rintro e w51 ⟨rfl, hb⟩
            refine ⟨_, rfl, ?_⟩
            have n0_ := Aside0.mk (Kd.R_below (rq HO_77.out) hb)
            have n1_ := Aside0.mk (blk_below (g := gb239) (o := .cells #[.int .i64 a1_0, .string a1_1] 29 (0, 0)) (bq BK239.out) hb)
            have n2_ := Aside0.mk (blk_below (g := gb248) (o := .cells #[.int .i64 t245, .string t246] 29 (0, 0)) (bq BK248.out) hb)
            have n3_ := Aside0.mk (blk_below (g := gb255) (o := .cells #[.int .i64 ((rd_T29 y251 x79_2).f0), .string ((rd_T29 y251 x79_2).f1)] 29 (0, 0)) (bq BK255.out) hb)
            have n4_ := Aside0.mk (below_step (by repeat (first | (with_reducible first | exact HB.out | apply below_alloc | apply pw_below_drewN | apply below_drew1 | refine below_set ?_ GE239.out | refine below_set ?_ GE248.out | refine below_set ?_ GE255.out) | exact HB.out)) hb)
            clear HO_77
            clear BK239
            clear BK248
            clear BK255
            clear HB
            have HO_77 := n0_
            have BK239 := n1_
            have BK248 := n2_
            have BK255 := n3_
            have HB := n4_
            clear n0_ n1_ n2_ n3_ n4_
            (try clear hb)
            (try clear hb2)
            (try clear hk)
            (try clear hi)
            refine hK.out _ _ ⟨(blk_cell BK255.out 0).trans rfl, (blk_cell BK255.out 1).trans rfl⟩ (fun hHeld => ?_)
            clear hK K
            refine norm_ (a' := ?_) ?_ ?_
            rotate_left
            ·show Act.put _ (some 106) _ = _
             simp only [Act.put, List.setIfInBounds_toArray, List.set_cons_zero, List.set_cons_succ, i64_w, i32_w]
             rfl
            refine one_ (i := 18) (N := some 111) #[true, true, true, true, true, true, true, true, true, true, true, true, true, true, true, true, true, true, true, false, false] rfl rfl (one_of HT_.out (by kernel_rfl)) (by decide) (fun K hK => ?_)
            refine goes_ Try.func23 (by kernel_rfl) rfl #[.int .i64 ((rd_T29 y251 x79_2).f0), .string ((rd_T29 y251 x79_2).f1)] (by rfl) rfl rfl eq_ ?_
            with_reducible refine (keyeventref03_Make.calls k2 ((rd_T29 y251 x79_2).f0) ((rd_T29 y251 x79_2).f1) t261 _ A41.out).mono ?_
            rintro e w52 ⟨rfl, hb⟩
            refine ⟨_, rfl, ?_⟩
            have n0_ := Aside0.mk (Kd.R_below (rq HO_77.out) hb)
            have n1_ := Aside0.mk (blk_below (g := gb239) (o := .cells #[.int .i64 a1_0, .string a1_1] 29 (0, 0)) (bq BK239.out) hb)
            have n2_ := Aside0.mk (blk_below (g := gb248) (o := .cells #[.int .i64 t245, .string t246] 29 (0, 0)) (bq BK248.out) hb)
            have n3_ := Aside0.mk (blk_below (g := gb255) (o := .cells #[.int .i64 ((rd_T29 y251 x79_2).f0), .string ((rd_T29 y251 x79_2).f1)] 29 (0, 0)) (bq BK255.out) hb)
            have n4_ := Aside0.mk (below_step (by repeat (first | (with_reducible first | exact HB.out | apply below_alloc | apply pw_below_drewN | apply below_drew1 | refine below_set ?_ GE239.out | refine below_set ?_ GE248.out | refine below_set ?_ GE255.out) | exact HB.out)) hb)
            clear HO_77
            clear BK239
            clear BK248
            clear BK255
            clear HB
            have HO_77 := n0_
            have BK239 := n1_
            have BK248 := n2_
            have BK255 := n3_
            have HB := n4_
            clear n0_ n1_ n2_ n3_ n4_
            (try clear hb)
            (try clear hb2)
            (try clear hk)
            (try clear hi)
            refine hK.out _ _ ⟨(blk_cell BK255.out 0).trans rfl, (blk_cell BK255.out 1).trans rfl⟩ (fun hHeld => ?_)
            clear hK K
            refine norm_ (a' := ?_) ?_ ?_
            rotate_left
            ·show Act.put _ (some 111) _ = _
             simp only [Act.put, List.setIfInBounds_toArray, List.set_cons_zero, List.set_cons_succ, i64_w, i32_w]
             rfl
            refine pure_ (i := 19) (N := some 112) (v := ?_) (a' := ?_) #[true, true, true, true, true, true, true, true, true, true, true, true, true, true, true, true, true, true, true, true, false] rfl rfl (any_of HT_.out (by kernel_rfl)) (fun _ _ _ h => h) (Or.inl ⟨by rfl, ?_⟩) ?_ ?_
            rotate_left
            ·intro w'
             go_simp
             with_reducible rfl
            rotate_left
            ·simp only [Act.put, List.setIfInBounds_toArray, List.set_cons_zero, List.set_cons_succ, i64_w, i32_w]
             rfl
            refine pure_ (i := 20) (N := some 113) (v := ?_) (a' := ?_) #[true, true, true, true, true, true, true, true, true, true, true, true, true, true, true, true, true, true, true, true, true] rfl rfl (any_of HT_.out (by kernel_rfl)) (fun _ _ _ h => h) (Or.inl ⟨by rfl, ?_⟩) ?_ ?_
            rotate_left
            ·intro w'
             go_simp
             with_reducible rfl
            rotate_left
            ·simp only [Act.put, List.setIfInBounds_toArray, List.set_cons_zero, List.set_cons_succ, i64_w, i32_w]
             rfl
            refine done_ (done_of HT_.out (by kernel_rfl)) ?_
            try go_wp2
            go_roundg k2
            case measure => have := HJ6.out; have := HK2.out; omega
            case rel => exact ⟨(wrap64 (x79_2 + 1)), (by first | rfl | (simp; done) | (simp [*]; done)), H', ⟨by have := HJ6.out; have := HK2.out; omega⟩, ⟨by (with_reducible repeat (first | apply Kd.R_alloc | apply Kd.R_drewN | apply Kd.R_drew)); exact Kd.R_mono HO_77.out (fun _ hk => ⟨hk.1.1, hk.1.2⟩)⟩, ⟨by (with_reducible repeat (first | refine blk_drewN ?_ _ | refine blk_drew ?_ | refine blk_alloc ?_ _)); exact BK239.out⟩, ⟨by (with_reducible repeat (first | refine blk_drewN ?_ _ | refine blk_drew ?_ | refine blk_alloc ?_ _)); exact BK248.out⟩, ⟨by repeat (first | (with_reducible first | exact HB.out | apply below_alloc | apply pw_below_drewN | apply below_drew1 | refine below_set ?_ GE239.out | refine below_set ?_ GE248.out | refine below_set ?_ GE255.out) | exact HB.out)⟩⟩
           ·rw [if_neg c42] at H
            have c42b0 : (t260.toList == t261.toList) = false := beq_eq_false_iff_ne.mpr c42
            have c42b1 : (t260.toList != t261.toList) = true := bne_iff_ne.mpr c42
            obtain rfl := Option.some.inj H
            have p254 : 0 ≤ (x79_2 : Int) := of_decide_eq_true aq
            have q254 : x79_2 < (y251.length : Int) := of_decide_eq_true aq
            obtain ⟨ad254, e254, hx254_0, hx254_1⟩ := at_T29 (Kd.R_reads' HO_77.out).2.2 x79_2 p254 q254
            cases e254
            replace p254 := eq_true p254
            replace q254 := eq_true q254
            try go_wp2_with (first | ((with_reducible refine gate_dst (N := 18) rfl ?_); (try (refine gate_guard (by rfl) ?_; dsimp only)); refine box_event ?hg (N := 18) ?hd (cs := #[.int .i64 0, .string (⟨#[]⟩ : ByteArray)]) (t := 29) ?hr ?_; (case hd => rfl); (case hg => rfl); (case hr => first | (go_simp; done) | (go_simp; rfl)); intro gb255 hg w53 hbox hb; have n0_ := Aside0.mk (Kd.R_below (Kd.R_elderB (rq HO_77.out) gb255 (Nat.le_of_eq hg.symm)) hb); have n1_ := Aside0.mk (blk_below (g := gb239) (o := .cells #[.int .i64 a1_0, .string a1_1] 29 (0, 0)) (bq BK239.out) hb); have n2_ := Aside0.mk (blk_below (g := gb248) (o := .cells #[.int .i64 t245, .string t246] 29 (0, 0)) (bq BK248.out) hb); have n3_ := Aside0.mk (below_step (by repeat (first | (with_reducible first | exact HB.out | apply below_alloc | apply pw_below_drewN | apply below_drew1 | refine below_set ?_ GE239.out | refine below_set ?_ GE248.out) | exact HB.out)) hb); have n4_ := Aside0.mk (hbox); have n5_ := Aside0.mk ((by rw [hg]; exact (below_size (by repeat (first | (with_reducible first | exact HB.out | apply below_alloc | apply pw_below_drewN | apply below_drew1 | refine below_set ?_ GE239.out | refine below_set ?_ GE248.out) | exact HB.out))) : w.heap.size ≤ gb255)); have n6_ := Aside0.mk ((by rw [hg]; exact (below_size (by repeat (first | (with_reducible first | exact HB.out | apply below_alloc | apply pw_below_drewN | apply below_drew1 | refine below_set ?_ GE239.out | refine below_set ?_ GE248.out) | exact HB.out))) : w.heap.size ≤ gb255)); have n7_ := Aside0.mk ((by rw [hg]; exact Nat.ne_of_lt (blk_lt (g := gb239) (o := .cells #[.int .i64 a1_0, .string a1_1] 29 (0, 0)) (bq BK239.out)) : gb239 ≠ gb255)); have n8_ := Aside0.mk ((by rw [hg]; exact Nat.ne_of_gt (blk_lt (g := gb239) (o := .cells #[.int .i64 a1_0, .string a1_1] 29 (0, 0)) (bq BK239.out)) : gb255 ≠ gb239)); have n9_ := Aside0.mk ((by rw [hg]; exact Nat.ne_of_lt (blk_lt (g := gb248) (o := .cells #[.int .i64 t245, .string t246] 29 (0, 0)) (bq BK248.out)) : gb248 ≠ gb255)); have n10_ := Aside0.mk ((by rw [hg]; exact Nat.ne_of_gt (blk_lt (g := gb248) (o := .cells #[.int .i64 t245, .string t246] 29 (0, 0)) (bq BK248.out)) : gb255 ≠ gb248)); clear HO_77; clear BK239; clear BK248; clear HB; have HO_77 := n0_; have BK239 := n1_; have BK248 := n2_; have HB := n3_; have BK255 := n4_; have GW255 := n5_; have GE255 := n6_; have NB239_255 := n7_; have NB255_239 := n8_; have NB248_255 := n9_; have NB255_248 := n10_; clear n0_ n1_ n2_ n3_ n4_ n5_ n6_ n7_ n8_ n9_ n10_; clear hb hbox hg; have hnb54 := NB255_239.out; have hnc54 := NB239_255.out; have hnb55 := NB255_248.out; have hnc55 := NB248_255.out; have hcz56_0 : w53.cell? ⟨gb255, 0, none⟩ = some (.int .i64 0) := (blk_cell BK255.out 0).trans rfl; have hcz56_1 : w53.cell? ⟨gb255, 1, none⟩ = some (.string (⟨#[]⟩ : ByteArray)) := (blk_cell BK255.out 1).trans rfl; have hfz56_0 := blk_frozen BK255.out 0; have hfz56_1 := blk_frozen BK255.out 1) | ((with_reducible refine gate_callee (f := 10) rfl ?_); refine goesL_ (some 85) rfl rfl Try.func10 (by kernel_rfl) rfl #[.agg #[.int .i64 ((rd_T29 y251 x79_2).f0), .string ((rd_T29 y251 x79_2).f1)]] rfl eq_ ?_; (with_reducible refine (primitive_Encode.calls k2 ((rd_T29 y251 x79_2).f0) ((rd_T29 y251 x79_2).f1) t256 t257 _ A36.out).mono ?_); rintro e w57 ⟨rfl, hb⟩; refine ⟨_, rfl, ?_⟩; have n0_ := Aside0.mk (Kd.R_below (by (with_reducible repeat (first | apply Kd.R_alloc | apply Kd.R_drewN | apply Kd.R_drew)); exact (Kd.R_mono (Kd.R_far (p := ⟨gb255, 1, none⟩) (Kd.R_far (p := ⟨gb255, 0, none⟩) (Kd.R_mono HO_77.out (fun k_ hk => (⟨hk, hk.2⟩ : _ ∧ k_ ≠ gb255))) (fun _ hk => hk.2) (.int .i64 ((rd_T29 y251 x79_2).f0))) (fun _ hk => hk.2) (.string ((rd_T29 y251 x79_2).f1))) (fun _ h_ => h_.1))) hb); have n1_ := Aside0.mk (blk_below (g := gb239) (o := .cells #[.int .i64 a1_0, .string a1_1] 29 (0, 0)) (by (with_reducible repeat (first | refine blk_drewN ?_ _ | refine blk_drew ?_ | refine blk_alloc ?_ _)); refine blk_far ?_ NB239_255.out _; (with_reducible repeat (first | refine blk_drewN ?_ _ | refine blk_drew ?_ | refine blk_alloc ?_ _)); refine blk_far ?_ NB239_255.out _; (with_reducible repeat (first | refine blk_drewN ?_ _ | refine blk_drew ?_ | refine blk_alloc ?_ _)); exact BK239.out) hb); have n2_ := Aside0.mk (blk_below (g := gb248) (o := .cells #[.int .i64 t245, .string t246] 29 (0, 0)) (by (with_reducible repeat (first | refine blk_drewN ?_ _ | refine blk_drew ?_ | refine blk_alloc ?_ _)); refine blk_far ?_ NB248_255.out _; (with_reducible repeat (first | refine blk_drewN ?_ _ | refine blk_drew ?_ | refine blk_alloc ?_ _)); refine blk_far ?_ NB248_255.out _; (with_reducible repeat (first | refine blk_drewN ?_ _ | refine blk_drew ?_ | refine blk_alloc ?_ _)); exact BK248.out) hb); have n3_ := Aside0.mk (blk_below (g := gb255) (o := .cells #[.int .i64 ((rd_T29 y251 x79_2).f0), .string ((rd_T29 y251 x79_2).f1)] 29 (0, 0)) (by (with_reducible repeat (first | refine blk_drewN ?_ _ | refine blk_drew ?_ | refine blk_alloc ?_ _)); refine blk_put (cs := #[.int .i64 ((rd_T29 y251 x79_2).f0), .string (⟨#[]⟩ : ByteArray)]) ?_ 1 _ rfl; (with_reducible repeat (first | refine blk_drewN ?_ _ | refine blk_drew ?_ | refine blk_alloc ?_ _)); refine blk_put (cs := #[.int .i64 0, .string (⟨#[]⟩ : ByteArray)]) ?_ 0 _ rfl; (with_reducible repeat (first | refine blk_drewN ?_ _ | refine blk_drew ?_ | refine blk_alloc ?_ _)); exact BK255.out) hb); have n4_ := Aside0.mk (below_step (by repeat (first | (with_reducible first | exact HB.out | apply below_alloc | apply pw_below_drewN | apply below_drew1 | refine below_set ?_ GE239.out | refine below_set ?_ GE248.out | refine below_set ?_ GE255.out) | exact HB.out)) hb); clear HO_77; clear BK239; clear BK248; clear BK255; clear HB; have HO_77 := n0_; have BK239 := n1_; have BK248 := n2_; have BK255 := n3_; have HB := n4_; clear n0_ n1_ n2_ n3_ n4_; (try clear hb); (try clear hb2); (try clear hk); (try clear hi); have hcz58_0 : w57.cell? ⟨gb255, 0, none⟩ = some (.int .i64 ((rd_T29 y251 x79_2).f0)) := (blk_cell BK255.out 0).trans rfl; have hcz58_1 : w57.cell? ⟨gb255, 1, none⟩ = some (.string ((rd_T29 y251 x79_2).f1)) := (blk_cell BK255.out 1).trans rfl; have hfz58_0 := blk_frozen BK255.out 0; have hfz58_1 := blk_frozen BK255.out 1) | ((with_reducible refine gate_callee (f := 22) rfl ?_); refine goesL_ (some 90) rfl rfl Try.func22 (by kernel_rfl) rfl #[.agg #[.int .i64 ((rd_T29 y251 x79_2).f0), .string ((rd_T29 y251 x79_2).f1)]] rfl eq_ ?_; (with_reducible refine (keyeventref03_Encode.calls k2 ((rd_T29 y251 x79_2).f0) ((rd_T29 y251 x79_2).f1) t258 t259 _ A37.out).mono ?_); rintro e w59 ⟨rfl, hb⟩; refine ⟨_, rfl, ?_⟩; have n0_ := Aside0.mk (Kd.R_below (rq HO_77.out) hb); have n1_ := Aside0.mk (blk_below (g := gb239) (o := .cells #[.int .i64 a1_0, .string a1_1] 29 (0, 0)) (bq BK239.out) hb); have n2_ := Aside0.mk (blk_below (g := gb248) (o := .cells #[.int .i64 t245, .string t246] 29 (0, 0)) (bq BK248.out) hb); have n3_ := Aside0.mk (blk_below (g := gb255) (o := .cells #[.int .i64 ((rd_T29 y251 x79_2).f0), .string ((rd_T29 y251 x79_2).f1)] 29 (0, 0)) (bq BK255.out) hb); have n4_ := Aside0.mk (below_step (by repeat (first | (with_reducible first | exact HB.out | apply below_alloc | apply pw_below_drewN | apply below_drew1 | refine below_set ?_ GE239.out | refine below_set ?_ GE248.out | refine below_set ?_ GE255.out) | exact HB.out)) hb); clear HO_77; clear BK239; clear BK248; clear BK255; clear HB; have HO_77 := n0_; have BK239 := n1_; have BK248 := n2_; have BK255 := n3_; have HB := n4_; clear n0_ n1_ n2_ n3_ n4_; (try clear hb); (try clear hb2); (try clear hk); (try clear hi)))
            have n0_ := Aside0.mk (Kd.R_drew HO_77.out)
            have n1_ := Aside0.mk (blk_drew BK239.out)
            have n2_ := Aside0.mk (blk_drew BK248.out)
            have n3_ := Aside0.mk (blk_drew BK255.out)
            have n4_ := Aside0.mk (below_drew1 HB.out)
            clear HO_77
            clear BK239
            clear BK248
            clear BK255
            clear HB
            have HO_77 := n0_
            have BK239 := n1_
            have BK248 := n2_
            have BK255 := n3_
            have HB := n4_
            clear n0_ n1_ n2_ n3_ n4_
            refine start_ (n := 21) (S := fun w' => w'.cell? ⟨gb255, 0, none⟩ = some (.int .i64 ((rd_T29 y251 x79_2).f0)) ∧ w'.cell? ⟨gb255, 1, none⟩ = some (.string ((rd_T29 y251 x79_2).f1))) (ds := []) #[false, false, false, false, false, false, false, false, false, false, false, false, false, false, false, false, false, false, false, false, false] (by kernel_rfl) rfl rfl ⟨(blk_cell BK255.out 0).trans rfl, (blk_cell BK255.out 1).trans rfl⟩ (fun hHeld => ?_); refine with_tabW keyeventlaw03_PrimitiveActs.tab11 keyeventlaw03_PrimitiveActs.bits11 (fun HT_ HW_ => ?_)
            generalize w59.drew = w60 at HO_77 BK239 BK248 BK255 HB hHeld ⊢
            refine pure_ (i := 0) (N := some 93) (v := ?_) (a' := ?_) #[true, false, false, false, false, false, false, false, false, false, false, false, false, false, false, false, false, false, false, false, false] rfl rfl (any_of HT_.out (by kernel_rfl)) (fun _ _ _ h => h) (Or.inl ⟨by rfl, ?_⟩) ?_ ?_
            rotate_left
            ·intro w'
             go_simp
             with_reducible rfl
            rotate_left
            ·simp only [Act.put, List.setIfInBounds_toArray, List.set_cons_zero, List.set_cons_succ, i64_w, i32_w]
             rfl
            refine pure_ (i := 1) (N := some 94) (v := ?_) (a' := ?_) #[true, true, false, false, false, false, false, false, false, false, false, false, false, false, false, false, false, false, false, false, false] rfl rfl (any_of HT_.out (by kernel_rfl)) (fun _ _ _ h => h) (Or.inl ⟨by rfl, ?_⟩) ?_ ?_
            rotate_left
            ·intro w'
             go_simp
             with_reducible rfl
            rotate_left
            ·simp only [Act.put, List.setIfInBounds_toArray, List.set_cons_zero, List.set_cons_succ, i64_w, i32_w]
             rfl
            refine pure_ (i := 2) (N := some 95) (v := ?_) (a' := ?_) #[true, true, true, false, false, false, false, false, false, false, false, false, false, false, false, false, false, false, false, false, false] rfl rfl (any_of HT_.out (by kernel_rfl)) (fun _ _ _ h => h) (Or.inl ⟨by rfl, ?_⟩) ?_ ?_
            rotate_left
            ·intro w'
             go_simp
             with_reducible rfl
            rotate_left
            ·simp only [Act.put, List.setIfInBounds_toArray, List.set_cons_zero, List.set_cons_succ, i64_w, i32_w]
             rfl
            refine pure_ (i := 3) (N := some 96) (v := ?_) (a' := ?_) #[true, true, true, true, false, false, false, false, false, false, false, false, false, false, false, false, false, false, false, false, false] rfl rfl (any_of HT_.out (by kernel_rfl)) (fun _ _ _ h => h) (Or.inl ⟨by rfl, ?_⟩) ?_ ?_
            rotate_left
            ·intro w'
             go_simp
             with_reducible rfl
            rotate_left
            ·simp only [Act.put, List.setIfInBounds_toArray, List.set_cons_zero, List.set_cons_succ, i64_w, i32_w]
             rfl
            refine pure_ (i := 4) (N := some 97) (v := ?_) (a' := ?_) #[true, true, true, true, true, false, false, false, false, false, false, false, false, false, false, false, false, false, false, false, false] rfl rfl (any_of HT_.out (by kernel_rfl)) (fun _ _ _ h => h) (Or.inl ⟨by rfl, ?_⟩) ?_ ?_
            rotate_left
            ·intro w'
             go_simp
             with_reducible rfl
            rotate_left
            ·simp only [Act.put, List.setIfInBounds_toArray, List.set_cons_zero, List.set_cons_succ, i64_w, i32_w]
             rfl
            refine pure_ (i := 5) (N := some 98) (v := ?_) (a' := ?_) #[true, true, true, true, true, true, false, false, false, false, false, false, false, false, false, false, false, false, false, false, false] rfl rfl (any_of HT_.out (by kernel_rfl)) (fun _ _ _ h => h) (Or.inl ⟨by rfl, ?_⟩) ?_ ?_
            rotate_left
            ·intro w'
             go_simp
             with_reducible rfl
            rotate_left
            ·simp only [Act.put, List.setIfInBounds_toArray, List.set_cons_zero, List.set_cons_succ, i64_w, i32_w]
             rfl
            refine pure_ (i := 6) (N := some 99) (v := ?_) (a' := ?_) #[true, true, true, true, true, true, true, false, false, false, false, false, false, false, false, false, false, false, false, false, false] rfl rfl (any_of HT_.out (by kernel_rfl)) (fun _ _ _ h => h) (Or.inl ⟨by rfl, ?_⟩) ?_ ?_
            rotate_left
            ·intro w'
             go_simp
             with_reducible rfl
            rotate_left
            ·simp only [Act.put, List.setIfInBounds_toArray, List.set_cons_zero, List.set_cons_succ, i64_w, i32_w]
             rfl
            refine pure_ (i := 7) (N := some 100) (v := ?_) (a' := ?_) #[true, true, true, true, true, true, true, true, false, false, false, false, false, false, false, false, false, false, false, false, false] rfl rfl (any_of HT_.out (by kernel_rfl)) (fun _ _ _ h => h) (Or.inl ⟨by rfl, ?_⟩) ?_ ?_
            rotate_left
            ·intro w'
             go_simp
             with_reducible rfl
            rotate_left
            ·simp only [Act.put, List.setIfInBounds_toArray, List.set_cons_zero, List.set_cons_succ, i64_w, i32_w]
             rfl
            refine pure_ (i := 8) (N := some 101) (v := ?_) (a' := ?_) #[true, true, true, true, true, true, true, true, true, false, false, false, false, false, false, false, false, false, false, false, false] rfl rfl (any_of HT_.out (by kernel_rfl)) (fun _ _ _ h => h) (Or.inl ⟨by rfl, ?_⟩) ?_ ?_
            rotate_left
            ·intro w'
             go_simp
             with_reducible rfl
            rotate_left
            ·simp only [Act.put, List.setIfInBounds_toArray, List.set_cons_zero, List.set_cons_succ, i64_w, i32_w]
             rfl
            refine pure_ (i := 9) (N := some 102) (v := ?_) (a' := ?_) #[true, true, true, true, true, true, true, true, true, true, false, false, false, false, false, false, false, false, false, false, false] rfl rfl (any_of HT_.out (by kernel_rfl)) (fun _ _ _ h => h) (Or.inl ⟨by rfl, ?_⟩) ?_ ?_
            rotate_left
            ·intro w'
             go_simp
             with_reducible rfl
            rotate_left
            ·simp only [Act.put, List.setIfInBounds_toArray, List.set_cons_zero, List.set_cons_succ, i64_w, i32_w]
             rfl
            refine pure_ (i := 11) (N := some 104) (v := ?_) (a' := ?_) #[true, true, true, true, true, true, true, true, true, true, false, true, false, false, false, false, false, false, false, false, false] rfl rfl (any_of HT_.out (by kernel_rfl)) (fun _ _ _ h => h) (Or.inl ⟨by rfl, ?_⟩) ?_ ?_
            rotate_left
            ·intro w'
             go_simp
             with_reducible rfl
            rotate_left
            ·simp only [Act.put, List.setIfInBounds_toArray, List.set_cons_zero, List.set_cons_succ, i64_w, i32_w]
             rfl
            refine pure_ (i := 14) (N := some 107) (v := ?_) (a' := ?_) #[true, true, true, true, true, true, true, true, true, true, false, true, false, false, true, false, false, false, false, false, false] rfl rfl (any_of HT_.out (by kernel_rfl)) (fun _ _ _ h => h) (Or.inl ⟨by rfl, ?_⟩) ?_ ?_
            rotate_left
            ·intro w'
             go_simp
             with_reducible rfl
            rotate_left
            ·simp only [Act.put, List.setIfInBounds_toArray, List.set_cons_zero, List.set_cons_succ, i64_w, i32_w]
             rfl
            refine pure_ (i := 16) (N := some 109) (v := ?_) (a' := ?_) #[true, true, true, true, true, true, true, true, true, true, false, true, false, false, true, false, true, false, false, false, false] rfl rfl (any_of HT_.out (by kernel_rfl)) (fun _ _ _ h => h) (Or.inl ⟨by rfl, ?_⟩) ?_ ?_
            rotate_left
            ·intro w'
             go_simp
             with_reducible rfl
            rotate_left
            ·simp only [Act.put, List.setIfInBounds_toArray, List.set_cons_zero, List.set_cons_succ, i64_w, i32_w]
             rfl
            refine take_ (i := 10) (N := some 103) (v := ?_) (a' := ?_) #[true, true, true, true, true, true, true, true, true, true, true, true, false, false, true, false, true, false, false, false, false] rfl rfl (take_ofW HT_.out HW_.out (by kernel_rfl)) (fun _ _ _ h => h) (Or.inl ⟨by rfl, ?_⟩) hHeld ?_ ?_
            rotate_left
            ·rintro w' ⟨s0, s1⟩
             go_simp
             with_reducible rfl
            rotate_left
            ·simp only [Act.put, List.setIfInBounds_toArray, List.set_cons_zero, List.set_cons_succ, i64_w, i32_w]
             rfl
            refine take_ (i := 12) (N := some 105) (v := ?_) (a' := ?_) #[true, true, true, true, true, true, true, true, true, true, true, true, true, false, true, false, true, false, false, false, false] rfl rfl (take_ofW HT_.out HW_.out (by kernel_rfl)) (fun _ _ _ h => h) (Or.inl ⟨by rfl, ?_⟩) hHeld ?_ ?_
            rotate_left
            ·rintro w' ⟨s0, s1⟩
             go_simp
             with_reducible rfl
            rotate_left
            ·simp only [Act.put, List.setIfInBounds_toArray, List.set_cons_zero, List.set_cons_succ, i64_w, i32_w]
             rfl
            refine take_ (i := 15) (N := some 108) (v := ?_) (a' := ?_) #[true, true, true, true, true, true, true, true, true, true, true, true, true, false, true, true, true, false, false, false, false] rfl rfl (take_ofW HT_.out HW_.out (by kernel_rfl)) (fun _ _ _ h => h) (Or.inl ⟨by rfl, ?_⟩) hHeld ?_ ?_
            rotate_left
            ·rintro w' ⟨s0, s1⟩
             go_simp
             with_reducible rfl
            rotate_left
            ·simp only [Act.put, List.setIfInBounds_toArray, List.set_cons_zero, List.set_cons_succ, i64_w, i32_w]
             rfl
            refine take_ (i := 17) (N := some 110) (v := ?_) (a' := ?_) #[true, true, true, true, true, true, true, true, true, true, true, true, true, false, true, true, true, true, false, false, false] rfl rfl (take_ofW HT_.out HW_.out (by kernel_rfl)) (fun _ _ _ h => h) (Or.inl ⟨by rfl, ?_⟩) hHeld ?_ ?_
            rotate_left
            ·rintro w' ⟨s0, s1⟩
             go_simp
             with_reducible rfl
            rotate_left
            ·simp only [Act.put, List.setIfInBounds_toArray, List.set_cons_zero, List.set_cons_succ, i64_w, i32_w]
             rfl
            refine one_ (i := 13) (N := some 106) #[true, true, true, true, true, true, true, true, true, true, true, true, true, true, true, true, true, true, false, false, false] rfl rfl (one_of HT_.out (by kernel_rfl)) (by decide) (fun K hK => ?_)
            refine goes_ Try.func19 (by kernel_rfl) rfl #[.int .i64 ((rd_T29 y251 x79_2).f0), .string ((rd_T29 y251 x79_2).f1)] (by rfl) rfl rfl eq_ ?_
            with_reducible refine (primitive_Make.calls k2 ((rd_T29 y251 x79_2).f0) ((rd_T29 y251 x79_2).f1) t260 _ A40.out).mono ?_
            rintro e w61 ⟨rfl, hb⟩
            refine ⟨_, rfl, ?_⟩
            have n0_ := Aside0.mk (Kd.R_below (rq HO_77.out) hb)
            have n1_ := Aside0.mk (blk_below (g := gb239) (o := .cells #[.int .i64 a1_0, .string a1_1] 29 (0, 0)) (bq BK239.out) hb)
            have n2_ := Aside0.mk (blk_below (g := gb248) (o := .cells #[.int .i64 t245, .string t246] 29 (0, 0)) (bq BK248.out) hb)
            have n3_ := Aside0.mk (blk_below (g := gb255) (o := .cells #[.int .i64 ((rd_T29 y251 x79_2).f0), .string ((rd_T29 y251 x79_2).f1)] 29 (0, 0)) (bq BK255.out) hb)
            have n4_ := Aside0.mk (below_step (by repeat (first | (with_reducible first | exact HB.out | apply below_alloc | apply pw_below_drewN | apply below_drew1 | refine below_set ?_ GE239.out | refine below_set ?_ GE248.out | refine below_set ?_ GE255.out) | exact HB.out)) hb)
            clear HO_77
            clear BK239
            clear BK248
            clear BK255
            clear HB
            have HO_77 := n0_
            have BK239 := n1_
            have BK248 := n2_
            have BK255 := n3_
            have HB := n4_
            clear n0_ n1_ n2_ n3_ n4_
            (try clear hb)
            (try clear hb2)
            (try clear hk)
            (try clear hi)
            refine hK.out _ _ ⟨(blk_cell BK255.out 0).trans rfl, (blk_cell BK255.out 1).trans rfl⟩ (fun hHeld => ?_)
            clear hK K
            refine norm_ (a' := ?_) ?_ ?_
            rotate_left
            ·show Act.put _ (some 106) _ = _
             simp only [Act.put, List.setIfInBounds_toArray, List.set_cons_zero, List.set_cons_succ, i64_w, i32_w]
             rfl
            refine one_ (i := 18) (N := some 111) #[true, true, true, true, true, true, true, true, true, true, true, true, true, true, true, true, true, true, true, false, false] rfl rfl (one_of HT_.out (by kernel_rfl)) (by decide) (fun K hK => ?_)
            refine goes_ Try.func23 (by kernel_rfl) rfl #[.int .i64 ((rd_T29 y251 x79_2).f0), .string ((rd_T29 y251 x79_2).f1)] (by rfl) rfl rfl eq_ ?_
            with_reducible refine (keyeventref03_Make.calls k2 ((rd_T29 y251 x79_2).f0) ((rd_T29 y251 x79_2).f1) t261 _ A41.out).mono ?_
            rintro e w62 ⟨rfl, hb⟩
            refine ⟨_, rfl, ?_⟩
            have n0_ := Aside0.mk (Kd.R_below (rq HO_77.out) hb)
            have n1_ := Aside0.mk (blk_below (g := gb239) (o := .cells #[.int .i64 a1_0, .string a1_1] 29 (0, 0)) (bq BK239.out) hb)
            have n2_ := Aside0.mk (blk_below (g := gb248) (o := .cells #[.int .i64 t245, .string t246] 29 (0, 0)) (bq BK248.out) hb)
            have n3_ := Aside0.mk (blk_below (g := gb255) (o := .cells #[.int .i64 ((rd_T29 y251 x79_2).f0), .string ((rd_T29 y251 x79_2).f1)] 29 (0, 0)) (bq BK255.out) hb)
            have n4_ := Aside0.mk (below_step (by repeat (first | (with_reducible first | exact HB.out | apply below_alloc | apply pw_below_drewN | apply below_drew1 | refine below_set ?_ GE239.out | refine below_set ?_ GE248.out | refine below_set ?_ GE255.out) | exact HB.out)) hb)
            clear HO_77
            clear BK239
            clear BK248
            clear BK255
            clear HB
            have HO_77 := n0_
            have BK239 := n1_
            have BK248 := n2_
            have BK255 := n3_
            have HB := n4_
            clear n0_ n1_ n2_ n3_ n4_
            (try clear hb)
            (try clear hb2)
            (try clear hk)
            (try clear hi)
            refine hK.out _ _ ⟨(blk_cell BK255.out 0).trans rfl, (blk_cell BK255.out 1).trans rfl⟩ (fun hHeld => ?_)
            clear hK K
            refine norm_ (a' := ?_) ?_ ?_
            rotate_left
            ·show Act.put _ (some 111) _ = _
             simp only [Act.put, List.setIfInBounds_toArray, List.set_cons_zero, List.set_cons_succ, i64_w, i32_w]
             rfl
            refine pure_ (i := 19) (N := some 112) (v := ?_) (a' := ?_) #[true, true, true, true, true, true, true, true, true, true, true, true, true, true, true, true, true, true, true, true, false] rfl rfl (any_of HT_.out (by kernel_rfl)) (fun _ _ _ h => h) (Or.inl ⟨by rfl, ?_⟩) ?_ ?_
            rotate_left
            ·intro w'
             go_simp
             with_reducible rfl
            rotate_left
            ·simp only [Act.put, List.setIfInBounds_toArray, List.set_cons_zero, List.set_cons_succ, i64_w, i32_w]
             rfl
            refine pure_ (i := 20) (N := some 113) (v := ?_) (a' := ?_) #[true, true, true, true, true, true, true, true, true, true, true, true, true, true, true, true, true, true, true, true, true] rfl rfl (any_of HT_.out (by kernel_rfl)) (fun _ _ _ h => h) (Or.inl ⟨by rfl, ?_⟩) ?_ ?_
            rotate_left
            ·intro w'
             go_simp
             with_reducible rfl
            rotate_left
            ·simp only [Act.put, List.setIfInBounds_toArray, List.set_cons_zero, List.set_cons_succ, i64_w, i32_w]
             rfl
            refine done_ (done_of HT_.out (by kernel_rfl)) ?_
            try go_wp2
            go_ret
            exact ⟨by first | rfl | (simp [errW_none, errW_some] <;> rfl) | (simp [*, errW_none, errW_some] <;> rfl), by repeat (first | (with_reducible first | exact HB.out | apply below_alloc | apply pw_below_drewN | apply below_drew1 | refine below_set ?_ GE239.out | refine below_set ?_ GE248.out | refine below_set ?_ GE255.out) | exact HB.out)⟩
          ·rw [if_neg c39] at H
           have c39b0 : (t257 == t259) = false := beq_eq_false_iff_ne.mpr c39
           have c39b1 : (t257 != t259) = true := bne_iff_ne.mpr c39
           obtain rfl := Option.some.inj H
           have p254 : 0 ≤ (x79_2 : Int) := of_decide_eq_true aq
           have q254 : x79_2 < (y251.length : Int) := of_decide_eq_true aq
           obtain ⟨ad254, e254, hx254_0, hx254_1⟩ := at_T29 (Kd.R_reads' HO_77.out).2.2 x79_2 p254 q254
           cases e254
           replace p254 := eq_true p254
           replace q254 := eq_true q254
           try go_wp2_with (first | ((with_reducible refine gate_dst (N := 18) rfl ?_); (try (refine gate_guard (by rfl) ?_; dsimp only)); refine box_event ?hg (N := 18) ?hd (cs := #[.int .i64 0, .string (⟨#[]⟩ : ByteArray)]) (t := 29) ?hr ?_; (case hd => rfl); (case hg => rfl); (case hr => first | (go_simp; done) | (go_simp; rfl)); intro gb255 hg w63 hbox hb; have n0_ := Aside0.mk (Kd.R_below (Kd.R_elderB (rq HO_77.out) gb255 (Nat.le_of_eq hg.symm)) hb); have n1_ := Aside0.mk (blk_below (g := gb239) (o := .cells #[.int .i64 a1_0, .string a1_1] 29 (0, 0)) (bq BK239.out) hb); have n2_ := Aside0.mk (blk_below (g := gb248) (o := .cells #[.int .i64 t245, .string t246] 29 (0, 0)) (bq BK248.out) hb); have n3_ := Aside0.mk (below_step (by repeat (first | (with_reducible first | exact HB.out | apply below_alloc | apply pw_below_drewN | apply below_drew1 | refine below_set ?_ GE239.out | refine below_set ?_ GE248.out) | exact HB.out)) hb); have n4_ := Aside0.mk (hbox); have n5_ := Aside0.mk ((by rw [hg]; exact (below_size (by repeat (first | (with_reducible first | exact HB.out | apply below_alloc | apply pw_below_drewN | apply below_drew1 | refine below_set ?_ GE239.out | refine below_set ?_ GE248.out) | exact HB.out))) : w.heap.size ≤ gb255)); have n6_ := Aside0.mk ((by rw [hg]; exact (below_size (by repeat (first | (with_reducible first | exact HB.out | apply below_alloc | apply pw_below_drewN | apply below_drew1 | refine below_set ?_ GE239.out | refine below_set ?_ GE248.out) | exact HB.out))) : w.heap.size ≤ gb255)); have n7_ := Aside0.mk ((by rw [hg]; exact Nat.ne_of_lt (blk_lt (g := gb239) (o := .cells #[.int .i64 a1_0, .string a1_1] 29 (0, 0)) (bq BK239.out)) : gb239 ≠ gb255)); have n8_ := Aside0.mk ((by rw [hg]; exact Nat.ne_of_gt (blk_lt (g := gb239) (o := .cells #[.int .i64 a1_0, .string a1_1] 29 (0, 0)) (bq BK239.out)) : gb255 ≠ gb239)); have n9_ := Aside0.mk ((by rw [hg]; exact Nat.ne_of_lt (blk_lt (g := gb248) (o := .cells #[.int .i64 t245, .string t246] 29 (0, 0)) (bq BK248.out)) : gb248 ≠ gb255)); have n10_ := Aside0.mk ((by rw [hg]; exact Nat.ne_of_gt (blk_lt (g := gb248) (o := .cells #[.int .i64 t245, .string t246] 29 (0, 0)) (bq BK248.out)) : gb255 ≠ gb248)); clear HO_77; clear BK239; clear BK248; clear HB; have HO_77 := n0_; have BK239 := n1_; have BK248 := n2_; have HB := n3_; have BK255 := n4_; have GW255 := n5_; have GE255 := n6_; have NB239_255 := n7_; have NB255_239 := n8_; have NB248_255 := n9_; have NB255_248 := n10_; clear n0_ n1_ n2_ n3_ n4_ n5_ n6_ n7_ n8_ n9_ n10_; clear hb hbox hg; have hnb64 := NB255_239.out; have hnc64 := NB239_255.out; have hnb65 := NB255_248.out; have hnc65 := NB248_255.out; have hcz66_0 : w63.cell? ⟨gb255, 0, none⟩ = some (.int .i64 0) := (blk_cell BK255.out 0).trans rfl; have hcz66_1 : w63.cell? ⟨gb255, 1, none⟩ = some (.string (⟨#[]⟩ : ByteArray)) := (blk_cell BK255.out 1).trans rfl; have hfz66_0 := blk_frozen BK255.out 0; have hfz66_1 := blk_frozen BK255.out 1) | ((with_reducible refine gate_callee (f := 10) rfl ?_); refine goesL_ (some 85) rfl rfl Try.func10 (by kernel_rfl) rfl #[.agg #[.int .i64 ((rd_T29 y251 x79_2).f0), .string ((rd_T29 y251 x79_2).f1)]] rfl eq_ ?_; (with_reducible refine (primitive_Encode.calls k2 ((rd_T29 y251 x79_2).f0) ((rd_T29 y251 x79_2).f1) t256 t257 _ A36.out).mono ?_); rintro e w67 ⟨rfl, hb⟩; refine ⟨_, rfl, ?_⟩; have n0_ := Aside0.mk (Kd.R_below (by (with_reducible repeat (first | apply Kd.R_alloc | apply Kd.R_drewN | apply Kd.R_drew)); exact (Kd.R_mono (Kd.R_far (p := ⟨gb255, 1, none⟩) (Kd.R_far (p := ⟨gb255, 0, none⟩) (Kd.R_mono HO_77.out (fun k_ hk => (⟨hk, hk.2⟩ : _ ∧ k_ ≠ gb255))) (fun _ hk => hk.2) (.int .i64 ((rd_T29 y251 x79_2).f0))) (fun _ hk => hk.2) (.string ((rd_T29 y251 x79_2).f1))) (fun _ h_ => h_.1))) hb); have n1_ := Aside0.mk (blk_below (g := gb239) (o := .cells #[.int .i64 a1_0, .string a1_1] 29 (0, 0)) (by (with_reducible repeat (first | refine blk_drewN ?_ _ | refine blk_drew ?_ | refine blk_alloc ?_ _)); refine blk_far ?_ NB239_255.out _; (with_reducible repeat (first | refine blk_drewN ?_ _ | refine blk_drew ?_ | refine blk_alloc ?_ _)); refine blk_far ?_ NB239_255.out _; (with_reducible repeat (first | refine blk_drewN ?_ _ | refine blk_drew ?_ | refine blk_alloc ?_ _)); exact BK239.out) hb); have n2_ := Aside0.mk (blk_below (g := gb248) (o := .cells #[.int .i64 t245, .string t246] 29 (0, 0)) (by (with_reducible repeat (first | refine blk_drewN ?_ _ | refine blk_drew ?_ | refine blk_alloc ?_ _)); refine blk_far ?_ NB248_255.out _; (with_reducible repeat (first | refine blk_drewN ?_ _ | refine blk_drew ?_ | refine blk_alloc ?_ _)); refine blk_far ?_ NB248_255.out _; (with_reducible repeat (first | refine blk_drewN ?_ _ | refine blk_drew ?_ | refine blk_alloc ?_ _)); exact BK248.out) hb); have n3_ := Aside0.mk (blk_below (g := gb255) (o := .cells #[.int .i64 ((rd_T29 y251 x79_2).f0), .string ((rd_T29 y251 x79_2).f1)] 29 (0, 0)) (by (with_reducible repeat (first | refine blk_drewN ?_ _ | refine blk_drew ?_ | refine blk_alloc ?_ _)); refine blk_put (cs := #[.int .i64 ((rd_T29 y251 x79_2).f0), .string (⟨#[]⟩ : ByteArray)]) ?_ 1 _ rfl; (with_reducible repeat (first | refine blk_drewN ?_ _ | refine blk_drew ?_ | refine blk_alloc ?_ _)); refine blk_put (cs := #[.int .i64 0, .string (⟨#[]⟩ : ByteArray)]) ?_ 0 _ rfl; (with_reducible repeat (first | refine blk_drewN ?_ _ | refine blk_drew ?_ | refine blk_alloc ?_ _)); exact BK255.out) hb); have n4_ := Aside0.mk (below_step (by repeat (first | (with_reducible first | exact HB.out | apply below_alloc | apply pw_below_drewN | apply below_drew1 | refine below_set ?_ GE239.out | refine below_set ?_ GE248.out | refine below_set ?_ GE255.out) | exact HB.out)) hb); clear HO_77; clear BK239; clear BK248; clear BK255; clear HB; have HO_77 := n0_; have BK239 := n1_; have BK248 := n2_; have BK255 := n3_; have HB := n4_; clear n0_ n1_ n2_ n3_ n4_; (try clear hb); (try clear hb2); (try clear hk); (try clear hi); have hcz68_0 : w67.cell? ⟨gb255, 0, none⟩ = some (.int .i64 ((rd_T29 y251 x79_2).f0)) := (blk_cell BK255.out 0).trans rfl; have hcz68_1 : w67.cell? ⟨gb255, 1, none⟩ = some (.string ((rd_T29 y251 x79_2).f1)) := (blk_cell BK255.out 1).trans rfl; have hfz68_0 := blk_frozen BK255.out 0; have hfz68_1 := blk_frozen BK255.out 1) | ((with_reducible refine gate_callee (f := 22) rfl ?_); refine goesL_ (some 90) rfl rfl Try.func22 (by kernel_rfl) rfl #[.agg #[.int .i64 ((rd_T29 y251 x79_2).f0), .string ((rd_T29 y251 x79_2).f1)]] rfl eq_ ?_; (with_reducible refine (keyeventref03_Encode.calls k2 ((rd_T29 y251 x79_2).f0) ((rd_T29 y251 x79_2).f1) t258 t259 _ A37.out).mono ?_); rintro e w69 ⟨rfl, hb⟩; refine ⟨_, rfl, ?_⟩; have n0_ := Aside0.mk (Kd.R_below (rq HO_77.out) hb); have n1_ := Aside0.mk (blk_below (g := gb239) (o := .cells #[.int .i64 a1_0, .string a1_1] 29 (0, 0)) (bq BK239.out) hb); have n2_ := Aside0.mk (blk_below (g := gb248) (o := .cells #[.int .i64 t245, .string t246] 29 (0, 0)) (bq BK248.out) hb); have n3_ := Aside0.mk (blk_below (g := gb255) (o := .cells #[.int .i64 ((rd_T29 y251 x79_2).f0), .string ((rd_T29 y251 x79_2).f1)] 29 (0, 0)) (bq BK255.out) hb); have n4_ := Aside0.mk (below_step (by repeat (first | (with_reducible first | exact HB.out | apply below_alloc | apply pw_below_drewN | apply below_drew1 | refine below_set ?_ GE239.out | refine below_set ?_ GE248.out | refine below_set ?_ GE255.out) | exact HB.out)) hb); clear HO_77; clear BK239; clear BK248; clear BK255; clear HB; have HO_77 := n0_; have BK239 := n1_; have BK248 := n2_; have BK255 := n3_; have HB := n4_; clear n0_ n1_ n2_ n3_ n4_; (try clear hb); (try clear hb2); (try clear hk); (try clear hi)))
           have n0_ := Aside0.mk (Kd.R_drew HO_77.out)
           have n1_ := Aside0.mk (blk_drew BK239.out)
           have n2_ := Aside0.mk (blk_drew BK248.out)
           have n3_ := Aside0.mk (blk_drew BK255.out)
           have n4_ := Aside0.mk (below_drew1 HB.out)
           clear HO_77
           clear BK239
           clear BK248
           clear BK255
           clear HB
           have HO_77 := n0_
           have BK239 := n1_
           have BK248 := n2_
           have BK255 := n3_
           have HB := n4_
           clear n0_ n1_ n2_ n3_ n4_
           refine start_ (n := 21) (S := fun w' => True) (ds := []) #[false, false, false, false, false, false, false, false, false, false, false, false, false, false, false, false, false, false, false, false, false] (by kernel_rfl) rfl rfl trivial (fun hHeld => ?_); refine with_tabW keyeventlaw03_PrimitiveActs.tab11 keyeventlaw03_PrimitiveActs.bits11 (fun HT_ HW_ => ?_)
           generalize w69.drew = w70 at HO_77 BK239 BK248 BK255 HB hHeld ⊢
           refine pure_ (i := 0) (N := some 93) (v := ?_) (a' := ?_) #[true, false, false, false, false, false, false, false, false, false, false, false, false, false, false, false, false, false, false, false, false] rfl rfl (any_of HT_.out (by kernel_rfl)) (fun _ _ _ h => h) (Or.inl ⟨by rfl, ?_⟩) ?_ ?_
           rotate_left
           ·intro w'
            go_simp
            with_reducible rfl
           rotate_left
           ·simp only [Act.put, List.setIfInBounds_toArray, List.set_cons_zero, List.set_cons_succ, i64_w, i32_w]
            rfl
           refine pure_ (i := 1) (N := some 94) (v := ?_) (a' := ?_) #[true, true, false, false, false, false, false, false, false, false, false, false, false, false, false, false, false, false, false, false, false] rfl rfl (any_of HT_.out (by kernel_rfl)) (fun _ _ _ h => h) (Or.inl ⟨by rfl, ?_⟩) ?_ ?_
           rotate_left
           ·intro w'
            go_simp
            with_reducible rfl
           rotate_left
           ·simp only [Act.put, List.setIfInBounds_toArray, List.set_cons_zero, List.set_cons_succ, i64_w, i32_w]
            rfl
           refine pure_ (i := 2) (N := some 95) (v := ?_) (a' := ?_) #[true, true, true, false, false, false, false, false, false, false, false, false, false, false, false, false, false, false, false, false, false] rfl rfl (any_of HT_.out (by kernel_rfl)) (fun _ _ _ h => h) (Or.inl ⟨by rfl, ?_⟩) ?_ ?_
           rotate_left
           ·intro w'
            go_simp
            with_reducible rfl
           rotate_left
           ·simp only [Act.put, List.setIfInBounds_toArray, List.set_cons_zero, List.set_cons_succ, i64_w, i32_w]
            rfl
           refine pure_ (i := 3) (N := some 96) (v := ?_) (a' := ?_) #[true, true, true, true, false, false, false, false, false, false, false, false, false, false, false, false, false, false, false, false, false] rfl rfl (any_of HT_.out (by kernel_rfl)) (fun _ _ _ h => h) (Or.inl ⟨by rfl, ?_⟩) ?_ ?_
           rotate_left
           ·intro w'
            go_simp
            with_reducible rfl
           rotate_left
           ·simp only [Act.put, List.setIfInBounds_toArray, List.set_cons_zero, List.set_cons_succ, i64_w, i32_w]
            rfl
           refine pure_ (i := 4) (N := some 97) (v := ?_) (a' := ?_) #[true, true, true, true, true, false, false, false, false, false, false, false, false, false, false, false, false, false, false, false, false] rfl rfl (any_of HT_.out (by kernel_rfl)) (fun _ _ _ h => h) (Or.inl ⟨by rfl, ?_⟩) ?_ ?_
           rotate_left
           ·intro w'
            go_simp
            with_reducible rfl
           rotate_left
           ·simp only [Act.put, List.setIfInBounds_toArray, List.set_cons_zero, List.set_cons_succ, i64_w, i32_w]
            rfl
           refine pure_ (i := 5) (N := some 98) (v := ?_) (a' := ?_) #[true, true, true, true, true, true, false, false, false, false, false, false, false, false, false, false, false, false, false, false, false] rfl rfl (any_of HT_.out (by kernel_rfl)) (fun _ _ _ h => h) (Or.inl ⟨by rfl, ?_⟩) ?_ ?_
           rotate_left
           ·intro w'
            go_simp
            with_reducible rfl
           rotate_left
           ·simp only [Act.put, List.setIfInBounds_toArray, List.set_cons_zero, List.set_cons_succ, i64_w, i32_w]
            rfl
           refine pure_ (i := 6) (N := some 99) (v := ?_) (a' := ?_) #[true, true, true, true, true, true, true, false, false, false, false, false, false, false, false, false, false, false, false, false, false] rfl rfl (any_of HT_.out (by kernel_rfl)) (fun _ _ _ h => h) (Or.inl ⟨by rfl, ?_⟩) ?_ ?_
           rotate_left
           ·intro w'
            go_simp
            with_reducible rfl
           rotate_left
           ·simp only [Act.put, List.setIfInBounds_toArray, List.set_cons_zero, List.set_cons_succ, i64_w, i32_w]
            rfl
           refine pure_ (i := 7) (N := some 100) (v := ?_) (a' := ?_) #[true, true, true, true, true, true, true, true, false, false, false, false, false, false, false, false, false, false, false, false, false] rfl rfl (any_of HT_.out (by kernel_rfl)) (fun _ _ _ h => h) (Or.inl ⟨by rfl, ?_⟩) ?_ ?_
           rotate_left
           ·intro w'
            go_simp
            with_reducible rfl
           rotate_left
           ·simp only [Act.put, List.setIfInBounds_toArray, List.set_cons_zero, List.set_cons_succ, i64_w, i32_w]
            rfl
           refine pure_ (i := 8) (N := some 101) (v := ?_) (a' := ?_) #[true, true, true, true, true, true, true, true, true, false, false, false, false, false, false, false, false, false, false, false, false] rfl rfl (any_of HT_.out (by kernel_rfl)) (fun _ _ _ h => h) (Or.inl ⟨by rfl, ?_⟩) ?_ ?_
           rotate_left
           ·intro w'
            go_simp
            with_reducible rfl
           rotate_left
           ·simp only [Act.put, List.setIfInBounds_toArray, List.set_cons_zero, List.set_cons_succ, i64_w, i32_w]
            rfl
           refine pure_ (i := 9) (N := some 102) (v := undef) (a' := ?_) #[true, true, true, true, true, true, true, true, true, true, false, false, false, false, false, false, false, false, false, false, false] rfl rfl (any_of HT_.out (by kernel_rfl)) (fun _ _ _ h => h) (Or.inr ⟨by rfl, rfl⟩) ?_ ?_
           rotate_left
           ·simp only [Act.put, List.setIfInBounds_toArray, List.set_cons_zero, List.set_cons_succ, i64_w, i32_w]
            rfl
           refine pure_ (i := 10) (N := some 103) (v := undef) (a' := ?_) #[true, true, true, true, true, true, true, true, true, true, true, false, false, false, false, false, false, false, false, false, false] rfl rfl (any_of HT_.out (by kernel_rfl)) (fun _ _ _ h => h) (Or.inr ⟨by rfl, rfl⟩) ?_ ?_
           rotate_left
           ·simp only [Act.put, List.setIfInBounds_toArray, List.set_cons_zero, List.set_cons_succ, i64_w, i32_w]
            rfl
           refine pure_ (i := 11) (N := some 104) (v := undef) (a' := ?_) #[true, true, true, true, true, true, true, true, true, true, true, true, false, false, false, false, false, false, false, false, false] rfl rfl (any_of HT_.out (by kernel_rfl)) (fun _ _ _ h => h) (Or.inr ⟨by rfl, rfl⟩) ?_ ?_
           rotate_left
           ·simp only [Act.put, List.setIfInBounds_toArray, List.set_cons_zero, List.set_cons_succ, i64_w, i32_w]
            rfl
           refine pure_ (i := 12) (N := some 105) (v := undef) (a' := ?_) #[true, true, true, true, true, true, true, true, true, true, true, true, true, false, false, false, false, false, false, false, false] rfl rfl (any_of HT_.out (by kernel_rfl)) (fun _ _ _ h => h) (Or.inr ⟨by rfl, rfl⟩) ?_ ?_
           rotate_left
           ·simp only [Act.put, List.setIfInBounds_toArray, List.set_cons_zero, List.set_cons_succ, i64_w, i32_w]
            rfl
           refine pure_ (i := 13) (N := some 106) (v := undef) (a' := ?_) #[true, true, true, true, true, true, true, true, true, true, true, true, true, true, false, false, false, false, false, false, false] rfl rfl (any_of HT_.out (by kernel_rfl)) (fun _ _ _ h => h) (Or.inr ⟨by rfl, rfl⟩) ?_ ?_
           rotate_left
           ·simp only [Act.put, List.setIfInBounds_toArray, List.set_cons_zero, List.set_cons_succ, i64_w, i32_w]
            rfl
           refine pure_ (i := 14) (N := some 107) (v := undef) (a' := ?_) #[true, true, true, true, true, true, true, true, true, true, true, true, true, true, true, false, false, false, false, false, false] rfl rfl (any_of HT_.out (by kernel_rfl)) (fun _ _ _ h => h) (Or.inr ⟨by rfl, rfl⟩) ?_ ?_
           rotate_left
           ·simp only [Act.put, List.setIfInBounds_toArray, List.set_cons_zero, List.set_cons_succ, i64_w, i32_w]
            rfl
           refine pure_ (i := 15) (N := some 108) (v := undef) (a' := ?_) #[true, true, true, true, true, true, true, true, true, true, true, true, true, true, true, true, false, false, false, false, false] rfl rfl (any_of HT_.out (by kernel_rfl)) (fun _ _ _ h => h) (Or.inr ⟨by rfl, rfl⟩) ?_ ?_
           rotate_left
           ·simp only [Act.put, List.setIfInBounds_toArray, List.set_cons_zero, List.set_cons_succ, i64_w, i32_w]
            rfl
           refine pure_ (i := 16) (N := some 109) (v := undef) (a' := ?_) #[true, true, true, true, true, true, true, true, true, true, true, true, true, true, true, true, true, false, false, false, false] rfl rfl (any_of HT_.out (by kernel_rfl)) (fun _ _ _ h => h) (Or.inr ⟨by rfl, rfl⟩) ?_ ?_
           rotate_left
           ·simp only [Act.put, List.setIfInBounds_toArray, List.set_cons_zero, List.set_cons_succ, i64_w, i32_w]
            rfl
           refine pure_ (i := 17) (N := some 110) (v := undef) (a' := ?_) #[true, true, true, true, true, true, true, true, true, true, true, true, true, true, true, true, true, true, false, false, false] rfl rfl (any_of HT_.out (by kernel_rfl)) (fun _ _ _ h => h) (Or.inr ⟨by rfl, rfl⟩) ?_ ?_
           rotate_left
           ·simp only [Act.put, List.setIfInBounds_toArray, List.set_cons_zero, List.set_cons_succ, i64_w, i32_w]
            rfl
           refine pure_ (i := 18) (N := some 111) (v := undef) (a' := ?_) #[true, true, true, true, true, true, true, true, true, true, true, true, true, true, true, true, true, true, true, false, false] rfl rfl (any_of HT_.out (by kernel_rfl)) (fun _ _ _ h => h) (Or.inr ⟨by rfl, rfl⟩) ?_ ?_
           rotate_left
           ·simp only [Act.put, List.setIfInBounds_toArray, List.set_cons_zero, List.set_cons_succ, i64_w, i32_w]
            rfl
           refine pure_ (i := 19) (N := some 112) (v := undef) (a' := ?_) #[true, true, true, true, true, true, true, true, true, true, true, true, true, true, true, true, true, true, true, true, false] rfl rfl (any_of HT_.out (by kernel_rfl)) (fun _ _ _ h => h) (Or.inr ⟨by rfl, rfl⟩) ?_ ?_
           rotate_left
           ·simp only [Act.put, List.setIfInBounds_toArray, List.set_cons_zero, List.set_cons_succ, i64_w, i32_w]
            rfl
           refine pure_ (i := 20) (N := some 113) (v := ?_) (a' := ?_) #[true, true, true, true, true, true, true, true, true, true, true, true, true, true, true, true, true, true, true, true, true] rfl rfl (any_of HT_.out (by kernel_rfl)) (fun _ _ _ h => h) (Or.inl ⟨by rfl, ?_⟩) ?_ ?_
           rotate_left
           ·intro w'
            go_simp
            with_reducible rfl
           rotate_left
           ·simp only [Act.put, List.setIfInBounds_toArray, List.set_cons_zero, List.set_cons_succ, i64_w, i32_w]
            rfl
           refine done_ (done_of HT_.out (by kernel_rfl)) ?_
           try go_wp2
           go_ret
           exact ⟨by first | rfl | (simp [errW_none, errW_some] <;> rfl) | (simp [*, errW_none, errW_some] <;> rfl), by repeat (first | (with_reducible first | exact HB.out | apply below_alloc | apply pw_below_drewN | apply below_drew1 | refine below_set ?_ GE239.out | refine below_set ?_ GE248.out | refine below_set ?_ GE255.out) | exact HB.out)⟩
         ·rw [if_neg c38] at H
          have c38b0 : (t256.toList == t258.toList) = false := beq_eq_false_iff_ne.mpr c38
          have c38b1 : (t256.toList != t258.toList) = true := bne_iff_ne.mpr c38
          obtain rfl := Option.some.inj H
          have p254 : 0 ≤ (x79_2 : Int) := of_decide_eq_true aq
          have q254 : x79_2 < (y251.length : Int) := of_decide_eq_true aq
          obtain ⟨ad254, e254, hx254_0, hx254_1⟩ := at_T29 (Kd.R_reads' HO_77.out).2.2 x79_2 p254 q254
          cases e254
          replace p254 := eq_true p254
          replace q254 := eq_true q254
          try go_wp2_with (first | ((with_reducible refine gate_dst (N := 18) rfl ?_); (try (refine gate_guard (by rfl) ?_; dsimp only)); refine box_event ?hg (N := 18) ?hd (cs := #[.int .i64 0, .string (⟨#[]⟩ : ByteArray)]) (t := 29) ?hr ?_; (case hd => rfl); (case hg => rfl); (case hr => first | (go_simp; done) | (go_simp; rfl)); intro gb255 hg w71 hbox hb; have n0_ := Aside0.mk (Kd.R_below (Kd.R_elderB (rq HO_77.out) gb255 (Nat.le_of_eq hg.symm)) hb); have n1_ := Aside0.mk (blk_below (g := gb239) (o := .cells #[.int .i64 a1_0, .string a1_1] 29 (0, 0)) (bq BK239.out) hb); have n2_ := Aside0.mk (blk_below (g := gb248) (o := .cells #[.int .i64 t245, .string t246] 29 (0, 0)) (bq BK248.out) hb); have n3_ := Aside0.mk (below_step (by repeat (first | (with_reducible first | exact HB.out | apply below_alloc | apply pw_below_drewN | apply below_drew1 | refine below_set ?_ GE239.out | refine below_set ?_ GE248.out) | exact HB.out)) hb); have n4_ := Aside0.mk (hbox); have n5_ := Aside0.mk ((by rw [hg]; exact (below_size (by repeat (first | (with_reducible first | exact HB.out | apply below_alloc | apply pw_below_drewN | apply below_drew1 | refine below_set ?_ GE239.out | refine below_set ?_ GE248.out) | exact HB.out))) : w.heap.size ≤ gb255)); have n6_ := Aside0.mk ((by rw [hg]; exact (below_size (by repeat (first | (with_reducible first | exact HB.out | apply below_alloc | apply pw_below_drewN | apply below_drew1 | refine below_set ?_ GE239.out | refine below_set ?_ GE248.out) | exact HB.out))) : w.heap.size ≤ gb255)); have n7_ := Aside0.mk ((by rw [hg]; exact Nat.ne_of_lt (blk_lt (g := gb239) (o := .cells #[.int .i64 a1_0, .string a1_1] 29 (0, 0)) (bq BK239.out)) : gb239 ≠ gb255)); have n8_ := Aside0.mk ((by rw [hg]; exact Nat.ne_of_gt (blk_lt (g := gb239) (o := .cells #[.int .i64 a1_0, .string a1_1] 29 (0, 0)) (bq BK239.out)) : gb255 ≠ gb239)); have n9_ := Aside0.mk ((by rw [hg]; exact Nat.ne_of_lt (blk_lt (g := gb248) (o := .cells #[.int .i64 t245, .string t246] 29 (0, 0)) (bq BK248.out)) : gb248 ≠ gb255)); have n10_ := Aside0.mk ((by rw [hg]; exact Nat.ne_of_gt (blk_lt (g := gb248) (o := .cells #[.int .i64 t245, .string t246] 29 (0, 0)) (bq BK248.out)) : gb255 ≠ gb248)); clear HO_77; clear BK239; clear BK248; clear HB; have HO_77 := n0_; have BK239 := n1_; have BK248 := n2_; have HB := n3_; have BK255 := n4_; have GW255 := n5_; have GE255 := n6_; have NB239_255 := n7_; have NB255_239 := n8_; have NB248_255 := n9_; have NB255_248 := n10_; clear n0_ n1_ n2_ n3_ n4_ n5_ n6_ n7_ n8_ n9_ n10_; clear hb hbox hg; have hnb72 := NB255_239.out; have hnc72 := NB239_255.out; have hnb73 := NB255_248.out; have hnc73 := NB248_255.out; have hcz74_0 : w71.cell? ⟨gb255, 0, none⟩ = some (.int .i64 0) := (blk_cell BK255.out 0).trans rfl; have hcz74_1 : w71.cell? ⟨gb255, 1, none⟩ = some (.string (⟨#[]⟩ : ByteArray)) := (blk_cell BK255.out 1).trans rfl; have hfz74_0 := blk_frozen BK255.out 0; have hfz74_1 := blk_frozen BK255.out 1) | ((with_reducible refine gate_callee (f := 10) rfl ?_); refine goesL_ (some 85) rfl rfl Try.func10 (by kernel_rfl) rfl #[.agg #[.int .i64 ((rd_T29 y251 x79_2).f0), .string ((rd_T29 y251 x79_2).f1)]] rfl eq_ ?_; (with_reducible refine (primitive_Encode.calls k2 ((rd_T29 y251 x79_2).f0) ((rd_T29 y251 x79_2).f1) t256 t257 _ A36.out).mono ?_); rintro e w75 ⟨rfl, hb⟩; refine ⟨_, rfl, ?_⟩; have n0_ := Aside0.mk (Kd.R_below (by (with_reducible repeat (first | apply Kd.R_alloc | apply Kd.R_drewN | apply Kd.R_drew)); exact (Kd.R_mono (Kd.R_far (p := ⟨gb255, 1, none⟩) (Kd.R_far (p := ⟨gb255, 0, none⟩) (Kd.R_mono HO_77.out (fun k_ hk => (⟨hk, hk.2⟩ : _ ∧ k_ ≠ gb255))) (fun _ hk => hk.2) (.int .i64 ((rd_T29 y251 x79_2).f0))) (fun _ hk => hk.2) (.string ((rd_T29 y251 x79_2).f1))) (fun _ h_ => h_.1))) hb); have n1_ := Aside0.mk (blk_below (g := gb239) (o := .cells #[.int .i64 a1_0, .string a1_1] 29 (0, 0)) (by (with_reducible repeat (first | refine blk_drewN ?_ _ | refine blk_drew ?_ | refine blk_alloc ?_ _)); refine blk_far ?_ NB239_255.out _; (with_reducible repeat (first | refine blk_drewN ?_ _ | refine blk_drew ?_ | refine blk_alloc ?_ _)); refine blk_far ?_ NB239_255.out _; (with_reducible repeat (first | refine blk_drewN ?_ _ | refine blk_drew ?_ | refine blk_alloc ?_ _)); exact BK239.out) hb); have n2_ := Aside0.mk (blk_below (g := gb248) (o := .cells #[.int .i64 t245, .string t246] 29 (0, 0)) (by (with_reducible repeat (first | refine blk_drewN ?_ _ | refine blk_drew ?_ | refine blk_alloc ?_ _)); refine blk_far ?_ NB248_255.out _; (with_reducible repeat (first | refine blk_drewN ?_ _ | refine blk_drew ?_ | refine blk_alloc ?_ _)); refine blk_far ?_ NB248_255.out _; (with_reducible repeat (first | refine blk_drewN ?_ _ | refine blk_drew ?_ | refine blk_alloc ?_ _)); exact BK248.out) hb); have n3_ := Aside0.mk (blk_below (g := gb255) (o := .cells #[.int .i64 ((rd_T29 y251 x79_2).f0), .string ((rd_T29 y251 x79_2).f1)] 29 (0, 0)) (by (with_reducible repeat (first | refine blk_drewN ?_ _ | refine blk_drew ?_ | refine blk_alloc ?_ _)); refine blk_put (cs := #[.int .i64 ((rd_T29 y251 x79_2).f0), .string (⟨#[]⟩ : ByteArray)]) ?_ 1 _ rfl; (with_reducible repeat (first | refine blk_drewN ?_ _ | refine blk_drew ?_ | refine blk_alloc ?_ _)); refine blk_put (cs := #[.int .i64 0, .string (⟨#[]⟩ : ByteArray)]) ?_ 0 _ rfl; (with_reducible repeat (first | refine blk_drewN ?_ _ | refine blk_drew ?_ | refine blk_alloc ?_ _)); exact BK255.out) hb); have n4_ := Aside0.mk (below_step (by repeat (first | (with_reducible first | exact HB.out | apply below_alloc | apply pw_below_drewN | apply below_drew1 | refine below_set ?_ GE239.out | refine below_set ?_ GE248.out | refine below_set ?_ GE255.out) | exact HB.out)) hb); clear HO_77; clear BK239; clear BK248; clear BK255; clear HB; have HO_77 := n0_; have BK239 := n1_; have BK248 := n2_; have BK255 := n3_; have HB := n4_; clear n0_ n1_ n2_ n3_ n4_; (try clear hb); (try clear hb2); (try clear hk); (try clear hi); have hcz76_0 : w75.cell? ⟨gb255, 0, none⟩ = some (.int .i64 ((rd_T29 y251 x79_2).f0)) := (blk_cell BK255.out 0).trans rfl; have hcz76_1 : w75.cell? ⟨gb255, 1, none⟩ = some (.string ((rd_T29 y251 x79_2).f1)) := (blk_cell BK255.out 1).trans rfl; have hfz76_0 := blk_frozen BK255.out 0; have hfz76_1 := blk_frozen BK255.out 1) | ((with_reducible refine gate_callee (f := 22) rfl ?_); refine goesL_ (some 90) rfl rfl Try.func22 (by kernel_rfl) rfl #[.agg #[.int .i64 ((rd_T29 y251 x79_2).f0), .string ((rd_T29 y251 x79_2).f1)]] rfl eq_ ?_; (with_reducible refine (keyeventref03_Encode.calls k2 ((rd_T29 y251 x79_2).f0) ((rd_T29 y251 x79_2).f1) t258 t259 _ A37.out).mono ?_); rintro e w77 ⟨rfl, hb⟩; refine ⟨_, rfl, ?_⟩; have n0_ := Aside0.mk (Kd.R_below (rq HO_77.out) hb); have n1_ := Aside0.mk (blk_below (g := gb239) (o := .cells #[.int .i64 a1_0, .string a1_1] 29 (0, 0)) (bq BK239.out) hb); have n2_ := Aside0.mk (blk_below (g := gb248) (o := .cells #[.int .i64 t245, .string t246] 29 (0, 0)) (bq BK248.out) hb); have n3_ := Aside0.mk (blk_below (g := gb255) (o := .cells #[.int .i64 ((rd_T29 y251 x79_2).f0), .string ((rd_T29 y251 x79_2).f1)] 29 (0, 0)) (bq BK255.out) hb); have n4_ := Aside0.mk (below_step (by repeat (first | (with_reducible first | exact HB.out | apply below_alloc | apply pw_below_drewN | apply below_drew1 | refine below_set ?_ GE239.out | refine below_set ?_ GE248.out | refine below_set ?_ GE255.out) | exact HB.out)) hb); clear HO_77; clear BK239; clear BK248; clear BK255; clear HB; have HO_77 := n0_; have BK239 := n1_; have BK248 := n2_; have BK255 := n3_; have HB := n4_; clear n0_ n1_ n2_ n3_ n4_; (try clear hb); (try clear hb2); (try clear hk); (try clear hi)))
          have n0_ := Aside0.mk (Kd.R_drew HO_77.out)
          have n1_ := Aside0.mk (blk_drew BK239.out)
          have n2_ := Aside0.mk (blk_drew BK248.out)
          have n3_ := Aside0.mk (blk_drew BK255.out)
          have n4_ := Aside0.mk (below_drew1 HB.out)
          clear HO_77
          clear BK239
          clear BK248
          clear BK255
          clear HB
          have HO_77 := n0_
          have BK239 := n1_
          have BK248 := n2_
          have BK255 := n3_
          have HB := n4_
          clear n0_ n1_ n2_ n3_ n4_
          refine start_ (n := 21) (S := fun w' => True) (ds := []) #[false, false, false, false, false, false, false, false, false, false, false, false, false, false, false, false, false, false, false, false, false] (by kernel_rfl) rfl rfl trivial (fun hHeld => ?_); refine with_tabW keyeventlaw03_PrimitiveActs.tab11 keyeventlaw03_PrimitiveActs.bits11 (fun HT_ HW_ => ?_)
          generalize w77.drew = w78 at HO_77 BK239 BK248 BK255 HB hHeld ⊢
          refine pure_ (i := 0) (N := some 93) (v := ?_) (a' := ?_) #[true, false, false, false, false, false, false, false, false, false, false, false, false, false, false, false, false, false, false, false, false] rfl rfl (any_of HT_.out (by kernel_rfl)) (fun _ _ _ h => h) (Or.inl ⟨by rfl, ?_⟩) ?_ ?_
          rotate_left
          ·intro w'
           go_simp
           with_reducible rfl
          rotate_left
          ·simp only [Act.put, List.setIfInBounds_toArray, List.set_cons_zero, List.set_cons_succ, i64_w, i32_w]
           rfl
          refine pure_ (i := 1) (N := some 94) (v := ?_) (a' := ?_) #[true, true, false, false, false, false, false, false, false, false, false, false, false, false, false, false, false, false, false, false, false] rfl rfl (any_of HT_.out (by kernel_rfl)) (fun _ _ _ h => h) (Or.inl ⟨by rfl, ?_⟩) ?_ ?_
          rotate_left
          ·intro w'
           go_simp
           with_reducible rfl
          rotate_left
          ·simp only [Act.put, List.setIfInBounds_toArray, List.set_cons_zero, List.set_cons_succ, i64_w, i32_w]
           rfl
          refine pure_ (i := 2) (N := some 95) (v := ?_) (a' := ?_) #[true, true, true, false, false, false, false, false, false, false, false, false, false, false, false, false, false, false, false, false, false] rfl rfl (any_of HT_.out (by kernel_rfl)) (fun _ _ _ h => h) (Or.inl ⟨by rfl, ?_⟩) ?_ ?_
          rotate_left
          ·intro w'
           go_simp
           with_reducible rfl
          rotate_left
          ·simp only [Act.put, List.setIfInBounds_toArray, List.set_cons_zero, List.set_cons_succ, i64_w, i32_w]
           rfl
          refine pure_ (i := 3) (N := some 96) (v := ?_) (a' := ?_) #[true, true, true, true, false, false, false, false, false, false, false, false, false, false, false, false, false, false, false, false, false] rfl rfl (any_of HT_.out (by kernel_rfl)) (fun _ _ _ h => h) (Or.inl ⟨by rfl, ?_⟩) ?_ ?_
          rotate_left
          ·intro w'
           go_simp
           with_reducible rfl
          rotate_left
          ·simp only [Act.put, List.setIfInBounds_toArray, List.set_cons_zero, List.set_cons_succ, i64_w, i32_w]
           rfl
          refine pure_ (i := 4) (N := some 97) (v := undef) (a' := ?_) #[true, true, true, true, true, false, false, false, false, false, false, false, false, false, false, false, false, false, false, false, false] rfl rfl (any_of HT_.out (by kernel_rfl)) (fun _ _ _ h => h) (Or.inr ⟨by rfl, rfl⟩) ?_ ?_
          rotate_left
          ·simp only [Act.put, List.setIfInBounds_toArray, List.set_cons_zero, List.set_cons_succ, i64_w, i32_w]
           rfl
          refine pure_ (i := 5) (N := some 98) (v := undef) (a' := ?_) #[true, true, true, true, true, true, false, false, false, false, false, false, false, false, false, false, false, false, false, false, false] rfl rfl (any_of HT_.out (by kernel_rfl)) (fun _ _ _ h => h) (Or.inr ⟨by rfl, rfl⟩) ?_ ?_
          rotate_left
          ·simp only [Act.put, List.setIfInBounds_toArray, List.set_cons_zero, List.set_cons_succ, i64_w, i32_w]
           rfl
          refine pure_ (i := 6) (N := some 99) (v := undef) (a' := ?_) #[true, true, true, true, true, true, true, false, false, false, false, false, false, false, false, false, false, false, false, false, false] rfl rfl (any_of HT_.out (by kernel_rfl)) (fun _ _ _ h => h) (Or.inr ⟨by rfl, rfl⟩) ?_ ?_
          rotate_left
          ·simp only [Act.put, List.setIfInBounds_toArray, List.set_cons_zero, List.set_cons_succ, i64_w, i32_w]
           rfl
          refine pure_ (i := 7) (N := some 100) (v := ?_) (a' := ?_) #[true, true, true, true, true, true, true, true, false, false, false, false, false, false, false, false, false, false, false, false, false] rfl rfl (any_of HT_.out (by kernel_rfl)) (fun _ _ _ h => h) (Or.inl ⟨by rfl, ?_⟩) ?_ ?_
          rotate_left
          ·intro w'
           go_simp
           with_reducible rfl
          rotate_left
          ·simp only [Act.put, List.setIfInBounds_toArray, List.set_cons_zero, List.set_cons_succ, i64_w, i32_w]
           rfl
          refine pure_ (i := 8) (N := some 101) (v := ?_) (a' := ?_) #[true, true, true, true, true, true, true, true, true, false, false, false, false, false, false, false, false, false, false, false, false] rfl rfl (any_of HT_.out (by kernel_rfl)) (fun _ _ _ h => h) (Or.inl ⟨by rfl, ?_⟩) ?_ ?_
          rotate_left
          ·intro w'
           go_simp
           with_reducible rfl
          rotate_left
          ·simp only [Act.put, List.setIfInBounds_toArray, List.set_cons_zero, List.set_cons_succ, i64_w, i32_w]
           rfl
          refine pure_ (i := 9) (N := some 102) (v := undef) (a' := ?_) #[true, true, true, true, true, true, true, true, true, true, false, false, false, false, false, false, false, false, false, false, false] rfl rfl (any_of HT_.out (by kernel_rfl)) (fun _ _ _ h => h) (Or.inr ⟨by rfl, rfl⟩) ?_ ?_
          rotate_left
          ·simp only [Act.put, List.setIfInBounds_toArray, List.set_cons_zero, List.set_cons_succ, i64_w, i32_w]
           rfl
          refine pure_ (i := 10) (N := some 103) (v := undef) (a' := ?_) #[true, true, true, true, true, true, true, true, true, true, true, false, false, false, false, false, false, false, false, false, false] rfl rfl (any_of HT_.out (by kernel_rfl)) (fun _ _ _ h => h) (Or.inr ⟨by rfl, rfl⟩) ?_ ?_
          rotate_left
          ·simp only [Act.put, List.setIfInBounds_toArray, List.set_cons_zero, List.set_cons_succ, i64_w, i32_w]
           rfl
          refine pure_ (i := 11) (N := some 104) (v := undef) (a' := ?_) #[true, true, true, true, true, true, true, true, true, true, true, true, false, false, false, false, false, false, false, false, false] rfl rfl (any_of HT_.out (by kernel_rfl)) (fun _ _ _ h => h) (Or.inr ⟨by rfl, rfl⟩) ?_ ?_
          rotate_left
          ·simp only [Act.put, List.setIfInBounds_toArray, List.set_cons_zero, List.set_cons_succ, i64_w, i32_w]
           rfl
          refine pure_ (i := 12) (N := some 105) (v := undef) (a' := ?_) #[true, true, true, true, true, true, true, true, true, true, true, true, true, false, false, false, false, false, false, false, false] rfl rfl (any_of HT_.out (by kernel_rfl)) (fun _ _ _ h => h) (Or.inr ⟨by rfl, rfl⟩) ?_ ?_
          rotate_left
          ·simp only [Act.put, List.setIfInBounds_toArray, List.set_cons_zero, List.set_cons_succ, i64_w, i32_w]
           rfl
          refine pure_ (i := 13) (N := some 106) (v := undef) (a' := ?_) #[true, true, true, true, true, true, true, true, true, true, true, true, true, true, false, false, false, false, false, false, false] rfl rfl (any_of HT_.out (by kernel_rfl)) (fun _ _ _ h => h) (Or.inr ⟨by rfl, rfl⟩) ?_ ?_
          rotate_left
          ·simp only [Act.put, List.setIfInBounds_toArray, List.set_cons_zero, List.set_cons_succ, i64_w, i32_w]
           rfl
          refine pure_ (i := 14) (N := some 107) (v := undef) (a' := ?_) #[true, true, true, true, true, true, true, true, true, true, true, true, true, true, true, false, false, false, false, false, false] rfl rfl (any_of HT_.out (by kernel_rfl)) (fun _ _ _ h => h) (Or.inr ⟨by rfl, rfl⟩) ?_ ?_
          rotate_left
          ·simp only [Act.put, List.setIfInBounds_toArray, List.set_cons_zero, List.set_cons_succ, i64_w, i32_w]
           rfl
          refine pure_ (i := 15) (N := some 108) (v := undef) (a' := ?_) #[true, true, true, true, true, true, true, true, true, true, true, true, true, true, true, true, false, false, false, false, false] rfl rfl (any_of HT_.out (by kernel_rfl)) (fun _ _ _ h => h) (Or.inr ⟨by rfl, rfl⟩) ?_ ?_
          rotate_left
          ·simp only [Act.put, List.setIfInBounds_toArray, List.set_cons_zero, List.set_cons_succ, i64_w, i32_w]
           rfl
          refine pure_ (i := 16) (N := some 109) (v := undef) (a' := ?_) #[true, true, true, true, true, true, true, true, true, true, true, true, true, true, true, true, true, false, false, false, false] rfl rfl (any_of HT_.out (by kernel_rfl)) (fun _ _ _ h => h) (Or.inr ⟨by rfl, rfl⟩) ?_ ?_
          rotate_left
          ·simp only [Act.put, List.setIfInBounds_toArray, List.set_cons_zero, List.set_cons_succ, i64_w, i32_w]
           rfl
          refine pure_ (i := 17) (N := some 110) (v := undef) (a' := ?_) #[true, true, true, true, true, true, true, true, true, true, true, true, true, true, true, true, true, true, false, false, false] rfl rfl (any_of HT_.out (by kernel_rfl)) (fun _ _ _ h => h) (Or.inr ⟨by rfl, rfl⟩) ?_ ?_
          rotate_left
          ·simp only [Act.put, List.setIfInBounds_toArray, List.set_cons_zero, List.set_cons_succ, i64_w, i32_w]
           rfl
          refine pure_ (i := 18) (N := some 111) (v := undef) (a' := ?_) #[true, true, true, true, true, true, true, true, true, true, true, true, true, true, true, true, true, true, true, false, false] rfl rfl (any_of HT_.out (by kernel_rfl)) (fun _ _ _ h => h) (Or.inr ⟨by rfl, rfl⟩) ?_ ?_
          rotate_left
          ·simp only [Act.put, List.setIfInBounds_toArray, List.set_cons_zero, List.set_cons_succ, i64_w, i32_w]
           rfl
          refine pure_ (i := 19) (N := some 112) (v := undef) (a' := ?_) #[true, true, true, true, true, true, true, true, true, true, true, true, true, true, true, true, true, true, true, true, false] rfl rfl (any_of HT_.out (by kernel_rfl)) (fun _ _ _ h => h) (Or.inr ⟨by rfl, rfl⟩) ?_ ?_
          rotate_left
          ·simp only [Act.put, List.setIfInBounds_toArray, List.set_cons_zero, List.set_cons_succ, i64_w, i32_w]
           rfl
          refine pure_ (i := 20) (N := some 113) (v := ?_) (a' := ?_) #[true, true, true, true, true, true, true, true, true, true, true, true, true, true, true, true, true, true, true, true, true] rfl rfl (any_of HT_.out (by kernel_rfl)) (fun _ _ _ h => h) (Or.inl ⟨by rfl, ?_⟩) ?_ ?_
          rotate_left
          ·intro w'
           go_simp
           with_reducible rfl
          rotate_left
          ·simp only [Act.put, List.setIfInBounds_toArray, List.set_cons_zero, List.set_cons_succ, i64_w, i32_w]
           rfl
          refine done_ (done_of HT_.out (by kernel_rfl)) ?_
          try go_wp2
          go_ret
          exact ⟨by first | rfl | (simp [errW_none, errW_some] <;> rfl) | (simp [*, errW_none, errW_some] <;> rfl), by repeat (first | (with_reducible first | exact HB.out | apply below_alloc | apply pw_below_drewN | apply below_drew1 | refine below_set ?_ GE239.out | refine below_set ?_ GE248.out | refine below_set ?_ GE255.out) | exact HB.out)⟩
        ·rw [if_neg c35] at H
         exact absurd H (by simp)
       ·rw [if_neg c34] at H
        exact absurd H (by simp)
      ·rw [if_neg c33] at H
       have c33b0 : decide (x79_2 < (y251.length : Int)) = false := decide_eq_false c33
       clear c33
       replace H := Option.bind_eq_some_iff.mp H
       obtain ⟨t262, A790, H⟩ := H
       replace H : ((keyeventkit_Mod.f a3 (wrap64 ((t249.size : Int) + 1))).bind fun t263 => (if 0 ≤ t263 then (if t263 ≤ (t249.size : Int) then (if t249.size + a2.size ≤ 9223372036854775807 then ((some (([t249, a2, t262, t249.extract 0 (t263 : Int).toNat, t249 ++ a2] : List ByteArray) : List ByteArray)).bind fun y264 => (keyeventlaw03_PrimitiveActs.l1 k2 a5 y264 (y264.length : Int) 0 t245 t246)) else (none)) else (none)) else (none))) = some r := H
       have A79 := Aside0.mk A790
       clear A790
       replace H := Option.bind_eq_some_iff.mp H
       obtain ⟨t263, A800, H⟩ := H
       replace H : (if 0 ≤ t263 then (if t263 ≤ (t249.size : Int) then (if t249.size + a2.size ≤ 9223372036854775807 then ((some (([t249, a2, t262, t249.extract 0 (t263 : Int).toNat, t249 ++ a2] : List ByteArray) : List ByteArray)).bind fun y264 => (keyeventlaw03_PrimitiveActs.l1 k2 a5 y264 (y264.length : Int) 0 t245 t246)) else (none)) else (none)) else (none)) = some r := H
       have A80 := Aside0.mk A800
       clear A800
       by_cases c81 : 0 ≤ t263
       ·rw [if_pos c81] at H
        have c81b0 := eq_true c81
        have c81b1 : decide (0 ≤ t263) = true := decide_eq_true c81
        clear c81
        by_cases c82 : t263 ≤ (t249.size : Int)
        ·rw [if_pos c82] at H
         have c82b0 := eq_true c82
         have c82b1 : decide (t263 ≤ (t249.size : Int)) = true := decide_eq_true c82
         clear c82
         by_cases c83 : t249.size + a2.size ≤ 9223372036854775807
         ·rw [if_pos c83] at H
          have c83b0 := eq_true c83
          have c83b1 : decide (t249.size + a2.size ≤ 9223372036854775807) = true := decide_eq_true c83
          try have c83b2 : (9223372036854775807 < t249.size + a2.size) = False := eq_false (Nat.not_lt.2 c83)
          obtain ⟨y264, hy264⟩ : ∃ y_ : List ByteArray, y_ = (([t249, a2, t262, t249.extract 0 (t263 : Int).toNat, t249 ++ a2] : List ByteArray)) := ⟨_, rfl⟩
          replace H : (keyeventlaw03_PrimitiveActs.l1 k2 a5 y264 (y264.length : Int) 0 t245 t246) = some r := by first | (rw [hy264]; with_reducible exact H) | (have H2_ := (Option.bind_some _ _).symm.trans H; rw [hy264]; with_reducible exact H2_) | (have H2_ := (Option.bind_some _ _).symm.trans H; with_reducible exact H2_) | with_reducible exact H | (rw [hy264]; exact H) | exact H
          have Ny264 := Aside0.mk hy264
          clear hy264
          have H' := Aside0.mk H
          clear H
          go_wp2_with (first | ((with_reducible refine gate_callee (f := 13) rfl ?_); refine goesL_ (some 120) rfl rfl Try.func13 (by kernel_rfl) rfl #[.string t249, .int .i64 a3, .int .i64 a4] rfl eq_ ?_; (with_reducible refine (keyeventkit_Spoil.calls t249 a3 a4 t262 _ A79.out).mono ?_); rintro e w84 ⟨rfl, hb⟩; refine ⟨_, rfl, ?_⟩; have n0_ := Aside0.mk (Kd.R_below (rq HO_77.out) hb); have n1_ := Aside0.mk (blk_below (g := gb239) (o := .cells #[.int .i64 a1_0, .string a1_1] 29 (0, 0)) (bq BK239.out) hb); have n2_ := Aside0.mk (blk_below (g := gb248) (o := .cells #[.int .i64 t245, .string t246] 29 (0, 0)) (bq BK248.out) hb); have n3_ := Aside0.mk (below_step (by repeat (first | (with_reducible first | exact HB.out | apply below_alloc | apply pw_below_drewN | apply below_drew1 | refine below_set ?_ GE239.out | refine below_set ?_ GE248.out) | exact HB.out)) hb); clear HO_77; clear BK239; clear BK248; clear HB; have HO_77 := n0_; have BK239 := n1_; have BK248 := n2_; have HB := n3_; clear n0_ n1_ n2_ n3_; (try clear hb); (try clear hb2); (try clear hk); (try clear hi)) | ((with_reducible refine gate_callee (f := 20) rfl ?_); refine goesL_ (some 126) rfl rfl Try.func20 (by kernel_rfl) rfl #[.int .i64 a3, .int .i64 (wrap64 ((t249.size : Int) + 1))] rfl eq_ ?_; (with_reducible refine (keyeventkit_Mod.calls a3 (wrap64 ((t249.size : Int) + 1)) t263 _ A80.out).mono ?_); rintro e w' ⟨rfl, ⟨nd, rfl⟩⟩; refine ⟨_, rfl, ?_⟩) | ((with_reducible refine gate_dst (N := 131) rfl ?_); (try (refine gate_guard (by rfl) ?_; dsimp only)); refine Kd.R_lit Kd.string _ 9 ?hg (N := 131) ?hd (xs := ([t249, a2, t262, t249.extract 0 (t263 : Int).toNat, t249 ++ a2] : List ByteArray)) (inner := [.string t249, .string a2, .string t262, .string (t249.extract 0 (t263 : Int).toNat), .string (t249 ++ a2)]) (ok := fun _ => True) (okp := fun _ => True) ?hr ?hp (fun _ hk => hk) trivial (Below.refl _ _) (Nat.le_refl _) (by simp) ?_; (case hd => rfl); (case hg => rfl); (case hr => first | (go_simp; done) | (go_simp; rfl)); (case hp => exact (Reps.one (show Kd.M Kd.string _ _ _ t249 [.string t249] from rfl) (Reps.one (show Kd.M Kd.string _ _ _ a2 [.string a2] from rfl) (Reps.one (show Kd.M Kd.string _ _ _ t262 [.string t262] from rfl) (Reps.one (show Kd.M Kd.string _ _ _ (t249.extract 0 (t263 : Int).toNat) [.string (t249.extract 0 (t263 : Int).toNat)] from rfl) (Reps.one (show Kd.M Kd.string _ _ _ (t249 ++ a2) [.string (t249 ++ a2)] from rfl) (Reps.none _ _))))))); intro v265 w85 ho86 hb hg_ hnew_; clear hg_ hnew_; (first | rw [← Ny264.out] at ho86 | (simp only [Int.reduceToNat] at ho86; rw [← Ny264.out] at ho86)); have n0_ := Aside0.mk (Kd.R_below (rq HO_77.out) hb); have n1_ := Aside0.mk (Kd.R_lower ho86 (below_size (by repeat (first | (with_reducible first | exact HB.out | apply below_alloc | apply pw_below_drewN | apply below_drew1 | refine below_set ?_ GE239.out | refine below_set ?_ GE248.out) | exact HB.out)))); have n2_ := Aside0.mk (blk_below (g := gb239) (o := .cells #[.int .i64 a1_0, .string a1_1] 29 (0, 0)) (bq BK239.out) hb); have n3_ := Aside0.mk (blk_below (g := gb248) (o := .cells #[.int .i64 t245, .string t246] 29 (0, 0)) (bq BK248.out) hb); have n4_ := Aside0.mk (below_step (by repeat (first | (with_reducible first | exact HB.out | apply below_alloc | apply pw_below_drewN | apply below_drew1 | refine below_set ?_ GE239.out | refine below_set ?_ GE248.out) | exact HB.out)) hb); clear HO_77; clear BK239; clear BK248; clear HB; have HO_77 := n0_; have HO266 := n1_; have BK239 := n2_; have BK248 := n3_; have HB := n4_; clear n0_ n1_ n2_ n3_ n4_; clear hb ho86; obtain ⟨Ao87, co87, eo87⟩ := Kd.R_slice HO266.out; subst eo87))
          go_loopg [133] k2 (fun kq v133 w' => ∃ (x133_3 : Int), v133 = .int .i64 x133_3 ∧ Aside0 (keyeventlaw03_PrimitiveActs.l1 kq a5 y264 (y264.length : Int) x133_3 t245 t246 = some r) ∧ Aside0 (kq ≤ k2) ∧ Aside0 (Kd.R Kd.string 9 w' w.heap.size (fun _ => True) (.slice Ao87 y264.length co87) y264) ∧ Aside0 (w'.heap[gb239]? = some (.cells #[.int .i64 a1_0, .string a1_1] 29 (0, 0))) ∧ Aside0 (w'.heap[gb248]? = some (.cells #[.int .i64 t245, .string t246] 29 (0, 0))) ∧ Aside0 (Below w.heap.size w w'))
          case atStart => exact ⟨(0), (by first | rfl | (simp; done) | (simp [*]; done)), H', ⟨Nat.le_refl _⟩, ⟨by (with_reducible repeat (first | apply Kd.R_alloc | apply Kd.R_drewN | apply Kd.R_drew)); exact HO266.out⟩, ⟨by (with_reducible repeat (first | refine blk_drewN ?_ _ | refine blk_drew ?_ | refine blk_alloc ?_ _)); exact BK239.out⟩, ⟨by (with_reducible repeat (first | refine blk_drewN ?_ _ | refine blk_drew ?_ | refine blk_alloc ?_ _)); exact BK248.out⟩, ⟨by repeat (first | (with_reducible first | exact HB.out | apply below_alloc | apply pw_below_drewN | apply below_drew1 | refine below_set ?_ GE239.out | refine below_set ?_ GE248.out) | exact HB.out)⟩⟩
          case round => as_aux_lemma =>
           clear H'
           try clear c1
           try clear c2
           try clear p2
           try clear q2
           try clear hx2
           try clear c3
           try clear c4
           try clear c5
           try clear c6
           try clear p6
           try clear c7
           try clear c8
           try clear c10
           try clear c13
           try clear c19
           try clear c20
           try clear c22
           try clear c23
           try clear p25
           try clear q25
           try clear hx25
           try clear c33
           try clear c33b0
           try clear c34
           try clear c35
           try clear c38
           try clear c38b0
           try clear c38b1
           try clear c39
           try clear c39b0
           try clear c39b1
           try clear c42
           try clear c42b0
           try clear c42b1
           try clear c54
           try clear c55
           try clear c64
           try clear p64
           try clear c65
           try clear c72
           try clear c73
           try clear c81
           try clear c81b0
           try clear c81b1
           try clear c82
           try clear c82b0
           try clear c82b1
           try clear c83
           try clear c83b0
           try clear c83b1
           try clear c83b2
           try clear hcz56_0
           try clear hcz56_1
           try clear hcz58_0
           try clear hcz58_1
           try clear hcz66_0
           try clear hcz66_1
           try clear hcz68_0
           try clear hcz68_1
           try clear hcz74_0
           try clear hcz74_1
           try clear hcz76_0
           try clear hcz76_1
           try clear hfz56_0
           try clear hfz56_1
           try clear hfz58_0
           try clear hfz58_1
           try clear hfz66_0
           try clear hfz66_1
           try clear hfz68_0
           try clear hfz68_1
           try clear hfz74_0
           try clear hfz74_1
           try clear hfz76_0
           try clear hfz76_1
           try clear hx254_0
           try clear hx254_1
           try clear p254
           try clear q254
           obtain ⟨x133_3, rfl, HA, HK3, HO_131, BK239, BK248, HB⟩ := hrel
           cases gk with
           | zero => exact absurd HA.out (by simp [keyeventlaw03_PrimitiveActs.l1])
           | succ k3 =>
            have H := HA.out
            clear HA
            simp only [keyeventlaw03_PrimitiveActs.l1] at H
            by_cases c88 : x133_3 < (y264.length : Int)
            ·rw [if_pos c88] at H
             have c88b0 : decide (x133_3 < (y264.length : Int)) = true := decide_eq_true c88
             clear c88
             by_cases c89 : 0 ≤ x133_3
             ·rw [if_pos c89] at H
              have c89b0 : decide (0 ≤ x133_3) = true := decide_eq_true c89
              clear c89
              by_cases c90 : x133_3 < (y264.length : Int)
              ·rw [if_pos c90] at H
               have c90b0 : decide (x133_3 < (y264.length : Int)) = true := decide_eq_true c90
               clear c90
               replace H := Option.bind_eq_some_iff.mp H
               obtain ⟨⟨t268, t269, t270, t271⟩, A910, H⟩ := H
               replace H : ((keyeventref03_Decode.f k3 (rdOf ByteArray.empty y264 x133_3)).bind fun bt273 => (if (!(t268 == bt273.1) || (!(t269.toList == bt273.2.1.toList))) = true then (keyeventlaw03_PrimitiveActs.j3 k3 a5 (rdOf ByteArray.empty y264 x133_3) y264 (y264.length : Int) x133_3 true t245 t246) else (if t270 = bt273.2.2.1 then (keyeventlaw03_PrimitiveActs.j3 k3 a5 (rdOf ByteArray.empty y264 x133_3) y264 (y264.length : Int) x133_3 (t271 != bt273.2.2.2) t245 t246) else (keyeventlaw03_PrimitiveActs.j3 k3 a5 (rdOf ByteArray.empty y264 x133_3) y264 (y264.length : Int) x133_3 true t245 t246)))) = some r := H
               have A91 := Aside0.mk A910
               clear A910
               replace H := Option.bind_eq_some_iff.mp H
               obtain ⟨⟨t273, t274, t275, t276⟩, A920, H⟩ := H
               replace H : (if (!(t268 == t273) || (!(t269.toList == t274.toList))) = true then (keyeventlaw03_PrimitiveActs.j3 k3 a5 (rdOf ByteArray.empty y264 x133_3) y264 (y264.length : Int) x133_3 true t245 t246) else (if t270 = t275 then (keyeventlaw03_PrimitiveActs.j3 k3 a5 (rdOf ByteArray.empty y264 x133_3) y264 (y264.length : Int) x133_3 (t271 != t276) t245 t246) else (keyeventlaw03_PrimitiveActs.j3 k3 a5 (rdOf ByteArray.empty y264 x133_3) y264 (y264.length : Int) x133_3 true t245 t246))) = some r := H
               have A92 := Aside0.mk A920
               clear A920
               have HC93 := Aside0.mk H
               clear H
               have p267 : 0 ≤ (x133_3 : Int) := of_decide_eq_true aq
               have q267 : x133_3 < (y264.length : Int) := of_decide_eq_true aq
               obtain ⟨ad267, e267, hx267_0⟩ := Kd.at_string (Kd.R_reads' HO_131.out).2.2 x133_3 p267 q267
               cases e267
               replace p267 := eq_true p267
               replace q267 := eq_true q267
               go_upto_region 19 with (first | ((with_reducible refine gate_callee (f := 14) rfl ?_); refine goesL_ (some 139) rfl rfl Try.func14 (by kernel_rfl) rfl #[.string (rdOf ByteArray.empty y264 x133_3)] rfl eq_ ?_; (with_reducible refine (primitive_Decode.calls k3 (rdOf ByteArray.empty y264 x133_3) t268 t269 t270 t271 _ A91.out).mono ?_); rintro e w94 ⟨rfl, hb⟩; refine ⟨_, rfl, ?_⟩; have n0_ := Aside0.mk (Kd.R_below (rq HO_131.out) hb); have n1_ := Aside0.mk (blk_below (g := gb239) (o := .cells #[.int .i64 a1_0, .string a1_1] 29 (0, 0)) (bq BK239.out) hb); have n2_ := Aside0.mk (blk_below (g := gb248) (o := .cells #[.int .i64 t245, .string t246] 29 (0, 0)) (bq BK248.out) hb); have n3_ := Aside0.mk (below_step (by repeat (first | (with_reducible first | exact HB.out | apply below_alloc | apply pw_below_drewN | apply below_drew1 | refine below_set ?_ GE239.out | refine below_set ?_ GE248.out) | exact HB.out)) hb); clear HO_131; clear BK239; clear BK248; clear HB; have HO_131 := n0_; have BK239 := n1_; have BK248 := n2_; have HB := n3_; clear n0_ n1_ n2_ n3_; (try clear hb); (try clear hb2); (try clear hk); (try clear hi)) | ((with_reducible refine gate_dst (N := 25) rfl ?_); (try (refine gate_guard (by rfl) ?_; dsimp only)); refine box_event ?hg (N := 25) ?hd (cs := #[.int .i64 0, .string (⟨#[]⟩ : ByteArray)]) (t := 29) ?hr ?_; (case hd => rfl); (case hg => rfl); (case hr => first | (go_simp; done) | (go_simp; rfl)); intro gb272 hg w95 hbox hb; have n0_ := Aside0.mk (Kd.R_below (rq HO_131.out) hb); have n1_ := Aside0.mk (blk_below (g := gb239) (o := .cells #[.int .i64 a1_0, .string a1_1] 29 (0, 0)) (bq BK239.out) hb); have n2_ := Aside0.mk (blk_below (g := gb248) (o := .cells #[.int .i64 t245, .string t246] 29 (0, 0)) (bq BK248.out) hb); have n3_ := Aside0.mk (below_step (by repeat (first | (with_reducible first | exact HB.out | apply below_alloc | apply pw_below_drewN | apply below_drew1 | refine below_set ?_ GE239.out | refine below_set ?_ GE248.out) | exact HB.out)) hb); have n4_ := Aside0.mk (hbox); have n5_ := Aside0.mk ((by rw [hg]; exact (below_size (by repeat (first | (with_reducible first | exact HB.out | apply below_alloc | apply pw_below_drewN | apply below_drew1 | refine below_set ?_ GE239.out | refine below_set ?_ GE248.out) | exact HB.out))) : w.heap.size ≤ gb272)); have n6_ := Aside0.mk ((by rw [hg]; exact (below_size (by repeat (first | (with_reducible first | exact HB.out | apply below_alloc | apply pw_below_drewN | apply below_drew1 | refine below_set ?_ GE239.out | refine below_set ?_ GE248.out) | exact HB.out))) : w.heap.size ≤ gb272)); have n7_ := Aside0.mk ((by rw [hg]; exact Nat.ne_of_lt (blk_lt (g := gb239) (o := .cells #[.int .i64 a1_0, .string a1_1] 29 (0, 0)) (bq BK239.out)) : gb239 ≠ gb272)); have n8_ := Aside0.mk ((by rw [hg]; exact Nat.ne_of_gt (blk_lt (g := gb239) (o := .cells #[.int .i64 a1_0, .string a1_1] 29 (0, 0)) (bq BK239.out)) : gb272 ≠ gb239)); have n9_ := Aside0.mk ((by rw [hg]; exact Nat.ne_of_lt (blk_lt (g := gb248) (o := .cells #[.int .i64 t245, .string t246] 29 (0, 0)) (bq BK248.out)) : gb248 ≠ gb272)); have n10_ := Aside0.mk ((by rw [hg]; exact Nat.ne_of_gt (blk_lt (g := gb248) (o := .cells #[.int .i64 t245, .string t246] 29 (0, 0)) (bq BK248.out)) : gb272 ≠ gb248)); clear HO_131; clear BK239; clear BK248; clear HB; have HO_131 := n0_; have BK239 := n1_; have BK248 := n2_; have HB := n3_; have BK272 := n4_; have GW272 := n5_; have GE272 := n6_; have NB239_272 := n7_; have NB272_239 := n8_; have NB248_272 := n9_; have NB272_248 := n10_; clear n0_ n1_ n2_ n3_ n4_ n5_ n6_ n7_ n8_ n9_ n10_; clear hb hbox hg; have hnb96 := NB272_239.out; have hnc96 := NB239_272.out; have hnb97 := NB272_248.out; have hnc97 := NB248_272.out; have hcz98_0 : w95.cell? ⟨gb272, 0, none⟩ = some (.int .i64 0) := (blk_cell BK272.out 0).trans rfl; have hcz98_1 : w95.cell? ⟨gb272, 1, none⟩ = some (.string (⟨#[]⟩ : ByteArray)) := (blk_cell BK272.out 1).trans rfl; have hfz98_0 := blk_frozen BK272.out 0; have hfz98_1 := blk_frozen BK272.out 1) | ((with_reducible refine gate_callee (f := 24) rfl ?_); refine goesL_ (some 145) rfl rfl Try.func24 (by kernel_rfl) rfl #[.string (rdOf ByteArray.empty y264 x133_3)] rfl eq_ ?_; (with_reducible refine (keyeventref03_Decode.calls k3 (rdOf ByteArray.empty y264 x133_3) t273 t274 t275 t276 _ A92.out).mono ?_); rintro e w99 ⟨rfl, hb⟩; refine ⟨_, rfl, ?_⟩; have n0_ := Aside0.mk (Kd.R_below (by (with_reducible repeat (first | apply Kd.R_alloc | apply Kd.R_drewN | apply Kd.R_drew)); exact (Kd.R_mono (Kd.R_far (p := ⟨gb272, 1, none⟩) (Kd.R_far (p := ⟨gb272, 0, none⟩) (Kd.R_types HO_131.out BK272.out (by decide)) (fun _ hk => hk.2) (.int .i64 t268)) (fun _ hk => hk.2) (.string t269)) (fun _ h_ => h_.1))) hb); have n1_ := Aside0.mk (blk_below (g := gb239) (o := .cells #[.int .i64 a1_0, .string a1_1] 29 (0, 0)) (by (with_reducible repeat (first | refine blk_drewN ?_ _ | refine blk_drew ?_ | refine blk_alloc ?_ _)); refine blk_far ?_ NB239_272.out _; (with_reducible repeat (first | refine blk_drewN ?_ _ | refine blk_drew ?_ | refine blk_alloc ?_ _)); refine blk_far ?_ NB239_272.out _; (with_reducible repeat (first | refine blk_drewN ?_ _ | refine blk_drew ?_ | refine blk_alloc ?_ _)); exact BK239.out) hb); have n2_ := Aside0.mk (blk_below (g := gb248) (o := .cells #[.int .i64 t245, .string t246] 29 (0, 0)) (by (with_reducible repeat (first | refine blk_drewN ?_ _ | refine blk_drew ?_ | refine blk_alloc ?_ _)); refine blk_far ?_ NB248_272.out _; (with_reducible repeat (first | refine blk_drewN ?_ _ | refine blk_drew ?_ | refine blk_alloc ?_ _)); refine blk_far ?_ NB248_272.out _; (with_reducible repeat (first | refine blk_drewN ?_ _ | refine blk_drew ?_ | refine blk_alloc ?_ _)); exact BK248.out) hb); have n3_ := Aside0.mk (blk_below (g := gb272) (o := .cells #[.int .i64 t268, .string t269] 29 (0, 0)) (by (with_reducible repeat (first | refine blk_drewN ?_ _ | refine blk_drew ?_ | refine blk_alloc ?_ _)); refine blk_put (cs := #[.int .i64 t268, .string (⟨#[]⟩ : ByteArray)]) ?_ 1 _ rfl; (with_reducible repeat (first | refine blk_drewN ?_ _ | refine blk_drew ?_ | refine blk_alloc ?_ _)); refine blk_put (cs := #[.int .i64 0, .string (⟨#[]⟩ : ByteArray)]) ?_ 0 _ rfl; (with_reducible repeat (first | refine blk_drewN ?_ _ | refine blk_drew ?_ | refine blk_alloc ?_ _)); exact BK272.out) hb); have n4_ := Aside0.mk (below_step (by repeat (first | (with_reducible first | exact HB.out | apply below_alloc | apply pw_below_drewN | apply below_drew1 | refine below_set ?_ GE239.out | refine below_set ?_ GE248.out | refine below_set ?_ GE272.out) | exact HB.out)) hb); clear HO_131; clear BK239; clear BK248; clear BK272; clear HB; have HO_131 := n0_; have BK239 := n1_; have BK248 := n2_; have BK272 := n3_; have HB := n4_; clear n0_ n1_ n2_ n3_ n4_; (try clear hb); (try clear hb2); (try clear hk); (try clear hi)) | ((with_reducible refine gate_dst (N := 28) rfl ?_); (try (refine gate_guard (by rfl) ?_; dsimp only)); refine box_event ?hg (N := 28) ?hd (cs := #[.int .i64 0, .string (⟨#[]⟩ : ByteArray)]) (t := 29) ?hr ?_; (case hd => rfl); (case hg => rfl); (case hr => first | (go_simp; done) | (go_simp; rfl)); intro gb277 hg w100 hbox hb; have n0_ := Aside0.mk (Kd.R_below (rq HO_131.out) hb); have n1_ := Aside0.mk (blk_below (g := gb239) (o := .cells #[.int .i64 a1_0, .string a1_1] 29 (0, 0)) (bq BK239.out) hb); have n2_ := Aside0.mk (blk_below (g := gb248) (o := .cells #[.int .i64 t245, .string t246] 29 (0, 0)) (bq BK248.out) hb); have n3_ := Aside0.mk (blk_below (g := gb272) (o := .cells #[.int .i64 t268, .string t269] 29 (0, 0)) (bq BK272.out) hb); have n4_ := Aside0.mk (below_step (by repeat (first | (with_reducible first | exact HB.out | apply below_alloc | apply pw_below_drewN | apply below_drew1 | refine below_set ?_ GE239.out | refine below_set ?_ GE248.out | refine below_set ?_ GE272.out) | exact HB.out)) hb); have n5_ := Aside0.mk (hbox); have n6_ := Aside0.mk ((by rw [hg]; exact (below_size (by repeat (first | (with_reducible first | exact HB.out | apply below_alloc | apply pw_below_drewN | apply below_drew1 | refine below_set ?_ GE239.out | refine below_set ?_ GE248.out | refine below_set ?_ GE272.out) | exact HB.out))) : w.heap.size ≤ gb277)); have n7_ := Aside0.mk ((by rw [hg]; exact (below_size (by repeat (first | (with_reducible first | exact HB.out | apply below_alloc | apply pw_below_drewN | apply below_drew1 | refine below_set ?_ GE239.out | refine below_set ?_ GE248.out | refine below_set ?_ GE272.out) | exact HB.out))) : w.heap.size ≤ gb277)); have n8_ := Aside0.mk ((by rw [hg]; exact Nat.ne_of_lt (blk_lt (g := gb239) (o := .cells #[.int .i64 a1_0, .string a1_1] 29 (0, 0)) (bq BK239.out)) : gb239 ≠ gb277)); have n9_ := Aside0.mk ((by rw [hg]; exact Nat.ne_of_gt (blk_lt (g := gb239) (o := .cells #[.int .i64 a1_0, .string a1_1] 29 (0, 0)) (bq BK239.out)) : gb277 ≠ gb239)); have n10_ := Aside0.mk ((by rw [hg]; exact Nat.ne_of_lt (blk_lt (g := gb248) (o := .cells #[.int .i64 t245, .string t246] 29 (0, 0)) (bq BK248.out)) : gb248 ≠ gb277)); have n11_ := Aside0.mk ((by rw [hg]; exact Nat.ne_of_gt (blk_lt (g := gb248) (o := .cells #[.int .i64 t245, .string t246] 29 (0, 0)) (bq BK248.out)) : gb277 ≠ gb248)); have n12_ := Aside0.mk ((by rw [hg]; exact Nat.ne_of_lt (blk_lt (g := gb272) (o := .cells #[.int .i64 t268, .string t269] 29 (0, 0)) (bq BK272.out)) : gb272 ≠ gb277)); have n13_ := Aside0.mk ((by rw [hg]; exact Nat.ne_of_gt (blk_lt (g := gb272) (o := .cells #[.int .i64 t268, .string t269] 29 (0, 0)) (bq BK272.out)) : gb277 ≠ gb272)); clear HO_131; clear BK239; clear BK248; clear BK272; clear HB; have HO_131 := n0_; have BK239 := n1_; have BK248 := n2_; have BK272 := n3_; have HB := n4_; have BK277 := n5_; have GW277 := n6_; have GE277 := n7_; have NB239_277 := n8_; have NB277_239 := n9_; have NB248_277 := n10_; have NB277_248 := n11_; have NB272_277 := n12_; have NB277_272 := n13_; clear n0_ n1_ n2_ n3_ n4_ n5_ n6_ n7_ n8_ n9_ n10_ n11_ n12_ n13_; clear hb hbox hg; have hnb101 := NB277_239.out; have hnc101 := NB239_277.out; have hnb102 := NB277_248.out; have hnc102 := NB248_277.out; have hnb103 := NB277_272.out; have hnc103 := NB272_277.out; have hcz104_0 : w100.cell? ⟨gb277, 0, none⟩ = some (.int .i64 0) := (blk_cell BK277.out 0).trans rfl; have hcz104_1 : w100.cell? ⟨gb277, 1, none⟩ = some (.string (⟨#[]⟩ : ByteArray)) := (blk_cell BK277.out 1).trans rfl; have hfz104_0 := blk_frozen BK277.out 0; have hfz104_1 := blk_frozen BK277.out 1))
               (try simp only [Act.put, List.setIfInBounds_toArray, List.set_cons_zero, List.set_cons_succ])
               go_cut [161] (fun v161 wc => ∃ (kq : Nat) (x161_92 : Bool), v161 = .bool x161_92 ∧ Aside0 (keyeventlaw03_PrimitiveActs.j3 kq a5 (rdOf ByteArray.empty y264 x133_3) y264 (y264.length : Int) x133_3 x161_92 t245 t246 = some r) ∧ Aside0 (kq ≤ k3) ∧ Aside0 (Kd.R Kd.string 9 wc w.heap.size (fun _ => True) (.slice (some ad267) y264.length co87) y264) ∧ Aside0 (wc.heap[gb239]? = some (.cells #[.int .i64 a1_0, .string a1_1] 29 (0, 0))) ∧ Aside0 (wc.heap[gb248]? = some (.cells #[.int .i64 t245, .string t246] 29 (0, 0))) ∧ Aside0 (wc.heap[gb272]? = some (.cells #[.int .i64 t268, .string t269] 29 (0, 0))) ∧ Aside0 (wc.heap[gb277]? = some (.cells #[.int .i64 t273, .string t274] 29 (0, 0))) ∧ Aside0 (Below w.heap.size w wc))
               case first =>
                have H := HC93.out
                clear HC93
                by_cases c105 : (!(t268 == t273) || (!(t269.toList == t274.toList))) = true
                ·rw [if_pos c105] at H
                 have c105b0 : (!(t268 == t273) || (!(t269.toList == t274.toList))) = true := c105
                 clear c105
                 (first | rw [c105b0] | (simp only [i64_w, i32_w]; rw [c105b0]) | skip)
                 have H' := Aside0.mk H
                 clear H
                 have hnb106 := NB272_239.out
                 have hnc106 := NB239_272.out
                 have hnb107 := NB272_248.out
                 have hnc107 := NB248_272.out
                 have hnb108 := NB272_277.out
                 have hnc108 := NB277_272.out
                 have hcz109_0 : w100.cell? ⟨gb272, 0, none⟩ = some (.int .i64 t268) := (blk_cell BK272.out 0).trans rfl
                 have hcz109_1 : w100.cell? ⟨gb272, 1, none⟩ = some (.string t269) := (blk_cell BK272.out 1).trans rfl
                 have hfz109_0 := blk_frozen BK272.out 0
                 have hfz109_1 := blk_frozen BK272.out 1
                 have hnb110 := NB277_239.out
                 have hnc110 := NB239_277.out
                 have hnb111 := NB277_248.out
                 have hnc111 := NB248_277.out
                 have hcz112_0 : w100.cell? ⟨gb277, 0, none⟩ = some (.int .i64 0) := (blk_cell BK277.out 0).trans rfl
                 have hcz112_1 : w100.cell? ⟨gb277, 1, none⟩ = some (.string (⟨#[]⟩ : ByteArray)) := (blk_cell BK277.out 1).trans rfl
                 have hfz112_0 := blk_frozen BK277.out 0
                 have hfz112_1 := blk_frozen BK277.out 1
                 go_wp2
                 go_meet
                 case rel => exact ⟨_, (true), (by first | rfl | (simp; done) | (simp [*]; done)), H', ⟨by have := HJ6.out; have := HK2.out; have := HK3.out; first | omega | exact Nat.le_refl _⟩, ⟨by (with_reducible repeat (first | apply Kd.R_alloc | apply Kd.R_drewN | apply Kd.R_drew)); exact Kd.R_mono (Kd.R_far (p := ⟨gb277, 1, none⟩) (Kd.R_far (p := ⟨gb277, 0, none⟩) (Kd.R_types HO_131.out BK277.out (by decide)) (fun _ hk => hk.2) (.int .i64 t273)) (fun _ hk => hk.2) (.string t274)) (fun _ hk => trivial)⟩, ⟨by (with_reducible repeat (first | refine blk_drewN ?_ _ | refine blk_drew ?_ | refine blk_alloc ?_ _)); refine blk_far ?_ NB239_277.out _; (with_reducible repeat (first | refine blk_drewN ?_ _ | refine blk_drew ?_ | refine blk_alloc ?_ _)); refine blk_far ?_ NB239_277.out _; (with_reducible repeat (first | refine blk_drewN ?_ _ | refine blk_drew ?_ | refine blk_alloc ?_ _)); exact BK239.out⟩, ⟨by (with_reducible repeat (first | refine blk_drewN ?_ _ | refine blk_drew ?_ | refine blk_alloc ?_ _)); refine blk_far ?_ NB248_277.out _; (with_reducible repeat (first | refine blk_drewN ?_ _ | refine blk_drew ?_ | refine blk_alloc ?_ _)); refine blk_far ?_ NB248_277.out _; (with_reducible repeat (first | refine blk_drewN ?_ _ | refine blk_drew ?_ | refine blk_alloc ?_ _)); exact BK248.out⟩, ⟨by (with_reducible repeat (first | refine blk_drewN ?_ _ | refine blk_drew ?_ | refine blk_alloc ?_ _)); refine blk_far ?_ NB272_277.out _; (with_reducible repeat (first | refine blk_drewN ?_ _ | refine blk_drew ?_ | refine blk_alloc ?_ _)); refine blk_far ?_ NB272_277.out _; (with_reducible repeat (first | refine blk_drewN ?_ _ | refine blk_drew ?_ | refine blk_alloc ?_ _)); exact BK272.out⟩, ⟨by (with_reducible repeat (first | refine blk_drewN ?_ _ | refine blk_drew ?_ | refine blk_alloc ?_ _)); refine blk_put (cs := #[.int .i64 t273, .string (⟨#[]⟩ : ByteArray)]) ?_ 1 _ rfl; (with_reducible repeat (first | refine blk_drewN ?_ _ | refine blk_drew ?_ | refine blk_alloc ?_ _)); refine blk_put (cs := #[.int .i64 0, .string (⟨#[]⟩ : ByteArray)]) ?_ 0 _ rfl; (with_reducible repeat (first | refine blk_drewN ?_ _ | refine blk_drew ?_ | refine blk_alloc ?_ _)); exact BK277.out⟩, ⟨by repeat (first | (with_reducible first | exact HB.out | apply below_alloc | apply pw_below_drewN | apply below_drew1 | refine below_set ?_ GE239.out | refine below_set ?_ GE248.out | refine below_set ?_ GE272.out | refine below_set ?_ GE277.out) | exact HB.out)⟩⟩
                ·rw [if_neg c105] at H
                 have c105b0 : (!(t268 == t273) || (!(t269.toList == t274.toList))) = false := by simpa using c105
                 clear c105
                 (first | rw [c105b0] | (simp only [i64_w, i32_w]; rw [c105b0]) | skip)
                 by_cases c113 : t270 = t275
                 ·rw [if_pos c113] at H
                  have c113b0 : (t270 == t275) = true := beq_iff_eq.mpr c113
                  have c113b1 : (t270 != t275) = false := bne_eq_false_iff_eq.mpr c113
                  clear c113
                  have H' := Aside0.mk H
                  clear H
                  have hnb114 := NB272_239.out
                  have hnc114 := NB239_272.out
                  have hnb115 := NB272_248.out
                  have hnc115 := NB248_272.out
                  have hnb116 := NB272_277.out
                  have hnc116 := NB277_272.out
                  have hcz117_0 : w100.cell? ⟨gb272, 0, none⟩ = some (.int .i64 t268) := (blk_cell BK272.out 0).trans rfl
                  have hcz117_1 : w100.cell? ⟨gb272, 1, none⟩ = some (.string t269) := (blk_cell BK272.out 1).trans rfl
                  have hfz117_0 := blk_frozen BK272.out 0
                  have hfz117_1 := blk_frozen BK272.out 1
                  have hnb118 := NB277_239.out
                  have hnc118 := NB239_277.out
                  have hnb119 := NB277_248.out
                  have hnc119 := NB248_277.out
                  have hcz120_0 : w100.cell? ⟨gb277, 0, none⟩ = some (.int .i64 0) := (blk_cell BK277.out 0).trans rfl
                  have hcz120_1 : w100.cell? ⟨gb277, 1, none⟩ = some (.string (⟨#[]⟩ : ByteArray)) := (blk_cell BK277.out 1).trans rfl
                  have hfz120_0 := blk_frozen BK277.out 0
                  have hfz120_1 := blk_frozen BK277.out 1
                  go_wp2
                  go_meet
                  case rel => exact ⟨_, ((t271 != t276)), (by first | rfl | (simp; done) | (simp [*]; done)), H', ⟨by have := HJ6.out; have := HK2.out; have := HK3.out; first | omega | exact Nat.le_refl _⟩, ⟨by (with_reducible repeat (first | apply Kd.R_alloc | apply Kd.R_drewN | apply Kd.R_drew)); exact Kd.R_mono (Kd.R_far (p := ⟨gb277, 1, none⟩) (Kd.R_far (p := ⟨gb277, 0, none⟩) (Kd.R_types HO_131.out BK277.out (by decide)) (fun _ hk => hk.2) (.int .i64 t273)) (fun _ hk => hk.2) (.string t274)) (fun _ hk => trivial)⟩, ⟨by (with_reducible repeat (first | refine blk_drewN ?_ _ | refine blk_drew ?_ | refine blk_alloc ?_ _)); refine blk_far ?_ NB239_277.out _; (with_reducible repeat (first | refine blk_drewN ?_ _ | refine blk_drew ?_ | refine blk_alloc ?_ _)); refine blk_far ?_ NB239_277.out _; (with_reducible repeat (first | refine blk_drewN ?_ _ | refine blk_drew ?_ | refine blk_alloc ?_ _)); exact BK239.out⟩, ⟨by (with_reducible repeat (first | refine blk_drewN ?_ _ | refine blk_drew ?_ | refine blk_alloc ?_ _)); refine blk_far ?_ NB248_277.out _; (with_reducible repeat (first | refine blk_drewN ?_ _ | refine blk_drew ?_ | refine blk_alloc ?_ _)); refine blk_far ?_ NB248_277.out _; (with_reducible repeat (first | refine blk_drewN ?_ _ | refine blk_drew ?_ | refine blk_alloc ?_ _)); exact BK248.out⟩, ⟨by (with_reducible repeat (first | refine blk_drewN ?_ _ | refine blk_drew ?_ | refine blk_alloc ?_ _)); refine blk_far ?_ NB272_277.out _; (with_reducible repeat (first | refine blk_drewN ?_ _ | refine blk_drew ?_ | refine blk_alloc ?_ _)); refine blk_far ?_ NB272_277.out _; (with_reducible repeat (first | refine blk_drewN ?_ _ | refine blk_drew ?_ | refine blk_alloc ?_ _)); exact BK272.out⟩, ⟨by (with_reducible repeat (first | refine blk_drewN ?_ _ | refine blk_drew ?_ | refine blk_alloc ?_ _)); refine blk_put (cs := #[.int .i64 t273, .string (⟨#[]⟩ : ByteArray)]) ?_ 1 _ rfl; (with_reducible repeat (first | refine blk_drewN ?_ _ | refine blk_drew ?_ | refine blk_alloc ?_ _)); refine blk_put (cs := #[.int .i64 0, .string (⟨#[]⟩ : ByteArray)]) ?_ 0 _ rfl; (with_reducible repeat (first | refine blk_drewN ?_ _ | refine blk_drew ?_ | refine blk_alloc ?_ _)); exact BK277.out⟩, ⟨by repeat (first | (with_reducible first | exact HB.out | apply below_alloc | apply pw_below_drewN | apply below_drew1 | refine below_set ?_ GE239.out | refine below_set ?_ GE248.out | refine below_set ?_ GE272.out | refine below_set ?_ GE277.out) | exact HB.out)⟩⟩
                 ·rw [if_neg c113] at H
                  have c113b0 : (t270 == t275) = false := beq_eq_false_iff_ne.mpr c113
                  have c113b1 : (t270 != t275) = true := bne_iff_ne.mpr c113
                  have H' := Aside0.mk H
                  clear H
                  have hnb121 := NB272_239.out
                  have hnc121 := NB239_272.out
                  have hnb122 := NB272_248.out
                  have hnc122 := NB248_272.out
                  have hnb123 := NB272_277.out
                  have hnc123 := NB277_272.out
                  have hcz124_0 : w100.cell? ⟨gb272, 0, none⟩ = some (.int .i64 t268) := (blk_cell BK272.out 0).trans rfl
                  have hcz124_1 : w100.cell? ⟨gb272, 1, none⟩ = some (.string t269) := (blk_cell BK272.out 1).trans rfl
                  have hfz124_0 := blk_frozen BK272.out 0
                  have hfz124_1 := blk_frozen BK272.out 1
                  have hnb125 := NB277_239.out
                  have hnc125 := NB239_277.out
                  have hnb126 := NB277_248.out
                  have hnc126 := NB248_277.out
                  have hcz127_0 : w100.cell? ⟨gb277, 0, none⟩ = some (.int .i64 0) := (blk_cell BK277.out 0).trans rfl
                  have hcz127_1 : w100.cell? ⟨gb277, 1, none⟩ = some (.string (⟨#[]⟩ : ByteArray)) := (blk_cell BK277.out 1).trans rfl
                  have hfz127_0 := blk_frozen BK277.out 0
                  have hfz127_1 := blk_frozen BK277.out 1
                  go_wp2
                  go_meet
                  case rel => exact ⟨_, (true), (by first | rfl | (simp; done) | (simp [*]; done)), H', ⟨by have := HJ6.out; have := HK2.out; have := HK3.out; first | omega | exact Nat.le_refl _⟩, ⟨by (with_reducible repeat (first | apply Kd.R_alloc | apply Kd.R_drewN | apply Kd.R_drew)); exact Kd.R_mono (Kd.R_far (p := ⟨gb277, 1, none⟩) (Kd.R_far (p := ⟨gb277, 0, none⟩) (Kd.R_types HO_131.out BK277.out (by decide)) (fun _ hk => hk.2) (.int .i64 t273)) (fun _ hk => hk.2) (.string t274)) (fun _ hk => trivial)⟩, ⟨by (with_reducible repeat (first | refine blk_drewN ?_ _ | refine blk_drew ?_ | refine blk_alloc ?_ _)); refine blk_far ?_ NB239_277.out _; (with_reducible repeat (first | refine blk_drewN ?_ _ | refine blk_drew ?_ | refine blk_alloc ?_ _)); refine blk_far ?_ NB239_277.out _; (with_reducible repeat (first | refine blk_drewN ?_ _ | refine blk_drew ?_ | refine blk_alloc ?_ _)); exact BK239.out⟩, ⟨by (with_reducible repeat (first | refine blk_drewN ?_ _ | refine blk_drew ?_ | refine blk_alloc ?_ _)); refine blk_far ?_ NB248_277.out _; (with_reducible repeat (first | refine blk_drewN ?_ _ | refine blk_drew ?_ | refine blk_alloc ?_ _)); refine blk_far ?_ NB248_277.out _; (with_reducible repeat (first | refine blk_drewN ?_ _ | refine blk_drew ?_ | refine blk_alloc ?_ _)); exact BK248.out⟩, ⟨by (with_reducible repeat (first | refine blk_drewN ?_ _ | refine blk_drew ?_ | refine blk_alloc ?_ _)); refine blk_far ?_ NB272_277.out _; (with_reducible repeat (first | refine blk_drewN ?_ _ | refine blk_drew ?_ | refine blk_alloc ?_ _)); refine blk_far ?_ NB272_277.out _; (with_reducible repeat (first | refine blk_drewN ?_ _ | refine blk_drew ?_ | refine blk_alloc ?_ _)); exact BK272.out⟩, ⟨by (with_reducible repeat (first | refine blk_drewN ?_ _ | refine blk_drew ?_ | refine blk_alloc ?_ _)); refine blk_put (cs := #[.int .i64 t273, .string (⟨#[]⟩ : ByteArray)]) ?_ 1 _ rfl; (with_reducible repeat (first | refine blk_drewN ?_ _ | refine blk_drew ?_ | refine blk_alloc ?_ _)); refine blk_put (cs := #[.int .i64 0, .string (⟨#[]⟩ : ByteArray)]) ?_ 0 _ rfl; (with_reducible repeat (first | refine blk_drewN ?_ _ | refine blk_drew ?_ | refine blk_alloc ?_ _)); exact BK277.out⟩, ⟨by repeat (first | (with_reducible first | exact HB.out | apply below_alloc | apply pw_below_drewN | apply below_drew1 | refine below_set ?_ GE239.out | refine below_set ?_ GE248.out | refine below_set ?_ GE272.out | refine below_set ?_ GE277.out) | exact HB.out)⟩⟩
               case rest => as_aux_lemma =>
                clear HC93
                try clear c1
                try clear c2
                try clear p2
                try clear q2
                try clear hx2
                try clear c3
                try clear c4
                try clear c5
                try clear c6
                try clear p6
                try clear c7
                try clear c8
                try clear c9
                try clear c10
                try clear c11
                try clear c12
                try clear c13
                try clear c14
                try clear c19
                try clear c20
                try clear c22
                try clear c23
                try clear c24
                try clear p25
                try clear q25
                try clear hx25
                try clear p26
                try clear q26
                try clear hx26
                try clear c33
                try clear c33b0
                try clear c34
                try clear c35
                try clear c38
                try clear c38b0
                try clear c38b1
                try clear c39
                try clear c39b0
                try clear c39b1
                try clear c42
                try clear c42b0
                try clear c42b1
                try clear c54
                try clear c55
                try clear c64
                try clear p64
                try clear c65
                try clear c72
                try clear c73
                try clear c81
                try clear c81b0
                try clear c81b1
                try clear c82
                try clear c82b0
                try clear c82b1
                try clear c83
                try clear c83b0
                try clear c83b1
                try clear c83b2
                try clear c88
                try clear c88b0
                try clear c89
                try clear c89b0
                try clear c90
                try clear c90b0
                try clear c96
                try clear c97
                try clear c101
                try clear c102
                try clear c103
                try clear c105
                try clear c105b0
                try clear c106
                try clear c107
                try clear c108
                try clear c110
                try clear c111
                try clear c113
                try clear c113b0
                try clear c113b1
                try clear c114
                try clear c115
                try clear c116
                try clear c118
                try clear c119
                try clear c121
                try clear c122
                try clear c123
                try clear c125
                try clear c126
                try clear hcz104_0
                try clear hcz104_1
                try clear hcz109_0
                try clear hcz109_1
                try clear hcz112_0
                try clear hcz112_1
                try clear hcz117_0
                try clear hcz117_1
                try clear hcz120_0
                try clear hcz120_1
                try clear hcz124_0
                try clear hcz124_1
                try clear hcz127_0
                try clear hcz127_1
                try clear hcz56_0
                try clear hcz56_1
                try clear hcz58_0
                try clear hcz58_1
                try clear hcz66_0
                try clear hcz66_1
                try clear hcz68_0
                try clear hcz68_1
                try clear hcz74_0
                try clear hcz74_1
                try clear hcz76_0
                try clear hcz76_1
                try clear hcz98_0
                try clear hcz98_1
                try clear hfz104_0
                try clear hfz104_1
                try clear hfz109_0
                try clear hfz109_1
                try clear hfz112_0
                try clear hfz112_1
                try clear hfz117_0
                try clear hfz117_1
                try clear hfz120_0
                try clear hfz120_1
                try clear hfz124_0
                try clear hfz124_1
                try clear hfz127_0
                try clear hfz127_1
                try clear hfz56_0
                try clear hfz56_1
                try clear hfz58_0
                try clear hfz58_1
                try clear hfz66_0
                try clear hfz66_1
                try clear hfz68_0
                try clear hfz68_1
                try clear hfz74_0
                try clear hfz74_1
                try clear hfz76_0
                try clear hfz76_1
                try clear hfz98_0
                try clear hfz98_1
                try clear hx254_0
                try clear hx254_1
                try clear hx267_0
                try clear p2
                try clear p25
                try clear p254
                try clear p267
                try clear p6
                try clear p64
                try clear q2
                try clear q25
                try clear q254
                try clear q267
                obtain ⟨kq, x161_92, rfl, HA, HJ92, HO_131, BK239, BK248, BK272, BK277, HB⟩ := hcut
                cases kq with
                | zero => exact absurd HA.out (by simp [keyeventlaw03_PrimitiveActs.j3])
                | succ kj92 =>
                 have H := HA.out
                 clear HA
                 simp only [keyeventlaw03_PrimitiveActs.j3] at H
                 by_cases c128 : x161_92 = true
                 ·subst c128
                  have H1 : (some false) = some r := by rw [if_pos rfl] at H; exact H
                  clear H
                  have H := H1
                  clear H1
                  obtain rfl := Option.some.inj H
                  go_wp2
                  go_ret
                  exact ⟨by first | rfl | (simp [errW_none, errW_some] <;> rfl) | (simp [*, errW_none, errW_some] <;> rfl), by repeat (first | (with_reducible first | exact HB.out | apply below_alloc | apply pw_below_drewN | apply below_drew1 | refine below_set ?_ GE239.out | refine below_set ?_ GE248.out | refine below_set ?_ GE272.out | refine below_set ?_ GE277.out) | exact HB.out)⟩
                 ·replace c128 := Bool.eq_false_iff.mpr c128
                  subst c128
                  have H1 : ((keyeventkit_Mod.f a5 8).bind fun t278 => ((some (([a5, t245, wrap64 (1 + t278)] : List Int) : List Int)).bind fun y279 => (keyeventlaw03_PrimitiveActs.l2 kj92 a5 (rdOf ByteArray.empty y264 x133_3) y264 (y264.length : Int) x133_3 y279 (y279.length : Int) 0 t245 t246))) = some r := by rw [if_neg (show ¬ (false = true) by decide)] at H; exact H
                  clear H
                  have H := H1
                  clear H1
                  replace H := Option.bind_eq_some_iff.mp H
                  obtain ⟨t278, A1290, H⟩ := H
                  replace H : ((some (([a5, t245, wrap64 (1 + t278)] : List Int) : List Int)).bind fun y279 => (keyeventlaw03_PrimitiveActs.l2 kj92 a5 (rdOf ByteArray.empty y264 x133_3) y264 (y264.length : Int) x133_3 y279 (y279.length : Int) 0 t245 t246)) = some r := H
                  have A129 := Aside0.mk A1290
                  clear A1290
                  obtain ⟨y279, hy279⟩ : ∃ y_ : List Int, y_ = (([a5, t245, wrap64 (1 + t278)] : List Int)) := ⟨_, rfl⟩
                  replace H : (keyeventlaw03_PrimitiveActs.l2 kj92 a5 (rdOf ByteArray.empty y264 x133_3) y264 (y264.length : Int) x133_3 y279 (y279.length : Int) 0 t245 t246) = some r := by first | (rw [hy279]; with_reducible exact H) | (have H2_ := (Option.bind_some _ _).symm.trans H; rw [hy279]; with_reducible exact H2_) | (have H2_ := (Option.bind_some _ _).symm.trans H; with_reducible exact H2_) | with_reducible exact H | (rw [hy279]; exact H) | exact H
                  have Ny279 := Aside0.mk hy279
                  clear hy279
                  have H' := Aside0.mk H
                  clear H
                  try go_wp2
                  have n0_ := Aside0.mk (Kd.R_drew HO_131.out)
                  have n1_ := Aside0.mk (blk_drew BK239.out)
                  have n2_ := Aside0.mk (blk_drew BK248.out)
                  have n3_ := Aside0.mk (blk_drew BK272.out)
                  have n4_ := Aside0.mk (blk_drew BK277.out)
                  have n5_ := Aside0.mk (below_drew1 HB.out)
                  clear HO_131
                  clear BK239
                  clear BK248
                  clear BK272
                  clear BK277
                  clear HB
                  have HO_131 := n0_
                  have BK239 := n1_
                  have BK248 := n2_
                  have BK272 := n3_
                  have BK277 := n4_
                  have HB := n5_
                  clear n0_ n1_ n2_ n3_ n4_ n5_
                  refine start_ (n := 9) (S := fun w' => w'.cell? ⟨gb248, 0, none⟩ = some (.int .i64 t245) ∧ w'.cell? ⟨gb248, 1, none⟩ = some (.string t246)) (ds := []) #[false, false, false, false, false, false, false, false, false] (by kernel_rfl) rfl rfl ⟨(blk_cell BK248.out 0).trans rfl, (blk_cell BK248.out 1).trans rfl⟩ (fun hHeld => ?_); refine with_tabW keyeventlaw03_PrimitiveActs.tab21 keyeventlaw03_PrimitiveActs.bits21 (fun HT_ HW_ => ?_)
                  generalize wc.drew = w130 at HO_131 BK239 BK248 BK272 BK277 HB hHeld ⊢
                  refine pure_ (i := 0) (N := some 162) (v := ?_) (a' := ?_) #[true, false, false, false, false, false, false, false, false] rfl rfl (any_of HT_.out (by kernel_rfl)) (fun _ _ _ h => h) (Or.inl ⟨by rfl, ?_⟩) ?_ ?_
                  rotate_left
                  ·intro w'
                   go_simp
                   with_reducible rfl
                  rotate_left
                  ·simp only [Act.put, List.setIfInBounds_toArray, List.set_cons_zero, List.set_cons_succ, i64_w, i32_w]
                   rfl
                  refine pure_ (i := 1) (N := some 163) (v := ?_) (a' := ?_) #[true, true, false, false, false, false, false, false, false] rfl rfl (any_of HT_.out (by kernel_rfl)) (fun _ _ _ h => h) (Or.inl ⟨by rfl, ?_⟩) ?_ ?_
                  rotate_left
                  ·intro w'
                   go_simp
                   with_reducible rfl
                  rotate_left
                  ·simp only [Act.put, List.setIfInBounds_toArray, List.set_cons_zero, List.set_cons_succ, i64_w, i32_w]
                   rfl
                  refine pure_ (i := 3) (N := some 165) (v := ?_) (a' := ?_) #[true, true, false, true, false, false, false, false, false] rfl rfl (any_of HT_.out (by kernel_rfl)) (fun _ _ _ h => h) (Or.inl ⟨by rfl, ?_⟩) ?_ ?_
                  rotate_left
                  ·intro w'
                   go_simp
                   with_reducible rfl
                  rotate_left
                  ·simp only [Act.put, List.setIfInBounds_toArray, List.set_cons_zero, List.set_cons_succ, i64_w, i32_w]
                   rfl
                  refine pure_ (i := 8) (N := some 170) (v := ?_) (a' := ?_) #[true, true, false, true, false, false, false, false, true] rfl rfl (any_of HT_.out (by kernel_rfl)) (fun _ _ _ h => h) (Or.inl ⟨by rfl, ?_⟩) ?_ ?_
                  rotate_left
                  ·intro w'
                   go_simp
                   with_reducible rfl
                  rotate_left
                  ·simp only [Act.put, List.setIfInBounds_toArray, List.set_cons_zero, List.set_cons_succ, i64_w, i32_w]
                   rfl
                  refine take_ (i := 2) (N := some 164) (v := ?_) (a' := ?_) #[true, true, true, true, false, false, false, false, true] rfl rfl (take_ofW HT_.out HW_.out (by kernel_rfl)) (fun _ _ _ h => h) (Or.inl ⟨by rfl, ?_⟩) hHeld ?_ ?_
                  rotate_left
                  ·rintro w' ⟨s0, s1⟩
                   go_simp
                   with_reducible rfl
                  rotate_left
                  ·simp only [Act.put, List.setIfInBounds_toArray, List.set_cons_zero, List.set_cons_succ, i64_w, i32_w]
                   rfl
                  refine one_ (i := 4) (N := some 166) #[true, true, true, true, true, false, false, false, true] rfl rfl (one_of HT_.out (by kernel_rfl)) (by decide) (fun K hK => ?_)
                  refine goes_ Try.func20 (by kernel_rfl) rfl #[.int .i64 a5, .int .i64 8] (by rfl) rfl rfl eq_ ?_
                  with_reducible refine (keyeventkit_Mod.calls a5 8 t278 _ A129.out).mono ?_
                  rintro e w' ⟨rfl, ⟨nd, rfl⟩⟩
                  refine ⟨_, rfl, ?_⟩
                  refine hK.out _ _ ⟨(blk_cell BK248.out 0).trans rfl, (blk_cell BK248.out 1).trans rfl⟩ (fun hHeld => ?_)
                  clear hK K
                  refine norm_ (a' := ?_) ?_ ?_
                  rotate_left
                  ·show Act.put _ (some 166) _ = _
                   simp only [Act.put, List.setIfInBounds_toArray, List.set_cons_zero, List.set_cons_succ, i64_w, i32_w]
                   rfl
                  refine pure_ (i := 5) (N := some 167) (v := ?_) (a' := ?_) #[true, true, true, true, true, true, false, false, true] rfl rfl (any_of HT_.out (by kernel_rfl)) (fun _ _ _ h => h) (Or.inl ⟨by rfl, ?_⟩) ?_ ?_
                  rotate_left
                  ·intro w'
                   go_simp
                   with_reducible rfl
                  rotate_left
                  ·simp only [Act.put, List.setIfInBounds_toArray, List.set_cons_zero, List.set_cons_succ, i64_w, i32_w]
                   rfl
                  refine one_ (i := 6) (N := some 168) #[true, true, true, true, true, true, true, false, true] rfl rfl (one_of HT_.out (by kernel_rfl)) (by decide) (fun K hK => ?_)
                  refine Kd.R_lit_step (Kd.int .i64) _ 3 ?hg (N := 168) ?hd (xs := ([a5, t245, wrap64 (1 + t278)] : List Int)) (inner := [.int .i64 a5, .int .i64 t245, .int .i64 (wrap64 (1 + t278))]) (ok := fun _ => True) (okp := fun _ => True) ?hr ?hp (fun _ hk => hk) trivial (Below.refl _ _) (Nat.le_refl _) (by simp) ?_; (case hd => rfl); (case hg => rfl); (case hr => first | (go_simp; done) | (go_simp; rfl)); (case hp => exact (Reps.one (show Kd.M (Kd.int .i64) _ _ _ a5 [.int .i64 a5] from rfl) (Reps.one (show Kd.M (Kd.int .i64) _ _ _ t245 [.int .i64 t245] from rfl) (Reps.one (show Kd.M (Kd.int .i64) _ _ _ (wrap64 (1 + t278)) [.int .i64 (wrap64 (1 + t278))] from rfl) (Reps.none _ _)))))
                  intro v280 w131 ho132 hb hg_ hnew_
                  clear hg_ hnew_
                  (first | rw [← Ny279.out] at ho132 | (simp only [Int.reduceToNat] at ho132; rw [← Ny279.out] at ho132))
                  have n0_ := Aside0.mk (Kd.R_below (rq HO_131.out) hb)
                  have n1_ := Aside0.mk (Kd.R_lower ho132 (below_size (by repeat (first | (with_reducible first | exact HB.out | apply below_alloc | apply pw_below_drewN | apply below_drew1 | refine below_set ?_ GE239.out | refine below_set ?_ GE248.out | refine below_set ?_ GE272.out | refine below_set ?_ GE277.out) | exact HB.out))))
                  have n2_ := Aside0.mk (blk_below (g := gb239) (o := .cells #[.int .i64 a1_0, .string a1_1] 29 (0, 0)) (bq BK239.out) hb)
                  have n3_ := Aside0.mk (blk_below (g := gb248) (o := .cells #[.int .i64 t245, .string t246] 29 (0, 0)) (bq BK248.out) hb)
                  have n4_ := Aside0.mk (blk_below (g := gb272) (o := .cells #[.int .i64 t268, .string t269] 29 (0, 0)) (bq BK272.out) hb)
                  have n5_ := Aside0.mk (blk_below (g := gb277) (o := .cells #[.int .i64 t273, .string t274] 29 (0, 0)) (bq BK277.out) hb)
                  have n6_ := Aside0.mk (below_step (by repeat (first | (with_reducible first | exact HB.out | apply below_alloc | apply pw_below_drewN | apply below_drew1 | refine below_set ?_ GE239.out | refine below_set ?_ GE248.out | refine below_set ?_ GE272.out | refine below_set ?_ GE277.out) | exact HB.out)) hb)
                  clear HO_131
                  clear BK239
                  clear BK248
                  clear BK272
                  clear BK277
                  clear HB
                  have HO_131 := n0_
                  have HO281 := n1_
                  have BK239 := n2_
                  have BK248 := n3_
                  have BK272 := n4_
                  have BK277 := n5_
                  have HB := n6_
                  clear n0_ n1_ n2_ n3_ n4_ n5_ n6_
                  clear hb ho132
                  obtain ⟨Ao133, co133, eo133⟩ := Kd.R_slice HO281.out
                  (first | subst eo133 | (injection eo133 with f1_ f2_ f3_; have f4_ := f1_.symm; have f5_ := f3_.symm; clear f1_ f2_ f3_; subst f4_; subst f5_))
                  refine hK.out _ _ ⟨(blk_cell BK248.out 0).trans rfl, (blk_cell BK248.out 1).trans rfl⟩ (fun hHeld => ?_)
                  clear hK K
                  refine norm_ (a' := ?_) ?_ ?_
                  rotate_left
                  ·show Act.put _ (some 168) _ = _
                   simp only [Act.put, List.setIfInBounds_toArray, List.set_cons_zero, List.set_cons_succ, i64_w, i32_w]
                   rfl
                  refine pure_ (i := 7) (N := some 169) (v := ?_) (a' := ?_) #[true, true, true, true, true, true, true, true, true] rfl rfl (any_of HT_.out (by kernel_rfl)) (fun _ _ _ h => h) (Or.inl ⟨by rfl, ?_⟩) ?_ ?_
                  rotate_left
                  ·intro w'
                   go_simp
                   with_reducible rfl
                  rotate_left
                  ·simp only [Act.put, List.setIfInBounds_toArray, List.set_cons_zero, List.set_cons_succ, i64_w, i32_w]
                   rfl
                  refine done_ (done_of HT_.out (by kernel_rfl)) ?_
                  try go_wp2
                  go_loopg [170] kj92 (fun kq v170 w' => ∃ (x170_5 : Int), v170 = .int .i64 x170_5 ∧ Aside0 (keyeventlaw03_PrimitiveActs.l2 kq a5 (rdOf ByteArray.empty y264 x133_3) y264 (y264.length : Int) x133_3 y279 (y279.length : Int) x170_5 t245 t246 = some r) ∧ Aside0 (kq ≤ kj92) ∧ Aside0 (Kd.R Kd.string 9 w' w.heap.size (fun _ => True) (.slice (some ad267) y264.length co87) y264) ∧ Aside0 (Kd.R (Kd.int .i64) 3 w' w.heap.size (fun _ => True) (.slice Ao133 y279.length co133) y279) ∧ Aside0 (w'.heap[gb239]? = some (.cells #[.int .i64 a1_0, .string a1_1] 29 (0, 0))) ∧ Aside0 (w'.heap[gb248]? = some (.cells #[.int .i64 t245, .string t246] 29 (0, 0))) ∧ Aside0 (w'.heap[gb272]? = some (.cells #[.int .i64 t268, .string t269] 29 (0, 0))) ∧ Aside0 (w'.heap[gb277]? = some (.cells #[.int .i64 t273, .string t274] 29 (0, 0))) ∧ Aside0 (Below w.heap.size w w'))
                  case atStart => exact ⟨(0), (by first | rfl | (simp; done) | (simp [*]; done)), H', ⟨Nat.le_refl _⟩, ⟨by (with_reducible repeat (first | apply Kd.R_alloc | apply Kd.R_drewN | apply Kd.R_drew)); exact HO_131.out⟩, ⟨by (with_reducible repeat (first | apply Kd.R_alloc | apply Kd.R_drewN | apply Kd.R_drew)); exact HO281.out⟩, ⟨by (with_reducible repeat (first | refine blk_drewN ?_ _ | refine blk_drew ?_ | refine blk_alloc ?_ _)); exact BK239.out⟩, ⟨by (with_reducible repeat (first | refine blk_drewN ?_ _ | refine blk_drew ?_ | refine blk_alloc ?_ _)); exact BK248.out⟩, ⟨by (with_reducible repeat (first | refine blk_drewN ?_ _ | refine blk_drew ?_ | refine blk_alloc ?_ _)); exact BK272.out⟩, ⟨by (with_reducible repeat (first | refine blk_drewN ?_ _ | refine blk_drew ?_ | refine blk_alloc ?_ _)); exact BK277.out⟩, ⟨by repeat (first | (with_reducible first | exact HB.out | apply below_alloc | apply pw_below_drewN | apply below_drew1 | refine below_set ?_ GE239.out | refine below_set ?_ GE248.out | refine below_set ?_ GE272.out | refine below_set ?_ GE277.out) | exact HB.out)⟩⟩
                  case round => as_aux_lemma =>
                   clear H'
                   try clear c1
                   try clear c2
                   try clear p2
                   try clear q2
                   try clear hx2
                   try clear c3
                   try clear c4
                   try clear c5
                   try clear c6
                   try clear p6
                   try clear c7
                   try clear c8
                   try clear c9
                   try clear c10
                   try clear c11
                   try clear c12
                   try clear c13
                   try clear c14
                   try clear c19
                   try clear c20
                   try clear c22
                   try clear c23
                   try clear c24
                   try clear p25
                   try clear q25
                   try clear hx25
                   try clear p26
                   try clear q26
                   try clear hx26
                   try clear c33
                   try clear c33b0
                   try clear c34
                   try clear c35
                   try clear c38
                   try clear c38b0
                   try clear c38b1
                   try clear c39
                   try clear c39b0
                   try clear c39b1
                   try clear c42
                   try clear c42b0
                   try clear c42b1
                   try clear c54
                   try clear c55
                   try clear c64
                   try clear p64
                   try clear c65
                   try clear c72
                   try clear c73
                   try clear c81
                   try clear c81b0
                   try clear c81b1
                   try clear c82
                   try clear c82b0
                   try clear c82b1
                   try clear c83
                   try clear c83b0
                   try clear c83b1
                   try clear c83b2
                   try clear c88
                   try clear c88b0
                   try clear c89
                   try clear c89b0
                   try clear c90
                   try clear c90b0
                   try clear c96
                   try clear c97
                   try clear c101
                   try clear c102
                   try clear c103
                   try clear c105
                   try clear c105b0
                   try clear c106
                   try clear c107
                   try clear c108
                   try clear c110
                   try clear c111
                   try clear c113
                   try clear c113b0
                   try clear c113b1
                   try clear c114
                   try clear c115
                   try clear c116
                   try clear c118
                   try clear c119
                   try clear c121
                   try clear c122
                   try clear c123
                   try clear c125
                   try clear c126
                   try clear c128
                   try clear hcz104_0
                   try clear hcz104_1
                   try clear hcz109_0
                   try clear hcz109_1
                   try clear hcz112_0
                   try clear hcz112_1
                   try clear hcz117_0
                   try clear hcz117_1
                   try clear hcz120_0
                   try clear hcz120_1
                   try clear hcz124_0
                   try clear hcz124_1
                   try clear hcz127_0
                   try clear hcz127_1
                   try clear hcz56_0
                   try clear hcz56_1
                   try clear hcz58_0
                   try clear hcz58_1
                   try clear hcz66_0
                   try clear hcz66_1
                   try clear hcz68_0
                   try clear hcz68_1
                   try clear hcz74_0
                   try clear hcz74_1
                   try clear hcz76_0
                   try clear hcz76_1
                   try clear hcz98_0
                   try clear hcz98_1
                   try clear hfz104_0
                   try clear hfz104_1
                   try clear hfz109_0
                   try clear hfz109_1
                   try clear hfz112_0
                   try clear hfz112_1
                   try clear hfz117_0
                   try clear hfz117_1
                   try clear hfz120_0
                   try clear hfz120_1
                   try clear hfz124_0
                   try clear hfz124_1
                   try clear hfz127_0
                   try clear hfz127_1
                   try clear hfz56_0
                   try clear hfz56_1
                   try clear hfz58_0
                   try clear hfz58_1
                   try clear hfz66_0
                   try clear hfz66_1
                   try clear hfz68_0
                   try clear hfz68_1
                   try clear hfz74_0
                   try clear hfz74_1
                   try clear hfz76_0
                   try clear hfz76_1
                   try clear hfz98_0
                   try clear hfz98_1
                   try clear hx254_0
                   try clear hx254_1
                   try clear hx267_0
                   try clear p2
                   try clear p25
                   try clear p254
                   try clear p26
                   try clear p267
                   try clear p6
                   try clear p64
                   try clear q2
                   try clear q25
                   try clear q254
                   try clear q26
                   try clear q267
                   obtain ⟨x170_5, rfl, HA, HK5, HO_131, HO_168, BK239, BK248, BK272, BK277, HB⟩ := hrel
                   cases gk with
                   | zero => exact absurd HA.out (by simp [keyeventlaw03_PrimitiveActs.l2])
                   | succ k5 =>
                    have H := HA.out
                    clear HA
                    simp only [keyeventlaw03_PrimitiveActs.l2] at H
                    by_cases c134 : x170_5 < (y279.length : Int)
                    ·rw [if_pos c134] at H
                     have c134b0 : decide (x170_5 < (y279.length : Int)) = true := decide_eq_true c134
                     clear c134
                     by_cases c135 : 0 ≤ x170_5
                     ·rw [if_pos c135] at H
                      have c135b0 : decide (0 ≤ x170_5) = true := decide_eq_true c135
                      clear c135
                      by_cases c136 : x170_5 < (y279.length : Int)
                      ·rw [if_pos c136] at H
                       have c136b0 : decide (x170_5 < (y279.length : Int)) = true := decide_eq_true c136
                       clear c136
                       replace H := Option.bind_eq_some_iff.mp H
                       obtain ⟨⟨t283, t284⟩, A1370, H⟩ := H
                       replace H : ((keyeventref03_Open.f k5 (rd y279 x170_5) (rdOf ByteArray.empty y264 x133_3)).bind fun bt285 => (if t283.toList = bt285.1.toList then (if t284 = bt285.2 then (keyeventlaw03_PrimitiveActs.l2 k5 a5 (rdOf ByteArray.empty y264 x133_3) y264 (y264.length : Int) x133_3 y279 (y279.length : Int) (wrap64 (x170_5 + 1)) t245 t246) else (some false)) else (some false))) = some r := H
                       have A137 := Aside0.mk A1370
                       clear A1370
                       replace H := Option.bind_eq_some_iff.mp H
                       obtain ⟨⟨t285, t286⟩, A1380, H⟩ := H
                       replace H : (if t283.toList = t285.toList then (if t284 = t286 then (keyeventlaw03_PrimitiveActs.l2 k5 a5 (rdOf ByteArray.empty y264 x133_3) y264 (y264.length : Int) x133_3 y279 (y279.length : Int) (wrap64 (x170_5 + 1)) t245 t246) else (some false)) else (some false)) = some r := H
                       have A138 := Aside0.mk A1380
                       clear A1380
                       by_cases c139 : t283.toList = t285.toList
                       ·rw [if_pos c139] at H
                        have c139b0 : (t283.toList == t285.toList) = true := beq_iff_eq.mpr c139
                        have c139b1 : (t283.toList != t285.toList) = false := bne_eq_false_iff_eq.mpr c139
                        clear c139
                        by_cases c140 : t284 = t286
                        ·rw [if_pos c140] at H
                         have c140b0 : (t284 == t286) = true := beq_iff_eq.mpr c140
                         have c140b1 : (t284 != t286) = false := bne_eq_false_iff_eq.mpr c140
                         clear c140
                         have H' := Aside0.mk H
                         clear H
                         have p282 : 0 ≤ (x170_5 : Int) := of_decide_eq_true aq
                         have q282 : x170_5 < (y279.length : Int) := of_decide_eq_true aq
                         obtain ⟨ad282, e282, hx282_0⟩ := Kd.at_int (Kd.R_reads' HO_168.out).2.2 x170_5 p282 q282
                         cases e282
                         replace p282 := eq_true p282
                         replace q282 := eq_true q282
                         go_wp2_with (first | ((with_reducible refine gate_callee (f := 21) rfl ?_); refine goesL_ (some 177) rfl rfl Try.func21 (by kernel_rfl) rfl #[.int .i64 (rd y279 x170_5), .string (rdOf ByteArray.empty y264 x133_3)] rfl eq_ ?_; (with_reducible refine (primitive_Open.calls k5 (rd y279 x170_5) (rdOf ByteArray.empty y264 x133_3) t283 t284 _ A137.out).mono ?_); rintro e w141 ⟨rfl, hb⟩; refine ⟨_, rfl, ?_⟩; have n0_ := Aside0.mk (Kd.R_below (rq HO_131.out) hb); have n1_ := Aside0.mk (Kd.R_below (rq HO_168.out) hb); have n2_ := Aside0.mk (blk_below (g := gb239) (o := .cells #[.int .i64 a1_0, .string a1_1] 29 (0, 0)) (bq BK239.out) hb); have n3_ := Aside0.mk (blk_below (g := gb248) (o := .cells #[.int .i64 t245, .string t246] 29 (0, 0)) (bq BK248.out) hb); have n4_ := Aside0.mk (blk_below (g := gb272) (o := .cells #[.int .i64 t268, .string t269] 29 (0, 0)) (bq BK272.out) hb); have n5_ := Aside0.mk (blk_below (g := gb277) (o := .cells #[.int .i64 t273, .string t274] 29 (0, 0)) (bq BK277.out) hb); have n6_ := Aside0.mk (below_step (by repeat (first | (with_reducible first | exact HB.out | apply below_alloc | apply pw_below_drewN | apply below_drew1 | refine below_set ?_ GE239.out | refine below_set ?_ GE248.out | refine below_set ?_ GE272.out | refine below_set ?_ GE277.out) | exact HB.out)) hb); clear HO_131; clear HO_168; clear BK239; clear BK248; clear BK272; clear BK277; clear HB; have HO_131 := n0_; have HO_168 := n1_; have BK239 := n2_; have BK248 := n3_; have BK272 := n4_; have BK277 := n5_; have HB := n6_; clear n0_ n1_ n2_ n3_ n4_ n5_ n6_; (try clear hb); (try clear hb2); (try clear hk); (try clear hi)) | ((with_reducible refine gate_callee (f := 25) rfl ?_); refine goesL_ (some 183) rfl rfl Try.func25 (by kernel_rfl) rfl #[.int .i64 (rd y279 x170_5), .string (rdOf ByteArray.empty y264 x133_3)] rfl eq_ ?_; (with_reducible refine (keyeventref03_Open.calls k5 (rd y279 x170_5) (rdOf ByteArray.empty y264 x133_3) t285 t286 _ A138.out).mono ?_); rintro e w142 ⟨rfl, hb⟩; refine ⟨_, rfl, ?_⟩; have n0_ := Aside0.mk (Kd.R_below (rq HO_131.out) hb); have n1_ := Aside0.mk (Kd.R_below (rq HO_168.out) hb); have n2_ := Aside0.mk (blk_below (g := gb239) (o := .cells #[.int .i64 a1_0, .string a1_1] 29 (0, 0)) (bq BK239.out) hb); have n3_ := Aside0.mk (blk_below (g := gb248) (o := .cells #[.int .i64 t245, .string t246] 29 (0, 0)) (bq BK248.out) hb); have n4_ := Aside0.mk (blk_below (g := gb272) (o := .cells #[.int .i64 t268, .string t269] 29 (0, 0)) (bq BK272.out) hb); have n5_ := Aside0.mk (blk_below (g := gb277) (o := .cells #[.int .i64 t273, .string t274] 29 (0, 0)) (bq BK277.out) hb); have n6_ := Aside0.mk (below_step (by repeat (first | (with_reducible first | exact HB.out | apply below_alloc | apply pw_below_drewN | apply below_drew1 | refine below_set ?_ GE239.out | refine below_set ?_ GE248.out | refine below_set ?_ GE272.out | refine below_set ?_ GE277.out) | exact HB.out)) hb); clear HO_131; clear HO_168; clear BK239; clear BK248; clear BK272; clear BK277; clear HB; have HO_131 := n0_; have HO_168 := n1_; have BK239 := n2_; have BK248 := n3_; have BK272 := n4_; have BK277 := n5_; have HB := n6_; clear n0_ n1_ n2_ n3_ n4_ n5_ n6_; (try clear hb); (try clear hb2); (try clear hk); (try clear hi)))
                         go_roundg k5
                         case measure => have := HJ6.out; have := HK2.out; have := HK3.out; have := HJ92.out; have := HK5.out; omega
                         case rel => exact ⟨(wrap64 (x170_5 + 1)), (by first | rfl | (simp; done) | (simp [*]; done)), H', ⟨by have := HJ6.out; have := HK2.out; have := HK3.out; have := HJ92.out; have := HK5.out; omega⟩, ⟨by (with_reducible repeat (first | apply Kd.R_alloc | apply Kd.R_drewN | apply Kd.R_drew)); exact HO_131.out⟩, ⟨by (with_reducible repeat (first | apply Kd.R_alloc | apply Kd.R_drewN | apply Kd.R_drew)); exact HO_168.out⟩, ⟨by (with_reducible repeat (first | refine blk_drewN ?_ _ | refine blk_drew ?_ | refine blk_alloc ?_ _)); exact BK239.out⟩, ⟨by (with_reducible repeat (first | refine blk_drewN ?_ _ | refine blk_drew ?_ | refine blk_alloc ?_ _)); exact BK248.out⟩, ⟨by (with_reducible repeat (first | refine blk_drewN ?_ _ | refine blk_drew ?_ | refine blk_alloc ?_ _)); exact BK272.out⟩, ⟨by (with_reducible repeat (first | refine blk_drewN ?_ _ | refine blk_drew ?_ | refine blk_alloc ?_ _)); exact BK277.out⟩, ⟨by repeat (first | (with_reducible first | exact HB.out | apply below_alloc | apply pw_below_drewN | apply below_drew1 | refine below_set ?_ GE239.out | refine below_set ?_ GE248.out | refine below_set ?_ GE272.out | refine below_set ?_ GE277.out) | exact HB.out)⟩⟩
                        ·rw [if_neg c140] at H
                         have c140b0 : (t284 == t286) = false := beq_eq_false_iff_ne.mpr c140
                         have c140b1 : (t284 != t286) = true := bne_iff_ne.mpr c140
                         obtain rfl := Option.some.inj H
                         have p282 : 0 ≤ (x170_5 : Int) := of_decide_eq_true aq
                         have q282 : x170_5 < (y279.length : Int) := of_decide_eq_true aq
                         obtain ⟨ad282, e282, hx282_0⟩ := Kd.at_int (Kd.R_reads' HO_168.out).2.2 x170_5 p282 q282
                         cases e282
                         replace p282 := eq_true p282
                         replace q282 := eq_true q282
                         go_wp2_with (first | ((with_reducible refine gate_callee (f := 21) rfl ?_); refine goesL_ (some 177) rfl rfl Try.func21 (by kernel_rfl) rfl #[.int .i64 (rd y279 x170_5), .string (rdOf ByteArray.empty y264 x133_3)] rfl eq_ ?_; (with_reducible refine (primitive_Open.calls k5 (rd y279 x170_5) (rdOf ByteArray.empty y264 x133_3) t283 t284 _ A137.out).mono ?_); rintro e w143 ⟨rfl, hb⟩; refine ⟨_, rfl, ?_⟩; have n0_ := Aside0.mk (Kd.R_below (rq HO_131.out) hb); have n1_ := Aside0.mk (Kd.R_below (rq HO_168.out) hb); have n2_ := Aside0.mk (blk_below (g := gb239) (o := .cells #[.int .i64 a1_0, .string a1_1] 29 (0, 0)) (bq BK239.out) hb); have n3_ := Aside0.mk (blk_below (g := gb248) (o := .cells #[.int .i64 t245, .string t246] 29 (0, 0)) (bq BK248.out) hb); have n4_ := Aside0.mk (blk_below (g := gb272) (o := .cells #[.int .i64 t268, .string t269] 29 (0, 0)) (bq BK272.out) hb); have n5_ := Aside0.mk (blk_below (g := gb277) (o := .cells #[.int .i64 t273, .string t274] 29 (0, 0)) (bq BK277.out) hb); have n6_ := Aside0.mk (below_step (by repeat (first | (with_reducible first | exact HB.out | apply below_alloc | apply pw_below_drewN | apply below_drew1 | refine below_set ?_ GE239.out | refine below_set ?_ GE248.out | refine below_set ?_ GE272.out | refine below_set ?_ GE277.out) | exact HB.out)) hb); clear HO_131; clear HO_168; clear BK239; clear BK248; clear BK272; clear BK277; clear HB; have HO_131 := n0_; have HO_168 := n1_; have BK239 := n2_; have BK248 := n3_; have BK272 := n4_; have BK277 := n5_; have HB := n6_; clear n0_ n1_ n2_ n3_ n4_ n5_ n6_; (try clear hb); (try clear hb2); (try clear hk); (try clear hi)) | ((with_reducible refine gate_callee (f := 25) rfl ?_); refine goesL_ (some 183) rfl rfl Try.func25 (by kernel_rfl) rfl #[.int .i64 (rd y279 x170_5), .string (rdOf ByteArray.empty y264 x133_3)] rfl eq_ ?_; (with_reducible refine (keyeventref03_Open.calls k5 (rd y279 x170_5) (rdOf ByteArray.empty y264 x133_3) t285 t286 _ A138.out).mono ?_); rintro e w144 ⟨rfl, hb⟩; refine ⟨_, rfl, ?_⟩; have n0_ := Aside0.mk (Kd.R_below (rq HO_131.out) hb); have n1_ := Aside0.mk (Kd.R_below (rq HO_168.out) hb); have n2_ := Aside0.mk (blk_below (g := gb239) (o := .cells #[.int .i64 a1_0, .string a1_1] 29 (0, 0)) (bq BK239.out) hb); have n3_ := Aside0.mk (blk_below (g := gb248) (o := .cells #[.int .i64 t245, .string t246] 29 (0, 0)) (bq BK248.out) hb); have n4_ := Aside0.mk (blk_below (g := gb272) (o := .cells #[.int .i64 t268, .string t269] 29 (0, 0)) (bq BK272.out) hb); have n5_ := Aside0.mk (blk_below (g := gb277) (o := .cells #[.int .i64 t273, .string t274] 29 (0, 0)) (bq BK277.out) hb); have n6_ := Aside0.mk (below_step (by repeat (first | (with_reducible first | exact HB.out | apply below_alloc | apply pw_below_drewN | apply below_drew1 | refine below_set ?_ GE239.out | refine below_set ?_ GE248.out | refine below_set ?_ GE272.out | refine below_set ?_ GE277.out) | exact HB.out)) hb); clear HO_131; clear HO_168; clear BK239; clear BK248; clear BK272; clear BK277; clear HB; have HO_131 := n0_; have HO_168 := n1_; have BK239 := n2_; have BK248 := n3_; have BK272 := n4_; have BK277 := n5_; have HB := n6_; clear n0_ n1_ n2_ n3_ n4_ n5_ n6_; (try clear hb); (try clear hb2); (try clear hk); (try clear hi)))
                         go_ret
                         exact ⟨by first | rfl | (simp [errW_none, errW_some] <;> rfl) | (simp [*, errW_none, errW_some] <;> rfl), by repeat (first | (with_reducible first | exact HB.out | apply below_alloc | apply pw_below_drewN | apply below_drew1 | refine below_set ?_ GE239.out | refine below_set ?_ GE248.out | refine below_set ?_ GE272.out | refine below_set ?_ GE277.out) | exact HB.out)⟩
                       ·rw [if_neg c139] at H
                        have c139b0 : (t283.toList == t285.toList) = false := beq_eq_false_iff_ne.mpr c139
                        have c139b1 : (t283.toList != t285.toList) = true := bne_iff_ne.mpr c139
                        obtain rfl := Option.some.inj H
                        have p282 : 0 ≤ (x170_5 : Int) := of_decide_eq_true aq
                        have q282 : x170_5 < (y279.length : Int) := of_decide_eq_true aq
                        obtain ⟨ad282, e282, hx282_0⟩ := Kd.at_int (Kd.R_reads' HO_168.out).2.2 x170_5 p282 q282
                        cases e282
                        replace p282 := eq_true p282
                        replace q282 := eq_true q282
                        go_wp2_with (first | ((with_reducible refine gate_callee (f := 21) rfl ?_); refine goesL_ (some 177) rfl rfl Try.func21 (by kernel_rfl) rfl #[.int .i64 (rd y279 x170_5), .string (rdOf ByteArray.empty y264 x133_3)] rfl eq_ ?_; (with_reducible refine (primitive_Open.calls k5 (rd y279 x170_5) (rdOf ByteArray.empty y264 x133_3) t283 t284 _ A137.out).mono ?_); rintro e w145 ⟨rfl, hb⟩; refine ⟨_, rfl, ?_⟩; have n0_ := Aside0.mk (Kd.R_below (rq HO_131.out) hb); have n1_ := Aside0.mk (Kd.R_below (rq HO_168.out) hb); have n2_ := Aside0.mk (blk_below (g := gb239) (o := .cells #[.int .i64 a1_0, .string a1_1] 29 (0, 0)) (bq BK239.out) hb); have n3_ := Aside0.mk (blk_below (g := gb248) (o := .cells #[.int .i64 t245, .string t246] 29 (0, 0)) (bq BK248.out) hb); have n4_ := Aside0.mk (blk_below (g := gb272) (o := .cells #[.int .i64 t268, .string t269] 29 (0, 0)) (bq BK272.out) hb); have n5_ := Aside0.mk (blk_below (g := gb277) (o := .cells #[.int .i64 t273, .string t274] 29 (0, 0)) (bq BK277.out) hb); have n6_ := Aside0.mk (below_step (by repeat (first | (with_reducible first | exact HB.out | apply below_alloc | apply pw_below_drewN | apply below_drew1 | refine below_set ?_ GE239.out | refine below_set ?_ GE248.out | refine below_set ?_ GE272.out | refine below_set ?_ GE277.out) | exact HB.out)) hb); clear HO_131; clear HO_168; clear BK239; clear BK248; clear BK272; clear BK277; clear HB; have HO_131 := n0_; have HO_168 := n1_; have BK239 := n2_; have BK248 := n3_; have BK272 := n4_; have BK277 := n5_; have HB := n6_; clear n0_ n1_ n2_ n3_ n4_ n5_ n6_; (try clear hb); (try clear hb2); (try clear hk); (try clear hi)) | ((with_reducible refine gate_callee (f := 25) rfl ?_); refine goesL_ (some 183) rfl rfl Try.func25 (by kernel_rfl) rfl #[.int .i64 (rd y279 x170_5), .string (rdOf ByteArray.empty y264 x133_3)] rfl eq_ ?_; (with_reducible refine (keyeventref03_Open.calls k5 (rd y279 x170_5) (rdOf ByteArray.empty y264 x133_3) t285 t286 _ A138.out).mono ?_); rintro e w146 ⟨rfl, hb⟩; refine ⟨_, rfl, ?_⟩; have n0_ := Aside0.mk (Kd.R_below (rq HO_131.out) hb); have n1_ := Aside0.mk (Kd.R_below (rq HO_168.out) hb); have n2_ := Aside0.mk (blk_below (g := gb239) (o := .cells #[.int .i64 a1_0, .string a1_1] 29 (0, 0)) (bq BK239.out) hb); have n3_ := Aside0.mk (blk_below (g := gb248) (o := .cells #[.int .i64 t245, .string t246] 29 (0, 0)) (bq BK248.out) hb); have n4_ := Aside0.mk (blk_below (g := gb272) (o := .cells #[.int .i64 t268, .string t269] 29 (0, 0)) (bq BK272.out) hb); have n5_ := Aside0.mk (blk_below (g := gb277) (o := .cells #[.int .i64 t273, .string t274] 29 (0, 0)) (bq BK277.out) hb); have n6_ := Aside0.mk (below_step (by repeat (first | (with_reducible first | exact HB.out | apply below_alloc | apply pw_below_drewN | apply below_drew1 | refine below_set ?_ GE239.out | refine below_set ?_ GE248.out | refine below_set ?_ GE272.out | refine below_set ?_ GE277.out) | exact HB.out)) hb); clear HO_131; clear HO_168; clear BK239; clear BK248; clear BK272; clear BK277; clear HB; have HO_131 := n0_; have HO_168 := n1_; have BK239 := n2_; have BK248 := n3_; have BK272 := n4_; have BK277 := n5_; have HB := n6_; clear n0_ n1_ n2_ n3_ n4_ n5_ n6_; (try clear hb); (try clear hb2); (try clear hk); (try clear hi)))
                        go_ret
                        exact ⟨by first | rfl | (simp [errW_none, errW_some] <;> rfl) | (simp [*, errW_none, errW_some] <;> rfl), by repeat (first | (with_reducible first | exact HB.out | apply below_alloc | apply pw_below_drewN | apply below_drew1 | refine below_set ?_ GE239.out | refine below_set ?_ GE248.out | refine below_set ?_ GE272.out | refine below_set ?_ GE277.out) | exact HB.out)⟩
                      ·rw [if_neg c136] at H
                       exact absurd H (by simp)
                     ·rw [if_neg c135] at H
                      exact absurd H (by simp)
                    ·rw [if_neg c134] at H
                     have c134b0 : decide (x170_5 < (y279.length : Int)) = false := decide_eq_false c134
                     clear c134
                     replace H := Option.bind_eq_some_iff.mp H
                     obtain ⟨⟨t287, t288⟩, A1470, H⟩ := H
                     replace H : ((keyeventref03_Binary.f k5 (rdOf ByteArray.empty y264 x133_3)).bind fun bt289 => ((primitive_Text.f k5 (rdOf ByteArray.empty y264 x133_3)).bind fun bt291 => ((keyeventref03_Text.f k5 (rdOf ByteArray.empty y264 x133_3)).bind fun bt293 => (if t287.toList = bt289.1.toList then (if t288 = bt289.2 then (if bt291.1.toList = bt293.1.toList then (if bt291.2 = bt293.2 then (keyeventlaw03_PrimitiveActs.l1 k5 a5 y264 (y264.length : Int) (wrap64 (x133_3 + 1)) t245 t246) else (some false)) else (some false)) else (some false)) else (some false))))) = some r := H
                     have A147 := Aside0.mk A1470
                     clear A1470
                     replace H := Option.bind_eq_some_iff.mp H
                     obtain ⟨⟨t289, t290⟩, A1480, H⟩ := H
                     replace H : ((primitive_Text.f k5 (rdOf ByteArray.empty y264 x133_3)).bind fun bt291 => ((keyeventref03_Text.f k5 (rdOf ByteArray.empty y264 x133_3)).bind fun bt293 => (if t287.toList = t289.toList then (if t288 = t290 then (if bt291.1.toList = bt293.1.toList then (if bt291.2 = bt293.2 then (keyeventlaw03_PrimitiveActs.l1 k5 a5 y264 (y264.length : Int) (wrap64 (x133_3 + 1)) t245 t246) else (some false)) else (some false)) else (some false)) else (some false)))) = some r := H
                     have A148 := Aside0.mk A1480
                     clear A1480
                     replace H := Option.bind_eq_some_iff.mp H
                     obtain ⟨⟨t291, t292⟩, A1490, H⟩ := H
                     replace H : ((keyeventref03_Text.f k5 (rdOf ByteArray.empty y264 x133_3)).bind fun bt293 => (if t287.toList = t289.toList then (if t288 = t290 then (if t291.toList = bt293.1.toList then (if t292 = bt293.2 then (keyeventlaw03_PrimitiveActs.l1 k5 a5 y264 (y264.length : Int) (wrap64 (x133_3 + 1)) t245 t246) else (some false)) else (some false)) else (some false)) else (some false))) = some r := H
                     have A149 := Aside0.mk A1490
                     clear A1490
                     replace H := Option.bind_eq_some_iff.mp H
                     obtain ⟨⟨t293, t294⟩, A1500, H⟩ := H
                     replace H : (if t287.toList = t289.toList then (if t288 = t290 then (if t291.toList = t293.toList then (if t292 = t294 then (keyeventlaw03_PrimitiveActs.l1 k5 a5 y264 (y264.length : Int) (wrap64 (x133_3 + 1)) t245 t246) else (some false)) else (some false)) else (some false)) else (some false)) = some r := H
                     have A150 := Aside0.mk A1500
                     clear A1500
                     by_cases c151 : t287.toList = t289.toList
                     ·rw [if_pos c151] at H
                      have c151b0 : (t287.toList == t289.toList) = true := beq_iff_eq.mpr c151
                      have c151b1 : (t287.toList != t289.toList) = false := bne_eq_false_iff_eq.mpr c151
                      clear c151
                      by_cases c152 : t288 = t290
                      ·rw [if_pos c152] at H
                       have c152b0 : (t288 == t290) = true := beq_iff_eq.mpr c152
                       have c152b1 : (t288 != t290) = false := bne_eq_false_iff_eq.mpr c152
                       clear c152
                       by_cases c153 : t291.toList = t293.toList
                       ·rw [if_pos c153] at H
                        have c153b0 : (t291.toList == t293.toList) = true := beq_iff_eq.mpr c153
                        have c153b1 : (t291.toList != t293.toList) = false := bne_eq_false_iff_eq.mpr c153
                        clear c153
                        by_cases c154 : t292 = t294
                        ·rw [if_pos c154] at H
                         have c154b0 : (t292 == t294) = true := beq_iff_eq.mpr c154
                         have c154b1 : (t292 != t294) = false := bne_eq_false_iff_eq.mpr c154
                         clear c154
                         have H' := Aside0.mk H
                         clear H
                         go_wp2_with (first | ((with_reducible refine gate_callee (f := 16) rfl ?_); refine goesL_ (some 197) rfl rfl Try.func16 (by kernel_rfl) rfl #[.string (rdOf ByteArray.empty y264 x133_3)] rfl eq_ ?_; (with_reducible refine (primitive_Binary.calls k5 (rdOf ByteArray.empty y264 x133_3) t287 t288 _ A147.out).mono ?_); rintro e w155 ⟨rfl, hb⟩; refine ⟨_, rfl, ?_⟩; have n0_ := Aside0.mk (Kd.R_below (rq HO_131.out) hb); have n1_ := Aside0.mk (Kd.R_below (rq HO_168.out) hb); have n2_ := Aside0.mk (blk_below (g := gb239) (o := .cells #[.int .i64 a1_0, .string a1_1] 29 (0, 0)) (bq BK239.out) hb); have n3_ := Aside0.mk (blk_below (g := gb248) (o := .cells #[.int .i64 t245, .string t246] 29 (0, 0)) (bq BK248.out) hb); have n4_ := Aside0.mk (blk_below (g := gb272) (o := .cells #[.int .i64 t268, .string t269] 29 (0, 0)) (bq BK272.out) hb); have n5_ := Aside0.mk (blk_below (g := gb277) (o := .cells #[.int .i64 t273, .string t274] 29 (0, 0)) (bq BK277.out) hb); have n6_ := Aside0.mk (below_step (by repeat (first | (with_reducible first | exact HB.out | apply below_alloc | apply pw_below_drewN | apply below_drew1 | refine below_set ?_ GE239.out | refine below_set ?_ GE248.out | refine below_set ?_ GE272.out | refine below_set ?_ GE277.out) | exact HB.out)) hb); clear HO_131; clear HO_168; clear BK239; clear BK248; clear BK272; clear BK277; clear HB; have HO_131 := n0_; have HO_168 := n1_; have BK239 := n2_; have BK248 := n3_; have BK272 := n4_; have BK277 := n5_; have HB := n6_; clear n0_ n1_ n2_ n3_ n4_ n5_ n6_; (try clear hb); (try clear hb2); (try clear hk); (try clear hi)) | ((with_reducible refine gate_callee (f := 26) rfl ?_); refine goesL_ (some 202) rfl rfl Try.func26 (by kernel_rfl) rfl #[.string (rdOf ByteArray.empty y264 x133_3)] rfl eq_ ?_; (with_reducible refine (keyeventref03_Binary.calls k5 (rdOf ByteArray.empty y264 x133_3) t289 t290 _ A148.out).mono ?_); rintro e w156 ⟨rfl, hb⟩; refine ⟨_, rfl, ?_⟩; have n0_ := Aside0.mk (Kd.R_below (rq HO_131.out) hb); have n1_ := Aside0.mk (Kd.R_below (rq HO_168.out) hb); have n2_ := Aside0.mk (blk_below (g := gb239) (o := .cells #[.int .i64 a1_0, .string a1_1] 29 (0, 0)) (bq BK239.out) hb); have n3_ := Aside0.mk (blk_below (g := gb248) (o := .cells #[.int .i64 t245, .string t246] 29 (0, 0)) (bq BK248.out) hb); have n4_ := Aside0.mk (blk_below (g := gb272) (o := .cells #[.int .i64 t268, .string t269] 29 (0, 0)) (bq BK272.out) hb); have n5_ := Aside0.mk (blk_below (g := gb277) (o := .cells #[.int .i64 t273, .string t274] 29 (0, 0)) (bq BK277.out) hb); have n6_ := Aside0.mk (below_step (by repeat (first | (with_reducible first | exact HB.out | apply below_alloc | apply pw_below_drewN | apply below_drew1 | refine below_set ?_ GE239.out | refine below_set ?_ GE248.out | refine below_set ?_ GE272.out | refine below_set ?_ GE277.out) | exact HB.out)) hb); clear HO_131; clear HO_168; clear BK239; clear BK248; clear BK272; clear BK277; clear HB; have HO_131 := n0_; have HO_168 := n1_; have BK239 := n2_; have BK248 := n3_; have BK272 := n4_; have BK277 := n5_; have HB := n6_; clear n0_ n1_ n2_ n3_ n4_ n5_ n6_; (try clear hb); (try clear hb2); (try clear hk); (try clear hi)) | ((with_reducible refine gate_callee (f := 17) rfl ?_); refine goesL_ (some 207) rfl rfl Try.func17 (by kernel_rfl) rfl #[.string (rdOf ByteArray.empty y264 x133_3)] rfl eq_ ?_; (with_reducible refine (primitive_Text.calls k5 (rdOf ByteArray.empty y264 x133_3) t291 t292 _ A149.out).mono ?_); rintro e w157 ⟨rfl, hb⟩; refine ⟨_, rfl, ?_⟩; have n0_ := Aside0.mk (Kd.R_below (rq HO_131.out) hb); have n1_ := Aside0.mk (Kd.R_below (rq HO_168.out) hb); have n2_ := Aside0.mk (blk_below (g := gb239) (o := .cells #[.int .i64 a1_0, .string a1_1] 29 (0, 0)) (bq BK239.out) hb); have n3_ := Aside0.mk (blk_below (g := gb248) (o := .cells #[.int .i64 t245, .string t246] 29 (0, 0)) (bq BK248.out) hb); have n4_ := Aside0.mk (blk_below (g := gb272) (o := .cells #[.int .i64 t268, .string t269] 29 (0, 0)) (bq BK272.out) hb); have n5_ := Aside0.mk (blk_below (g := gb277) (o := .cells #[.int .i64 t273, .string t274] 29 (0, 0)) (bq BK277.out) hb); have n6_ := Aside0.mk (below_step (by repeat (first | (with_reducible first | exact HB.out | apply below_alloc | apply pw_below_drewN | apply below_drew1 | refine below_set ?_ GE239.out | refine below_set ?_ GE248.out | refine below_set ?_ GE272.out | refine below_set ?_ GE277.out) | exact HB.out)) hb); clear HO_131; clear HO_168; clear BK239; clear BK248; clear BK272; clear BK277; clear HB; have HO_131 := n0_; have HO_168 := n1_; have BK239 := n2_; have BK248 := n3_; have BK272 := n4_; have BK277 := n5_; have HB := n6_; clear n0_ n1_ n2_ n3_ n4_ n5_ n6_; (try clear hb); (try clear hb2); (try clear hk); (try clear hi)) | ((with_reducible refine gate_callee (f := 27) rfl ?_); refine goesL_ (some 212) rfl rfl Try.func27 (by kernel_rfl) rfl #[.string (rdOf ByteArray.empty y264 x133_3)] rfl eq_ ?_; (with_reducible refine (keyeventref03_Text.calls k5 (rdOf ByteArray.empty y264 x133_3) t293 t294 _ A150.out).mono ?_); rintro e w158 ⟨rfl, hb⟩; refine ⟨_, rfl, ?_⟩; have n0_ := Aside0.mk (Kd.R_below (rq HO_131.out) hb); have n1_ := Aside0.mk (Kd.R_below (rq HO_168.out) hb); have n2_ := Aside0.mk (blk_below (g := gb239) (o := .cells #[.int .i64 a1_0, .string a1_1] 29 (0, 0)) (bq BK239.out) hb); have n3_ := Aside0.mk (blk_below (g := gb248) (o := .cells #[.int .i64 t245, .string t246] 29 (0, 0)) (bq BK248.out) hb); have n4_ := Aside0.mk (blk_below (g := gb272) (o := .cells #[.int .i64 t268, .string t269] 29 (0, 0)) (bq BK272.out) hb); have n5_ := Aside0.mk (blk_below (g := gb277) (o := .cells #[.int .i64 t273, .string t274] 29 (0, 0)) (bq BK277.out) hb); have n6_ := Aside0.mk (below_step (by repeat (first | (with_reducible first | exact HB.out | apply below_alloc | apply pw_below_drewN | apply below_drew1 | refine below_set ?_ GE239.out | refine below_set ?_ GE248.out | refine below_set ?_ GE272.out | refine below_set ?_ GE277.out) | exact HB.out)) hb); clear HO_131; clear HO_168; clear BK239; clear BK248; clear BK272; clear BK277; clear HB; have HO_131 := n0_; have HO_168 := n1_; have BK239 := n2_; have BK248 := n3_; have BK272 := n4_; have BK277 := n5_; have HB := n6_; clear n0_ n1_ n2_ n3_ n4_ n5_ n6_; (try clear hb); (try clear hb2); (try clear hk); (try clear hi)))
                         go_roundg k5
                         case measure => have := HJ6.out; have := HK2.out; have := HK3.out; have := HJ92.out; have := HK5.out; omega
                         case rel => exact ⟨(wrap64 (x133_3 + 1)), (by first | rfl | (simp; done) | (simp [*]; done)), H', ⟨by have := HJ6.out; have := HK2.out; have := HK3.out; have := HJ92.out; have := HK5.out; omega⟩, ⟨by (with_reducible repeat (first | apply Kd.R_alloc | apply Kd.R_drewN | apply Kd.R_drew)); exact HO_131.out⟩, ⟨by (with_reducible repeat (first | refine blk_drewN ?_ _ | refine blk_drew ?_ | refine blk_alloc ?_ _)); exact BK239.out⟩, ⟨by (with_reducible repeat (first | refine blk_drewN ?_ _ | refine blk_drew ?_ | refine blk_alloc ?_ _)); exact BK248.out⟩, ⟨by repeat (first | (with_reducible first | exact HB.out | apply below_alloc | apply pw_below_drewN | apply below_drew1 | refine below_set ?_ GE239.out | refine below_set ?_ GE248.out | refine below_set ?_ GE272.out | refine below_set ?_ GE277.out) | exact HB.out)⟩⟩
                        ·rw [if_neg c154] at H
                         have c154b0 : (t292 == t294) = false := beq_eq_false_iff_ne.mpr c154
                         have c154b1 : (t292 != t294) = true := bne_iff_ne.mpr c154
                         obtain rfl := Option.some.inj H
                         go_wp2_with (first | ((with_reducible refine gate_callee (f := 16) rfl ?_); refine goesL_ (some 197) rfl rfl Try.func16 (by kernel_rfl) rfl #[.string (rdOf ByteArray.empty y264 x133_3)] rfl eq_ ?_; (with_reducible refine (primitive_Binary.calls k5 (rdOf ByteArray.empty y264 x133_3) t287 t288 _ A147.out).mono ?_); rintro e w159 ⟨rfl, hb⟩; refine ⟨_, rfl, ?_⟩; have n0_ := Aside0.mk (Kd.R_below (rq HO_131.out) hb); have n1_ := Aside0.mk (Kd.R_below (rq HO_168.out) hb); have n2_ := Aside0.mk (blk_below (g := gb239) (o := .cells #[.int .i64 a1_0, .string a1_1] 29 (0, 0)) (bq BK239.out) hb); have n3_ := Aside0.mk (blk_below (g := gb248) (o := .cells #[.int .i64 t245, .string t246] 29 (0, 0)) (bq BK248.out) hb); have n4_ := Aside0.mk (blk_below (g := gb272) (o := .cells #[.int .i64 t268, .string t269] 29 (0, 0)) (bq BK272.out) hb); have n5_ := Aside0.mk (blk_below (g := gb277) (o := .cells #[.int .i64 t273, .string t274] 29 (0, 0)) (bq BK277.out) hb); have n6_ := Aside0.mk (below_step (by repeat (first | (with_reducible first | exact HB.out | apply below_alloc | apply pw_below_drewN | apply below_drew1 | refine below_set ?_ GE239.out | refine below_set ?_ GE248.out | refine below_set ?_ GE272.out | refine below_set ?_ GE277.out) | exact HB.out)) hb); clear HO_131; clear HO_168; clear BK239; clear BK248; clear BK272; clear BK277; clear HB; have HO_131 := n0_; have HO_168 := n1_; have BK239 := n2_; have BK248 := n3_; have BK272 := n4_; have BK277 := n5_; have HB := n6_; clear n0_ n1_ n2_ n3_ n4_ n5_ n6_; (try clear hb); (try clear hb2); (try clear hk); (try clear hi)) | ((with_reducible refine gate_callee (f := 26) rfl ?_); refine goesL_ (some 202) rfl rfl Try.func26 (by kernel_rfl) rfl #[.string (rdOf ByteArray.empty y264 x133_3)] rfl eq_ ?_; (with_reducible refine (keyeventref03_Binary.calls k5 (rdOf ByteArray.empty y264 x133_3) t289 t290 _ A148.out).mono ?_); rintro e w160 ⟨rfl, hb⟩; refine ⟨_, rfl, ?_⟩; have n0_ := Aside0.mk (Kd.R_below (rq HO_131.out) hb); have n1_ := Aside0.mk (Kd.R_below (rq HO_168.out) hb); have n2_ := Aside0.mk (blk_below (g := gb239) (o := .cells #[.int .i64 a1_0, .string a1_1] 29 (0, 0)) (bq BK239.out) hb); have n3_ := Aside0.mk (blk_below (g := gb248) (o := .cells #[.int .i64 t245, .string t246] 29 (0, 0)) (bq BK248.out) hb); have n4_ := Aside0.mk (blk_below (g := gb272) (o := .cells #[.int .i64 t268, .string t269] 29 (0, 0)) (bq BK272.out) hb); have n5_ := Aside0.mk (blk_below (g := gb277) (o := .cells #[.int .i64 t273, .string t274] 29 (0, 0)) (bq BK277.out) hb); have n6_ := Aside0.mk (below_step (by repeat (first | (with_reducible first | exact HB.out | apply below_alloc | apply pw_below_drewN | apply below_drew1 | refine below_set ?_ GE239.out | refine below_set ?_ GE248.out | refine below_set ?_ GE272.out | refine below_set ?_ GE277.out) | exact HB.out)) hb); clear HO_131; clear HO_168; clear BK239; clear BK248; clear BK272; clear BK277; clear HB; have HO_131 := n0_; have HO_168 := n1_; have BK239 := n2_; have BK248 := n3_; have BK272 := n4_; have BK277 := n5_; have HB := n6_; clear n0_ n1_ n2_ n3_ n4_ n5_ n6_; (try clear hb); (try clear hb2); (try clear hk); (try clear hi)) | ((with_reducible refine gate_callee (f := 17) rfl ?_); refine goesL_ (some 207) rfl rfl Try.func17 (by kernel_rfl) rfl #[.string (rdOf ByteArray.empty y264 x133_3)] rfl eq_ ?_; (with_reducible refine (primitive_Text.calls k5 (rdOf ByteArray.empty y264 x133_3) t291 t292 _ A149.out).mono ?_); rintro e w161 ⟨rfl, hb⟩; refine ⟨_, rfl, ?_⟩; have n0_ := Aside0.mk (Kd.R_below (rq HO_131.out) hb); have n1_ := Aside0.mk (Kd.R_below (rq HO_168.out) hb); have n2_ := Aside0.mk (blk_below (g := gb239) (o := .cells #[.int .i64 a1_0, .string a1_1] 29 (0, 0)) (bq BK239.out) hb); have n3_ := Aside0.mk (blk_below (g := gb248) (o := .cells #[.int .i64 t245, .string t246] 29 (0, 0)) (bq BK248.out) hb); have n4_ := Aside0.mk (blk_below (g := gb272) (o := .cells #[.int .i64 t268, .string t269] 29 (0, 0)) (bq BK272.out) hb); have n5_ := Aside0.mk (blk_below (g := gb277) (o := .cells #[.int .i64 t273, .string t274] 29 (0, 0)) (bq BK277.out) hb); have n6_ := Aside0.mk (below_step (by repeat (first | (with_reducible first | exact HB.out | apply below_alloc | apply pw_below_drewN | apply below_drew1 | refine below_set ?_ GE239.out | refine below_set ?_ GE248.out | refine below_set ?_ GE272.out | refine below_set ?_ GE277.out) | exact HB.out)) hb); clear HO_131; clear HO_168; clear BK239; clear BK248; clear BK272; clear BK277; clear HB; have HO_131 := n0_; have HO_168 := n1_; have BK239 := n2_; have BK248 := n3_; have BK272 := n4_; have BK277 := n5_; have HB := n6_; clear n0_ n1_ n2_ n3_ n4_ n5_ n6_; (try clear hb); (try clear hb2); (try clear hk); (try clear hi)) | ((with_reducible refine gate_callee (f := 27) rfl ?_); refine goesL_ (some 212) rfl rfl Try.func27 (by kernel_rfl) rfl #[.string (rdOf ByteArray.empty y264 x133_3)] rfl eq_ ?_; (with_reducible refine (keyeventref03_Text.calls k5 (rdOf ByteArray.empty y264 x133_3) t293 t294 _ A150.out).mono ?_); rintro e w162 ⟨rfl, hb⟩; refine ⟨_, rfl, ?_⟩; have n0_ := Aside0.mk (Kd.R_below (rq HO_131.out) hb); have n1_ := Aside0.mk (Kd.R_below (rq HO_168.out) hb); have n2_ := Aside0.mk (blk_below (g := gb239) (o := .cells #[.int .i64 a1_0, .string a1_1] 29 (0, 0)) (bq BK239.out) hb); have n3_ := Aside0.mk (blk_below (g := gb248) (o := .cells #[.int .i64 t245, .string t246] 29 (0, 0)) (bq BK248.out) hb); have n4_ := Aside0.mk (blk_below (g := gb272) (o := .cells #[.int .i64 t268, .string t269] 29 (0, 0)) (bq BK272.out) hb); have n5_ := Aside0.mk (blk_below (g := gb277) (o := .cells #[.int .i64 t273, .string t274] 29 (0, 0)) (bq BK277.out) hb); have n6_ := Aside0.mk (below_step (by repeat (first | (with_reducible first | exact HB.out | apply below_alloc | apply pw_below_drewN | apply below_drew1 | refine below_set ?_ GE239.out | refine below_set ?_ GE248.out | refine below_set ?_ GE272.out | refine below_set ?_ GE277.out) | exact HB.out)) hb); clear HO_131; clear HO_168; clear BK239; clear BK248; clear BK272; clear BK277; clear HB; have HO_131 := n0_; have HO_168 := n1_; have BK239 := n2_; have BK248 := n3_; have BK272 := n4_; have BK277 := n5_; have HB := n6_; clear n0_ n1_ n2_ n3_ n4_ n5_ n6_; (try clear hb); (try clear hb2); (try clear hk); (try clear hi)))
                         go_ret
                         exact ⟨by first | rfl | (simp [errW_none, errW_some] <;> rfl) | (simp [*, errW_none, errW_some] <;> rfl), by repeat (first | (with_reducible first | exact HB.out | apply below_alloc | apply pw_below_drewN | apply below_drew1 | refine below_set ?_ GE239.out | refine below_set ?_ GE248.out | refine below_set ?_ GE272.out | refine below_set ?_ GE277.out) | exact HB.out)⟩
                       ·rw [if_neg c153] at H
                        have c153b0 : (t291.toList == t293.toList) = false := beq_eq_false_iff_ne.mpr c153
                        have c153b1 : (t291.toList != t293.toList) = true := bne_iff_ne.mpr c153
                        obtain rfl := Option.some.inj H
                        go_wp2_with (first | ((with_reducible refine gate_callee (f := 16) rfl ?_); refine goesL_ (some 197) rfl rfl Try.func16 (by kernel_rfl) rfl #[.string (rdOf ByteArray.empty y264 x133_3)] rfl eq_ ?_; (with_reducible refine (primitive_Binary.calls k5 (rdOf ByteArray.empty y264 x133_3) t287 t288 _ A147.out).mono ?_); rintro e w163 ⟨rfl, hb⟩; refine ⟨_, rfl, ?_⟩; have n0_ := Aside0.mk (Kd.R_below (rq HO_131.out) hb); have n1_ := Aside0.mk (Kd.R_below (rq HO_168.out) hb); have n2_ := Aside0.mk (blk_below (g := gb239) (o := .cells #[.int .i64 a1_0, .string a1_1] 29 (0, 0)) (bq BK239.out) hb); have n3_ := Aside0.mk (blk_below (g := gb248) (o := .cells #[.int .i64 t245, .string t246] 29 (0, 0)) (bq BK248.out) hb); have n4_ := Aside0.mk (blk_below (g := gb272) (o := .cells #[.int .i64 t268, .string t269] 29 (0, 0)) (bq BK272.out) hb); have n5_ := Aside0.mk (blk_below (g := gb277) (o := .cells #[.int .i64 t273, .string t274] 29 (0, 0)) (bq BK277.out) hb); have n6_ := Aside0.mk (below_step (by repeat (first | (with_reducible first | exact HB.out | apply below_alloc | apply pw_below_drewN | apply below_drew1 | refine below_set ?_ GE239.out | refine below_set ?_ GE248.out | refine below_set ?_ GE272.out | refine below_set ?_ GE277.out) | exact HB.out)) hb); clear HO_131; clear HO_168; clear BK239; clear BK248; clear BK272; clear BK277; clear HB; have HO_131 := n0_; have HO_168 := n1_; have BK239 := n2_; have BK248 := n3_; have BK272 := n4_; have BK277 := n5_; have HB := n6_; clear n0_ n1_ n2_ n3_ n4_ n5_ n6_; (try clear hb); (try clear hb2); (try clear hk); (try clear hi)) | ((with_reducible refine gate_callee (f := 26) rfl ?_); refine goesL_ (some 202) rfl rfl Try.func26 (by kernel_rfl) rfl #[.string (rdOf ByteArray.empty y264 x133_3)] rfl eq_ ?_; (with_reducible refine (keyeventref03_Binary.calls k5 (rdOf ByteArray.empty y264 x133_3) t289 t290 _ A148.out).mono ?_); rintro e w164 ⟨rfl, hb⟩; refine ⟨_, rfl, ?_⟩; have n0_ := Aside0.mk (Kd.R_below (rq HO_131.out) hb); have n1_ := Aside0.mk (Kd.R_below (rq HO_168.out) hb); have n2_ := Aside0.mk (blk_below (g := gb239) (o := .cells #[.int .i64 a1_0, .string a1_1] 29 (0, 0)) (bq BK239.out) hb); have n3_ := Aside0.mk (blk_below (g := gb248) (o := .cells #[.int .i64 t245, .string t246] 29 (0, 0)) (bq BK248.out) hb); have n4_ := Aside0.mk (blk_below (g := gb272) (o := .cells #[.int .i64 t268, .string t269] 29 (0, 0)) (bq BK272.out) hb); have n5_ := Aside0.mk (blk_below (g := gb277) (o := .cells #[.int .i64 t273, .string t274] 29 (0, 0)) (bq BK277.out) hb); have n6_ := Aside0.mk (below_step (by repeat (first | (with_reducible first | exact HB.out | apply below_alloc | apply pw_below_drewN | apply below_drew1 | refine below_set ?_ GE239.out | refine below_set ?_ GE248.out | refine below_set ?_ GE272.out | refine below_set ?_ GE277.out) | exact HB.out)) hb); clear HO_131; clear HO_168; clear BK239; clear BK248; clear BK272; clear BK277; clear HB; have HO_131 := n0_; have HO_168 := n1_; have BK239 := n2_; have BK248 := n3_; have BK272 := n4_; have BK277 := n5_; have HB := n6_; clear n0_ n1_ n2_ n3_ n4_ n5_ n6_; (try clear hb); (try clear hb2); (try clear hk); (try clear hi)) | ((with_reducible refine gate_callee (f := 17) rfl ?_); refine goesL_ (some 207) rfl rfl Try.func17 (by kernel_rfl) rfl #[.string (rdOf ByteArray.empty y264 x133_3)] rfl eq_ ?_; (with_reducible refine (primitive_Text.calls k5 (rdOf ByteArray.empty y264 x133_3) t291 t292 _ A149.out).mono ?_); rintro e w165 ⟨rfl, hb⟩; refine ⟨_, rfl, ?_⟩; have n0_ := Aside0.mk (Kd.R_below (rq HO_131.out) hb); have n1_ := Aside0.mk (Kd.R_below (rq HO_168.out) hb); have n2_ := Aside0.mk (blk_below (g := gb239) (o := .cells #[.int .i64 a1_0, .string a1_1] 29 (0, 0)) (bq BK239.out) hb); have n3_ := Aside0.mk (blk_below (g := gb248) (o := .cells #[.int .i64 t245, .string t246] 29 (0, 0)) (bq BK248.out) hb); have n4_ := Aside0.mk (blk_below (g := gb272) (o := .cells #[.int .i64 t268, .string t269] 29 (0, 0)) (bq BK272.out) hb); have n5_ := Aside0.mk (blk_below (g := gb277) (o := .cells #[.int .i64 t273, .string t274] 29 (0, 0)) (bq BK277.out) hb); have n6_ := Aside0.mk (below_step (by repeat (first | (with_reducible first | exact HB.out | apply below_alloc | apply pw_below_drewN | apply below_drew1 | refine below_set ?_ GE239.out | refine below_set ?_ GE248.out | refine below_set ?_ GE272.out | refine below_set ?_ GE277.out) | exact HB.out)) hb); clear HO_131; clear HO_168; clear BK239; clear BK248; clear BK272; clear BK277; clear HB; have HO_131 := n0_; have HO_168 := n1_; have BK239 := n2_; have BK248 := n3_; have BK272 := n4_; have BK277 := n5_; have HB := n6_; clear n0_ n1_ n2_ n3_ n4_ n5_ n6_; (try clear hb); (try clear hb2); (try clear hk); (try clear hi)) | ((with_reducible refine gate_callee (f := 27) rfl ?_); refine goesL_ (some 212) rfl rfl Try.func27 (by kernel_rfl) rfl #[.string (rdOf ByteArray.empty y264 x133_3)] rfl eq_ ?_; (with_reducible refine (keyeventref03_Text.calls k5 (rdOf ByteArray.empty y264 x133_3) t293 t294 _ A150.out).mono ?_); rintro e w166 ⟨rfl, hb⟩; refine ⟨_, rfl, ?_⟩; have n0_ := Aside0.mk (Kd.R_below (rq HO_131.out) hb); have n1_ := Aside0.mk (Kd.R_below (rq HO_168.out) hb); have n2_ := Aside0.mk (blk_below (g := gb239) (o := .cells #[.int .i64 a1_0, .string a1_1] 29 (0, 0)) (bq BK239.out) hb); have n3_ := Aside0.mk (blk_below (g := gb248) (o := .cells #[.int .i64 t245, .string t246] 29 (0, 0)) (bq BK248.out) hb); have n4_ := Aside0.mk (blk_below (g := gb272) (o := .cells #[.int .i64 t268, .string t269] 29 (0, 0)) (bq BK272.out) hb); have n5_ := Aside0.mk (blk_below (g := gb277) (o := .cells #[.int .i64 t273, .string t274] 29 (0, 0)) (bq BK277.out) hb); have n6_ := Aside0.mk (below_step (by repeat (first | (with_reducible first | exact HB.out | apply below_alloc | apply pw_below_drewN | apply below_drew1 | refine below_set ?_ GE239.out | refine below_set ?_ GE248.out | refine below_set ?_ GE272.out | refine below_set ?_ GE277.out) | exact HB.out)) hb); clear HO_131; clear HO_168; clear BK239; clear BK248; clear BK272; clear BK277; clear HB; have HO_131 := n0_; have HO_168 := n1_; have BK239 := n2_; have BK248 := n3_; have BK272 := n4_; have BK277 := n5_; have HB := n6_; clear n0_ n1_ n2_ n3_ n4_ n5_ n6_; (try clear hb); (try clear hb2); (try clear hk); (try clear hi)))
                        go_ret
                        exact ⟨by first | rfl | (simp [errW_none, errW_some] <;> rfl) | (simp [*, errW_none, errW_some] <;> rfl), by repeat (first | (with_reducible first | exact HB.out | apply below_alloc | apply pw_below_drewN | apply below_drew1 | refine below_set ?_ GE239.out | refine below_set ?_ GE248.out | refine below_set ?_ GE272.out | refine below_set ?_ GE277.out) | exact HB.out)⟩
                      ·rw [if_neg c152] at H
                       have c152b0 : (t288 == t290) = false := beq_eq_false_iff_ne.mpr c152
                       have c152b1 : (t288 != t290) = true := bne_iff_ne.mpr c152
                       obtain rfl := Option.some.inj H
                       go_wp2_with (first | ((with_reducible refine gate_callee (f := 16) rfl ?_); refine goesL_ (some 197) rfl rfl Try.func16 (by kernel_rfl) rfl #[.string (rdOf ByteArray.empty y264 x133_3)] rfl eq_ ?_; (with_reducible refine (primitive_Binary.calls k5 (rdOf ByteArray.empty y264 x133_3) t287 t288 _ A147.out).mono ?_); rintro e w167 ⟨rfl, hb⟩; refine ⟨_, rfl, ?_⟩; have n0_ := Aside0.mk (Kd.R_below (rq HO_131.out) hb); have n1_ := Aside0.mk (Kd.R_below (rq HO_168.out) hb); have n2_ := Aside0.mk (blk_below (g := gb239) (o := .cells #[.int .i64 a1_0, .string a1_1] 29 (0, 0)) (bq BK239.out) hb); have n3_ := Aside0.mk (blk_below (g := gb248) (o := .cells #[.int .i64 t245, .string t246] 29 (0, 0)) (bq BK248.out) hb); have n4_ := Aside0.mk (blk_below (g := gb272) (o := .cells #[.int .i64 t268, .string t269] 29 (0, 0)) (bq BK272.out) hb); have n5_ := Aside0.mk (blk_below (g := gb277) (o := .cells #[.int .i64 t273, .string t274] 29 (0, 0)) (bq BK277.out) hb); have n6_ := Aside0.mk (below_step (by repeat (first | (with_reducible first | exact HB.out | apply below_alloc | apply pw_below_drewN | apply below_drew1 | refine below_set ?_ GE239.out | refine below_set ?_ GE248.out | refine below_set ?_ GE272.out | refine below_set ?_ GE277.out) | exact HB.out)) hb); clear HO_131; clear HO_168; clear BK239; clear BK248; clear BK272; clear BK277; clear HB; have HO_131 := n0_; have HO_168 := n1_; have BK239 := n2_; have BK248 := n3_; have BK272 := n4_; have BK277 := n5_; have HB := n6_; clear n0_ n1_ n2_ n3_ n4_ n5_ n6_; (try clear hb); (try clear hb2); (try clear hk); (try clear hi)) | ((with_reducible refine gate_callee (f := 26) rfl ?_); refine goesL_ (some 202) rfl rfl Try.func26 (by kernel_rfl) rfl #[.string (rdOf ByteArray.empty y264 x133_3)] rfl eq_ ?_; (with_reducible refine (keyeventref03_Binary.calls k5 (rdOf ByteArray.empty y264 x133_3) t289 t290 _ A148.out).mono ?_); rintro e w168 ⟨rfl, hb⟩; refine ⟨_, rfl, ?_⟩; have n0_ := Aside0.mk (Kd.R_below (rq HO_131.out) hb); have n1_ := Aside0.mk (Kd.R_below (rq HO_168.out) hb); have n2_ := Aside0.mk (blk_below (g := gb239) (o := .cells #[.int .i64 a1_0, .string a1_1] 29 (0, 0)) (bq BK239.out) hb); have n3_ := Aside0.mk (blk_below (g := gb248) (o := .cells #[.int .i64 t245, .string t246] 29 (0, 0)) (bq BK248.out) hb); have n4_ := Aside0.mk (blk_below (g := gb272) (o := .cells #[.int .i64 t268, .string t269] 29 (0, 0)) (bq BK272.out) hb); have n5_ := Aside0.mk (blk_below (g := gb277) (o := .cells #[.int .i64 t273, .string t274] 29 (0, 0)) (bq BK277.out) hb); have n6_ := Aside0.mk (below_step (by repeat (first | (with_reducible first | exact HB.out | apply below_alloc | apply pw_below_drewN | apply below_drew1 | refine below_set ?_ GE239.out | refine below_set ?_ GE248.out | refine below_set ?_ GE272.out | refine below_set ?_ GE277.out) | exact HB.out)) hb); clear HO_131; clear HO_168; clear BK239; clear BK248; clear BK272; clear BK277; clear HB; have HO_131 := n0_; have HO_168 := n1_; have BK239 := n2_; have BK248 := n3_; have BK272 := n4_; have BK277 := n5_; have HB := n6_; clear n0_ n1_ n2_ n3_ n4_ n5_ n6_; (try clear hb); (try clear hb2); (try clear hk); (try clear hi)) | ((with_reducible refine gate_callee (f := 17) rfl ?_); refine goesL_ (some 207) rfl rfl Try.func17 (by kernel_rfl) rfl #[.string (rdOf ByteArray.empty y264 x133_3)] rfl eq_ ?_; (with_reducible refine (primitive_Text.calls k5 (rdOf ByteArray.empty y264 x133_3) t291 t292 _ A149.out).mono ?_); rintro e w169 ⟨rfl, hb⟩; refine ⟨_, rfl, ?_⟩; have n0_ := Aside0.mk (Kd.R_below (rq HO_131.out) hb); have n1_ := Aside0.mk (Kd.R_below (rq HO_168.out) hb); have n2_ := Aside0.mk (blk_below (g := gb239) (o := .cells #[.int .i64 a1_0, .string a1_1] 29 (0, 0)) (bq BK239.out) hb); have n3_ := Aside0.mk (blk_below (g := gb248) (o := .cells #[.int .i64 t245, .string t246] 29 (0, 0)) (bq BK248.out) hb); have n4_ := Aside0.mk (blk_below (g := gb272) (o := .cells #[.int .i64 t268, .string t269] 29 (0, 0)) (bq BK272.out) hb); have n5_ := Aside0.mk (blk_below (g := gb277) (o := .cells #[.int .i64 t273, .string t274] 29 (0, 0)) (bq BK277.out) hb); have n6_ := Aside0.mk (below_step (by repeat (first | (with_reducible first | exact HB.out | apply below_alloc | apply pw_below_drewN | apply below_drew1 | refine below_set ?_ GE239.out | refine below_set ?_ GE248.out | refine below_set ?_ GE272.out | refine below_set ?_ GE277.out) | exact HB.out)) hb); clear HO_131; clear HO_168; clear BK239; clear BK248; clear BK272; clear BK277; clear HB; have HO_131 := n0_; have HO_168 := n1_; have BK239 := n2_; have BK248 := n3_; have BK272 := n4_; have BK277 := n5_; have HB := n6_; clear n0_ n1_ n2_ n3_ n4_ n5_ n6_; (try clear hb); (try clear hb2); (try clear hk); (try clear hi)) | ((with_reducible refine gate_callee (f := 27) rfl ?_); refine goesL_ (some 212) rfl rfl Try.func27 (by kernel_rfl) rfl #[.string (rdOf ByteArray.empty y264 x133_3)] rfl eq_ ?_; (with_reducible refine (keyeventref03_Text.calls k5 (rdOf ByteArray.empty y264 x133_3) t293 t294 _ A150.out).mono ?_); rintro e w170 ⟨rfl, hb⟩; refine ⟨_, rfl, ?_⟩; have n0_ := Aside0.mk (Kd.R_below (rq HO_131.out) hb); have n1_ := Aside0.mk (Kd.R_below (rq HO_168.out) hb); have n2_ := Aside0.mk (blk_below (g := gb239) (o := .cells #[.int .i64 a1_0, .string a1_1] 29 (0, 0)) (bq BK239.out) hb); have n3_ := Aside0.mk (blk_below (g := gb248) (o := .cells #[.int .i64 t245, .string t246] 29 (0, 0)) (bq BK248.out) hb); have n4_ := Aside0.mk (blk_below (g := gb272) (o := .cells #[.int .i64 t268, .string t269] 29 (0, 0)) (bq BK272.out) hb); have n5_ := Aside0.mk (blk_below (g := gb277) (o := .cells #[.int .i64 t273, .string t274] 29 (0, 0)) (bq BK277.out) hb); have n6_ := Aside0.mk (below_step (by repeat (first | (with_reducible first | exact HB.out | apply below_alloc | apply pw_below_drewN | apply below_drew1 | refine below_set ?_ GE239.out | refine below_set ?_ GE248.out | refine below_set ?_ GE272.out | refine below_set ?_ GE277.out) | exact HB.out)) hb); clear HO_131; clear HO_168; clear BK239; clear BK248; clear BK272; clear BK277; clear HB; have HO_131 := n0_; have HO_168 := n1_; have BK239 := n2_; have BK248 := n3_; have BK272 := n4_; have BK277 := n5_; have HB := n6_; clear n0_ n1_ n2_ n3_ n4_ n5_ n6_; (try clear hb); (try clear hb2); (try clear hk); (try clear hi)))
                       go_ret
                       exact ⟨by first | rfl | (simp [errW_none, errW_some] <;> rfl) | (simp [*, errW_none, errW_some] <;> rfl), by repeat (first | (with_reducible first | exact HB.out | apply below_alloc | apply pw_below_drewN | apply below_drew1 | refine below_set ?_ GE239.out | refine below_set ?_ GE248.out | refine below_set ?_ GE272.out | refine below_set ?_ GE277.out) | exact HB.out)⟩
                     ·rw [if_neg c151] at H
                      have c151b0 : (t287.toList == t289.toList) = false := beq_eq_false_iff_ne.mpr c151
                      have c151b1 : (t287.toList != t289.toList) = true := bne_iff_ne.mpr c151
                      obtain rfl := Option.some.inj H
                      go_wp2_with (first | ((with_reducible refine gate_callee (f := 16) rfl ?_); refine goesL_ (some 197) rfl rfl Try.func16 (by kernel_rfl) rfl #[.string (rdOf ByteArray.empty y264 x133_3)] rfl eq_ ?_; (with_reducible refine (primitive_Binary.calls k5 (rdOf ByteArray.empty y264 x133_3) t287 t288 _ A147.out).mono ?_); rintro e w171 ⟨rfl, hb⟩; refine ⟨_, rfl, ?_⟩; have n0_ := Aside0.mk (Kd.R_below (rq HO_131.out) hb); have n1_ := Aside0.mk (Kd.R_below (rq HO_168.out) hb); have n2_ := Aside0.mk (blk_below (g := gb239) (o := .cells #[.int .i64 a1_0, .string a1_1] 29 (0, 0)) (bq BK239.out) hb); have n3_ := Aside0.mk (blk_below (g := gb248) (o := .cells #[.int .i64 t245, .string t246] 29 (0, 0)) (bq BK248.out) hb); have n4_ := Aside0.mk (blk_below (g := gb272) (o := .cells #[.int .i64 t268, .string t269] 29 (0, 0)) (bq BK272.out) hb); have n5_ := Aside0.mk (blk_below (g := gb277) (o := .cells #[.int .i64 t273, .string t274] 29 (0, 0)) (bq BK277.out) hb); have n6_ := Aside0.mk (below_step (by repeat (first | (with_reducible first | exact HB.out | apply below_alloc | apply pw_below_drewN | apply below_drew1 | refine below_set ?_ GE239.out | refine below_set ?_ GE248.out | refine below_set ?_ GE272.out | refine below_set ?_ GE277.out) | exact HB.out)) hb); clear HO_131; clear HO_168; clear BK239; clear BK248; clear BK272; clear BK277; clear HB; have HO_131 := n0_; have HO_168 := n1_; have BK239 := n2_; have BK248 := n3_; have BK272 := n4_; have BK277 := n5_; have HB := n6_; clear n0_ n1_ n2_ n3_ n4_ n5_ n6_; (try clear hb); (try clear hb2); (try clear hk); (try clear hi)) | ((with_reducible refine gate_callee (f := 26) rfl ?_); refine goesL_ (some 202) rfl rfl Try.func26 (by kernel_rfl) rfl #[.string (rdOf ByteArray.empty y264 x133_3)] rfl eq_ ?_; (with_reducible refine (keyeventref03_Binary.calls k5 (rdOf ByteArray.empty y264 x133_3) t289 t290 _ A148.out).mono ?_); rintro e w172 ⟨rfl, hb⟩; refine ⟨_, rfl, ?_⟩; have n0_ := Aside0.mk (Kd.R_below (rq HO_131.out) hb); have n1_ := Aside0.mk (Kd.R_below (rq HO_168.out) hb); have n2_ := Aside0.mk (blk_below (g := gb239) (o := .cells #[.int .i64 a1_0, .string a1_1] 29 (0, 0)) (bq BK239.out) hb); have n3_ := Aside0.mk (blk_below (g := gb248) (o := .cells #[.int .i64 t245, .string t246] 29 (0, 0)) (bq BK248.out) hb); have n4_ := Aside0.mk (blk_below (g := gb272) (o := .cells #[.int .i64 t268, .string t269] 29 (0, 0)) (bq BK272.out) hb); have n5_ := Aside0.mk (blk_below (g := gb277) (o := .cells #[.int .i64 t273, .string t274] 29 (0, 0)) (bq BK277.out) hb); have n6_ := Aside0.mk (below_step (by repeat (first | (with_reducible first | exact HB.out | apply below_alloc | apply pw_below_drewN | apply below_drew1 | refine below_set ?_ GE239.out | refine below_set ?_ GE248.out | refine below_set ?_ GE272.out | refine below_set ?_ GE277.out) | exact HB.out)) hb); clear HO_131; clear HO_168; clear BK239; clear BK248; clear BK272; clear BK277; clear HB; have HO_131 := n0_; have HO_168 := n1_; have BK239 := n2_; have BK248 := n3_; have BK272 := n4_; have BK277 := n5_; have HB := n6_; clear n0_ n1_ n2_ n3_ n4_ n5_ n6_; (try clear hb); (try clear hb2); (try clear hk); (try clear hi)) | ((with_reducible refine gate_callee (f := 17) rfl ?_); refine goesL_ (some 207) rfl rfl Try.func17 (by kernel_rfl) rfl #[.string (rdOf ByteArray.empty y264 x133_3)] rfl eq_ ?_; (with_reducible refine (primitive_Text.calls k5 (rdOf ByteArray.empty y264 x133_3) t291 t292 _ A149.out).mono ?_); rintro e w173 ⟨rfl, hb⟩; refine ⟨_, rfl, ?_⟩; have n0_ := Aside0.mk (Kd.R_below (rq HO_131.out) hb); have n1_ := Aside0.mk (Kd.R_below (rq HO_168.out) hb); have n2_ := Aside0.mk (blk_below (g := gb239) (o := .cells #[.int .i64 a1_0, .string a1_1] 29 (0, 0)) (bq BK239.out) hb); have n3_ := Aside0.mk (blk_below (g := gb248) (o := .cells #[.int .i64 t245, .string t246] 29 (0, 0)) (bq BK248.out) hb); have n4_ := Aside0.mk (blk_below (g := gb272) (o := .cells #[.int .i64 t268, .string t269] 29 (0, 0)) (bq BK272.out) hb); have n5_ := Aside0.mk (blk_below (g := gb277) (o := .cells #[.int .i64 t273, .string t274] 29 (0, 0)) (bq BK277.out) hb); have n6_ := Aside0.mk (below_step (by repeat (first | (with_reducible first | exact HB.out | apply below_alloc | apply pw_below_drewN | apply below_drew1 | refine below_set ?_ GE239.out | refine below_set ?_ GE248.out | refine below_set ?_ GE272.out | refine below_set ?_ GE277.out) | exact HB.out)) hb); clear HO_131; clear HO_168; clear BK239; clear BK248; clear BK272; clear BK277; clear HB; have HO_131 := n0_; have HO_168 := n1_; have BK239 := n2_; have BK248 := n3_; have BK272 := n4_; have BK277 := n5_; have HB := n6_; clear n0_ n1_ n2_ n3_ n4_ n5_ n6_; (try clear hb); (try clear hb2); (try clear hk); (try clear hi)) | ((with_reducible refine gate_callee (f := 27) rfl ?_); refine goesL_ (some 212) rfl rfl Try.func27 (by kernel_rfl) rfl #[.string (rdOf ByteArray.empty y264 x133_3)] rfl eq_ ?_; (with_reducible refine (keyeventref03_Text.calls k5 (rdOf ByteArray.empty y264 x133_3) t293 t294 _ A150.out).mono ?_); rintro e w174 ⟨rfl, hb⟩; refine ⟨_, rfl, ?_⟩; have n0_ := Aside0.mk (Kd.R_below (rq HO_131.out) hb); have n1_ := Aside0.mk (Kd.R_below (rq HO_168.out) hb); have n2_ := Aside0.mk (blk_below (g := gb239) (o := .cells #[.int .i64 a1_0, .string a1_1] 29 (0, 0)) (bq BK239.out) hb); have n3_ := Aside0.mk (blk_below (g := gb248) (o := .cells #[.int .i64 t245, .string t246] 29 (0, 0)) (bq BK248.out) hb); have n4_ := Aside0.mk (blk_below (g := gb272) (o := .cells #[.int .i64 t268, .string t269] 29 (0, 0)) (bq BK272.out) hb); have n5_ := Aside0.mk (blk_below (g := gb277) (o := .cells #[.int .i64 t273, .string t274] 29 (0, 0)) (bq BK277.out) hb); have n6_ := Aside0.mk (below_step (by repeat (first | (with_reducible first | exact HB.out | apply below_alloc | apply pw_below_drewN | apply below_drew1 | refine below_set ?_ GE239.out | refine below_set ?_ GE248.out | refine below_set ?_ GE272.out | refine below_set ?_ GE277.out) | exact HB.out)) hb); clear HO_131; clear HO_168; clear BK239; clear BK248; clear BK272; clear BK277; clear HB; have HO_131 := n0_; have HO_168 := n1_; have BK239 := n2_; have BK248 := n3_; have BK272 := n4_; have BK277 := n5_; have HB := n6_; clear n0_ n1_ n2_ n3_ n4_ n5_ n6_; (try clear hb); (try clear hb2); (try clear hk); (try clear hi)))
                      go_ret
                      exact ⟨by first | rfl | (simp [errW_none, errW_some] <;> rfl) | (simp [*, errW_none, errW_some] <;> rfl), by repeat (first | (with_reducible first | exact HB.out | apply below_alloc | apply pw_below_drewN | apply below_drew1 | refine below_set ?_ GE239.out | refine below_set ?_ GE248.out | refine below_set ?_ GE272.out | refine below_set ?_ GE277.out) | exact HB.out)⟩
              ·rw [if_neg c90] at H
               exact absurd H (by simp)
             ·rw [if_neg c89] at H
              exact absurd H (by simp)
            ·rw [if_neg c88] at H
             have c88b0 : decide (x133_3 < (y264.length : Int)) = false := decide_eq_false c88
             clear c88
             replace H := Option.bind_eq_some_iff.mp H
             obtain ⟨t295, A1750, H⟩ := H
             replace H : ((some (([a5, wrap64 (t295 - 1)] : List Int) : List Int)).bind fun y296 => (keyeventlaw03_PrimitiveActs.l3 k3 y296 (y296.length : Int) 0)) = some r := H
             have A175 := Aside0.mk A1750
             clear A1750
             obtain ⟨y296, hy296⟩ : ∃ y_ : List Int, y_ = (([a5, wrap64 (t295 - 1)] : List Int)) := ⟨_, rfl⟩
             replace H : (keyeventlaw03_PrimitiveActs.l3 k3 y296 (y296.length : Int) 0) = some r := by first | (rw [hy296]; with_reducible exact H) | (have H2_ := (Option.bind_some _ _).symm.trans H; rw [hy296]; with_reducible exact H2_) | (have H2_ := (Option.bind_some _ _).symm.trans H; with_reducible exact H2_) | with_reducible exact H | (rw [hy296]; exact H) | exact H
             have Ny296 := Aside0.mk hy296
             clear hy296
             have H' := Aside0.mk H
             clear H
             go_wp2_with (first | ((with_reducible refine gate_callee (f := 20) rfl ?_); refine goesL_ (some 236) rfl rfl Try.func20 (by kernel_rfl) rfl #[.int .i64 a5, .int .i64 11] rfl eq_ ?_; (with_reducible refine (keyeventkit_Mod.calls a5 11 t295 _ A175.out).mono ?_); rintro e w' ⟨rfl, ⟨nd, rfl⟩⟩; refine ⟨_, rfl, ?_⟩) | ((with_reducible refine gate_dst (N := 238) rfl ?_); (try (refine gate_guard (by rfl) ?_; dsimp only)); refine Kd.R_lit (Kd.int .i64) _ 3 ?hg (N := 238) ?hd (xs := ([a5, wrap64 (t295 - 1)] : List Int)) (inner := [.int .i64 a5, .int .i64 (wrap64 (t295 - 1))]) (ok := fun _ => True) (okp := fun _ => True) ?hr ?hp (fun _ hk => hk) trivial (Below.refl _ _) (Nat.le_refl _) (by simp) ?_; (case hd => rfl); (case hg => rfl); (case hr => first | (go_simp; done) | (go_simp; rfl)); (case hp => exact (Reps.one (show Kd.M (Kd.int .i64) _ _ _ a5 [.int .i64 a5] from rfl) (Reps.one (show Kd.M (Kd.int .i64) _ _ _ (wrap64 (t295 - 1)) [.int .i64 (wrap64 (t295 - 1))] from rfl) (Reps.none _ _)))); intro v297 w176 ho177 hb hg_ hnew_; clear hg_ hnew_; (first | rw [← Ny296.out] at ho177 | (simp only [Int.reduceToNat] at ho177; rw [← Ny296.out] at ho177)); have n0_ := Aside0.mk (Kd.R_below (rq HO_131.out) hb); have n1_ := Aside0.mk (Kd.R_lower ho177 (below_size (by repeat (first | (with_reducible first | exact HB.out | apply below_alloc | apply pw_below_drewN | apply below_drew1 | refine below_set ?_ GE239.out | refine below_set ?_ GE248.out) | exact HB.out)))); have n2_ := Aside0.mk (blk_below (g := gb239) (o := .cells #[.int .i64 a1_0, .string a1_1] 29 (0, 0)) (bq BK239.out) hb); have n3_ := Aside0.mk (blk_below (g := gb248) (o := .cells #[.int .i64 t245, .string t246] 29 (0, 0)) (bq BK248.out) hb); have n4_ := Aside0.mk (below_step (by repeat (first | (with_reducible first | exact HB.out | apply below_alloc | apply pw_below_drewN | apply below_drew1 | refine below_set ?_ GE239.out | refine below_set ?_ GE248.out) | exact HB.out)) hb); clear HO_131; clear BK239; clear BK248; clear HB; have HO_131 := n0_; have HO298 := n1_; have BK239 := n2_; have BK248 := n3_; have HB := n4_; clear n0_ n1_ n2_ n3_ n4_; clear hb ho177; obtain ⟨Ao178, co178, eo178⟩ := Kd.R_slice HO298.out; subst eo178))
             go_loopg [240] k3 (fun kq v240 w' => ∃ (x240_4 : Int), v240 = .int .i64 x240_4 ∧ Aside0 (keyeventlaw03_PrimitiveActs.l3 kq y296 (y296.length : Int) x240_4 = some r) ∧ Aside0 (kq ≤ k3) ∧ Aside0 (Kd.R (Kd.int .i64) 3 w' w.heap.size (fun _ => True) (.slice Ao178 y296.length co178) y296) ∧ Aside0 (w'.heap[gb239]? = some (.cells #[.int .i64 a1_0, .string a1_1] 29 (0, 0))) ∧ Aside0 (w'.heap[gb248]? = some (.cells #[.int .i64 t245, .string t246] 29 (0, 0))) ∧ Aside0 (Below w.heap.size w w'))
             case atStart => exact ⟨(0), (by first | rfl | (simp; done) | (simp [*]; done)), H', ⟨Nat.le_refl _⟩, ⟨by (with_reducible repeat (first | apply Kd.R_alloc | apply Kd.R_drewN | apply Kd.R_drew)); exact HO298.out⟩, ⟨by (with_reducible repeat (first | refine blk_drewN ?_ _ | refine blk_drew ?_ | refine blk_alloc ?_ _)); exact BK239.out⟩, ⟨by (with_reducible repeat (first | refine blk_drewN ?_ _ | refine blk_drew ?_ | refine blk_alloc ?_ _)); exact BK248.out⟩, ⟨by repeat (first | (with_reducible first | exact HB.out | apply below_alloc | apply pw_below_drewN | apply below_drew1 | refine below_set ?_ GE239.out | refine below_set ?_ GE248.out) | exact HB.out)⟩⟩
             case round => as_aux_lemma =>
              clear H'
              try clear c1
              try clear c2
              try clear p2
              try clear q2
              try clear hx2
              try clear c3
              try clear c4
              try clear c5
              try clear c6
              try clear p6
              try clear c7
              try clear c8
              try clear c9
              try clear c10
              try clear c11
              try clear c12
              try clear c13
              try clear c14
              try clear c15
              try clear c16
              try clear c17
              try clear c19
              try clear c20
              try clear c21
              try clear c22
              try clear c23
              try clear c24
              try clear c25
              try clear p25
              try clear q25
              try clear hx25
              try clear c26
              try clear p26
              try clear q26
              try clear hx26
              try clear c27
              try clear p28
              try clear q28
              try clear hx28
              try clear c33
              try clear c33b0
              try clear c34
              try clear c35
              try clear c38
              try clear c38b0
              try clear c38b1
              try clear c39
              try clear c39b0
              try clear c39b1
              try clear c42
              try clear c42b0
              try clear c42b1
              try clear c54
              try clear c55
              try clear c64
              try clear p64
              try clear c65
              try clear c72
              try clear c73
              try clear c81
              try clear c81b0
              try clear c81b1
              try clear c82
              try clear c82b0
              try clear c82b1
              try clear c83
              try clear c83b0
              try clear c83b1
              try clear c83b2
              try clear c88
              try clear c88b0
              try clear c89
              try clear c89b0
              try clear c90
              try clear c90b0
              try clear c96
              try clear c97
              try clear c101
              try clear c102
              try clear c103
              try clear c105
              try clear c105b0
              try clear c106
              try clear c107
              try clear c108
              try clear c110
              try clear c111
              try clear c113
              try clear c113b0
              try clear c113b1
              try clear c114
              try clear c115
              try clear c116
              try clear c118
              try clear c119
              try clear c121
              try clear c122
              try clear c123
              try clear c125
              try clear c126
              try clear c128
              try clear c134
              try clear c134b0
              try clear c135
              try clear c135b0
              try clear c136
              try clear c136b0
              try clear c139
              try clear c139b0
              try clear c139b1
              try clear c140
              try clear c140b0
              try clear c140b1
              try clear c151
              try clear c151b0
              try clear c151b1
              try clear c152
              try clear c152b0
              try clear c152b1
              try clear c153
              try clear c153b0
              try clear c153b1
              try clear c154
              try clear c154b0
              try clear c154b1
              try clear hcz104_0
              try clear hcz104_1
              try clear hcz109_0
              try clear hcz109_1
              try clear hcz112_0
              try clear hcz112_1
              try clear hcz117_0
              try clear hcz117_1
              try clear hcz120_0
              try clear hcz120_1
              try clear hcz124_0
              try clear hcz124_1
              try clear hcz127_0
              try clear hcz127_1
              try clear hcz56_0
              try clear hcz56_1
              try clear hcz58_0
              try clear hcz58_1
              try clear hcz66_0
              try clear hcz66_1
              try clear hcz68_0
              try clear hcz68_1
              try clear hcz74_0
              try clear hcz74_1
              try clear hcz76_0
              try clear hcz76_1
              try clear hcz98_0
              try clear hcz98_1
              try clear hfz104_0
              try clear hfz104_1
              try clear hfz109_0
              try clear hfz109_1
              try clear hfz112_0
              try clear hfz112_1
              try clear hfz117_0
              try clear hfz117_1
              try clear hfz120_0
              try clear hfz120_1
              try clear hfz124_0
              try clear hfz124_1
              try clear hfz127_0
              try clear hfz127_1
              try clear hfz56_0
              try clear hfz56_1
              try clear hfz58_0
              try clear hfz58_1
              try clear hfz66_0
              try clear hfz66_1
              try clear hfz68_0
              try clear hfz68_1
              try clear hfz74_0
              try clear hfz74_1
              try clear hfz76_0
              try clear hfz76_1
              try clear hfz98_0
              try clear hfz98_1
              try clear hx254_0
              try clear hx254_1
              try clear hx267_0
              try clear hx282_0
              try clear p2
              try clear p25
              try clear p254
              try clear p26
              try clear p267
              try clear p282
              try clear p6
              try clear p64
              try clear q2
              try clear q25
              try clear q254
              try clear q26
              try clear q267
              try clear q282
              obtain ⟨x240_4, rfl, HA, HK4, HO_238, BK239, BK248, HB⟩ := hrel
              cases gk with
              | zero => exact absurd HA.out (by simp [keyeventlaw03_PrimitiveActs.l3])
              | succ k4 =>
               have H := HA.out
               clear HA
               simp only [keyeventlaw03_PrimitiveActs.l3] at H
               by_cases c179 : x240_4 < (y296.length : Int)
               ·rw [if_pos c179] at H
                have c179b0 : decide (x240_4 < (y296.length : Int)) = true := decide_eq_true c179
                clear c179
                by_cases c180 : 0 ≤ x240_4
                ·rw [if_pos c180] at H
                 have c180b0 : decide (0 ≤ x240_4) = true := decide_eq_true c180
                 clear c180
                 by_cases c181 : x240_4 < (y296.length : Int)
                 ·rw [if_pos c181] at H
                  have c181b0 : decide (x240_4 < (y296.length : Int)) = true := decide_eq_true c181
                  clear c181
                  replace H := Option.bind_eq_some_iff.mp H
                  obtain ⟨⟨t301, t302⟩, A1820, H⟩ := H
                  replace H : ((keyeventref03_Code.f (rd y296 x240_4)).bind fun bt303 => (if t301.toList = bt303.1.toList then (if (t302 != bt303.2) = true then (some false) else ((primitive_Raw.f (rd y296 x240_4)).bind fun t305 => ((keyeventref03_Raw.f (rd y296 x240_4)).bind fun t306 => (if t305 = t306 then ((primitive_Size.f (rd y296 x240_4)).bind fun t307 => ((keyeventref03_Size.f (rd y296 x240_4)).bind fun t308 => (if t307 = t308 then (keyeventlaw03_PrimitiveActs.l3 k4 y296 (y296.length : Int) (wrap64 (x240_4 + 1))) else (some false)))) else (some false))))) else (some false))) = some r := H
                  have A182 := Aside0.mk A1820
                  clear A1820
                  replace H := Option.bind_eq_some_iff.mp H
                  obtain ⟨⟨t303, t304⟩, A1830, H⟩ := H
                  replace H : (if t301.toList = t303.toList then (if (t302 != t304) = true then (some false) else ((primitive_Raw.f (rd y296 x240_4)).bind fun t305 => ((keyeventref03_Raw.f (rd y296 x240_4)).bind fun t306 => (if t305 = t306 then ((primitive_Size.f (rd y296 x240_4)).bind fun t307 => ((keyeventref03_Size.f (rd y296 x240_4)).bind fun t308 => (if t307 = t308 then (keyeventlaw03_PrimitiveActs.l3 k4 y296 (y296.length : Int) (wrap64 (x240_4 + 1))) else (some false)))) else (some false))))) else (some false)) = some r := H
                  have A183 := Aside0.mk A1830
                  clear A1830
                  by_cases c184 : t301.toList = t303.toList
                  ·rw [if_pos c184] at H
                   have c184b0 : (t301.toList == t303.toList) = true := beq_iff_eq.mpr c184
                   have c184b1 : (t301.toList != t303.toList) = false := bne_eq_false_iff_eq.mpr c184
                   clear c184
                   by_cases c185 : (t302 != t304) = true
                   ·rw [if_pos c185] at H
                    have c185b0 : (t302 != t304) = true := c185
                    (try (have c185b1 : decide (t302 = t304) = false := by simpa using c185))
                    (try (have c185b2 : (t302 == t304) = false := by simpa using c185))
                    (try (have c185b3 : ¬ (t302 = t304) := by simpa using c185))
                    clear c185
                    obtain rfl := Option.some.inj H
                    have p300 : 0 ≤ (x240_4 : Int) := of_decide_eq_true aq
                    have q300 : x240_4 < (y296.length : Int) := of_decide_eq_true aq
                    obtain ⟨ad300, e300, hx300_0⟩ := Kd.at_int (Kd.R_reads' HO_238.out).2.2 x240_4 p300 q300
                    cases e300
                    replace p300 := eq_true p300
                    replace q300 := eq_true q300
                    go_wp2_with (first | ((with_reducible refine gate_callee (f := 28) rfl ?_); refine goesL_ (some 246) rfl rfl Try.func28 (by kernel_rfl) rfl #[.int .i64 (rd y296 x240_4)] rfl eq_ ?_; (with_reducible refine (primitive_Code.calls (rd y296 x240_4) t301 t302 _ A182.out).mono ?_); rintro e w186 ⟨rfl, hb⟩; refine ⟨_, rfl, ?_⟩; have n0_ := Aside0.mk (Kd.R_below (rq HO_238.out) hb); have n1_ := Aside0.mk (blk_below (g := gb239) (o := .cells #[.int .i64 a1_0, .string a1_1] 29 (0, 0)) (bq BK239.out) hb); have n2_ := Aside0.mk (blk_below (g := gb248) (o := .cells #[.int .i64 t245, .string t246] 29 (0, 0)) (bq BK248.out) hb); have n3_ := Aside0.mk (below_step (by repeat (first | (with_reducible first | exact HB.out | apply below_alloc | apply pw_below_drewN | apply below_drew1 | refine below_set ?_ GE239.out | refine below_set ?_ GE248.out) | exact HB.out)) hb); clear HO_238; clear BK239; clear BK248; clear HB; have HO_238 := n0_; have BK239 := n1_; have BK248 := n2_; have HB := n3_; clear n0_ n1_ n2_ n3_; (try clear hb); (try clear hb2); (try clear hk); (try clear hi)) | ((with_reducible refine gate_callee (f := 29) rfl ?_); refine goesL_ (some 251) rfl rfl Try.func29 (by kernel_rfl) rfl #[.int .i64 (rd y296 x240_4)] rfl eq_ ?_; (with_reducible refine (keyeventref03_Code.calls (rd y296 x240_4) t303 t304 _ A183.out).mono ?_); rintro e w187 ⟨rfl, hb⟩; refine ⟨_, rfl, ?_⟩; have n0_ := Aside0.mk (Kd.R_below (rq HO_238.out) hb); have n1_ := Aside0.mk (blk_below (g := gb239) (o := .cells #[.int .i64 a1_0, .string a1_1] 29 (0, 0)) (bq BK239.out) hb); have n2_ := Aside0.mk (blk_below (g := gb248) (o := .cells #[.int .i64 t245, .string t246] 29 (0, 0)) (bq BK248.out) hb); have n3_ := Aside0.mk (below_step (by repeat (first | (with_reducible first | exact HB.out | apply below_alloc | apply pw_below_drewN | apply below_drew1 | refine below_set ?_ GE239.out | refine below_set ?_ GE248.out) | exact HB.out)) hb); clear HO_238; clear BK239; clear BK248; clear HB; have HO_238 := n0_; have BK239 := n1_; have BK248 := n2_; have HB := n3_; clear n0_ n1_ n2_ n3_; (try clear hb); (try clear hb2); (try clear hk); (try clear hi)))
                    go_ret
                    exact ⟨by first | rfl | (simp [errW_none, errW_some] <;> rfl) | (simp [*, errW_none, errW_some] <;> rfl), by repeat (first | (with_reducible first | exact HB.out | apply below_alloc | apply pw_below_drewN | apply below_drew1 | refine below_set ?_ GE239.out | refine below_set ?_ GE248.out) | exact HB.out)⟩
                   ·rw [if_neg c185] at H
                    have c185b0 : (t302 != t304) = false := by simpa using c185
                    (try (have c185b1 : decide (t302 = t304) = true := by simpa using c185))
                    (try (have c185b2 : (t302 == t304) = true := by simpa using c185))
                    clear c185
                    replace H := Option.bind_eq_some_iff.mp H
                    obtain ⟨t305, A1880, H⟩ := H
                    replace H : ((keyeventref03_Raw.f (rd y296 x240_4)).bind fun t306 => (if t305 = t306 then ((primitive_Size.f (rd y296 x240_4)).bind fun t307 => ((keyeventref03_Size.f (rd y296 x240_4)).bind fun t308 => (if t307 = t308 then (keyeventlaw03_PrimitiveActs.l3 k4 y296 (y296.length : Int) (wrap64 (x240_4 + 1))) else (some false)))) else (some false))) = some r := H
                    have A188 := Aside0.mk A1880
                    clear A1880
                    replace H := Option.bind_eq_some_iff.mp H
                    obtain ⟨t306, A1890, H⟩ := H
                    replace H : (if t305 = t306 then ((primitive_Size.f (rd y296 x240_4)).bind fun t307 => ((keyeventref03_Size.f (rd y296 x240_4)).bind fun t308 => (if t307 = t308 then (keyeventlaw03_PrimitiveActs.l3 k4 y296 (y296.length : Int) (wrap64 (x240_4 + 1))) else (some false)))) else (some false)) = some r := H
                    have A189 := Aside0.mk A1890
                    clear A1890
                    by_cases c190 : t305 = t306
                    ·rw [if_pos c190] at H
                     have c190b0 : (t305 == t306) = true := beq_iff_eq.mpr c190
                     have c190b1 : (t305 != t306) = false := bne_eq_false_iff_eq.mpr c190
                     clear c190
                     replace H := Option.bind_eq_some_iff.mp H
                     obtain ⟨t307, A1910, H⟩ := H
                     replace H : ((keyeventref03_Size.f (rd y296 x240_4)).bind fun t308 => (if t307 = t308 then (keyeventlaw03_PrimitiveActs.l3 k4 y296 (y296.length : Int) (wrap64 (x240_4 + 1))) else (some false))) = some r := H
                     have A191 := Aside0.mk A1910
                     clear A1910
                     replace H := Option.bind_eq_some_iff.mp H
                     obtain ⟨t308, A1920, H⟩ := H
                     replace H : (if t307 = t308 then (keyeventlaw03_PrimitiveActs.l3 k4 y296 (y296.length : Int) (wrap64 (x240_4 + 1))) else (some false)) = some r := H
                     have A192 := Aside0.mk A1920
                     clear A1920
                     by_cases c193 : t307 = t308
                     ·rw [if_pos c193] at H
                      have c193b0 : (t307 == t308) = true := beq_iff_eq.mpr c193
                      have c193b1 : (t307 != t308) = false := bne_eq_false_iff_eq.mpr c193
                      clear c193
                      have H' := Aside0.mk H
                      clear H
                      have p300 : 0 ≤ (x240_4 : Int) := of_decide_eq_true aq
                      have q300 : x240_4 < (y296.length : Int) := of_decide_eq_true aq
                      obtain ⟨ad300, e300, hx300_0⟩ := Kd.at_int (Kd.R_reads' HO_238.out).2.2 x240_4 p300 q300
                      cases e300
                      replace p300 := eq_true p300
                      replace q300 := eq_true q300
                      go_wp2_with (first | ((with_reducible refine gate_callee (f := 28) rfl ?_); refine goesL_ (some 246) rfl rfl Try.func28 (by kernel_rfl) rfl #[.int .i64 (rd y296 x240_4)] rfl eq_ ?_; (with_reducible refine (primitive_Code.calls (rd y296 x240_4) t301 t302 _ A182.out).mono ?_); rintro e w194 ⟨rfl, hb⟩; refine ⟨_, rfl, ?_⟩; have n0_ := Aside0.mk (Kd.R_below (rq HO_238.out) hb); have n1_ := Aside0.mk (blk_below (g := gb239) (o := .cells #[.int .i64 a1_0, .string a1_1] 29 (0, 0)) (bq BK239.out) hb); have n2_ := Aside0.mk (blk_below (g := gb248) (o := .cells #[.int .i64 t245, .string t246] 29 (0, 0)) (bq BK248.out) hb); have n3_ := Aside0.mk (below_step (by repeat (first | (with_reducible first | exact HB.out | apply below_alloc | apply pw_below_drewN | apply below_drew1 | refine below_set ?_ GE239.out | refine below_set ?_ GE248.out) | exact HB.out)) hb); clear HO_238; clear BK239; clear BK248; clear HB; have HO_238 := n0_; have BK239 := n1_; have BK248 := n2_; have HB := n3_; clear n0_ n1_ n2_ n3_; (try clear hb); (try clear hb2); (try clear hk); (try clear hi)) | ((with_reducible refine gate_callee (f := 29) rfl ?_); refine goesL_ (some 251) rfl rfl Try.func29 (by kernel_rfl) rfl #[.int .i64 (rd y296 x240_4)] rfl eq_ ?_; (with_reducible refine (keyeventref03_Code.calls (rd y296 x240_4) t303 t304 _ A183.out).mono ?_); rintro e w195 ⟨rfl, hb⟩; refine ⟨_, rfl, ?_⟩; have n0_ := Aside0.mk (Kd.R_below (rq HO_238.out) hb); have n1_ := Aside0.mk (blk_below (g := gb239) (o := .cells #[.int .i64 a1_0, .string a1_1] 29 (0, 0)) (bq BK239.out) hb); have n2_ := Aside0.mk (blk_below (g := gb248) (o := .cells #[.int .i64 t245, .string t246] 29 (0, 0)) (bq BK248.out) hb); have n3_ := Aside0.mk (below_step (by repeat (first | (with_reducible first | exact HB.out | apply below_alloc | apply pw_below_drewN | apply below_drew1 | refine below_set ?_ GE239.out | refine below_set ?_ GE248.out) | exact HB.out)) hb); clear HO_238; clear BK239; clear BK248; clear HB; have HO_238 := n0_; have BK239 := n1_; have BK248 := n2_; have HB := n3_; clear n0_ n1_ n2_ n3_; (try clear hb); (try clear hb2); (try clear hk); (try clear hi)) | (go_at_call 30; (with_reducible refine (primitive_Raw.calls (rd y296 x240_4) t305 _ A188.out).mono ?_); rintro e w196 ⟨rfl, hb⟩; have n0_ := Aside0.mk (Kd.R_below (rq HO_238.out) hb); have n1_ := Aside0.mk (blk_below (g := gb239) (o := .cells #[.int .i64 a1_0, .string a1_1] 29 (0, 0)) (bq BK239.out) hb); have n2_ := Aside0.mk (blk_below (g := gb248) (o := .cells #[.int .i64 t245, .string t246] 29 (0, 0)) (bq BK248.out) hb); have n3_ := Aside0.mk (below_step (by repeat (first | (with_reducible first | exact HB.out | apply below_alloc | apply pw_below_drewN | apply below_drew1 | refine below_set ?_ GE239.out | refine below_set ?_ GE248.out) | exact HB.out)) hb); clear HO_238; clear BK239; clear BK248; clear HB; have HO_238 := n0_; have BK239 := n1_; have BK248 := n2_; have HB := n3_; clear n0_ n1_ n2_ n3_; (try clear hb); (try clear hb2); (try clear hk); (try clear hi)) | (go_at_call 31; (with_reducible refine (keyeventref03_Raw.calls (rd y296 x240_4) t306 _ A189.out).mono ?_); rintro e w197 ⟨rfl, hb⟩; have n0_ := Aside0.mk (Kd.R_below (rq HO_238.out) hb); have n1_ := Aside0.mk (blk_below (g := gb239) (o := .cells #[.int .i64 a1_0, .string a1_1] 29 (0, 0)) (bq BK239.out) hb); have n2_ := Aside0.mk (blk_below (g := gb248) (o := .cells #[.int .i64 t245, .string t246] 29 (0, 0)) (bq BK248.out) hb); have n3_ := Aside0.mk (below_step (by repeat (first | (with_reducible first | exact HB.out | apply below_alloc | apply pw_below_drewN | apply below_drew1 | refine below_set ?_ GE239.out | refine below_set ?_ GE248.out) | exact HB.out)) hb); clear HO_238; clear BK239; clear BK248; clear HB; have HO_238 := n0_; have BK239 := n1_; have BK248 := n2_; have HB := n3_; clear n0_ n1_ n2_ n3_; (try clear hb); (try clear hb2); (try clear hk); (try clear hi)) | (go_at_call 18; (with_reducible refine (primitive_Size.calls (rd y296 x240_4) t307 _ A191.out).mono ?_); rintro e w198 ⟨rfl, hb⟩; have n0_ := Aside0.mk (Kd.R_below (rq HO_238.out) hb); have n1_ := Aside0.mk (blk_below (g := gb239) (o := .cells #[.int .i64 a1_0, .string a1_1] 29 (0, 0)) (bq BK239.out) hb); have n2_ := Aside0.mk (blk_below (g := gb248) (o := .cells #[.int .i64 t245, .string t246] 29 (0, 0)) (bq BK248.out) hb); have n3_ := Aside0.mk (below_step (by repeat (first | (with_reducible first | exact HB.out | apply below_alloc | apply pw_below_drewN | apply below_drew1 | refine below_set ?_ GE239.out | refine below_set ?_ GE248.out) | exact HB.out)) hb); clear HO_238; clear BK239; clear BK248; clear HB; have HO_238 := n0_; have BK239 := n1_; have BK248 := n2_; have HB := n3_; clear n0_ n1_ n2_ n3_; (try clear hb); (try clear hb2); (try clear hk); (try clear hi)) | (go_at_call 32; (with_reducible refine (keyeventref03_Size.calls (rd y296 x240_4) t308 _ A192.out).mono ?_); rintro e w199 ⟨rfl, hb⟩; have n0_ := Aside0.mk (Kd.R_below (rq HO_238.out) hb); have n1_ := Aside0.mk (blk_below (g := gb239) (o := .cells #[.int .i64 a1_0, .string a1_1] 29 (0, 0)) (bq BK239.out) hb); have n2_ := Aside0.mk (blk_below (g := gb248) (o := .cells #[.int .i64 t245, .string t246] 29 (0, 0)) (bq BK248.out) hb); have n3_ := Aside0.mk (below_step (by repeat (first | (with_reducible first | exact HB.out | apply below_alloc | apply pw_below_drewN | apply below_drew1 | refine below_set ?_ GE239.out | refine below_set ?_ GE248.out) | exact HB.out)) hb); clear HO_238; clear BK239; clear BK248; clear HB; have HO_238 := n0_; have BK239 := n1_; have BK248 := n2_; have HB := n3_; clear n0_ n1_ n2_ n3_; (try clear hb); (try clear hb2); (try clear hk); (try clear hi)))
                      go_roundg k4
                      case measure => have := HJ6.out; have := HK2.out; have := HK3.out; have := HK4.out; omega
                      case rel => exact ⟨(wrap64 (x240_4 + 1)), (by first | rfl | (simp; done) | (simp [*]; done)), H', ⟨by have := HJ6.out; have := HK2.out; have := HK3.out; have := HK4.out; omega⟩, ⟨by (with_reducible repeat (first | apply Kd.R_alloc | apply Kd.R_drewN | apply Kd.R_drew)); exact HO_238.out⟩, ⟨by (with_reducible repeat (first | refine blk_drewN ?_ _ | refine blk_drew ?_ | refine blk_alloc ?_ _)); exact BK239.out⟩, ⟨by (with_reducible repeat (first | refine blk_drewN ?_ _ | refine blk_drew ?_ | refine blk_alloc ?_ _)); exact BK248.out⟩, ⟨by repeat (first | (with_reducible first | exact HB.out | apply below_alloc | apply pw_below_drewN | apply below_drew1 | refine below_set ?_ GE239.out | refine below_set ?_ GE248.out) | exact HB.out)⟩⟩
                     ·rw [if_neg c193] at H
                      have c193b0 : (t307 == t308) = false := beq_eq_false_iff_ne.mpr c193
                      have c193b1 : (t307 != t308) = true := bne_iff_ne.mpr c193
                      obtain rfl := Option.some.inj H
                      have p300 : 0 ≤ (x240_4 : Int) := of_decide_eq_true aq
                      have q300 : x240_4 < (y296.length : Int) := of_decide_eq_true aq
                      obtain ⟨ad300, e300, hx300_0⟩ := Kd.at_int (Kd.R_reads' HO_238.out).2.2 x240_4 p300 q300
                      cases e300
                      replace p300 := eq_true p300
                      replace q300 := eq_true q300
                      go_wp2_with (first | ((with_reducible refine gate_callee (f := 28) rfl ?_); refine goesL_ (some 246) rfl rfl Try.func28 (by kernel_rfl) rfl #[.int .i64 (rd y296 x240_4)] rfl eq_ ?_; (with_reducible refine (primitive_Code.calls (rd y296 x240_4) t301 t302 _ A182.out).mono ?_); rintro e w200 ⟨rfl, hb⟩; refine ⟨_, rfl, ?_⟩; have n0_ := Aside0.mk (Kd.R_below (rq HO_238.out) hb); have n1_ := Aside0.mk (blk_below (g := gb239) (o := .cells #[.int .i64 a1_0, .string a1_1] 29 (0, 0)) (bq BK239.out) hb); have n2_ := Aside0.mk (blk_below (g := gb248) (o := .cells #[.int .i64 t245, .string t246] 29 (0, 0)) (bq BK248.out) hb); have n3_ := Aside0.mk (below_step (by repeat (first | (with_reducible first | exact HB.out | apply below_alloc | apply pw_below_drewN | apply below_drew1 | refine below_set ?_ GE239.out | refine below_set ?_ GE248.out) | exact HB.out)) hb); clear HO_238; clear BK239; clear BK248; clear HB; have HO_238 := n0_; have BK239 := n1_; have BK248 := n2_; have HB := n3_; clear n0_ n1_ n2_ n3_; (try clear hb); (try clear hb2); (try clear hk); (try clear hi)) | ((with_reducible refine gate_callee (f := 29) rfl ?_); refine goesL_ (some 251) rfl rfl Try.func29 (by kernel_rfl) rfl #[.int .i64 (rd y296 x240_4)] rfl eq_ ?_; (with_reducible refine (keyeventref03_Code.calls (rd y296 x240_4) t303 t304 _ A183.out).mono ?_); rintro e w201 ⟨rfl, hb⟩; refine ⟨_, rfl, ?_⟩; have n0_ := Aside0.mk (Kd.R_below (rq HO_238.out) hb); have n1_ := Aside0.mk (blk_below (g := gb239) (o := .cells #[.int .i64 a1_0, .string a1_1] 29 (0, 0)) (bq BK239.out) hb); have n2_ := Aside0.mk (blk_below (g := gb248) (o := .cells #[.int .i64 t245, .string t246] 29 (0, 0)) (bq BK248.out) hb); have n3_ := Aside0.mk (below_step (by repeat (first | (with_reducible first | exact HB.out | apply below_alloc | apply pw_below_drewN | apply below_drew1 | refine below_set ?_ GE239.out | refine below_set ?_ GE248.out) | exact HB.out)) hb); clear HO_238; clear BK239; clear BK248; clear HB; have HO_238 := n0_; have BK239 := n1_; have BK248 := n2_; have HB := n3_; clear n0_ n1_ n2_ n3_; (try clear hb); (try clear hb2); (try clear hk); (try clear hi)) | (go_at_call 30; (with_reducible refine (primitive_Raw.calls (rd y296 x240_4) t305 _ A188.out).mono ?_); rintro e w202 ⟨rfl, hb⟩; have n0_ := Aside0.mk (Kd.R_below (rq HO_238.out) hb); have n1_ := Aside0.mk (blk_below (g := gb239) (o := .cells #[.int .i64 a1_0, .string a1_1] 29 (0, 0)) (bq BK239.out) hb); have n2_ := Aside0.mk (blk_below (g := gb248) (o := .cells #[.int .i64 t245, .string t246] 29 (0, 0)) (bq BK248.out) hb); have n3_ := Aside0.mk (below_step (by repeat (first | (with_reducible first | exact HB.out | apply below_alloc | apply pw_below_drewN | apply below_drew1 | refine below_set ?_ GE239.out | refine below_set ?_ GE248.out) | exact HB.out)) hb); clear HO_238; clear BK239; clear BK248; clear HB; have HO_238 := n0_; have BK239 := n1_; have BK248 := n2_; have HB := n3_; clear n0_ n1_ n2_ n3_; (try clear hb); (try clear hb2); (try clear hk); (try clear hi)) | (go_at_call 31; (with_reducible refine (keyeventref03_Raw.calls (rd y296 x240_4) t306 _ A189.out).mono ?_); rintro e w203 ⟨rfl, hb⟩; have n0_ := Aside0.mk (Kd.R_below (rq HO_238.out) hb); have n1_ := Aside0.mk (blk_below (g := gb239) (o := .cells #[.int .i64 a1_0, .string a1_1] 29 (0, 0)) (bq BK239.out) hb); have n2_ := Aside0.mk (blk_below (g := gb248) (o := .cells #[.int .i64 t245, .string t246] 29 (0, 0)) (bq BK248.out) hb); have n3_ := Aside0.mk (below_step (by repeat (first | (with_reducible first | exact HB.out | apply below_alloc | apply pw_below_drewN | apply below_drew1 | refine below_set ?_ GE239.out | refine below_set ?_ GE248.out) | exact HB.out)) hb); clear HO_238; clear BK239; clear BK248; clear HB; have HO_238 := n0_; have BK239 := n1_; have BK248 := n2_; have HB := n3_; clear n0_ n1_ n2_ n3_; (try clear hb); (try clear hb2); (try clear hk); (try clear hi)) | (go_at_call 18; (with_reducible refine (primitive_Size.calls (rd y296 x240_4) t307 _ A191.out).mono ?_); rintro e w204 ⟨rfl, hb⟩; have n0_ := Aside0.mk (Kd.R_below (rq HO_238.out) hb); have n1_ := Aside0.mk (blk_below (g := gb239) (o := .cells #[.int .i64 a1_0, .string a1_1] 29 (0, 0)) (bq BK239.out) hb); have n2_ := Aside0.mk (blk_below (g := gb248) (o := .cells #[.int .i64 t245, .string t246] 29 (0, 0)) (bq BK248.out) hb); have n3_ := Aside0.mk (below_step (by repeat (first | (with_reducible first | exact HB.out | apply below_alloc | apply pw_below_drewN | apply below_drew1 | refine below_set ?_ GE239.out | refine below_set ?_ GE248.out) | exact HB.out)) hb); clear HO_238; clear BK239; clear BK248; clear HB; have HO_238 := n0_; have BK239 := n1_; have BK248 := n2_; have HB := n3_; clear n0_ n1_ n2_ n3_; (try clear hb); (try clear hb2); (try clear hk); (try clear hi)) | (go_at_call 32; (with_reducible refine (keyeventref03_Size.calls (rd y296 x240_4) t308 _ A192.out).mono ?_); rintro e w205 ⟨rfl, hb⟩; have n0_ := Aside0.mk (Kd.R_below (rq HO_238.out) hb); have n1_ := Aside0.mk (blk_below (g := gb239) (o := .cells #[.int .i64 a1_0, .string a1_1] 29 (0, 0)) (bq BK239.out) hb); have n2_ := Aside0.mk (blk_below (g := gb248) (o := .cells #[.int .i64 t245, .string t246] 29 (0, 0)) (bq BK248.out) hb); have n3_ := Aside0.mk (below_step (by repeat (first | (with_reducible first | exact HB.out | apply below_alloc | apply pw_below_drewN | apply below_drew1 | refine below_set ?_ GE239.out | refine below_set ?_ GE248.out) | exact HB.out)) hb); clear HO_238; clear BK239; clear BK248; clear HB; have HO_238 := n0_; have BK239 := n1_; have BK248 := n2_; have HB := n3_; clear n0_ n1_ n2_ n3_; (try clear hb); (try clear hb2); (try clear hk); (try clear hi)))
                      go_ret
                      exact ⟨by first | rfl | (simp [errW_none, errW_some] <;> rfl) | (simp [*, errW_none, errW_some] <;> rfl), by repeat (first | (with_reducible first | exact HB.out | apply below_alloc | apply pw_below_drewN | apply below_drew1 | refine below_set ?_ GE239.out | refine below_set ?_ GE248.out) | exact HB.out)⟩
                    ·rw [if_neg c190] at H
                     have c190b0 : (t305 == t306) = false := beq_eq_false_iff_ne.mpr c190
                     have c190b1 : (t305 != t306) = true := bne_iff_ne.mpr c190
                     obtain rfl := Option.some.inj H
                     have p300 : 0 ≤ (x240_4 : Int) := of_decide_eq_true aq
                     have q300 : x240_4 < (y296.length : Int) := of_decide_eq_true aq
                     obtain ⟨ad300, e300, hx300_0⟩ := Kd.at_int (Kd.R_reads' HO_238.out).2.2 x240_4 p300 q300
                     cases e300
                     replace p300 := eq_true p300
                     replace q300 := eq_true q300
                     go_wp2_with (first | ((with_reducible refine gate_callee (f := 28) rfl ?_); refine goesL_ (some 246) rfl rfl Try.func28 (by kernel_rfl) rfl #[.int .i64 (rd y296 x240_4)] rfl eq_ ?_; (with_reducible refine (primitive_Code.calls (rd y296 x240_4) t301 t302 _ A182.out).mono ?_); rintro e w206 ⟨rfl, hb⟩; refine ⟨_, rfl, ?_⟩; have n0_ := Aside0.mk (Kd.R_below (rq HO_238.out) hb); have n1_ := Aside0.mk (blk_below (g := gb239) (o := .cells #[.int .i64 a1_0, .string a1_1] 29 (0, 0)) (bq BK239.out) hb); have n2_ := Aside0.mk (blk_below (g := gb248) (o := .cells #[.int .i64 t245, .string t246] 29 (0, 0)) (bq BK248.out) hb); have n3_ := Aside0.mk (below_step (by repeat (first | (with_reducible first | exact HB.out | apply below_alloc | apply pw_below_drewN | apply below_drew1 | refine below_set ?_ GE239.out | refine below_set ?_ GE248.out) | exact HB.out)) hb); clear HO_238; clear BK239; clear BK248; clear HB; have HO_238 := n0_; have BK239 := n1_; have BK248 := n2_; have HB := n3_; clear n0_ n1_ n2_ n3_; (try clear hb); (try clear hb2); (try clear hk); (try clear hi)) | ((with_reducible refine gate_callee (f := 29) rfl ?_); refine goesL_ (some 251) rfl rfl Try.func29 (by kernel_rfl) rfl #[.int .i64 (rd y296 x240_4)] rfl eq_ ?_; (with_reducible refine (keyeventref03_Code.calls (rd y296 x240_4) t303 t304 _ A183.out).mono ?_); rintro e w207 ⟨rfl, hb⟩; refine ⟨_, rfl, ?_⟩; have n0_ := Aside0.mk (Kd.R_below (rq HO_238.out) hb); have n1_ := Aside0.mk (blk_below (g := gb239) (o := .cells #[.int .i64 a1_0, .string a1_1] 29 (0, 0)) (bq BK239.out) hb); have n2_ := Aside0.mk (blk_below (g := gb248) (o := .cells #[.int .i64 t245, .string t246] 29 (0, 0)) (bq BK248.out) hb); have n3_ := Aside0.mk (below_step (by repeat (first | (with_reducible first | exact HB.out | apply below_alloc | apply pw_below_drewN | apply below_drew1 | refine below_set ?_ GE239.out | refine below_set ?_ GE248.out) | exact HB.out)) hb); clear HO_238; clear BK239; clear BK248; clear HB; have HO_238 := n0_; have BK239 := n1_; have BK248 := n2_; have HB := n3_; clear n0_ n1_ n2_ n3_; (try clear hb); (try clear hb2); (try clear hk); (try clear hi)) | (go_at_call 30; (with_reducible refine (primitive_Raw.calls (rd y296 x240_4) t305 _ A188.out).mono ?_); rintro e w208 ⟨rfl, hb⟩; have n0_ := Aside0.mk (Kd.R_below (rq HO_238.out) hb); have n1_ := Aside0.mk (blk_below (g := gb239) (o := .cells #[.int .i64 a1_0, .string a1_1] 29 (0, 0)) (bq BK239.out) hb); have n2_ := Aside0.mk (blk_below (g := gb248) (o := .cells #[.int .i64 t245, .string t246] 29 (0, 0)) (bq BK248.out) hb); have n3_ := Aside0.mk (below_step (by repeat (first | (with_reducible first | exact HB.out | apply below_alloc | apply pw_below_drewN | apply below_drew1 | refine below_set ?_ GE239.out | refine below_set ?_ GE248.out) | exact HB.out)) hb); clear HO_238; clear BK239; clear BK248; clear HB; have HO_238 := n0_; have BK239 := n1_; have BK248 := n2_; have HB := n3_; clear n0_ n1_ n2_ n3_; (try clear hb); (try clear hb2); (try clear hk); (try clear hi)) | (go_at_call 31; (with_reducible refine (keyeventref03_Raw.calls (rd y296 x240_4) t306 _ A189.out).mono ?_); rintro e w209 ⟨rfl, hb⟩; have n0_ := Aside0.mk (Kd.R_below (rq HO_238.out) hb); have n1_ := Aside0.mk (blk_below (g := gb239) (o := .cells #[.int .i64 a1_0, .string a1_1] 29 (0, 0)) (bq BK239.out) hb); have n2_ := Aside0.mk (blk_below (g := gb248) (o := .cells #[.int .i64 t245, .string t246] 29 (0, 0)) (bq BK248.out) hb); have n3_ := Aside0.mk (below_step (by repeat (first | (with_reducible first | exact HB.out | apply below_alloc | apply pw_below_drewN | apply below_drew1 | refine below_set ?_ GE239.out | refine below_set ?_ GE248.out) | exact HB.out)) hb); clear HO_238; clear BK239; clear BK248; clear HB; have HO_238 := n0_; have BK239 := n1_; have BK248 := n2_; have HB := n3_; clear n0_ n1_ n2_ n3_; (try clear hb); (try clear hb2); (try clear hk); (try clear hi)))
                     go_ret
                     exact ⟨by first | rfl | (simp [errW_none, errW_some] <;> rfl) | (simp [*, errW_none, errW_some] <;> rfl), by repeat (first | (with_reducible first | exact HB.out | apply below_alloc | apply pw_below_drewN | apply below_drew1 | refine below_set ?_ GE239.out | refine below_set ?_ GE248.out) | exact HB.out)⟩
                  ·rw [if_neg c184] at H
                   have c184b0 : (t301.toList == t303.toList) = false := beq_eq_false_iff_ne.mpr c184
                   have c184b1 : (t301.toList != t303.toList) = true := bne_iff_ne.mpr c184
                   obtain rfl := Option.some.inj H
                   have p300 : 0 ≤ (x240_4 : Int) := of_decide_eq_true aq
                   have q300 : x240_4 < (y296.length : Int) := of_decide_eq_true aq
                   obtain ⟨ad300, e300, hx300_0⟩ := Kd.at_int (Kd.R_reads' HO_238.out).2.2 x240_4 p300 q300
                   cases e300
                   replace p300 := eq_true p300
                   replace q300 := eq_true q300
                   go_wp2_with (first | ((with_reducible refine gate_callee (f := 28) rfl ?_); refine goesL_ (some 246) rfl rfl Try.func28 (by kernel_rfl) rfl #[.int .i64 (rd y296 x240_4)] rfl eq_ ?_; (with_reducible refine (primitive_Code.calls (rd y296 x240_4) t301 t302 _ A182.out).mono ?_); rintro e w210 ⟨rfl, hb⟩; refine ⟨_, rfl, ?_⟩; have n0_ := Aside0.mk (Kd.R_below (rq HO_238.out) hb); have n1_ := Aside0.mk (blk_below (g := gb239) (o := .cells #[.int .i64 a1_0, .string a1_1] 29 (0, 0)) (bq BK239.out) hb); have n2_ := Aside0.mk (blk_below (g := gb248) (o := .cells #[.int .i64 t245, .string t246] 29 (0, 0)) (bq BK248.out) hb); have n3_ := Aside0.mk (below_step (by repeat (first | (with_reducible first | exact HB.out | apply below_alloc | apply pw_below_drewN | apply below_drew1 | refine below_set ?_ GE239.out | refine below_set ?_ GE248.out) | exact HB.out)) hb); clear HO_238; clear BK239; clear BK248; clear HB; have HO_238 := n0_; have BK239 := n1_; have BK248 := n2_; have HB := n3_; clear n0_ n1_ n2_ n3_; (try clear hb); (try clear hb2); (try clear hk); (try clear hi)) | ((with_reducible refine gate_callee (f := 29) rfl ?_); refine goesL_ (some 251) rfl rfl Try.func29 (by kernel_rfl) rfl #[.int .i64 (rd y296 x240_4)] rfl eq_ ?_; (with_reducible refine (keyeventref03_Code.calls (rd y296 x240_4) t303 t304 _ A183.out).mono ?_); rintro e w211 ⟨rfl, hb⟩; refine ⟨_, rfl, ?_⟩; have n0_ := Aside0.mk (Kd.R_below (rq HO_238.out) hb); have n1_ := Aside0.mk (blk_below (g := gb239) (o := .cells #[.int .i64 a1_0, .string a1_1] 29 (0, 0)) (bq BK239.out) hb); have n2_ := Aside0.mk (blk_below (g := gb248) (o := .cells #[.int .i64 t245, .string t246] 29 (0, 0)) (bq BK248.out) hb); have n3_ := Aside0.mk (below_step (by repeat (first | (with_reducible first | exact HB.out | apply below_alloc | apply pw_below_drewN | apply below_drew1 | refine below_set ?_ GE239.out | refine below_set ?_ GE248.out) | exact HB.out)) hb); clear HO_238; clear BK239; clear BK248; clear HB; have HO_238 := n0_; have BK239 := n1_; have BK248 := n2_; have HB := n3_; clear n0_ n1_ n2_ n3_; (try clear hb); (try clear hb2); (try clear hk); (try clear hi)))
                   go_ret
                   exact ⟨by first | rfl | (simp [errW_none, errW_some] <;> rfl) | (simp [*, errW_none, errW_some] <;> rfl), by repeat (first | (with_reducible first | exact HB.out | apply below_alloc | apply pw_below_drewN | apply below_drew1 | refine below_set ?_ GE239.out | refine below_set ?_ GE248.out) | exact HB.out)⟩
                 ·rw [if_neg c181] at H
                  exact absurd H (by simp)
                ·rw [if_neg c180] at H
                 exact absurd H (by simp)
               ·rw [if_neg c179] at H
                have c179b0 : decide (x240_4 < (y296.length : Int)) = false := decide_eq_false c179
                clear c179
                replace H := Option.bind_eq_some_iff.mp H
                obtain ⟨t299, A2120, H⟩ := H
                replace H : (some t299) = some r := H
                have A212 := Aside0.mk A2120
                clear A2120
                obtain rfl := Option.some.inj H
                go_wp2_with (first | ((with_reducible refine gate_callee (f := 9) rfl ?_); refine goesL_ (some 277) rfl rfl Try.func9 (by kernel_rfl) rfl #[] rfl eq_ ?_; (with_reducible refine (keyeventlaw03_awake.calls k4  t299 _ A212.out).mono ?_); rintro e w213 ⟨rfl, hb⟩; refine ⟨_, rfl, ?_⟩; have n0_ := Aside0.mk (Kd.R_below (rq HO_238.out) hb); have n1_ := Aside0.mk (blk_below (g := gb239) (o := .cells #[.int .i64 a1_0, .string a1_1] 29 (0, 0)) (bq BK239.out) hb); have n2_ := Aside0.mk (blk_below (g := gb248) (o := .cells #[.int .i64 t245, .string t246] 29 (0, 0)) (bq BK248.out) hb); have n3_ := Aside0.mk (below_step (by repeat (first | (with_reducible first | exact HB.out | apply below_alloc | apply pw_below_drewN | apply below_drew1 | refine below_set ?_ GE239.out | refine below_set ?_ GE248.out) | exact HB.out)) hb); clear HO_238; clear BK239; clear BK248; clear HB; have HO_238 := n0_; have BK239 := n1_; have BK248 := n2_; have HB := n3_; clear n0_ n1_ n2_ n3_; (try clear hb); (try clear hb2); (try clear hk); (try clear hi)))
                go_ret
                exact ⟨by first | rfl | (simp [errW_none, errW_some] <;> rfl) | (simp [*, errW_none, errW_some] <;> rfl), by repeat (first | (with_reducible first | exact HB.out | apply below_alloc | apply pw_below_drewN | apply below_drew1 | refine below_set ?_ GE239.out | refine below_set ?_ GE248.out) | exact HB.out)⟩
         ·rw [if_neg c83] at H
          exact absurd H (by simp)
        ·rw [if_neg c82] at H
         exact absurd H (by simp)
       ·rw [if_neg c81] at H
        exact absurd H (by simp)

end Go.Proofs.Ytgicgdiklinomaa.X
