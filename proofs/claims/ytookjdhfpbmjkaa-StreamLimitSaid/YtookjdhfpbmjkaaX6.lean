-- Written by xprint.py, a program of this repo that leads the kit's print.py: Lean checks it.
import Derived.Test.YtookjdhfpbmjkaaX0
namespace Go.Proofs.Ytookjdhfpbmjkaa.X
open Go.RowKit Go.Proofs.YtookjdhfpbmjkaaW.PrintWords Go.Proofs.YtookjdhfpbmjkaaW.PrintLast Go.Proofs.YtookjdhfpbmjkaaW.PrintMore
attribute [local go_sem] max2_int min2_int max_two min_two max_three min_three max_four min_four   -- for this text's walks alone
set_option linter.unusedVariables false
set_option linter.unusedSimpArgs false

/-! ### keyeventref04_Permitted: function 27 -/
def keyeventref04_Permitted.j0 : Nat → Int → Bool → Option (List Int)
  | 0, _, _ => none
  | k + 1, x3, x4 => if x4 = true then (some (([7] : List Int))) else (if x3 = 3 then (some (([3,7] : List Int))) else (if x3 = 4 then (some (([8,1] : List Int))) else (some ([] : List Int))))
def keyeventref04_Permitted.f (k : Nat) (a0 : Int) : Option (List Int) := if a0 = 1 then (keyeventref04_Permitted.j0 k a0 (a0 == 1)) else (keyeventref04_Permitted.j0 k a0 (a0 == 2))
theorem keyeventref04_Permitted.mono_l : ∀ k, (∀ y0 y1, LeO (keyeventref04_Permitted.j0 k y0 y1) (keyeventref04_Permitted.j0 (k + 1) y0 y1))
  | 0 => fun _ _ r h => by simp [keyeventref04_Permitted.j0] at h
  | k + 1 => by
    have ih0 := keyeventref04_Permitted.mono_l k
    · intro y0 y1
      unfold keyeventref04_Permitted.j0
      repeat' first
      | (with_reducible exact ih0 _ _)
      | (with_reducible exact LeO.refl _)
      | (with_reducible exact LeO.none _)
      | (with_reducible refine LeO.ite ?_ ?_)
      | (with_reducible refine LeO.bind ?_ (fun _ => ?_))
      | exact ih0 _ _
      | exact LeO.none _
      | refine LeO.ite ?_ ?_
      | refine LeO.bind ?_ (fun _ => ?_)
theorem keyeventref04_Permitted.mono : ∀ a0 k, LeO (keyeventref04_Permitted.f k a0) (keyeventref04_Permitted.f (k + 1) a0) := by
  intro a0 k
  have ih0 := keyeventref04_Permitted.mono_l k
  unfold keyeventref04_Permitted.f
  repeat' first
      | (with_reducible exact ih0 _ _)
      | (with_reducible exact LeO.refl _)
      | (with_reducible exact LeO.none _)
      | (with_reducible refine LeO.ite ?_ ?_)
      | (with_reducible refine LeO.bind ?_ (fun _ => ?_))
      | exact ih0 _ _
      | exact LeO.none _
      | refine LeO.ite ?_ ?_
      | refine LeO.bind ?_ (fun _ => ?_)
set_option maxHeartbeats 8000000 in
set_option maxRecDepth 100000 in
theorem keyeventref04_Permitted.calls (k : Nat) (a0 : Int) (r : List Int) (w : World) (h : keyeventref04_Permitted.f k a0 = some r) :
    Calls Try.prog 27 #[.int .i64 a0] w fun e w' => ∃ v0_ : Value, e = .returned (v0_) ∧ Kd.R (Kd.int .i64) 3 w' w.heap.size (fun _ => True) v0_ r ∧ Below w.heap.size w w' := by
 have HB := Aside0.mk (Below.refl w.heap.size w)
 have H : (if a0 = 1 then (keyeventref04_Permitted.j0 k a0 (a0 == 1)) else (keyeventref04_Permitted.j0 k a0 (a0 == 2))) = some r := h
 clear h
 have HC2 := Aside0.mk H
 clear H
 go_enter Try.func27, Try.ntmps27
 go_upto_if 4 with (fail)
 go_cut [4] (fun v4 wc => ∃ (kq : Nat) (x4_1 : Bool), v4 = .bool x4_1 ∧ Aside0 (keyeventref04_Permitted.j0 kq a0 x4_1 = some r) ∧ Aside0 (kq ≤ k) ∧ Aside0 (Below w.heap.size w wc))
 case first =>
  have H := HC2.out
  clear HC2
  by_cases c3 : a0 = 1
  ·rw [if_pos c3] at H
   have c3b0 : (a0 == 1) = true := beq_iff_eq.mpr c3
   have c3b1 : (a0 != 1) = false := bne_eq_false_iff_eq.mpr c3
   clear c3
   (first | rw [c3b0] | (simp only [i64_w, i32_w]; rw [c3b0]) | skip)
   have H' := Aside0.mk H
   clear H
   go_wp2
   go_meet
   case rel => exact ⟨_, ((a0 == 1)), dq, H', ⟨by first | omega | exact Nat.le_refl _⟩, ⟨hq HB.out⟩⟩
  ·rw [if_neg c3] at H
   have c3b0 : (a0 == 1) = false := beq_eq_false_iff_ne.mpr c3
   have c3b1 : (a0 != 1) = true := bne_iff_ne.mpr c3
   (first | rw [c3b0] | (simp only [i64_w, i32_w]; rw [c3b0]) | skip)
   have H' := Aside0.mk H
   clear H
   go_wp2
   go_meet
   case rel => exact ⟨_, ((a0 == 2)), dq, H', ⟨by first | omega | exact Nat.le_refl _⟩, ⟨hq HB.out⟩⟩
 case rest =>
  clear HC2
  try clear c2
  try clear p2
  try clear c3
  try clear c3b0
  try clear c3b1
  obtain ⟨kq, x4_1, rfl, HA, HJ1, HB⟩ := hcut
  cases kq with
  | zero => exact absurd HA.out (by simp [keyeventref04_Permitted.j0])
  | succ kj1 =>
   have H := HA.out
   clear HA
   simp only [keyeventref04_Permitted.j0] at H
   by_cases c4 : x4_1 = true
   ·subst c4
    rw [if_pos rfl] at H
    obtain ⟨y127, hy127⟩ : ∃ y_ : List Int, y_ = (([7] : List Int)) := ⟨_, rfl⟩
    replace H : (some y127) = some r := by first | (rw [hy127]; with_reducible exact H) | (have H2_ := (Option.bind_some _ _).symm.trans H; rw [hy127]; with_reducible exact H2_) | (have H2_ := (Option.bind_some _ _).symm.trans H; with_reducible exact H2_) | with_reducible exact H | (rw [hy127]; exact H) | exact H
    have Ny127 := Aside0.mk hy127
    clear hy127
    obtain rfl := Option.some.inj H
    go_wp2_with (first | ((with_reducible refine gate_dst (N := 7) rfl ?_); refine Kd.R_lit (Kd.int .i64) _ 3 ?hg (N := 7) ?hd (xs := ([7] : List Int)) (inner := [.int .i64 7]) (ok := fun _ => True) (okp := fun _ => True) ?hr ?hp (fun _ hk => hk) trivial (Below.refl _ _) (Nat.le_refl _) (by simp) ?_; (case hd => rfl); (case hg => rfl); (case hr => first | (go_simp; done) | (go_simp; rfl)); (case hp => exact (Reps.one (show Kd.M (Kd.int .i64) _ _ _ 7 [.int .i64 7] from rfl) (Reps.none _ _))); intro v128 w5 ho6 hb hg_ hnew_; clear hg_ hnew_; (first | rw [← Ny127.out] at ho6 | (simp only [Int.reduceToNat] at ho6; rw [← Ny127.out] at ho6)); have HO129 := Aside0.mk (Kd.R_lower ho6 (below_size (hq HB.out))); replace HB := Aside0.mk (below_step (hq HB.out) hb); clear hb ho6))
    go_ret
    exact ⟨_, rq_, by (with_reducible repeat (first | apply Kd.R_alloc | apply Kd.R_drewN | apply Kd.R_drew)); exact HO129.out, hq HB.out⟩
   ·replace c4 := Bool.eq_false_iff.mpr c4
    subst c4
    rw [if_neg (show ¬ (false = true) by decide)] at H
    by_cases c7 : a0 = 3
    ·rw [if_pos c7] at H
     have c7b0 : (a0 == 3) = true := beq_iff_eq.mpr c7
     have c7b1 : (a0 != 3) = false := bne_eq_false_iff_eq.mpr c7
     clear c7
     obtain ⟨y130, hy130⟩ : ∃ y_ : List Int, y_ = (([3,7] : List Int)) := ⟨_, rfl⟩
     replace H : (some y130) = some r := by first | (rw [hy130]; with_reducible exact H) | (have H2_ := (Option.bind_some _ _).symm.trans H; rw [hy130]; with_reducible exact H2_) | (have H2_ := (Option.bind_some _ _).symm.trans H; with_reducible exact H2_) | with_reducible exact H | (rw [hy130]; exact H) | exact H
     have Ny130 := Aside0.mk hy130
     clear hy130
     obtain rfl := Option.some.inj H
     go_wp2_with (first | ((with_reducible refine gate_dst (N := 10) rfl ?_); refine Kd.R_lit (Kd.int .i64) _ 3 ?hg (N := 10) ?hd (xs := ([3,7] : List Int)) (inner := [.int .i64 3, .int .i64 7]) (ok := fun _ => True) (okp := fun _ => True) ?hr ?hp (fun _ hk => hk) trivial (Below.refl _ _) (Nat.le_refl _) (by simp) ?_; (case hd => rfl); (case hg => rfl); (case hr => first | (go_simp; done) | (go_simp; rfl)); (case hp => exact (Reps.one (show Kd.M (Kd.int .i64) _ _ _ 3 [.int .i64 3] from rfl) (Reps.one (show Kd.M (Kd.int .i64) _ _ _ 7 [.int .i64 7] from rfl) (Reps.none _ _)))); intro v131 w8 ho9 hb hg_ hnew_; clear hg_ hnew_; (first | rw [← Ny130.out] at ho9 | (simp only [Int.reduceToNat] at ho9; rw [← Ny130.out] at ho9)); have HO132 := Aside0.mk (Kd.R_lower ho9 (below_size (hq HB.out))); replace HB := Aside0.mk (below_step (hq HB.out) hb); clear hb ho9))
     go_ret
     exact ⟨_, rq_, by (with_reducible repeat (first | apply Kd.R_alloc | apply Kd.R_drewN | apply Kd.R_drew)); exact HO132.out, hq HB.out⟩
    ·rw [if_neg c7] at H
     have c7b0 : (a0 == 3) = false := beq_eq_false_iff_ne.mpr c7
     have c7b1 : (a0 != 3) = true := bne_iff_ne.mpr c7
     by_cases c10 : a0 = 4
     ·rw [if_pos c10] at H
      have c10b0 : (a0 == 4) = true := beq_iff_eq.mpr c10
      have c10b1 : (a0 != 4) = false := bne_eq_false_iff_eq.mpr c10
      clear c10
      obtain ⟨y133, hy133⟩ : ∃ y_ : List Int, y_ = (([8,1] : List Int)) := ⟨_, rfl⟩
      replace H : (some y133) = some r := by first | (rw [hy133]; with_reducible exact H) | (have H2_ := (Option.bind_some _ _).symm.trans H; rw [hy133]; with_reducible exact H2_) | (have H2_ := (Option.bind_some _ _).symm.trans H; with_reducible exact H2_) | with_reducible exact H | (rw [hy133]; exact H) | exact H
      have Ny133 := Aside0.mk hy133
      clear hy133
      obtain rfl := Option.some.inj H
      go_wp2_with (first | ((with_reducible refine gate_dst (N := 13) rfl ?_); refine Kd.R_lit (Kd.int .i64) _ 3 ?hg (N := 13) ?hd (xs := ([8,1] : List Int)) (inner := [.int .i64 8, .int .i64 1]) (ok := fun _ => True) (okp := fun _ => True) ?hr ?hp (fun _ hk => hk) trivial (Below.refl _ _) (Nat.le_refl _) (by simp) ?_; (case hd => rfl); (case hg => rfl); (case hr => first | (go_simp; done) | (go_simp; rfl)); (case hp => exact (Reps.one (show Kd.M (Kd.int .i64) _ _ _ 8 [.int .i64 8] from rfl) (Reps.one (show Kd.M (Kd.int .i64) _ _ _ 1 [.int .i64 1] from rfl) (Reps.none _ _)))); intro v134 w11 ho12 hb hg_ hnew_; clear hg_ hnew_; (first | rw [← Ny133.out] at ho12 | (simp only [Int.reduceToNat] at ho12; rw [← Ny133.out] at ho12)); have HO135 := Aside0.mk (Kd.R_lower ho12 (below_size (hq HB.out))); replace HB := Aside0.mk (below_step (hq HB.out) hb); clear hb ho12))
      go_ret
      exact ⟨_, rq_, by (with_reducible repeat (first | apply Kd.R_alloc | apply Kd.R_drewN | apply Kd.R_drew)); exact HO135.out, hq HB.out⟩
     ·rw [if_neg c10] at H
      have c10b0 : (a0 == 4) = false := beq_eq_false_iff_ne.mpr c10
      have c10b1 : (a0 != 4) = true := bne_iff_ne.mpr c10
      obtain rfl := Option.some.inj H
      go_wp2
      go_ret
      exact ⟨_, rq_, by first | exact Kd.R_nil _ _ _ _ _ | exact Kd.N_nil _ _ _ _ _ | exact Kd.V_nil _ _ _ _ _ | exact Kd.Q_nil _ _ _ _ _ | exact Kd.S_nil _ _ _ _ _, hq HB.out⟩

/-! ### keyeventref01_Number: function 48 -/
mutual
def keyeventref01_Number.j0 : Nat → Int → Int → Bool → Option (ByteArray × Int)
  | 0, _, _, _ => none
  | k + 1, x0, x1, x25 => if x25 = true then (some ((⟨#[]⟩ : ByteArray), 2)) else (keyeventref01_Number.l0 k x0 ([] : List Int) (wrap64 (x1 - 1)))
def keyeventref01_Number.l0 : Nat → Int → List Int → Int → Option (ByteArray × Int)
  | 0, _, _, _ => none
  | k + 1, x0, x6, x7 => if x7 ≥ 0 then (if 0 ≤ (IntKind.u64.wrap (wrap64 (6 * x7))) then (if 0 ≤ (Go.bits .and .i64 (shr .i64 x0 (IntKind.u64.wrap (wrap64 (6 * x7)))) 63) then (if (Go.bits .and .i64 (shr .i64 x0 (IntKind.u64.wrap (wrap64 (6 * x7)))) 63) < 64 then (if x6.length < 140737488355328 then (keyeventref01_Number.l0 k x0 (x6 ++ [bt (⟨#[65,66,67,68,69,70,71,72,73,74,75,76,77,78,79,80,81,82,83,84,85,86,87,88,89,90,97,98,99,100,101,102,103,104,105,106,107,108,109,110,111,112,113,114,115,116,117,118,119,120,121,122,48,49,50,51,52,53,54,55,56,57,45,95]⟩ : ByteArray) (Go.bits .and .i64 (shr .i64 x0 (IntKind.u64.wrap (wrap64 (6 * x7)))) 63)]) (wrap64 (x7 - 1))) else (none)) else (none)) else (none)) else (none)) else (some (strOfNums x6, 0))
end
def keyeventref01_Number.f (k : Nat) (a0 : Int) (a1 : Int) : Option (ByteArray × Int) := if a1 < 1 then (keyeventref01_Number.j0 k a0 a1 true) else (if a1 > 8 then (keyeventref01_Number.j0 k a0 a1 true) else (if a0 < 0 then (keyeventref01_Number.j0 k a0 a1 true) else (if 0 ≤ (IntKind.u64.wrap (wrap64 (6 * a1))) then (keyeventref01_Number.j0 k a0 a1 (decide (a0 ≥ (shl .i64 1 (IntKind.u64.wrap (wrap64 (6 * a1))))))) else (none))))
theorem keyeventref01_Number.mono_l : ∀ k, (∀ y0 y1 y2, LeO (keyeventref01_Number.j0 k y0 y1 y2) (keyeventref01_Number.j0 (k + 1) y0 y1 y2)) ∧ (∀ y0 y1 y2, LeO (keyeventref01_Number.l0 k y0 y1 y2) (keyeventref01_Number.l0 (k + 1) y0 y1 y2))
  | 0 => ⟨fun _ _ _ r h => by simp [keyeventref01_Number.j0] at h, fun _ _ _ r h => by simp [keyeventref01_Number.l0] at h⟩
  | k + 1 => by
    obtain ⟨ih0, ih1⟩ := keyeventref01_Number.mono_l k
    refine ⟨?_, ?_⟩
    · intro y0 y1 y2
      unfold keyeventref01_Number.j0
      repeat' first
      | (with_reducible exact ih0 _ _ _)
      | (with_reducible exact ih1 _ _ _)
      | (with_reducible exact LeO.refl _)
      | (with_reducible exact LeO.none _)
      | (with_reducible refine LeO.ite ?_ ?_)
      | (with_reducible refine LeO.bind ?_ (fun _ => ?_))
      | exact ih0 _ _ _
      | exact ih1 _ _ _
      | exact LeO.none _
      | refine LeO.ite ?_ ?_
      | refine LeO.bind ?_ (fun _ => ?_)
    · intro y0 y1 y2
      unfold keyeventref01_Number.l0
      repeat' first
      | (with_reducible exact ih0 _ _ _)
      | (with_reducible exact ih1 _ _ _)
      | (with_reducible exact LeO.refl _)
      | (with_reducible exact LeO.none _)
      | (with_reducible refine LeO.ite ?_ ?_)
      | (with_reducible refine LeO.bind ?_ (fun _ => ?_))
      | exact ih0 _ _ _
      | exact ih1 _ _ _
      | exact LeO.none _
      | refine LeO.ite ?_ ?_
      | refine LeO.bind ?_ (fun _ => ?_)
theorem keyeventref01_Number.mono : ∀ a0 a1 k, LeO (keyeventref01_Number.f k a0 a1) (keyeventref01_Number.f (k + 1) a0 a1) := by
  intro a0 a1 k
  obtain ⟨ih0, ih1⟩ := keyeventref01_Number.mono_l k
  unfold keyeventref01_Number.f
  repeat' first
      | (with_reducible exact ih0 _ _ _)
      | (with_reducible exact ih1 _ _ _)
      | (with_reducible exact LeO.refl _)
      | (with_reducible exact LeO.none _)
      | (with_reducible refine LeO.ite ?_ ?_)
      | (with_reducible refine LeO.bind ?_ (fun _ => ?_))
      | exact ih0 _ _ _
      | exact ih1 _ _ _
      | exact LeO.none _
      | refine LeO.ite ?_ ?_
      | refine LeO.bind ?_ (fun _ => ?_)
set_option maxHeartbeats 8000000 in
set_option maxRecDepth 100000 in
theorem keyeventref01_Number.calls (k : Nat) (a0 : Int) (a1 : Int) (r1 : ByteArray) (r2 : Int) (w : World) (h : keyeventref01_Number.f k a0 a1 = some (r1, r2)) :
    Calls Try.prog 48 #[.int .i64 a0, .int .i64 a1] w fun e w' => e = .returned (.tuple #[.string r1, .int .i64 r2]) ∧ Below w.heap.size w w' := by
 have HB := Aside0.mk (Below.refl w.heap.size w)
 have H : (if a1 < 1 then (keyeventref01_Number.j0 k a0 a1 true) else (if a1 > 8 then (keyeventref01_Number.j0 k a0 a1 true) else (if a0 < 0 then (keyeventref01_Number.j0 k a0 a1 true) else (if 0 ≤ (IntKind.u64.wrap (wrap64 (6 * a1))) then (keyeventref01_Number.j0 k a0 a1 (decide (a0 ≥ (shl .i64 1 (IntKind.u64.wrap (wrap64 (6 * a1))))))) else (none))))) = some (r1, r2) := h
 clear h
 have HC3 := Aside0.mk H
 clear H
 go_enter Try.func48, Try.ntmps48
 go_upto_region 1 with (fail)
 go_cut [25] (fun v25 wc => ∃ (kq : Nat) (x25_2 : Bool), v25 = .bool x25_2 ∧ Aside0 (keyeventref01_Number.j0 kq a0 a1 x25_2 = some (r1, r2)) ∧ Aside0 (kq ≤ k) ∧ Aside0 (Below w.heap.size w wc))
 case first =>
  have H := HC3.out
  clear HC3
  by_cases c4 : a1 < 1
  ·rw [if_pos c4] at H
   have c4b0 := decide_eq_true c4
   clear c4
   (first | rw [c4b0] | (simp only [i64_w, i32_w]; rw [c4b0]) | skip)
   have H' := Aside0.mk H
   clear H
   go_wp2
   go_meet
   case rel => exact ⟨_, (true), dq, H', ⟨by first | omega | exact Nat.le_refl _⟩, ⟨hq HB.out⟩⟩
  ·rw [if_neg c4] at H
   have c4b0 := decide_eq_false c4
   clear c4
   (first | rw [c4b0] | (simp only [i64_w, i32_w]; rw [c4b0]) | skip)
   by_cases c5 : a1 > 8
   ·rw [if_pos c5] at H
    have c5b0 := decide_eq_true c5
    clear c5
    have H' := Aside0.mk H
    clear H
    go_wp2
    go_meet
    case rel => exact ⟨_, (true), dq, H', ⟨by first | omega | exact Nat.le_refl _⟩, ⟨hq HB.out⟩⟩
   ·rw [if_neg c5] at H
    have c5b0 := decide_eq_false c5
    clear c5
    by_cases c6 : a0 < 0
    ·rw [if_pos c6] at H
     have c6b0 := decide_eq_true c6
     clear c6
     have H' := Aside0.mk H
     clear H
     go_wp2
     go_meet
     case rel => exact ⟨_, (true), dq, H', ⟨by first | omega | exact Nat.le_refl _⟩, ⟨hq HB.out⟩⟩
    ·rw [if_neg c6] at H
     have c6b0 := decide_eq_false c6
     clear c6
     obtain ⟨ji7, hji7⟩ : ∃ j_ : Int, (IntKind.u64.wrap (wrap64 (6 * a1))) = j_ := ⟨_, rfl⟩
     replace H : (if 0 ≤ (ji7) then (keyeventref01_Number.j0 k a0 a1 (decide (a0 ≥ (shl .i64 1 (ji7))))) else (none)) = some (r1, r2) := by first | (rw [hji7] at H; exact H) | (simp only [hji7] at H ⊢; exact H)
     by_cases c8 : 0 ≤ (ji7)
     ·rw [if_pos c8] at H
      have c8b0 := eq_true c8
      have c8b1 := decide_eq_true c8
      clear c8
      obtain ⟨ji9, hji9⟩ : ∃ j_ : Int, (shl .i64 1 (ji7)) = j_ := ⟨_, rfl⟩
      replace H : (keyeventref01_Number.j0 k a0 a1 (decide (a0 ≥ (ji9)))) = some (r1, r2) := by first | (rw [hji9] at H; exact H) | (simp only [hji9] at H ⊢; exact H)
      have hji9_ : (IntKind.i64.wrap (1 * 2 ^ min (ji7).toNat 64)) = ji9 := hji9
      have hji9z : (ji7) ≤ 64 → (IntKind.i64.wrap (1 * 2 ^ (ji7).toNat)) = ji9 := shl_small hji9
      have hji9u : (IntKind.i64.wrap (2 ^ min (ji7).toNat 64)) = ji9 := by have h_ := hji9_; rw [Int.one_mul] at h_; exact h_
      have hji9v : (ji7) ≤ 64 → (IntKind.i64.wrap (2 ^ (ji7).toNat)) = ji9 := fun hle_ => by have h_ := hji9z hle_; rw [Int.one_mul] at h_; exact h_
      have hji9y : (wrap64 (1 * 2 ^ min (ji7).toNat 64)) = ji9 := (i64_w _).symm.trans hji9_
      have hji9x : (ji7) ≤ 64 → (wrap64 (1 * 2 ^ (ji7).toNat)) = ji9 := fun h_ => (i64_w _).symm.trans (hji9z h_)
      have H' := Aside0.mk H
      clear H
      go_wp2
      go_meet
      case rel => exact ⟨_, (decide (a0 ≥ (ji9))), (by first | rfl | (simp; done) | (simp only [← hji9] <;> (first | rfl | simp)) | (simp [*]; done)), H', ⟨by first | omega | exact Nat.le_refl _⟩, ⟨hq HB.out⟩⟩
     ·rw [if_neg c8] at H
      exact absurd H (by simp)
 case rest =>
  clear HC3
  try clear p2
  try clear c4
  try clear c4b0
  try clear c5
  try clear c5b0
  try clear c6
  try clear c6b0
  try clear p6
  try clear c8
  try clear c8b0
  try clear c8b1
  obtain ⟨kq, x25_2, rfl, HA, HJ2, HB⟩ := hcut
  cases kq with
  | zero => exact absurd HA.out (by simp [keyeventref01_Number.j0])
  | succ kj2 =>
   have H := HA.out
   clear HA
   simp only [keyeventref01_Number.j0] at H
   by_cases c10 : x25_2 = true
   ·subst c10
    rw [if_pos rfl] at H
    simp only [Option.some.injEq, Prod.mk.injEq] at H
    obtain ⟨rfl, rfl⟩ := H
    go_wp2
    go_ret2
    exact ⟨rq_, hq HB.out⟩
   ·replace c10 := Bool.eq_false_iff.mpr c10
    subst c10
    rw [if_neg (show ¬ (false = true) by decide)] at H
    have H' := Aside0.mk H
    clear H
    go_wp2
    go_loopg [6,7] kj2 (fun kq v6 v7 w' => ∃ (x6_2 : List Int) (x7_2 : Int), v7 = .int .i64 x7_2 ∧ Aside0 (keyeventref01_Number.l0 kq a0 x6_2 x7_2 = some (r1, r2)) ∧ Aside0 (kq ≤ kj2) ∧ Aside0 (Kd.R (Kd.int .u8) 5 w' w.heap.size (fun _ => True) v6 x6_2) ∧ Aside0 (Below w.heap.size w w'))
    case atStart => exact ⟨(([] : List Int)), (wrap64 (a1 - 1)), dq, H', ⟨Nat.le_refl _⟩, ⟨by first | exact Kd.R_nil _ _ _ _ _ | exact Kd.N_nil _ _ _ _ _ | exact Kd.V_nil _ _ _ _ _ | exact Kd.Q_nil _ _ _ _ _ | exact Kd.S_nil _ _ _ _ _⟩, ⟨hq HB.out⟩⟩
    case round =>
     clear H'
     try clear c1
     try clear p2
     try clear c4
     try clear c4b0
     try clear c5
     try clear c5b0
     try clear c6
     try clear c6b0
     try clear p6
     try clear c8
     try clear c8b0
     try clear c8b1
     try clear c10
     try clear p2
     try clear p6
     obtain ⟨x6_2, x7_2, rfl, HA, HK2, HO_6, HB⟩ := hrel
     cases gk with
     | zero => exact absurd HA.out (by simp [keyeventref01_Number.l0])
     | succ k2 =>
      have H := HA.out
      clear HA
      simp only [keyeventref01_Number.l0] at H
      by_cases c11 : x7_2 ≥ 0
      ·rw [if_pos c11] at H
       have c11b0 := decide_eq_true c11
       clear c11
       obtain ⟨ji12, hji12⟩ : ∃ j_ : Int, (IntKind.u64.wrap (wrap64 (6 * x7_2))) = j_ := ⟨_, rfl⟩
       replace H : (if 0 ≤ (ji12) then (if 0 ≤ (Go.bits .and .i64 (shr .i64 a0 (ji12)) 63) then (if (Go.bits .and .i64 (shr .i64 a0 (ji12)) 63) < 64 then (if x6_2.length < 140737488355328 then (keyeventref01_Number.l0 k2 a0 (x6_2 ++ [bt (⟨#[65,66,67,68,69,70,71,72,73,74,75,76,77,78,79,80,81,82,83,84,85,86,87,88,89,90,97,98,99,100,101,102,103,104,105,106,107,108,109,110,111,112,113,114,115,116,117,118,119,120,121,122,48,49,50,51,52,53,54,55,56,57,45,95]⟩ : ByteArray) (Go.bits .and .i64 (shr .i64 a0 (ji12)) 63)]) (wrap64 (x7_2 - 1))) else (none)) else (none)) else (none)) else (none)) = some (r1, r2) := by first | (rw [hji12] at H; exact H) | (simp only [hji12] at H ⊢; exact H)
       by_cases c13 : 0 ≤ (ji12)
       ·rw [if_pos c13] at H
        have c13b0 := eq_true c13
        have c13b1 := decide_eq_true c13
        clear c13
        obtain ⟨ji14, hji14⟩ : ∃ j_ : Int, (shr .i64 a0 (ji12)) = j_ := ⟨_, rfl⟩
        replace H : (if 0 ≤ (Go.bits .and .i64 (ji14) 63) then (if (Go.bits .and .i64 (ji14) 63) < 64 then (if x6_2.length < 140737488355328 then (keyeventref01_Number.l0 k2 a0 (x6_2 ++ [bt (⟨#[65,66,67,68,69,70,71,72,73,74,75,76,77,78,79,80,81,82,83,84,85,86,87,88,89,90,97,98,99,100,101,102,103,104,105,106,107,108,109,110,111,112,113,114,115,116,117,118,119,120,121,122,48,49,50,51,52,53,54,55,56,57,45,95]⟩ : ByteArray) (Go.bits .and .i64 (ji14) 63)]) (wrap64 (x7_2 - 1))) else (none)) else (none)) else (none)) = some (r1, r2) := by first | (rw [hji14] at H; exact H) | (simp only [hji14] at H ⊢; exact H)
        have hji14_ : (a0 / 2 ^ min (ji12).toNat 64) = ji14 := hji14
        have hji14z : (ji12) ≤ 64 → (a0 / 2 ^ (ji12).toNat) = ji14 := shr_small hji14
        by_cases c15 : 0 ≤ (Go.bits .and .i64 (ji14) 63)
        ·rw [if_pos c15] at H
         have c15b0 := decide_eq_true c15
         clear c15
         by_cases c16 : (Go.bits .and .i64 (ji14) 63) < 64
         ·rw [if_pos c16] at H
          have c16b0 := decide_eq_true c16
          clear c16
          by_cases c18 : x6_2.length < 140737488355328
          ·rw [if_pos c18] at H
           have LMc18 := Aside0.mk c18
           clear c18
           obtain ⟨y136, hy136⟩ : ∃ y_ : List Int, y_ = (x6_2 ++ [bt (⟨#[65,66,67,68,69,70,71,72,73,74,75,76,77,78,79,80,81,82,83,84,85,86,87,88,89,90,97,98,99,100,101,102,103,104,105,106,107,108,109,110,111,112,113,114,115,116,117,118,119,120,121,122,48,49,50,51,52,53,54,55,56,57,45,95]⟩ : ByteArray) (Go.bits .and .i64 (ji14) 63)]) := ⟨_, rfl⟩
           replace H : (keyeventref01_Number.l0 k2 a0 y136 (wrap64 (x7_2 - 1))) = some (r1, r2) := by first | (rw [hy136]; with_reducible exact H) | (have H2_ := (Option.bind_some _ _).symm.trans H; rw [hy136]; with_reducible exact H2_) | (have H2_ := (Option.bind_some _ _).symm.trans H; with_reducible exact H2_) | with_reducible exact H | (rw [hy136]; exact H) | exact H
           have Ny136 := Aside0.mk hy136
           clear hy136
           have H' := Aside0.mk H
           clear H
           have p17 : 0 ≤ ((Go.bits .and .i64 (ji14) 63) : Int) := of_decide_eq_true aq
           have q17 : (Go.bits .and .i64 (ji14) 63) < (64 : Int) := of_decide_eq_true aq
           have hx17 := bt_at (⟨#[65,66,67,68,69,70,71,72,73,74,75,76,77,78,79,80,81,82,83,84,85,86,87,88,89,90,97,98,99,100,101,102,103,104,105,106,107,108,109,110,111,112,113,114,115,116,117,118,119,120,121,122,48,49,50,51,52,53,54,55,56,57,45,95]⟩ : ByteArray) (Go.bits .and .i64 (ji14) 63)
           replace p17 := eq_true p17
           replace q17 := eq_true q17
           go_wp2_with (first | ((with_reducible refine gate_builtin (b := .append) (xs := #[.tmp 32, .tmp 40]) rfl ?_); at_builtin; refine Kd.R_append (Kd.int .u8) (w0 := w) w.heap.size rfl (.tmp 32) (.tmp 40) 28 5 (.int .u8 0) 1 rfl Try.underlying28 info5 rfl (by decide) (by omega) u6 x6_2 (bt (⟨#[65,66,67,68,69,70,71,72,73,74,75,76,77,78,79,80,81,82,83,84,85,86,87,88,89,90,97,98,99,100,101,102,103,104,105,106,107,108,109,110,111,112,113,114,115,116,117,118,119,120,121,122,48,49,50,51,52,53,54,55,56,57,45,95]⟩ : ByteArray) (Go.bits .and .i64 (ji14) 63)) [.int .u8 (bt (⟨#[65,66,67,68,69,70,71,72,73,74,75,76,77,78,79,80,81,82,83,84,85,86,87,88,89,90,97,98,99,100,101,102,103,104,105,106,107,108,109,110,111,112,113,114,115,116,117,118,119,120,121,122,48,49,50,51,52,53,54,55,56,57,45,95]⟩ : ByteArray) (Go.bits .and .i64 (ji14) 63))] (fun _ => True) (fun _ => False) rfl rfl ?aP (fun _ hk => hk.elim) ?aF ?aO ?aB ?aS ?aL ?_; (case aP => exact rfl); (case aB => exact (hq HB.out)); (case aF => exact (fun _ _ => trivial)); (case aO => exact (qR HO_6.out)); (case aS => exact (below_size (hq HB.out))); (case aL => have := LMc18.out; omega); intro v137 w19 ho hb hg hat; rw [← Ny136.out] at ho; have n0_ := Aside0.mk (hb); have n1_ := Aside0.mk (ho); clear HB; clear HO_6; have HB := n0_; have HO138 := n1_; clear n0_ n1_; clear ho hb hg hat))
           go_roundg k2
           case measure => have := HJ2.out; have := HK2.out; omega
           case rel => exact ⟨(y136), (wrap64 (x7_2 - 1)), dq, H', ⟨by have := HJ2.out; have := HK2.out; omega⟩, ⟨by (with_reducible repeat (first | apply Kd.R_alloc | apply Kd.R_drewN | apply Kd.R_drew)); exact HO138.out⟩, ⟨hq HB.out⟩⟩
          ·rw [if_neg c18] at H
           exact absurd H (by simp)
         ·rw [if_neg c16] at H
          exact absurd H (by simp)
        ·rw [if_neg c15] at H
         exact absurd H (by simp)
       ·rw [if_neg c13] at H
        exact absurd H (by simp)
      ·rw [if_neg c11] at H
       have c11b0 := decide_eq_false c11
       clear c11
       simp only [Option.some.injEq, Prod.mk.injEq] at H
       obtain ⟨rfl, rfl⟩ := H
       have hcv20 := own_string (P := Try.prog) Try.underlying28 Try.underlying5 Try.underlying9 (Kd.own_of_R HO_6.out)
       go_wp2
       go_ret2
       exact ⟨rq_, hq HB.out⟩

/-! ### keyeventref04_Mark: function 26 -/
def keyeventref04_Mark.f (k : Nat) (a0 : Int) (a1 : Int) : Option (ByteArray × Int) := (keyeventref04_Permitted.f k a0).bind fun t139 => (if (t139.length : Int) = 0 then (some ((⟨#[]⟩ : ByteArray), 2)) else (if a1 < 0 then (some ((⟨#[]⟩ : ByteArray), 2)) else (if a1 > 4095 then (some ((⟨#[]⟩ : ByteArray), 2)) else ((keyeventref01_Number.f k a1 2).bind fun bt142 => (if 0 ≤ a0 then (if a0 ≤ (wrap64 (a0 + 1)) then (if (wrap64 (a0 + 1)) ≤ 5 then (if 1 + ((⟨#[63,65,66,67,71]⟩ : ByteArray).extract (a0 : Int).toNat ((wrap64 (a0 + 1)) : Int).toNat).size ≤ 9223372036854775807 then (if ((⟨#[45]⟩ : ByteArray) ++ ((⟨#[63,65,66,67,71]⟩ : ByteArray).extract (a0 : Int).toNat ((wrap64 (a0 + 1)) : Int).toNat)).size + bt142.1.size ≤ 9223372036854775807 then (some (((⟨#[45]⟩ : ByteArray) ++ ((⟨#[63,65,66,67,71]⟩ : ByteArray).extract (a0 : Int).toNat ((wrap64 (a0 + 1)) : Int).toNat)) ++ bt142.1, 0)) else (none)) else (none)) else (none)) else (none)) else (none))))))
theorem keyeventref04_Mark.mono : ∀ a0 a1 k, LeO (keyeventref04_Mark.f k a0 a1) (keyeventref04_Mark.f (k + 1) a0 a1) := by
  intro a0 a1 k
  unfold keyeventref04_Mark.f
  repeat' first
      | (with_reducible exact keyeventref01_Number.mono _ _ _)
      | (with_reducible exact keyeventref04_Permitted.mono _ _)
      | (with_reducible exact LeO.refl _)
      | (with_reducible exact LeO.none _)
      | (with_reducible refine LeO.ite ?_ ?_)
      | (with_reducible refine LeO.bind ?_ (fun _ => ?_))
      | exact keyeventref01_Number.mono _ _ _
      | exact keyeventref04_Permitted.mono _ _
      | exact LeO.none _
      | refine LeO.ite ?_ ?_
      | refine LeO.bind ?_ (fun _ => ?_)
set_option maxHeartbeats 8000000 in
set_option maxRecDepth 100000 in
theorem keyeventref04_Mark.calls (k : Nat) (a0 : Int) (a1 : Int) (r1 : ByteArray) (r2 : Int) (w : World) (h : keyeventref04_Mark.f k a0 a1 = some (r1, r2)) :
    Calls Try.prog 26 #[.int .i64 a0, .int .i64 a1] w fun e w' => e = .returned (.tuple #[.string r1, .int .i64 r2]) ∧ Below w.heap.size w w' := by
 have HB := Aside0.mk (Below.refl w.heap.size w)
 have H : ((keyeventref04_Permitted.f k a0).bind fun t139 => (if (t139.length : Int) = 0 then (some ((⟨#[]⟩ : ByteArray), 2)) else (if a1 < 0 then (some ((⟨#[]⟩ : ByteArray), 2)) else (if a1 > 4095 then (some ((⟨#[]⟩ : ByteArray), 2)) else ((keyeventref01_Number.f k a1 2).bind fun bt142 => (if 0 ≤ a0 then (if a0 ≤ (wrap64 (a0 + 1)) then (if (wrap64 (a0 + 1)) ≤ 5 then (if 1 + ((⟨#[63,65,66,67,71]⟩ : ByteArray).extract (a0 : Int).toNat ((wrap64 (a0 + 1)) : Int).toNat).size ≤ 9223372036854775807 then (if ((⟨#[45]⟩ : ByteArray) ++ ((⟨#[63,65,66,67,71]⟩ : ByteArray).extract (a0 : Int).toNat ((wrap64 (a0 + 1)) : Int).toNat)).size + bt142.1.size ≤ 9223372036854775807 then (some (((⟨#[45]⟩ : ByteArray) ++ ((⟨#[63,65,66,67,71]⟩ : ByteArray).extract (a0 : Int).toNat ((wrap64 (a0 + 1)) : Int).toNat)) ++ bt142.1, 0)) else (none)) else (none)) else (none)) else (none)) else (none))))))) = some (r1, r2) := h
 clear h
 obtain ⟨t139, A3, H⟩ := bindS H
 by_cases c4 : (t139.length : Int) = 0
 ·rw [if_pos c4] at H
  have c4b0 : ((t139.length : Int) == 0) = true := beq_iff_eq.mpr c4
  have c4b1 : ((t139.length : Int) != 0) = false := bne_eq_false_iff_eq.mpr c4
  clear c4
  simp only [Option.some.injEq, Prod.mk.injEq] at H
  obtain ⟨rfl, rfl⟩ := H
  go_enter Try.func26, Try.ntmps26
  go_wp2_with (first | ((with_reducible refine gate_callee (f := 27) rfl ?_); refine goesL_ (some 9) rfl rfl Try.func27 (by kernel_rfl) rfl #[.int .i64 a0] rfl eq_ ?_; (with_reducible refine (keyeventref04_Permitted.calls k a0 t139 _ A3.out).mono ?_); rintro e w5 ⟨v140, rfl, ho0, hb⟩; refine ⟨_, rfl, ?_⟩; have HO141 := Aside0.mk (Kd.R_lower ho0 (below_size (hq HB.out))); replace HB := Aside0.mk (below_step (hq HB.out) hb); (try clear hb); (try clear ho0); obtain ⟨Ao6, co6, eo6⟩ := Kd.R_slice HO141.out; subst eo6))
  go_ret2
  exact ⟨rq_, hq HB.out⟩
 ·rw [if_neg c4] at H
  have c4b0 : ((t139.length : Int) == 0) = false := beq_eq_false_iff_ne.mpr c4
  have c4b1 : ((t139.length : Int) != 0) = true := bne_iff_ne.mpr c4
  have c4b2 : ¬ (t139 = []) := fun h_ => c4 (by rw [h_]; rfl)
  by_cases c7 : a1 < 0
  ·rw [if_pos c7] at H
   have c7b0 := decide_eq_true c7
   clear c7
   simp only [Option.some.injEq, Prod.mk.injEq] at H
   obtain ⟨rfl, rfl⟩ := H
   go_enter Try.func26, Try.ntmps26
   go_wp2_with (first | ((with_reducible refine gate_callee (f := 27) rfl ?_); refine goesL_ (some 9) rfl rfl Try.func27 (by kernel_rfl) rfl #[.int .i64 a0] rfl eq_ ?_; (with_reducible refine (keyeventref04_Permitted.calls k a0 t139 _ A3.out).mono ?_); rintro e w8 ⟨v140, rfl, ho0, hb⟩; refine ⟨_, rfl, ?_⟩; have HO141 := Aside0.mk (Kd.R_lower ho0 (below_size (hq HB.out))); replace HB := Aside0.mk (below_step (hq HB.out) hb); (try clear hb); (try clear ho0); obtain ⟨Ao9, co9, eo9⟩ := Kd.R_slice HO141.out; subst eo9))
   go_ret2
   exact ⟨rq_, hq HB.out⟩
  ·rw [if_neg c7] at H
   have c7b0 := decide_eq_false c7
   clear c7
   by_cases c10 : a1 > 4095
   ·rw [if_pos c10] at H
    have c10b0 := decide_eq_true c10
    clear c10
    simp only [Option.some.injEq, Prod.mk.injEq] at H
    obtain ⟨rfl, rfl⟩ := H
    go_enter Try.func26, Try.ntmps26
    go_wp2_with (first | ((with_reducible refine gate_callee (f := 27) rfl ?_); refine goesL_ (some 9) rfl rfl Try.func27 (by kernel_rfl) rfl #[.int .i64 a0] rfl eq_ ?_; (with_reducible refine (keyeventref04_Permitted.calls k a0 t139 _ A3.out).mono ?_); rintro e w11 ⟨v140, rfl, ho0, hb⟩; refine ⟨_, rfl, ?_⟩; have HO141 := Aside0.mk (Kd.R_lower ho0 (below_size (hq HB.out))); replace HB := Aside0.mk (below_step (hq HB.out) hb); (try clear hb); (try clear ho0); obtain ⟨Ao12, co12, eo12⟩ := Kd.R_slice HO141.out; subst eo12))
    go_ret2
    exact ⟨rq_, hq HB.out⟩
   ·rw [if_neg c10] at H
    have c10b0 := decide_eq_false c10
    clear c10
    obtain ⟨⟨t142, t143⟩, A13, H⟩ := bindS H
    try dsimp only at H
    by_cases c14 : 0 ≤ a0
    ·rw [if_pos c14] at H
     have c14b0 := eq_true c14
     have c14b1 := decide_eq_true c14
     clear c14
     by_cases c15 : a0 ≤ (wrap64 (a0 + 1))
     ·rw [if_pos c15] at H
      have c15b0 := eq_true c15
      have c15b1 := decide_eq_true c15
      by_cases c16 : (wrap64 (a0 + 1)) ≤ 5
      ·rw [if_pos c16] at H
       have c16b0 := eq_true c16
       have c16b1 := decide_eq_true c16
       by_cases c17 : 1 + ((⟨#[63,65,66,67,71]⟩ : ByteArray).extract (a0 : Int).toNat ((wrap64 (a0 + 1)) : Int).toNat).size ≤ 9223372036854775807
       ·rw [if_pos c17] at H
        have c17b0 := eq_true c17
        have c17b1 := decide_eq_true c17
        try have c17b2 : (9223372036854775807 < 1 + ((⟨#[63,65,66,67,71]⟩ : ByteArray).extract (a0 : Int).toNat ((wrap64 (a0 + 1)) : Int).toNat).size) = False := eq_false (Nat.not_lt.2 c17)
        by_cases c18 : ((⟨#[45]⟩ : ByteArray) ++ ((⟨#[63,65,66,67,71]⟩ : ByteArray).extract (a0 : Int).toNat ((wrap64 (a0 + 1)) : Int).toNat)).size + t142.size ≤ 9223372036854775807
        ·rw [if_pos c18] at H
         have c18b0 := eq_true c18
         have c18b1 := decide_eq_true c18
         try have c18b2 : (9223372036854775807 < ((⟨#[45]⟩ : ByteArray) ++ ((⟨#[63,65,66,67,71]⟩ : ByteArray).extract (a0 : Int).toNat ((wrap64 (a0 + 1)) : Int).toNat)).size + t142.size) = False := eq_false (Nat.not_lt.2 c18)
         simp only [Option.some.injEq, Prod.mk.injEq] at H
         obtain ⟨rfl, rfl⟩ := H
         go_enter Try.func26, Try.ntmps26
         go_wp2_with (first | ((with_reducible refine gate_callee (f := 27) rfl ?_); refine goesL_ (some 9) rfl rfl Try.func27 (by kernel_rfl) rfl #[.int .i64 a0] rfl eq_ ?_; (with_reducible refine (keyeventref04_Permitted.calls k a0 t139 _ A3.out).mono ?_); rintro e w19 ⟨v140, rfl, ho0, hb⟩; refine ⟨_, rfl, ?_⟩; have HO141 := Aside0.mk (Kd.R_lower ho0 (below_size (hq HB.out))); replace HB := Aside0.mk (below_step (hq HB.out) hb); (try clear hb); (try clear ho0); obtain ⟨Ao20, co20, eo20⟩ := Kd.R_slice HO141.out; subst eo20) | ((with_reducible refine gate_callee (f := 48) rfl ?_); refine goesL_ (some 22) rfl rfl Try.func48 (by kernel_rfl) rfl #[.int .i64 a1, .int .i64 2] rfl eq_ ?_; (with_reducible refine (keyeventref01_Number.calls k a1 2 t142 t143 _ A13.out).mono ?_); rintro e w21 ⟨rfl, hb⟩; refine ⟨_, rfl, ?_⟩; replace HO141 := Aside0.mk (Kd.R_below (qR HO141.out) hb); replace HB := Aside0.mk (below_step (hq HB.out) hb); (try clear hb)))
         go_ret2
         exact ⟨rq_, hq HB.out⟩
        ·rw [if_neg c18] at H
         exact absurd H (by simp)
       ·rw [if_neg c17] at H
        exact absurd H (by simp)
      ·rw [if_neg c16] at H
       exact absurd H (by simp)
     ·rw [if_neg c15] at H
      exact absurd H (by simp)
    ·rw [if_neg c14] at H
     exact absurd H (by simp)

end Go.Proofs.Ytookjdhfpbmjkaa.X
