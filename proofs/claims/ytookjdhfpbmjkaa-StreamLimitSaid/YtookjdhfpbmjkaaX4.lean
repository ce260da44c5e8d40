-- Written by xprint.py, a program of this repo that leads the kit's print.py: Lean checks it.
import Derived.Test.YtookjdhfpbmjkaaX0
namespace Go.Proofs.Ytookjdhfpbmjkaa.X
open Go.RowKit Go.Proofs.YtookjdhfpbmjkaaW.PrintWords Go.Proofs.YtookjdhfpbmjkaaW.PrintLast Go.Proofs.YtookjdhfpbmjkaaW.PrintMore
attribute [local go_sem] max2_int min2_int max_two min_two max_three min_three max_four min_four   -- for this text's walks alone
set_option linter.unusedVariables false
set_option linter.unusedSimpArgs false

/-! ### base64_Encode: function 52 -/
def base64_Encode.l0 : Nat → ByteArray → List Int → Option (ByteArray × Int)
  | 0, _, _ => none
  | k + 1, x0, x4 => if x0.toList = ([] : List UInt8) then (some (strOfNums x4, 0)) else (if 0 < (x0.size : Int) then (if 1 < (x0.size : Int) then (if 2 < (x0.size : Int) then (if 0 ≤ ((Go.bits .or .i64 (Go.bits .or .i64 (wrap64 ((wrap64 (bt x0 0)) * 65536)) (wrap64 ((wrap64 (bt x0 1)) * 256))) (wrap64 (bt x0 2))) / 262144) then (if ((Go.bits .or .i64 (Go.bits .or .i64 (wrap64 ((wrap64 (bt x0 0)) * 65536)) (wrap64 ((wrap64 (bt x0 1)) * 256))) (wrap64 (bt x0 2))) / 262144) < 64 then (if 0 ≤ (Go.bits .and .i64 ((Go.bits .or .i64 (Go.bits .or .i64 (wrap64 ((wrap64 (bt x0 0)) * 65536)) (wrap64 ((wrap64 (bt x0 1)) * 256))) (wrap64 (bt x0 2))) / 4096) 63) then (if (Go.bits .and .i64 ((Go.bits .or .i64 (Go.bits .or .i64 (wrap64 ((wrap64 (bt x0 0)) * 65536)) (wrap64 ((wrap64 (bt x0 1)) * 256))) (wrap64 (bt x0 2))) / 4096) 63) < 64 then (if 0 ≤ (Go.bits .and .i64 ((Go.bits .or .i64 (Go.bits .or .i64 (wrap64 ((wrap64 (bt x0 0)) * 65536)) (wrap64 ((wrap64 (bt x0 1)) * 256))) (wrap64 (bt x0 2))) / 64) 63) then (if (Go.bits .and .i64 ((Go.bits .or .i64 (Go.bits .or .i64 (wrap64 ((wrap64 (bt x0 0)) * 65536)) (wrap64 ((wrap64 (bt x0 1)) * 256))) (wrap64 (bt x0 2))) / 64) 63) < 64 then (if 0 ≤ (Go.bits .and .i64 (Go.bits .or .i64 (Go.bits .or .i64 (wrap64 ((wrap64 (bt x0 0)) * 65536)) (wrap64 ((wrap64 (bt x0 1)) * 256))) (wrap64 (bt x0 2))) 63) then (if (Go.bits .and .i64 (Go.bits .or .i64 (Go.bits .or .i64 (wrap64 ((wrap64 (bt x0 0)) * 65536)) (wrap64 ((wrap64 (bt x0 1)) * 256))) (wrap64 (bt x0 2))) 63) < 64 then ((some (([bt (⟨#[65,66,67,68,69,70,71,72,73,74,75,76,77,78,79,80,81,82,83,84,85,86,87,88,89,90,97,98,99,100,101,102,103,104,105,106,107,108,109,110,111,112,113,114,115,116,117,118,119,120,121,122,48,49,50,51,52,53,54,55,56,57,45,95]⟩ : ByteArray) ((Go.bits .or .i64 (Go.bits .or .i64 (wrap64 ((wrap64 (bt x0 0)) * 65536)) (wrap64 ((wrap64 (bt x0 1)) * 256))) (wrap64 (bt x0 2))) / 262144), bt (⟨#[65,66,67,68,69,70,71,72,73,74,75,76,77,78,79,80,81,82,83,84,85,86,87,88,89,90,97,98,99,100,101,102,103,104,105,106,107,108,109,110,111,112,113,114,115,116,117,118,119,120,121,122,48,49,50,51,52,53,54,55,56,57,45,95]⟩ : ByteArray) (Go.bits .and .i64 ((Go.bits .or .i64 (Go.bits .or .i64 (wrap64 ((wrap64 (bt x0 0)) * 65536)) (wrap64 ((wrap64 (bt x0 1)) * 256))) (wrap64 (bt x0 2))) / 4096) 63), bt (⟨#[65,66,67,68,69,70,71,72,73,74,75,76,77,78,79,80,81,82,83,84,85,86,87,88,89,90,97,98,99,100,101,102,103,104,105,106,107,108,109,110,111,112,113,114,115,116,117,118,119,120,121,122,48,49,50,51,52,53,54,55,56,57,45,95]⟩ : ByteArray) (Go.bits .and .i64 ((Go.bits .or .i64 (Go.bits .or .i64 (wrap64 ((wrap64 (bt x0 0)) * 65536)) (wrap64 ((wrap64 (bt x0 1)) * 256))) (wrap64 (bt x0 2))) / 64) 63), bt (⟨#[65,66,67,68,69,70,71,72,73,74,75,76,77,78,79,80,81,82,83,84,85,86,87,88,89,90,97,98,99,100,101,102,103,104,105,106,107,108,109,110,111,112,113,114,115,116,117,118,119,120,121,122,48,49,50,51,52,53,54,55,56,57,45,95]⟩ : ByteArray) (Go.bits .and .i64 (Go.bits .or .i64 (Go.bits .or .i64 (wrap64 ((wrap64 (bt x0 0)) * 65536)) (wrap64 ((wrap64 (bt x0 1)) * 256))) (wrap64 (bt x0 2))) 63)] : List Int) : List Int)).bind fun y117 => (if x4.length + y117.length < 140737488355328 then (if 3 ≤ (x0.size : Int) then (base64_Encode.l0 k (x0.extract 3 x0.size) (x4 ++ y117)) else (none)) else (none))) else (none)) else (none)) else (none)) else (none)) else (none)) else (none)) else (none)) else (none)) else (none)) else (none)) else (none))
def base64_Encode.f (k : Nat) (a0 : ByteArray) : Option (ByteArray × Int) := if (a0.size : Int) > 65536 then (some ((⟨#[]⟩ : ByteArray), 3)) else (if ((a0.size : Int) % 3) = 0 then (if 0 ≤ (wrap64 ((wrap64 ((a0.size : Int) / 3)) * 4)) then (if (wrap64 ((wrap64 ((a0.size : Int) / 3)) * 4) : Int).toNat ≤ 281474976710656 then (base64_Encode.l0 k a0 (([] : List Int))) else (none)) else (none)) else (some ((⟨#[]⟩ : ByteArray), 8)))
theorem base64_Encode.mono_l : ∀ k, (∀ y0 y1, LeO (base64_Encode.l0 k y0 y1) (base64_Encode.l0 (k + 1) y0 y1))
  | 0 => fun _ _ r h => by simp [base64_Encode.l0] at h
  | k + 1 => by
    have ih0 := base64_Encode.mono_l k
    · intro y0 y1
      unfold base64_Encode.l0
      repeat' first
      | (with_reducible exact ih0 _ _)
      | (with_reducible exact LeO.refl _)
      | (with_reducible exact LeO.none _)
      | (with_reducible refine LeO.ite ?_ ?_)
      | (with_reducible refine LeO.bind ?_ (fun _ => ?_))
      | exact ih0 _ _
      | exact LeO.none _
      | refine LeO.ite ?_ ?_
      | refine LeO.bind ?_ (fun _ => ?_)
theorem base64_Encode.mono : ∀ a0 k, LeO (base64_Encode.f k a0) (base64_Encode.f (k + 1) a0) := by
  intro a0 k
  have ih0 := base64_Encode.mono_l k
  unfold base64_Encode.f
  repeat' first
      | (with_reducible exact ih0 _ _)
      | (with_reducible exact LeO.refl _)
      | (with_reducible exact LeO.none _)
      | (with_reducible refine LeO.ite ?_ ?_)
      | (with_reducible refine LeO.bind ?_ (fun _ => ?_))
      | exact ih0 _ _
      | exact LeO.none _
      | refine LeO.ite ?_ ?_
      | refine LeO.bind ?_ (fun _ => ?_)
def base64_Encode.T8 : Bool × List (List Nat × List Nat) := (true, [([], []), ([0], [0]), ([1], [1]), ([2], [2]), ([], []), ([4], [4]), ([5], [5]), ([6], [6]), ([3,7], [3,7]), ([], []), ([9], [9]), ([10], [10]), ([8,11], [8,11]), ([12,0,1,2,3,4,5,6,7,8,9,10,11,12], [12])])
def base64_Encode.B8 : List Nat := [0,1,3,7,0,16,48,112,255,0,512,1536,4095,8191]
theorem base64_Encode.tab8 : rtab .any (opsOf Try.f52 8) = base64_Encode.T8 := by kernel_rfl
theorem base64_Encode.bits8 : waitsOk base64_Encode.T8.2 base64_Encode.B8 = true := by kernel_rfl
def base64_Encode.T9 : Bool × List (List Nat × List Nat) := (true, [([], []), ([], []), ([1], [1]), ([2], [2]), ([], []), ([4], [4]), ([5], [5]), ([6], [6]), ([], []), ([8], [8]), ([9], [9]), ([10], [10]), ([], []), ([12], [12]), ([13], [13]), ([3,7,11,14], [3,7,11,14]), ([0,15], [0,15]), ([16,16,0,1,2,3,4,5,6,7,8,9,10,11,12,13,14,15,16], [0,16])])
def base64_Encode.B9 : List Nat := [0,0,2,6,0,16,48,112,0,256,768,1792,0,4096,12288,32766,65535,131071]
theorem base64_Encode.tab9 : rtab .any (opsOf Try.f52 9) = base64_Encode.T9 := by kernel_rfl
theorem base64_Encode.bits9 : waitsOk base64_Encode.T9.2 base64_Encode.B9 = true := by kernel_rfl
set_option maxHeartbeats 8000000 in
set_option maxRecDepth 100000 in
theorem base64_Encode.calls (k : Nat) (a0 : ByteArray) (r1 : ByteArray) (r2 : Int) (w : World) (h : base64_Encode.f k a0 = some (r1, r2)) :
    Calls Try.prog 52 #[.string a0] w fun e w' => e = .returned (.tuple #[.string r1, .int .i64 r2]) ∧ Below w.heap.size w w' := by
 have HB := Aside0.mk (Below.refl w.heap.size w)
 have H : (if (a0.size : Int) > 65536 then (some ((⟨#[]⟩ : ByteArray), 3)) else (if ((a0.size : Int) % 3) = 0 then (if 0 ≤ (wrap64 ((wrap64 ((a0.size : Int) / 3)) * 4)) then (if (wrap64 ((wrap64 ((a0.size : Int) / 3)) * 4) : Int).toNat ≤ 281474976710656 then (base64_Encode.l0 k a0 (([] : List Int))) else (none)) else (none)) else (some ((⟨#[]⟩ : ByteArray), 8)))) = some (r1, r2) := h
 clear h
 by_cases c2 : (a0.size : Int) > 65536
 ·rw [if_pos c2] at H
  have c2b0 := decide_eq_true c2
  have c2b1 : decide (65536 < a0.size) = true := decide_eq_true (by omega)
  clear c2
  simp only [Option.some.injEq, Prod.mk.injEq] at H
  obtain ⟨rfl, rfl⟩ := H
  go_enter Try.func52, Try.ntmps52
  go_wp2
  go_ret2
  exact ⟨rq_, hq HB.out⟩
 ·rw [if_neg c2] at H
  have c2b0 := decide_eq_false c2
  have c2b1 : decide (65536 < a0.size) = false := decide_eq_false (by omega)
  clear c2
  by_cases c3 : ((a0.size : Int) % 3) = 0
  ·rw [if_pos c3] at H
   have c3b0 : (((a0.size : Int) % 3) == 0) = true := beq_iff_eq.mpr c3
   have c3b1 : (((a0.size : Int) % 3) != 0) = false := bne_eq_false_iff_eq.mpr c3
   clear c3
   obtain ⟨ji4, hji4⟩ : ∃ j_ : Int, (wrap64 ((wrap64 ((a0.size : Int) / 3)) * 4)) = j_ := ⟨_, rfl⟩
   replace H : (if 0 ≤ (ji4) then (if (ji4 : Int).toNat ≤ 281474976710656 then (base64_Encode.l0 k a0 (([] : List Int))) else (none)) else (none)) = some (r1, r2) := by first | (rw [hji4] at H; exact H) | (simp only [hji4] at H ⊢; exact H)
   have hji4w : (IntKind.i64.wrap ((wrap64 ((a0.size : Int) / 3)) * 4)) = ji4 := (i64_w _).trans hji4
   by_cases c5 : 0 ≤ (ji4)
   ·rw [if_pos c5] at H
    have c5b0 := eq_true c5
    have c5b1 := decide_eq_true c5
    clear c5
    by_cases c6 : (ji4 : Int).toNat ≤ 281474976710656
    ·rw [if_pos c6] at H
     have c6b0 := eq_true c6
     have c6b1 := decide_eq_true c6
     clear c6
     obtain ⟨y114, hy114⟩ : ∃ y_ : List Int, y_ = (([] : List Int)) := ⟨_, rfl⟩
     replace H : (base64_Encode.l0 k a0 y114) = some (r1, r2) := by first | (rw [hy114]; with_reducible exact H) | (have H2_ := (Option.bind_some _ _).symm.trans H; rw [hy114]; with_reducible exact H2_) | (have H2_ := (Option.bind_some _ _).symm.trans H; with_reducible exact H2_) | with_reducible exact H | (rw [hy114]; exact H) | exact H
     have Ny114 := Aside0.mk hy114
     clear hy114
     have H' := Aside0.mk H
     clear H
     go_enter Try.func52, Try.ntmps52
     go_wp2_with (first | ((with_reducible refine gate_dst (N := 19) rfl ?_); refine Kd.R_makecap (Kd.int .u8) _ 5 rfl (N := 19) rfl 28 _ _ rfl ji4 rfl rfl Try.underlying28 (.int .u8 0) 1 info5 (by decide) (ok := fun _ => True) trivial (of_decide_eq_true aq) (Nat.le_trans (Nat.mul_le_mul_right _ (of_decide_eq_true aq : ji4.toNat ≤ 281474976710656)) (by omega)) (Below.refl _ _) (Nat.le_refl _) ?_; intro v115 w7 ho8 hb hg_ hnew_; clear hg_ hnew_; (first | rw [← Ny114.out] at ho8 | (simp only [Int.reduceToNat] at ho8; rw [← Ny114.out] at ho8)); have HO116 := Aside0.mk (Kd.R_lower ho8 (below_size (hq HB.out))); replace HB := Aside0.mk (below_step (hq HB.out) hb); clear hb ho8))
     go_loopg [0,4] k (fun kq v0 v4 w' => ∃ (x0_1 : ByteArray) (x4_1 : List Int), v0 = .string x0_1 ∧ Aside0 (base64_Encode.l0 kq x0_1 x4_1 = some (r1, r2)) ∧ Aside0 (kq ≤ k) ∧ Aside0 (Kd.R (Kd.int .u8) 5 w' w.heap.size (fun _ => True) v4 x4_1) ∧ Aside0 (Below w.heap.size w w'))
     case atStart => exact ⟨(a0), (y114), dq, H', ⟨Nat.le_refl _⟩, ⟨by (with_reducible repeat (first | apply Kd.R_alloc | apply Kd.R_drewN | apply Kd.R_drew)); exact HO116.out⟩, ⟨hq HB.out⟩⟩
     case round =>
      clear H'
      try clear c2
      try clear c2b0
      try clear c2b1
      try clear p2
      try clear c3
      try clear c3b0
      try clear c3b1
      try clear c5
      try clear c5b0
      try clear c5b1
      try clear c6
      try clear c6b0
      try clear c6b1
      try clear p6
      obtain ⟨x0_1, x4_1, rfl, HA, HK1, HO_4, HB⟩ := hrel
      cases gk with
      | zero => exact absurd HA.out (by simp [base64_Encode.l0])
      | succ k1 =>
       have H := HA.out
       clear HA
       simp only [base64_Encode.l0] at H
       by_cases c9 : x0_1.toList = ([] : List UInt8)
       ·rw [if_pos c9] at H
        have c9b0 : (x0_1.toList == ([] : List UInt8)) = true := beq_iff_eq.mpr c9
        have c9b1 : (x0_1.toList != ([] : List UInt8)) = false := bne_eq_false_iff_eq.mpr c9
        clear c9
        simp only [Option.some.injEq, Prod.mk.injEq] at H
        obtain ⟨rfl, rfl⟩ := H
        have hcv10 := own_string (P := Try.prog) Try.underlying28 Try.underlying5 Try.underlying9 (Kd.own_of_R HO_4.out)
        go_wp2
        go_ret2
        exact ⟨by first | rfl | (simp [errW_none, errW_some] <;> rfl) | (simp only [← hji4]; first | rfl | (simp [errW_none, errW_some] <;> rfl)) | (simp [*, errW_none, errW_some] <;> rfl), hq HB.out⟩
       ·rw [if_neg c9] at H
        have c9b0 : (x0_1.toList == ([] : List UInt8)) = false := beq_eq_false_iff_ne.mpr c9
        have c9b1 : (x0_1.toList != ([] : List UInt8)) = true := bne_iff_ne.mpr c9
        by_cases c11 : 0 < (x0_1.size : Int)
        ·rw [if_pos c11] at H
         have c11b0 := decide_eq_true c11
         have c11b1 : decide (0 < x0_1.size) = true := decide_eq_true (by omega)
         clear c11
         by_cases c13 : 1 < (x0_1.size : Int)
         ·rw [if_pos c13] at H
          have c13b0 := decide_eq_true c13
          have c13b1 : decide (1 < x0_1.size) = true := decide_eq_true (by omega)
          clear c13
          by_cases c15 : 2 < (x0_1.size : Int)
          ·rw [if_pos c15] at H
           have c15b0 := decide_eq_true c15
           have c15b1 : decide (2 < x0_1.size) = true := decide_eq_true (by omega)
           clear c15
           obtain ⟨ji17, hji17⟩ : ∃ j_ : Int, ((Go.bits .or .i64 (Go.bits .or .i64 (wrap64 ((wrap64 (bt x0_1 0)) * 65536)) (wrap64 ((wrap64 (bt x0_1 1)) * 256))) (wrap64 (bt x0_1 2))) / 262144) = j_ := ⟨_, rfl⟩
           replace H : (if 0 ≤ (ji17) then (if (ji17) < 64 then (if 0 ≤ (Go.bits .and .i64 ((Go.bits .or .i64 (Go.bits .or .i64 (wrap64 ((wrap64 (bt x0_1 0)) * 65536)) (wrap64 ((wrap64 (bt x0_1 1)) * 256))) (wrap64 (bt x0_1 2))) / 4096) 63) then (if (Go.bits .and .i64 ((Go.bits .or .i64 (Go.bits .or .i64 (wrap64 ((wrap64 (bt x0_1 0)) * 65536)) (wrap64 ((wrap64 (bt x0_1 1)) * 256))) (wrap64 (bt x0_1 2))) / 4096) 63) < 64 then (if 0 ≤ (Go.bits .and .i64 ((Go.bits .or .i64 (Go.bits .or .i64 (wrap64 ((wrap64 (bt x0_1 0)) * 65536)) (wrap64 ((wrap64 (bt x0_1 1)) * 256))) (wrap64 (bt x0_1 2))) / 64) 63) then (if (Go.bits .and .i64 ((Go.bits .or .i64 (Go.bits .or .i64 (wrap64 ((wrap64 (bt x0_1 0)) * 65536)) (wrap64 ((wrap64 (bt x0_1 1)) * 256))) (wrap64 (bt x0_1 2))) / 64) 63) < 64 then (if 0 ≤ (Go.bits .and .i64 (Go.bits .or .i64 (Go.bits .or .i64 (wrap64 ((wrap64 (bt x0_1 0)) * 65536)) (wrap64 ((wrap64 (bt x0_1 1)) * 256))) (wrap64 (bt x0_1 2))) 63) then (if (Go.bits .and .i64 (Go.bits .or .i64 (Go.bits .or .i64 (wrap64 ((wrap64 (bt x0_1 0)) * 65536)) (wrap64 ((wrap64 (bt x0_1 1)) * 256))) (wrap64 (bt x0_1 2))) 63) < 64 then ((some (([bt (⟨#[65,66,67,68,69,70,71,72,73,74,75,76,77,78,79,80,81,82,83,84,85,86,87,88,89,90,97,98,99,100,101,102,103,104,105,106,107,108,109,110,111,112,113,114,115,116,117,118,119,120,121,122,48,49,50,51,52,53,54,55,56,57,45,95]⟩ : ByteArray) (ji17), bt (⟨#[65,66,67,68,69,70,71,72,73,74,75,76,77,78,79,80,81,82,83,84,85,86,87,88,89,90,97,98,99,100,101,102,103,104,105,106,107,108,109,110,111,112,113,114,115,116,117,118,119,120,121,122,48,49,50,51,52,53,54,55,56,57,45,95]⟩ : ByteArray) (Go.bits .and .i64 ((Go.bits .or .i64 (Go.bits .or .i64 (wrap64 ((wrap64 (bt x0_1 0)) * 65536)) (wrap64 ((wrap64 (bt x0_1 1)) * 256))) (wrap64 (bt x0_1 2))) / 4096) 63), bt (⟨#[65,66,67,68,69,70,71,72,73,74,75,76,77,78,79,80,81,82,83,84,85,86,87,88,89,90,97,98,99,100,101,102,103,104,105,106,107,108,109,110,111,112,113,114,115,116,117,118,119,120,121,122,48,49,50,51,52,53,54,55,56,57,45,95]⟩ : ByteArray) (Go.bits .and .i64 ((Go.bits .or .i64 (Go.bits .or .i64 (wrap64 ((wrap64 (bt x0_1 0)) * 65536)) (wrap64 ((wrap64 (bt x0_1 1)) * 256))) (wrap64 (bt x0_1 2))) / 64) 63), bt (⟨#[65,66,67,68,69,70,71,72,73,74,75,76,77,78,79,80,81,82,83,84,85,86,87,88,89,90,97,98,99,100,101,102,103,104,105,106,107,108,109,110,111,112,113,114,115,116,117,118,119,120,121,122,48,49,50,51,52,53,54,55,56,57,45,95]⟩ : ByteArray) (Go.bits .and .i64 (Go.bits .or .i64 (Go.bits .or .i64 (wrap64 ((wrap64 (bt x0_1 0)) * 65536)) (wrap64 ((wrap64 (bt x0_1 1)) * 256))) (wrap64 (bt x0_1 2))) 63)] : List Int) : List Int)).bind fun y117 => (if x4_1.length + y117.length < 140737488355328 then (if 3 ≤ (x0_1.size : Int) then (base64_Encode.l0 k1 (x0_1.extract 3 x0_1.size) (x4_1 ++ y117)) else (none)) else (none))) else (none)) else (none)) else (none)) else (none)) else (none)) else (none)) else (none)) else (none)) = some (r1, r2) := by first | (rw [hji17] at H; exact H) | (simp only [hji17] at H ⊢; exact H)
           by_cases c18 : 0 ≤ (ji17)
           ·rw [if_pos c18] at H
            have c18b0 := decide_eq_true c18
            clear c18
            by_cases c19 : (ji17) < 64
            ·rw [if_pos c19] at H
             have c19b0 := decide_eq_true c19
             clear c19
             obtain ⟨ji21, hji21⟩ : ∃ j_ : Int, (Go.bits .and .i64 ((Go.bits .or .i64 (Go.bits .or .i64 (wrap64 ((wrap64 (bt x0_1 0)) * 65536)) (wrap64 ((wrap64 (bt x0_1 1)) * 256))) (wrap64 (bt x0_1 2))) / 4096) 63) = j_ := ⟨_, rfl⟩
             replace H : (if 0 ≤ (ji21) then (if (ji21) < 64 then (if 0 ≤ (Go.bits .and .i64 ((Go.bits .or .i64 (Go.bits .or .i64 (wrap64 ((wrap64 (bt x0_1 0)) * 65536)) (wrap64 ((wrap64 (bt x0_1 1)) * 256))) (wrap64 (bt x0_1 2))) / 64) 63) then (if (Go.bits .and .i64 ((Go.bits .or .i64 (Go.bits .or .i64 (wrap64 ((wrap64 (bt x0_1 0)) * 65536)) (wrap64 ((wrap64 (bt x0_1 1)) * 256))) (wrap64 (bt x0_1 2))) / 64) 63) < 64 then (if 0 ≤ (Go.bits .and .i64 (Go.bits .or .i64 (Go.bits .or .i64 (wrap64 ((wrap64 (bt x0_1 0)) * 65536)) (wrap64 ((wrap64 (bt x0_1 1)) * 256))) (wrap64 (bt x0_1 2))) 63) then (if (Go.bits .and .i64 (Go.bits .or .i64 (Go.bits .or .i64 (wrap64 ((wrap64 (bt x0_1 0)) * 65536)) (wrap64 ((wrap64 (bt x0_1 1)) * 256))) (wrap64 (bt x0_1 2))) 63) < 64 then ((some (([bt (⟨#[65,66,67,68,69,70,71,72,73,74,75,76,77,78,79,80,81,82,83,84,85,86,87,88,89,90,97,98,99,100,101,102,103,104,105,106,107,108,109,110,111,112,113,114,115,116,117,118,119,120,121,122,48,49,50,51,52,53,54,55,56,57,45,95]⟩ : ByteArray) (ji17), bt (⟨#[65,66,67,68,69,70,71,72,73,74,75,76,77,78,79,80,81,82,83,84,85,86,87,88,89,90,97,98,99,100,101,102,103,104,105,106,107,108,109,110,111,112,113,114,115,116,117,118,119,120,121,122,48,49,50,51,52,53,54,55,56,57,45,95]⟩ : ByteArray) (ji21), bt (⟨#[65,66,67,68,69,70,71,72,73,74,75,76,77,78,79,80,81,82,83,84,85,86,87,88,89,90,97,98,99,100,101,102,103,104,105,106,107,108,109,110,111,112,113,114,115,116,117,118,119,120,121,122,48,49,50,51,52,53,54,55,56,57,45,95]⟩ : ByteArray) (Go.bits .and .i64 ((Go.bits .or .i64 (Go.bits .or .i64 (wrap64 ((wrap64 (bt x0_1 0)) * 65536)) (wrap64 ((wrap64 (bt x0_1 1)) * 256))) (wrap64 (bt x0_1 2))) / 64) 63), bt (⟨#[65,66,67,68,69,70,71,72,73,74,75,76,77,78,79,80,81,82,83,84,85,86,87,88,89,90,97,98,99,100,101,102,103,104,105,106,107,108,109,110,111,112,113,114,115,116,117,118,119,120,121,122,48,49,50,51,52,53,54,55,56,57,45,95]⟩ : ByteArray) (Go.bits .and .i64 (Go.bits .or .i64 (Go.bits .or .i64 (wrap64 ((wrap64 (bt x0_1 0)) * 65536)) (wrap64 ((wrap64 (bt x0_1 1)) * 256))) (wrap64 (bt x0_1 2))) 63)] : List Int) : List Int)).bind fun y117 => (if x4_1.length + y117.length < 140737488355328 then (if 3 ≤ (x0_1.size : Int) then (base64_Encode.l0 k1 (x0_1.extract 3 x0_1.size) (x4_1 ++ y117)) else (none)) else (none))) else (none)) else (none)) else (none)) else (none)) else (none)) else (none)) = some (r1, r2) := by first | (rw [hji21] at H; exact H) | (simp only [hji21] at H ⊢; exact H)
             by_cases c22 : 0 ≤ (ji21)
             ·rw [if_pos c22] at H
              have c22b0 := decide_eq_true c22
              clear c22
              by_cases c23 : (ji21) < 64
              ·rw [if_pos c23] at H
               have c23b0 := decide_eq_true c23
               clear c23
               obtain ⟨ji25, hji25⟩ : ∃ j_ : Int, (Go.bits .and .i64 ((Go.bits .or .i64 (Go.bits .or .i64 (wrap64 ((wrap64 (bt x0_1 0)) * 65536)) (wrap64 ((wrap64 (bt x0_1 1)) * 256))) (wrap64 (bt x0_1 2))) / 64) 63) = j_ := ⟨_, rfl⟩
               replace H : (if 0 ≤ (ji25) then (if (ji25) < 64 then (if 0 ≤ (Go.bits .and .i64 (Go.bits .or .i64 (Go.bits .or .i64 (wrap64 ((wrap64 (bt x0_1 0)) * 65536)) (wrap64 ((wrap64 (bt x0_1 1)) * 256))) (wrap64 (bt x0_1 2))) 63) then (if (Go.bits .and .i64 (Go.bits .or .i64 (Go.bits .or .i64 (wrap64 ((wrap64 (bt x0_1 0)) * 65536)) (wrap64 ((wrap64 (bt x0_1 1)) * 256))) (wrap64 (bt x0_1 2))) 63) < 64 then ((some (([bt (⟨#[65,66,67,68,69,70,71,72,73,74,75,76,77,78,79,80,81,82,83,84,85,86,87,88,89,90,97,98,99,100,101,102,103,104,105,106,107,108,109,110,111,112,113,114,115,116,117,118,119,120,121,122,48,49,50,51,52,53,54,55,56,57,45,95]⟩ : ByteArray) (ji17), bt (⟨#[65,66,67,68,69,70,71,72,73,74,75,76,77,78,79,80,81,82,83,84,85,86,87,88,89,90,97,98,99,100,101,102,103,104,105,106,107,108,109,110,111,112,113,114,115,116,117,118,119,120,121,122,48,49,50,51,52,53,54,55,56,57,45,95]⟩ : ByteArray) (ji21), bt (⟨#[65,66,67,68,69,70,71,72,73,74,75,76,77,78,79,80,81,82,83,84,85,86,87,88,89,90,97,98,99,100,101,102,103,104,105,106,107,108,109,110,111,112,113,114,115,116,117,118,119,120,121,122,48,49,50,51,52,53,54,55,56,57,45,95]⟩ : ByteArray) (ji25), bt (⟨#[65,66,67,68,69,70,71,72,73,74,75,76,77,78,79,80,81,82,83,84,85,86,87,88,89,90,97,98,99,100,101,102,103,104,105,106,107,108,109,110,111,112,113,114,115,116,117,118,119,120,121,122,48,49,50,51,52,53,54,55,56,57,45,95]⟩ : ByteArray) (Go.bits .and .i64 (Go.bits .or .i64 (Go.bits .or .i64 (wrap64 ((wrap64 (bt x0_1 0)) * 65536)) (wrap64 ((wrap64 (bt x0_1 1)) * 256))) (wrap64 (bt x0_1 2))) 63)] : List Int) : List Int)).bind fun y117 => (if x4_1.length + y117.length < 140737488355328 then (if 3 ≤ (x0_1.size : Int) then (base64_Encode.l0 k1 (x0_1.extract 3 x0_1.size) (x4_1 ++ y117)) else (none)) else (none))) else (none)) else (none)) else (none)) else (none)) = some (r1, r2) := by first | (rw [hji25] at H; exact H) | (simp only [hji25] at H ⊢; exact H)
               by_cases c26 : 0 ≤ (ji25)
               ·rw [if_pos c26] at H
                have c26b0 := decide_eq_true c26
                clear c26
                by_cases c27 : (ji25) < 64
                ·rw [if_pos c27] at H
                 have c27b0 := decide_eq_true c27
                 clear c27
                 obtain ⟨ji29, hji29⟩ : ∃ j_ : Int, (Go.bits .and .i64 (Go.bits .or .i64 (Go.bits .or .i64 (wrap64 ((wrap64 (bt x0_1 0)) * 65536)) (wrap64 ((wrap64 (bt x0_1 1)) * 256))) (wrap64 (bt x0_1 2))) 63) = j_ := ⟨_, rfl⟩
                 replace H : (if 0 ≤ (ji29) then (if (ji29) < 64 then ((some (([bt (⟨#[65,66,67,68,69,70,71,72,73,74,75,76,77,78,79,80,81,82,83,84,85,86,87,88,89,90,97,98,99,100,101,102,103,104,105,106,107,108,109,110,111,112,113,114,115,116,117,118,119,120,121,122,48,49,50,51,52,53,54,55,56,57,45,95]⟩ : ByteArray) (ji17), bt (⟨#[65,66,67,68,69,70,71,72,73,74,75,76,77,78,79,80,81,82,83,84,85,86,87,88,89,90,97,98,99,100,101,102,103,104,105,106,107,108,109,110,111,112,113,114,115,116,117,118,119,120,121,122,48,49,50,51,52,53,54,55,56,57,45,95]⟩ : ByteArray) (ji21), bt (⟨#[65,66,67,68,69,70,71,72,73,74,75,76,77,78,79,80,81,82,83,84,85,86,87,88,89,90,97,98,99,100,101,102,103,104,105,106,107,108,109,110,111,112,113,114,115,116,117,118,119,120,121,122,48,49,50,51,52,53,54,55,56,57,45,95]⟩ : ByteArray) (ji25), bt (⟨#[65,66,67,68,69,70,71,72,73,74,75,76,77,78,79,80,81,82,83,84,85,86,87,88,89,90,97,98,99,100,101,102,103,104,105,106,107,108,109,110,111,112,113,114,115,116,117,118,119,120,121,122,48,49,50,51,52,53,54,55,56,57,45,95]⟩ : ByteArray) (ji29)] : List Int) : List Int)).bind fun y117 => (if x4_1.length + y117.length < 140737488355328 then (if 3 ≤ (x0_1.size : Int) then (base64_Encode.l0 k1 (x0_1.extract 3 x0_1.size) (x4_1 ++ y117)) else (none)) else (none))) else (none)) else (none)) = some (r1, r2) := by first | (rw [hji29] at H; exact H) | (simp only [hji29] at H ⊢; exact H)
                 by_cases c30 : 0 ≤ (ji29)
                 ·rw [if_pos c30] at H
                  have c30b0 := decide_eq_true c30
                  clear c30
                  by_cases c31 : (ji29) < 64
                  ·rw [if_pos c31] at H
                   have c31b0 := decide_eq_true c31
                   clear c31
                   obtain ⟨y117, hy117⟩ : ∃ y_ : List Int, y_ = (([bt (⟨#[65,66,67,68,69,70,71,72,73,74,75,76,77,78,79,80,81,82,83,84,85,86,87,88,89,90,97,98,99,100,101,102,103,104,105,106,107,108,109,110,111,112,113,114,115,116,117,118,119,120,121,122,48,49,50,51,52,53,54,55,56,57,45,95]⟩ : ByteArray) (ji17), bt (⟨#[65,66,67,68,69,70,71,72,73,74,75,76,77,78,79,80,81,82,83,84,85,86,87,88,89,90,97,98,99,100,101,102,103,104,105,106,107,108,109,110,111,112,113,114,115,116,117,118,119,120,121,122,48,49,50,51,52,53,54,55,56,57,45,95]⟩ : ByteArray) (ji21), bt (⟨#[65,66,67,68,69,70,71,72,73,74,75,76,77,78,79,80,81,82,83,84,85,86,87,88,89,90,97,98,99,100,101,102,103,104,105,106,107,108,109,110,111,112,113,114,115,116,117,118,119,120,121,122,48,49,50,51,52,53,54,55,56,57,45,95]⟩ : ByteArray) (ji25), bt (⟨#[65,66,67,68,69,70,71,72,73,74,75,76,77,78,79,80,81,82,83,84,85,86,87,88,89,90,97,98,99,100,101,102,103,104,105,106,107,108,109,110,111,112,113,114,115,116,117,118,119,120,121,122,48,49,50,51,52,53,54,55,56,57,45,95]⟩ : ByteArray) (ji29)] : List Int)) := ⟨_, rfl⟩
                   replace H : (if x4_1.length + y117.length < 140737488355328 then (if 3 ≤ (x0_1.size : Int) then (base64_Encode.l0 k1 (x0_1.extract 3 x0_1.size) (x4_1 ++ y117)) else (none)) else (none)) = some (r1, r2) := by first | (rw [hy117]; with_reducible exact H) | (have H2_ := (Option.bind_some _ _).symm.trans H; rw [hy117]; with_reducible exact H2_) | (have H2_ := (Option.bind_some _ _).symm.trans H; with_reducible exact H2_) | with_reducible exact H | (rw [hy117]; exact H) | exact H
                   have Ny117 := Aside0.mk hy117
                   clear hy117
                   by_cases c33 : x4_1.length + y117.length < 140737488355328
                   ·rw [if_pos c33] at H
                    have LMc33 := Aside0.mk c33
                    clear c33
                    obtain ⟨y120, hy120⟩ : ∃ y_ : List Int, y_ = (x4_1 ++ y117) := ⟨_, rfl⟩
                    replace H : (if 3 ≤ (x0_1.size : Int) then (base64_Encode.l0 k1 (x0_1.extract 3 x0_1.size) y120) else (none)) = some (r1, r2) := by first | (rw [hy120]; with_reducible exact H) | (have H2_ := (Option.bind_some _ _).symm.trans H; rw [hy120]; with_reducible exact H2_) | (have H2_ := (Option.bind_some _ _).symm.trans H; with_reducible exact H2_) | with_reducible exact H | (rw [hy120]; exact H) | exact H
                    have Ny120 := Aside0.mk hy120
                    clear hy120
                    by_cases c34 : 3 ≤ (x0_1.size : Int)
                    ·rw [if_pos c34] at H
                     have c34b0 := eq_true c34
                     have c34b1 := decide_eq_true c34
                     clear c34
                     have H' := Aside0.mk H
                     clear H
                     try go_wp2
                     replace HO_4 := Aside0.mk (Kd.R_drew HO_4.out)
                     replace HB := Aside0.mk (below_drew1 HB.out)
                     have p12 : 0 ≤ (0 : Int) := (by omega)
                     have q12 : 0 < x0_1.size := (by have : (0 : Int) < (x0_1.size : Int) := of_decide_eq_true aq; omega)
                     have hx12 : ∀ h : 0 < x0_1.size, ((x0_1[0]'h).toNat : Int) = bt x0_1 0 := bt_at x0_1 0
                     clear p12
                     have qi12 : (0 < (x0_1.size : Int)) = True := eq_true (of_decide_eq_true aq)
                     replace q12 := eq_true q12
                     have p14 : 0 ≤ (1 : Int) := (by omega)
                     have q14 : 1 < x0_1.size := (by have : (1 : Int) < (x0_1.size : Int) := of_decide_eq_true aq; omega)
                     have hx14 : ∀ h : 1 < x0_1.size, ((x0_1[1]'h).toNat : Int) = bt x0_1 1 := bt_at x0_1 1
                     clear p14
                     have qi14 : (1 < (x0_1.size : Int)) = True := eq_true (of_decide_eq_true aq)
                     replace q14 := eq_true q14
                     have p16 : 0 ≤ (2 : Int) := (by omega)
                     have q16 : 2 < x0_1.size := (by have : (2 : Int) < (x0_1.size : Int) := of_decide_eq_true aq; omega)
                     have hx16 : ∀ h : 2 < x0_1.size, ((x0_1[2]'h).toNat : Int) = bt x0_1 2 := bt_at x0_1 2
                     clear p16
                     have qi16 : (2 < (x0_1.size : Int)) = True := eq_true (of_decide_eq_true aq)
                     replace q16 := eq_true q16
                     refine start_ (n := 14) (S := fun w' => True) (ds := []) #[false,false,false,false,false,false,false,false,false,false,false,false,false,false] (by kernel_rfl) rfl rfl trivial (fun hHeld => ?_); refine with_tabW base64_Encode.tab8 base64_Encode.bits8 (fun HT_ HW_ => ?_)
                     generalize wr.drew = w35 at HO_4 HB hHeld ⊢
                     refine pure_ (i := 0) (N := some 24) (v := ?_) (a' := ?_) #[true,false,false,false,false,false,false,false,false,false,false,false,false,false] rfl rfl (any_of HT_.out (by kernel_rfl)) (fun _ _ _ h => h) (Or.inl ⟨by rfl, pv⟩) pp ?_
                     refine pure_ (i := 4) (N := some 28) (v := ?_) (a' := ?_) #[true,false,false,false,true,false,false,false,false,false,false,false,false,false] rfl rfl (any_of HT_.out (by kernel_rfl)) (fun _ _ _ h => h) (Or.inl ⟨by rfl, pv⟩) pp ?_
                     refine pure_ (i := 9) (N := some 33) (v := ?_) (a' := ?_) #[true,false,false,false,true,false,false,false,false,true,false,false,false,false] rfl rfl (any_of HT_.out (by kernel_rfl)) (fun _ _ _ h => h) (Or.inl ⟨by rfl, pv⟩) pp ?_
                     refine take_ (i := 1) (N := some 25) (v := ?_) (a' := ?_) #[true,true,false,false,true,false,false,false,false,true,false,false,false,false] rfl rfl (take_ofW HT_.out HW_.out (by kernel_rfl)) (fun _ _ _ h => h) (Or.inl ⟨by rfl, pv⟩) hHeld pp ?_
                     refine pure_ (i := 2) (N := some 26) (v := ?_) (a' := ?_) #[true,true,true,false,true,false,false,false,false,true,false,false,false,false] rfl rfl (any_of HT_.out (by kernel_rfl)) (fun _ _ _ h => h) (Or.inl ⟨by rfl, pv⟩) pp ?_
                     refine pure_ (i := 3) (N := some 27) (v := ?_) (a' := ?_) #[true,true,true,true,true,false,false,false,false,true,false,false,false,false] rfl rfl (any_of HT_.out (by kernel_rfl)) (fun _ _ _ h => h) (Or.inl ⟨by rfl, pv⟩) pp ?_
                     refine take_ (i := 5) (N := some 29) (v := ?_) (a' := ?_) #[true,true,true,true,true,true,false,false,false,true,false,false,false,false] rfl rfl (take_ofW HT_.out HW_.out (by kernel_rfl)) (fun _ _ _ h => h) (Or.inl ⟨by rfl, pv⟩) hHeld pp ?_
                     refine pure_ (i := 6) (N := some 30) (v := ?_) (a' := ?_) #[true,true,true,true,true,true,true,false,false,true,false,false,false,false] rfl rfl (any_of HT_.out (by kernel_rfl)) (fun _ _ _ h => h) (Or.inl ⟨by rfl, pv⟩) pp ?_
                     refine pure_ (i := 7) (N := some 31) (v := ?_) (a' := ?_) #[true,true,true,true,true,true,true,true,false,true,false,false,false,false] rfl rfl (any_of HT_.out (by kernel_rfl)) (fun _ _ _ h => h) (Or.inl ⟨by rfl, pv⟩) pp ?_
                     refine pure_ (i := 8) (N := some 32) (v := ?_) (a' := ?_) #[true,true,true,true,true,true,true,true,true,true,false,false,false,false] rfl rfl (any_of HT_.out (by kernel_rfl)) (fun _ _ _ h => h) (Or.inl ⟨by rfl, pv⟩) pp ?_
                     refine take_ (i := 10) (N := some 34) (v := ?_) (a' := ?_) #[true,true,true,true,true,true,true,true,true,true,true,false,false,false] rfl rfl (take_ofW HT_.out HW_.out (by kernel_rfl)) (fun _ _ _ h => h) (Or.inl ⟨by rfl, pv⟩) hHeld pp ?_
                     refine pure_ (i := 11) (N := some 35) (v := ?_) (a' := ?_) #[true,true,true,true,true,true,true,true,true,true,true,true,false,false] rfl rfl (any_of HT_.out (by kernel_rfl)) (fun _ _ _ h => h) (Or.inl ⟨by rfl, pv⟩) pp ?_
                     refine pure_ (i := 12) (N := some 36) (v := ?_) (a' := ?_) #[true,true,true,true,true,true,true,true,true,true,true,true,true,false] rfl rfl (any_of HT_.out (by kernel_rfl)) (fun _ _ _ h => h) (Or.inl ⟨by rfl, pv⟩) pp ?_
                     refine pure_ (i := 13) (N := some 5) (v := ?_) (a' := ?_) #[true,true,true,true,true,true,true,true,true,true,true,true,true,true] rfl rfl (any_of HT_.out (by kernel_rfl)) (fun _ _ _ h => h) (Or.inl ⟨by rfl, pv⟩) pp ?_
                     refine done_ (done_of HT_.out (by kernel_rfl)) ?_
                     try go_wp2
                     replace HO_4 := Aside0.mk (Kd.R_drew HO_4.out)
                     replace HB := Aside0.mk (below_drew1 HB.out)
                     have p20 : 0 ≤ ((ji17) : Int) := of_decide_eq_true aq
                     have q20 : (ji17) < (64 : Int) := of_decide_eq_true aq
                     have hx20 := bt_at (⟨#[65,66,67,68,69,70,71,72,73,74,75,76,77,78,79,80,81,82,83,84,85,86,87,88,89,90,97,98,99,100,101,102,103,104,105,106,107,108,109,110,111,112,113,114,115,116,117,118,119,120,121,122,48,49,50,51,52,53,54,55,56,57,45,95]⟩ : ByteArray) (ji17)
                     replace p20 := eq_true p20
                     replace q20 := eq_true q20
                     have p24 : 0 ≤ ((ji21) : Int) := of_decide_eq_true aq
                     have q24 : (ji21) < (64 : Int) := of_decide_eq_true aq
                     have hx24 := bt_at (⟨#[65,66,67,68,69,70,71,72,73,74,75,76,77,78,79,80,81,82,83,84,85,86,87,88,89,90,97,98,99,100,101,102,103,104,105,106,107,108,109,110,111,112,113,114,115,116,117,118,119,120,121,122,48,49,50,51,52,53,54,55,56,57,45,95]⟩ : ByteArray) (ji21)
                     replace p24 := eq_true p24
                     replace q24 := eq_true q24
                     have p28 : 0 ≤ ((ji25) : Int) := of_decide_eq_true aq
                     have q28 : (ji25) < (64 : Int) := of_decide_eq_true aq
                     have hx28 := bt_at (⟨#[65,66,67,68,69,70,71,72,73,74,75,76,77,78,79,80,81,82,83,84,85,86,87,88,89,90,97,98,99,100,101,102,103,104,105,106,107,108,109,110,111,112,113,114,115,116,117,118,119,120,121,122,48,49,50,51,52,53,54,55,56,57,45,95]⟩ : ByteArray) (ji25)
                     replace p28 := eq_true p28
                     replace q28 := eq_true q28
                     have p32 : 0 ≤ ((ji29) : Int) := of_decide_eq_true aq
                     have q32 : (ji29) < (64 : Int) := of_decide_eq_true aq
                     have hx32 := bt_at (⟨#[65,66,67,68,69,70,71,72,73,74,75,76,77,78,79,80,81,82,83,84,85,86,87,88,89,90,97,98,99,100,101,102,103,104,105,106,107,108,109,110,111,112,113,114,115,116,117,118,119,120,121,122,48,49,50,51,52,53,54,55,56,57,45,95]⟩ : ByteArray) (ji29)
                     replace p32 := eq_true p32
                     replace q32 := eq_true q32
                     refine start_ (n := 18) (S := fun w' => True) (ds := []) #[false,false,false,false,false,false,false,false,false,false,false,false,false,false,false,false,false,false] (by kernel_rfl) rfl rfl trivial (fun hHeld => ?_); refine with_tabW base64_Encode.tab9 base64_Encode.bits9 (fun HT_ HW_ => ?_)
                     generalize w35.drew = w36 at HO_4 HB hHeld ⊢
                     refine pure_ (i := 0) (N := some 37) (v := ?_) (a' := ?_) #[true,false,false,false,false,false,false,false,false,false,false,false,false,false,false,false,false,false] rfl rfl (any_of HT_.out (by kernel_rfl)) (fun _ _ _ h => h) (Or.inl ⟨by rfl, pv⟩) pp ?_
                     refine pure_ (i := 1) (N := some 38) (v := ?_) (a' := ?_) #[true,true,false,false,false,false,false,false,false,false,false,false,false,false,false,false,false,false] rfl rfl (any_of HT_.out (by kernel_rfl)) (fun _ _ _ h => h) (Or.inl ⟨by rfl, pv⟩) pp ?_
                     refine pure_ (i := 2) (N := some 39) (v := ?_) (a' := ?_) #[true,true,true,false,false,false,false,false,false,false,false,false,false,false,false,false,false,false] rfl rfl (any_of HT_.out (by kernel_rfl)) (fun _ _ _ h => h) (Or.inl ⟨by rfl, pv⟩) pp ?_
                     refine pure_ (i := 4) (N := some 41) (v := ?_) (a' := ?_) #[true,true,true,false,true,false,false,false,false,false,false,false,false,false,false,false,false,false] rfl rfl (any_of HT_.out (by kernel_rfl)) (fun _ _ _ h => h) (Or.inl ⟨by rfl, pv⟩) pp ?_
                     refine pure_ (i := 5) (N := some 42) (v := ?_) (a' := ?_) #[true,true,true,false,true,true,false,false,false,false,false,false,false,false,false,false,false,false] rfl rfl (any_of HT_.out (by kernel_rfl)) (fun _ _ _ h => h) (Or.inl ⟨by rfl, pv⟩) pp ?_
                     refine pure_ (i := 6) (N := some 43) (v := ?_) (a' := ?_) #[true,true,true,false,true,true,true,false,false,false,false,false,false,false,false,false,false,false] rfl rfl (any_of HT_.out (by kernel_rfl)) (fun _ _ _ h => h) (Or.inl ⟨by rfl, pv⟩) pp ?_
                     refine pure_ (i := 8) (N := some 45) (v := ?_) (a' := ?_) #[true,true,true,false,true,true,true,false,true,false,false,false,false,false,false,false,false,false] rfl rfl (any_of HT_.out (by kernel_rfl)) (fun _ _ _ h => h) (Or.inl ⟨by rfl, pv⟩) pp ?_
                     refine pure_ (i := 9) (N := some 46) (v := ?_) (a' := ?_) #[true,true,true,false,true,true,true,false,true,true,false,false,false,false,false,false,false,false] rfl rfl (any_of HT_.out (by kernel_rfl)) (fun _ _ _ h => h) (Or.inl ⟨by rfl, pv⟩) pp ?_
                     refine pure_ (i := 10) (N := some 47) (v := ?_) (a' := ?_) #[true,true,true,false,true,true,true,false,true,true,true,false,false,false,false,false,false,false] rfl rfl (any_of HT_.out (by kernel_rfl)) (fun _ _ _ h => h) (Or.inl ⟨by rfl, pv⟩) pp ?_
                     refine pure_ (i := 12) (N := some 49) (v := ?_) (a' := ?_) #[true,true,true,false,true,true,true,false,true,true,true,false,true,false,false,false,false,false] rfl rfl (any_of HT_.out (by kernel_rfl)) (fun _ _ _ h => h) (Or.inl ⟨by rfl, pv⟩) pp ?_
                     refine pure_ (i := 13) (N := some 50) (v := ?_) (a' := ?_) #[true,true,true,false,true,true,true,false,true,true,true,false,true,true,false,false,false,false] rfl rfl (any_of HT_.out (by kernel_rfl)) (fun _ _ _ h => h) (Or.inl ⟨by rfl, pv⟩) pp ?_
                     refine take_ (i := 3) (N := some 40) (v := ?_) (a' := ?_) #[true,true,true,true,true,true,true,false,true,true,true,false,true,true,false,false,false,false] rfl rfl (take_ofW HT_.out HW_.out (by kernel_rfl)) (fun _ _ _ h => h) (Or.inl ⟨by rfl, pv⟩) hHeld pp ?_
                     refine take_ (i := 7) (N := some 44) (v := ?_) (a' := ?_) #[true,true,true,true,true,true,true,true,true,true,true,false,true,true,false,false,false,false] rfl rfl (take_ofW HT_.out HW_.out (by kernel_rfl)) (fun _ _ _ h => h) (Or.inl ⟨by rfl, pv⟩) hHeld pp ?_
                     refine take_ (i := 11) (N := some 48) (v := ?_) (a' := ?_) #[true,true,true,true,true,true,true,true,true,true,true,true,true,true,false,false,false,false] rfl rfl (take_ofW HT_.out HW_.out (by kernel_rfl)) (fun _ _ _ h => h) (Or.inl ⟨by rfl, pv⟩) hHeld pp ?_
                     refine take_ (i := 14) (N := some 51) (v := ?_) (a' := ?_) #[true,true,true,true,true,true,true,true,true,true,true,true,true,true,true,false,false,false] rfl rfl (take_ofW HT_.out HW_.out (by kernel_rfl)) (fun _ _ _ h => h) (Or.inl ⟨by rfl, pv⟩) hHeld pp ?_
                     refine one_ (i := 15) (N := some 52) #[true,true,true,true,true,true,true,true,true,true,true,true,true,true,true,true,false,false] rfl rfl (one_of HT_.out (by kernel_rfl)) (by decide) (fun K hK => ?_)
                     refine Kd.R_lit_step (Kd.int .u8) _ 5 ?hg (N := 52) ?hd (xs := ([bt (⟨#[65,66,67,68,69,70,71,72,73,74,75,76,77,78,79,80,81,82,83,84,85,86,87,88,89,90,97,98,99,100,101,102,103,104,105,106,107,108,109,110,111,112,113,114,115,116,117,118,119,120,121,122,48,49,50,51,52,53,54,55,56,57,45,95]⟩ : ByteArray) (ji17), bt (⟨#[65,66,67,68,69,70,71,72,73,74,75,76,77,78,79,80,81,82,83,84,85,86,87,88,89,90,97,98,99,100,101,102,103,104,105,106,107,108,109,110,111,112,113,114,115,116,117,118,119,120,121,122,48,49,50,51,52,53,54,55,56,57,45,95]⟩ : ByteArray) (ji21), bt (⟨#[65,66,67,68,69,70,71,72,73,74,75,76,77,78,79,80,81,82,83,84,85,86,87,88,89,90,97,98,99,100,101,102,103,104,105,106,107,108,109,110,111,112,113,114,115,116,117,118,119,120,121,122,48,49,50,51,52,53,54,55,56,57,45,95]⟩ : ByteArray) (ji25), bt (⟨#[65,66,67,68,69,70,71,72,73,74,75,76,77,78,79,80,81,82,83,84,85,86,87,88,89,90,97,98,99,100,101,102,103,104,105,106,107,108,109,110,111,112,113,114,115,116,117,118,119,120,121,122,48,49,50,51,52,53,54,55,56,57,45,95]⟩ : ByteArray) (ji29)] : List Int)) (inner := [.int .u8 (bt (⟨#[65,66,67,68,69,70,71,72,73,74,75,76,77,78,79,80,81,82,83,84,85,86,87,88,89,90,97,98,99,100,101,102,103,104,105,106,107,108,109,110,111,112,113,114,115,116,117,118,119,120,121,122,48,49,50,51,52,53,54,55,56,57,45,95]⟩ : ByteArray) (ji17)), .int .u8 (bt (⟨#[65,66,67,68,69,70,71,72,73,74,75,76,77,78,79,80,81,82,83,84,85,86,87,88,89,90,97,98,99,100,101,102,103,104,105,106,107,108,109,110,111,112,113,114,115,116,117,118,119,120,121,122,48,49,50,51,52,53,54,55,56,57,45,95]⟩ : ByteArray) (ji21)), .int .u8 (bt (⟨#[65,66,67,68,69,70,71,72,73,74,75,76,77,78,79,80,81,82,83,84,85,86,87,88,89,90,97,98,99,100,101,102,103,104,105,106,107,108,109,110,111,112,113,114,115,116,117,118,119,120,121,122,48,49,50,51,52,53,54,55,56,57,45,95]⟩ : ByteArray) (ji25)), .int .u8 (bt (⟨#[65,66,67,68,69,70,71,72,73,74,75,76,77,78,79,80,81,82,83,84,85,86,87,88,89,90,97,98,99,100,101,102,103,104,105,106,107,108,109,110,111,112,113,114,115,116,117,118,119,120,121,122,48,49,50,51,52,53,54,55,56,57,45,95]⟩ : ByteArray) (ji29))]) (ok := fun _ => True) (okp := fun _ => True) ?hr ?hp (fun _ hk => hk) trivial (Below.refl _ _) (Nat.le_refl _) (by simp) ?_; (case hd => rfl); (case hg => rfl); (case hr => first | (go_simp; done) | (go_simp; rfl)); (case hp => exact (Reps.one (show Kd.M (Kd.int .u8) _ _ _ (bt (⟨#[65,66,67,68,69,70,71,72,73,74,75,76,77,78,79,80,81,82,83,84,85,86,87,88,89,90,97,98,99,100,101,102,103,104,105,106,107,108,109,110,111,112,113,114,115,116,117,118,119,120,121,122,48,49,50,51,52,53,54,55,56,57,45,95]⟩ : ByteArray) (ji17)) [.int .u8 (bt (⟨#[65,66,67,68,69,70,71,72,73,74,75,76,77,78,79,80,81,82,83,84,85,86,87,88,89,90,97,98,99,100,101,102,103,104,105,106,107,108,109,110,111,112,113,114,115,116,117,118,119,120,121,122,48,49,50,51,52,53,54,55,56,57,45,95]⟩ : ByteArray) (ji17))] from rfl) (Reps.one (show Kd.M (Kd.int .u8) _ _ _ (bt (⟨#[65,66,67,68,69,70,71,72,73,74,75,76,77,78,79,80,81,82,83,84,85,86,87,88,89,90,97,98,99,100,101,102,103,104,105,106,107,108,109,110,111,112,113,114,115,116,117,118,119,120,121,122,48,49,50,51,52,53,54,55,56,57,45,95]⟩ : ByteArray) (ji21)) [.int .u8 (bt (⟨#[65,66,67,68,69,70,71,72,73,74,75,76,77,78,79,80,81,82,83,84,85,86,87,88,89,90,97,98,99,100,101,102,103,104,105,106,107,108,109,110,111,112,113,114,115,116,117,118,119,120,121,122,48,49,50,51,52,53,54,55,56,57,45,95]⟩ : ByteArray) (ji21))] from rfl) (Reps.one (show Kd.M (Kd.int .u8) _ _ _ (bt (⟨#[65,66,67,68,69,70,71,72,73,74,75,76,77,78,79,80,81,82,83,84,85,86,87,88,89,90,97,98,99,100,101,102,103,104,105,106,107,108,109,110,111,112,113,114,115,116,117,118,119,120,121,122,48,49,50,51,52,53,54,55,56,57,45,95]⟩ : ByteArray) (ji25)) [.int .u8 (bt (⟨#[65,66,67,68,69,70,71,72,73,74,75,76,77,78,79,80,81,82,83,84,85,86,87,88,89,90,97,98,99,100,101,102,103,104,105,106,107,108,109,110,111,112,113,114,115,116,117,118,119,120,121,122,48,49,50,51,52,53,54,55,56,57,45,95]⟩ : ByteArray) (ji25))] from rfl) (Reps.one (show Kd.M (Kd.int .u8) _ _ _ (bt (⟨#[65,66,67,68,69,70,71,72,73,74,75,76,77,78,79,80,81,82,83,84,85,86,87,88,89,90,97,98,99,100,101,102,103,104,105,106,107,108,109,110,111,112,113,114,115,116,117,118,119,120,121,122,48,49,50,51,52,53,54,55,56,57,45,95]⟩ : ByteArray) (ji29)) [.int .u8 (bt (⟨#[65,66,67,68,69,70,71,72,73,74,75,76,77,78,79,80,81,82,83,84,85,86,87,88,89,90,97,98,99,100,101,102,103,104,105,106,107,108,109,110,111,112,113,114,115,116,117,118,119,120,121,122,48,49,50,51,52,53,54,55,56,57,45,95]⟩ : ByteArray) (ji29))] from rfl) (Reps.none _ _))))))
                     intro v118 w37 ho38 hb hg_ hnew_
                     clear hg_ hnew_
                     (first | rw [← Ny117.out] at ho38 | (simp only [Int.reduceToNat] at ho38; rw [← Ny117.out] at ho38))
                     have HO119 := Aside0.mk (Kd.R_lower (Kd.R_new' ho38 (Kd.R_lt (qR HO_4.out))) (below_size (hq HB.out)))
                     replace HO_4 := Aside0.mk (Kd.R_elder' (qR HO_4.out) (Kd.R_base ho38) hb)
                     replace HB := Aside0.mk (below_step (hq HB.out) hb)
                     clear hb ho38
                     obtain ⟨Ao40, co40, eo40⟩ := Kd.R_slice HO119.out
                     (first | subst eo40 | (injection eo40 with f1_ f2_ f3_; have f4_ := f1_.symm; have f5_ := f3_.symm; clear f1_ f2_ f3_; subst f4_; subst f5_))
                     refine hK.out _ _ trivial (fun hHeld => ?_)
                     clear hK K
                     refine norm_ (a' := ?_) (show Act.put _ (some 52) _ = _ from pp) ?_
                     refine one_ (i := 16) (N := some 53) #[true,true,true,true,true,true,true,true,true,true,true,true,true,true,true,true,true,false] rfl rfl (one_of HT_.out (by kernel_rfl)) (by decide) (fun K hK => ?_)
                     refine Kd.R_append_rows_step (Kd.int .u8) (w0 := w) w.heap.size (by rfl) (.tmp 37) (.tmp 52) 28 5 (.int .u8 0) 1 rfl Try.underlying28 info5 rfl (by decide) (by omega) u4 x4_1 y117 _ _ _ (fun k_ => some k_ ≠ (.slice Ao40 y117.length co40 : Value).ownBlock) (fun _ => False) rfl rfl ?aO ?aR (fun _ _ h => h) (fun _ h => h.elim) ?aF ?aB ?aS ?aL ?_
                     (case aR => repeat (first | exact (Kd.R_reads' HO119.out).2.2 | (with_reducible refine Kd.C_alloc ?_ _) | (with_reducible refine Kd.C_drewN ?_ _) | (with_reducible refine Kd.C_drew ?_)))
                     (case aB => exact (hq HB.out))
                     (case aF => exact (fun k_ hk => Kd.fresh' (Kd.R_lt (qR HO119.out)) k_ hk))
                     (case aO => exact (by (with_reducible repeat (first | apply Kd.R_alloc | apply Kd.R_drewN | apply Kd.R_drew)); exact Kd.R_mono HO_4.out (fun _ hk => hk.2)))
                     (case aS => exact (below_size (hq HB.out)))
                     (case aL => have := LMc33.out; omega)
                     intro v121 w39 ho hb hg hat
                     rw [← Ny120.out] at ho
                     have n0_ := Aside0.mk (Kd.R_after (ok := (fun _ => True)) (qR HO119.out) hg hat)
                     have n1_ := Aside0.mk (hb)
                     have n2_ := Aside0.mk (ho)
                     clear HO119
                     clear HB
                     clear HO_4
                     have HO119 := n0_
                     have HB := n1_
                     have HO122 := n2_
                     clear n0_ n1_ n2_
                     clear ho hb hg hat
                     refine hK.out _ _ trivial (fun hHeld => ?_)
                     clear hK K
                     refine norm_ (a' := ?_) (show Act.put _ (some 53) _ = _ from pp) ?_
                     refine pure_ (i := 17) (N := some 4) (v := ?_) (a' := ?_) #[true,true,true,true,true,true,true,true,true,true,true,true,true,true,true,true,true,true] rfl rfl (any_of HT_.out (by kernel_rfl)) (fun _ _ _ h => h) (Or.inl ⟨by rfl, pv⟩) pp ?_
                     refine done_ (done_of HT_.out (by kernel_rfl)) ?_
                     try go_wp2
                     go_roundg k1
                     case measure => have := HK1.out; omega
                     case rel => exact ⟨(x0_1.extract 3 x0_1.size), (y120), dq, H', ⟨by have := HK1.out; omega⟩, ⟨by (with_reducible repeat (first | apply Kd.R_alloc | apply Kd.R_drewN | apply Kd.R_drew)); exact Kd.R_mono HO122.out (fun _ hk => trivial)⟩, ⟨hq HB.out⟩⟩
                    ·rw [if_neg c34] at H
                     exact absurd H (by simp)
                   ·rw [if_neg c33] at H
                    exact absurd H (by simp)
                  ·rw [if_neg c31] at H
                   exact absurd H (by simp)
                 ·rw [if_neg c30] at H
                  exact absurd H (by simp)
                ·rw [if_neg c27] at H
                 exact absurd H (by simp)
               ·rw [if_neg c26] at H
                exact absurd H (by simp)
              ·rw [if_neg c23] at H
               exact absurd H (by simp)
             ·rw [if_neg c22] at H
              exact absurd H (by simp)
            ·rw [if_neg c19] at H
             exact absurd H (by simp)
           ·rw [if_neg c18] at H
            exact absurd H (by simp)
          ·rw [if_neg c15] at H
           exact absurd H (by simp)
         ·rw [if_neg c13] at H
          exact absurd H (by simp)
        ·rw [if_neg c11] at H
         exact absurd H (by simp)
    ·rw [if_neg c6] at H
     exact absurd H (by simp)
   ·rw [if_neg c5] at H
    exact absurd H (by simp)
  ·rw [if_neg c3] at H
   have c3b0 : (((a0.size : Int) % 3) == 0) = false := beq_eq_false_iff_ne.mpr c3
   have c3b1 : (((a0.size : Int) % 3) != 0) = true := bne_iff_ne.mpr c3
   simp only [Option.some.injEq, Prod.mk.injEq] at H
   obtain ⟨rfl, rfl⟩ := H
   go_enter Try.func52, Try.ntmps52
   go_wp2
   go_ret2
   exact ⟨rq_, hq HB.out⟩

-- NOT PRINTED: function 34 (strings_Builder_String)

/-! ### bits_Mul32: function 74 -/
def bits_Mul32.f (a0 : Int) (a1 : Int) : Option (Int × Int) := some (((IntKind.u64.wrap ((IntKind.u64.wrap (a0)) * (IntKind.u64.wrap (a1)))) / 4294967296) % 4294967296, (IntKind.u64.wrap ((IntKind.u64.wrap (a0)) * (IntKind.u64.wrap (a1)))) % 4294967296)
set_option maxHeartbeats 8000000 in
set_option maxRecDepth 100000 in
theorem bits_Mul32.calls (a0 : Int) (a1 : Int) (r1 : Int) (r2 : Int) (w : World) (h : bits_Mul32.f a0 a1 = some (r1, r2)) :
    Calls Try.prog 74 #[.int .u32 a0, .int .u32 a1] w fun e w' => e = .returned (.tuple #[.int .u32 r1, .int .u32 r2]) ∧ Drawn0 w w' := by
 have H : (some (((IntKind.u64.wrap ((IntKind.u64.wrap (a0)) * (IntKind.u64.wrap (a1)))) / 4294967296) % 4294967296, (IntKind.u64.wrap ((IntKind.u64.wrap (a0)) * (IntKind.u64.wrap (a1)))) % 4294967296)) = some (r1, r2) := h
 clear h
 simp only [Option.some.injEq, Prod.mk.injEq] at H
 obtain ⟨rfl, rfl⟩ := H
 go_enter Try.func74, Try.ntmps74
 go_wp2
 go_ret2
 exact ⟨by first | rfl | (simp; done) | (simp [*]; done), by repeat (first | exact Drawn0.refl _ | apply Drawn0.step)⟩

/-! ### bits_Mul64: function 75 -/
def bits_Mul64.f (a0 : Int) (a1 : Int) : Option (Int × Int) := some (IntKind.u64.wrap ((IntKind.u64.wrap ((IntKind.u64.wrap ((a0 / 4294967296) * (a1 / 4294967296))) + ((IntKind.u64.wrap ((IntKind.u64.wrap ((a0 / 4294967296) * (Go.bits .and .u64 a1 4294967295))) + ((IntKind.u64.wrap ((Go.bits .and .u64 a0 4294967295) * (Go.bits .and .u64 a1 4294967295))) / 4294967296))) / 4294967296))) + ((IntKind.u64.wrap ((Go.bits .and .u64 (IntKind.u64.wrap ((IntKind.u64.wrap ((a0 / 4294967296) * (Go.bits .and .u64 a1 4294967295))) + ((IntKind.u64.wrap ((Go.bits .and .u64 a0 4294967295) * (Go.bits .and .u64 a1 4294967295))) / 4294967296))) 4294967295) + (IntKind.u64.wrap ((Go.bits .and .u64 a0 4294967295) * (a1 / 4294967296))))) / 4294967296)), IntKind.u64.wrap (a0 * a1))
set_option maxHeartbeats 8000000 in
set_option maxRecDepth 100000 in
theorem bits_Mul64.calls (a0 : Int) (a1 : Int) (r1 : Int) (r2 : Int) (w : World) (h : bits_Mul64.f a0 a1 = some (r1, r2)) :
    Calls Try.prog 75 #[.int .u64 a0, .int .u64 a1] w fun e w' => e = .returned (.tuple #[.int .u64 r1, .int .u64 r2]) ∧ Drawn0 w w' := by
 have H : (some (IntKind.u64.wrap ((IntKind.u64.wrap ((IntKind.u64.wrap ((a0 / 4294967296) * (a1 / 4294967296))) + ((IntKind.u64.wrap ((IntKind.u64.wrap ((a0 / 4294967296) * (Go.bits .and .u64 a1 4294967295))) + ((IntKind.u64.wrap ((Go.bits .and .u64 a0 4294967295) * (Go.bits .and .u64 a1 4294967295))) / 4294967296))) / 4294967296))) + ((IntKind.u64.wrap ((Go.bits .and .u64 (IntKind.u64.wrap ((IntKind.u64.wrap ((a0 / 4294967296) * (Go.bits .and .u64 a1 4294967295))) + ((IntKind.u64.wrap ((Go.bits .and .u64 a0 4294967295) * (Go.bits .and .u64 a1 4294967295))) / 4294967296))) 4294967295) + (IntKind.u64.wrap ((Go.bits .and .u64 a0 4294967295) * (a1 / 4294967296))))) / 4294967296)), IntKind.u64.wrap (a0 * a1))) = some (r1, r2) := h
 clear h
 simp only [Option.some.injEq, Prod.mk.injEq] at H
 obtain ⟨rfl, rfl⟩ := H
 go_enter Try.func75, Try.ntmps75
 go_wp2
 go_ret2
 exact ⟨by first | rfl | (simp; done) | (simp [*]; done), by repeat (first | exact Drawn0.refl _ | apply Drawn0.step)⟩

/-! ### bits_Mul: function 65 -/
def bits_Mul.f (a0 : Int) (a1 : Int) : Option (Int × Int) := (bits_Mul64.f a0 a1).bind fun bt123 => (some (bt123.1, bt123.2))
set_option maxHeartbeats 8000000 in
set_option maxRecDepth 100000 in
theorem bits_Mul.calls (a0 : Int) (a1 : Int) (r1 : Int) (r2 : Int) (w : World) (h : bits_Mul.f a0 a1 = some (r1, r2)) :
    Calls Try.prog 65 #[.int .u64 a0, .int .u64 a1] w fun e w' => e = .returned (.tuple #[.int .u64 r1, .int .u64 r2]) ∧ Drawn0 w w' := by
 have H : ((bits_Mul64.f a0 a1).bind fun bt123 => (some (bt123.1, bt123.2))) = some (r1, r2) := h
 clear h
 obtain ⟨⟨t123, t124⟩, A3, H⟩ := bindS H
 try dsimp only at H
 simp only [Option.some.injEq, Prod.mk.injEq] at H
 obtain ⟨rfl, rfl⟩ := H
 go_enter Try.func65, Try.ntmps65
 go_wp2_with (first | ((with_reducible refine gate_callee (f := 75) rfl ?_); refine goesL_ (some 25) rfl rfl Try.func75 (by kernel_rfl) rfl #[.int .u64 a0, .int .u64 a1] rfl eq_ ?_; (with_reducible refine (bits_Mul64.calls a0 a1 t123 t124 _ A3.out).mono ?_); rintro e w' ⟨rfl, ⟨nd, rfl⟩⟩; refine ⟨_, rfl, ?_⟩))
 go_ret2
 exact ⟨by first | rfl | (simp; done) | (simp [*]; done), by repeat (first | exact Drawn0.refl _ | apply Drawn0.step)⟩

/-! ### stringslite_HasPrefix: function 76 -/
def stringslite_HasPrefix.f (a0 : ByteArray) (a1 : ByteArray) : Option (Bool) := if (a0.size : Int) ≥ (a1.size : Int) then (if 0 ≤ (a1.size : Int) then (if (a1.size : Int) ≤ (a0.size : Int) then (some ((a0.extract 0 ((a1.size : Int) : Int).toNat).toList == a1.toList)) else (none)) else (none)) else (some false)
set_option maxHeartbeats 8000000 in
set_option maxRecDepth 100000 in
theorem stringslite_HasPrefix.calls (a0 : ByteArray) (a1 : ByteArray) (r : Bool) (w : World) (h : stringslite_HasPrefix.f a0 a1 = some r) :
    Calls Try.prog 76 #[.string a0, .string a1] w fun e w' => e = .returned (.bool r) ∧ Drawn0 w w' := by
 have H : (if (a0.size : Int) ≥ (a1.size : Int) then (if 0 ≤ (a1.size : Int) then (if (a1.size : Int) ≤ (a0.size : Int) then (some ((a0.extract 0 ((a1.size : Int) : Int).toNat).toList == a1.toList)) else (none)) else (none)) else (some false)) = some r := h
 clear h
 by_cases c3 : (a0.size : Int) ≥ (a1.size : Int)
 ·rw [if_pos c3] at H
  have c3b0 := decide_eq_true c3
  have c3b1 : decide (a1.size ≤ a0.size) = true := decide_eq_true (Int.ofNat_le.mp c3)
  clear c3
  by_cases c4 : 0 ≤ (a1.size : Int)
  ·rw [if_pos c4] at H
   have c4b0 := eq_true c4
   have c4b1 := decide_eq_true c4
   clear c4
   by_cases c5 : (a1.size : Int) ≤ (a0.size : Int)
   ·rw [if_pos c5] at H
    have c5b0 := eq_true c5
    have c5b1 := decide_eq_true c5
    clear c5
    obtain rfl := Option.some.inj H
    go_enter Try.func76, Try.ntmps76
    go_wp2
    go_ret
    exact ⟨by first | rfl | (simp; done) | (simp [*]; done), by repeat (first | exact Drawn0.refl _ | apply Drawn0.step)⟩
   ·rw [if_neg c5] at H
    exact absurd H (by simp)
  ·rw [if_neg c4] at H
   exact absurd H (by simp)
 ·rw [if_neg c3] at H
  have c3b0 := decide_eq_false c3
  have c3b1 : decide (a1.size ≤ a0.size) = false := decide_eq_false (fun h => c3 (Int.ofNat_le.mpr h))
  clear c3
  obtain rfl := Option.some.inj H
  go_enter Try.func76, Try.ntmps76
  go_wp2
  go_ret
  exact ⟨by first | rfl | (simp; done) | (simp [*]; done), by repeat (first | exact Drawn0.refl _ | apply Drawn0.step)⟩

end Go.Proofs.Ytookjdhfpbmjkaa.X
