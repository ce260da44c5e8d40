-- Written by xprint.py, a program of this repo that leads the kit's print.py: Lean checks it.
import Derived.Test.YtookjdhfpbmjkaaX0
namespace Go.Proofs.Ytookjdhfpbmjkaa.X
open Go.RowKit Go.Proofs.YtookjdhfpbmjkaaW.PrintWords Go.Proofs.YtookjdhfpbmjkaaW.PrintLast Go.Proofs.YtookjdhfpbmjkaaW.PrintMore
attribute [local go_sem] max2_int min2_int max_two min_two max_three min_three max_four min_four   -- for this text's walks alone
set_option linter.unusedVariables false
set_option linter.unusedSimpArgs false

/-! ### keyeventref01_Encode: function 57 -/
def keyeventref01_Encode.l0 : Nat → ByteArray → List Int → Int → Option (ByteArray × Int)
  | 0, _, _, _ => none
  | k + 1, x0, x4, x5 => if x5 < (x0.size : Int) then (if 0 ≤ x5 then (if 0 ≤ (wrap64 (x5 + 1)) then (if (wrap64 (x5 + 1)) < (x0.size : Int) then (if 0 ≤ (wrap64 (x5 + 2)) then (if (wrap64 (x5 + 2)) < (x0.size : Int) then (if 0 ≤ ((Go.bits .or .i64 (Go.bits .or .i64 (wrap64 ((wrap64 (bt x0 x5)) * 65536)) (wrap64 ((wrap64 (bt x0 (wrap64 (x5 + 1)))) * 256))) (wrap64 (bt x0 (wrap64 (x5 + 2))))) / 262144) then (if ((Go.bits .or .i64 (Go.bits .or .i64 (wrap64 ((wrap64 (bt x0 x5)) * 65536)) (wrap64 ((wrap64 (bt x0 (wrap64 (x5 + 1)))) * 256))) (wrap64 (bt x0 (wrap64 (x5 + 2))))) / 262144) < 64 then (if 0 ≤ (Go.bits .and .i64 ((Go.bits .or .i64 (Go.bits .or .i64 (wrap64 ((wrap64 (bt x0 x5)) * 65536)) (wrap64 ((wrap64 (bt x0 (wrap64 (x5 + 1)))) * 256))) (wrap64 (bt x0 (wrap64 (x5 + 2))))) / 4096) 63) then (if (Go.bits .and .i64 ((Go.bits .or .i64 (Go.bits .or .i64 (wrap64 ((wrap64 (bt x0 x5)) * 65536)) (wrap64 ((wrap64 (bt x0 (wrap64 (x5 + 1)))) * 256))) (wrap64 (bt x0 (wrap64 (x5 + 2))))) / 4096) 63) < 64 then (if 0 ≤ (Go.bits .and .i64 ((Go.bits .or .i64 (Go.bits .or .i64 (wrap64 ((wrap64 (bt x0 x5)) * 65536)) (wrap64 ((wrap64 (bt x0 (wrap64 (x5 + 1)))) * 256))) (wrap64 (bt x0 (wrap64 (x5 + 2))))) / 64) 63) then (if (Go.bits .and .i64 ((Go.bits .or .i64 (Go.bits .or .i64 (wrap64 ((wrap64 (bt x0 x5)) * 65536)) (wrap64 ((wrap64 (bt x0 (wrap64 (x5 + 1)))) * 256))) (wrap64 (bt x0 (wrap64 (x5 + 2))))) / 64) 63) < 64 then (if 0 ≤ (Go.bits .and .i64 (Go.bits .or .i64 (Go.bits .or .i64 (wrap64 ((wrap64 (bt x0 x5)) * 65536)) (wrap64 ((wrap64 (bt x0 (wrap64 (x5 + 1)))) * 256))) (wrap64 (bt x0 (wrap64 (x5 + 2))))) 63) then (if (Go.bits .and .i64 (Go.bits .or .i64 (Go.bits .or .i64 (wrap64 ((wrap64 (bt x0 x5)) * 65536)) (wrap64 ((wrap64 (bt x0 (wrap64 (x5 + 1)))) * 256))) (wrap64 (bt x0 (wrap64 (x5 + 2))))) 63) < 64 then ((some (([bt (⟨#[65,66,67,68,69,70,71,72,73,74,75,76,77,78,79,80,81,82,83,84,85,86,87,88,89,90,97,98,99,100,101,102,103,104,105,106,107,108,109,110,111,112,113,114,115,116,117,118,119,120,121,122,48,49,50,51,52,53,54,55,56,57,45,95]⟩ : ByteArray) ((Go.bits .or .i64 (Go.bits .or .i64 (wrap64 ((wrap64 (bt x0 x5)) * 65536)) (wrap64 ((wrap64 (bt x0 (wrap64 (x5 + 1)))) * 256))) (wrap64 (bt x0 (wrap64 (x5 + 2))))) / 262144), bt (⟨#[65,66,67,68,69,70,71,72,73,74,75,76,77,78,79,80,81,82,83,84,85,86,87,88,89,90,97,98,99,100,101,102,103,104,105,106,107,108,109,110,111,112,113,114,115,116,117,118,119,120,121,122,48,49,50,51,52,53,54,55,56,57,45,95]⟩ : ByteArray) (Go.bits .and .i64 ((Go.bits .or .i64 (Go.bits .or .i64 (wrap64 ((wrap64 (bt x0 x5)) * 65536)) (wrap64 ((wrap64 (bt x0 (wrap64 (x5 + 1)))) * 256))) (wrap64 (bt x0 (wrap64 (x5 + 2))))) / 4096) 63), bt (⟨#[65,66,67,68,69,70,71,72,73,74,75,76,77,78,79,80,81,82,83,84,85,86,87,88,89,90,97,98,99,100,101,102,103,104,105,106,107,108,109,110,111,112,113,114,115,116,117,118,119,120,121,122,48,49,50,51,52,53,54,55,56,57,45,95]⟩ : ByteArray) (Go.bits .and .i64 ((Go.bits .or .i64 (Go.bits .or .i64 (wrap64 ((wrap64 (bt x0 x5)) * 65536)) (wrap64 ((wrap64 (bt x0 (wrap64 (x5 + 1)))) * 256))) (wrap64 (bt x0 (wrap64 (x5 + 2))))) / 64) 63), bt (⟨#[65,66,67,68,69,70,71,72,73,74,75,76,77,78,79,80,81,82,83,84,85,86,87,88,89,90,97,98,99,100,101,102,103,104,105,106,107,108,109,110,111,112,113,114,115,116,117,118,119,120,121,122,48,49,50,51,52,53,54,55,56,57,45,95]⟩ : ByteArray) (Go.bits .and .i64 (Go.bits .or .i64 (Go.bits .or .i64 (wrap64 ((wrap64 (bt x0 x5)) * 65536)) (wrap64 ((wrap64 (bt x0 (wrap64 (x5 + 1)))) * 256))) (wrap64 (bt x0 (wrap64 (x5 + 2))))) 63)] : List Int) : List Int)).bind fun y160 => (if x4.length + y160.length < 140737488355328 then (keyeventref01_Encode.l0 k x0 (x4 ++ y160) (wrap64 (x5 + 3))) else (none))) else (none)) else (none)) else (none)) else (none)) else (none)) else (none)) else (none)) else (none)) else (none)) else (none)) else (none)) else (none)) else (none)) else (some (strOfNums x4, 0))
def keyeventref01_Encode.f (k : Nat) (a0 : ByteArray) : Option (ByteArray × Int) := if (a0.size : Int) > 65536 then (some ((⟨#[]⟩ : ByteArray), 3)) else (if ((a0.size : Int) % 3) = 0 then (keyeventref01_Encode.l0 k a0 ([] : List Int) 0) else (some ((⟨#[]⟩ : ByteArray), 8)))
theorem keyeventref01_Encode.mono_l : ∀ k, (∀ y0 y1 y2, LeO (keyeventref01_Encode.l0 k y0 y1 y2) (keyeventref01_Encode.l0 (k + 1) y0 y1 y2))
  | 0 => fun _ _ _ r h => by simp [keyeventref01_Encode.l0] at h
  | k + 1 => by
    have ih0 := keyeventref01_Encode.mono_l k
    · intro y0 y1 y2
      unfold keyeventref01_Encode.l0
      repeat' first
      | (with_reducible exact ih0 _ _ _)
      | (with_reducible exact LeO.refl _)
      | (with_reducible exact LeO.none _)
      | (with_reducible refine LeO.ite ?_ ?_)
      | (with_reducible refine LeO.bind ?_ (fun _ => ?_))
      | exact ih0 _ _ _
      | exact LeO.none _
      | refine LeO.ite ?_ ?_
      | refine LeO.bind ?_ (fun _ => ?_)
theorem keyeventref01_Encode.mono : ∀ a0 k, LeO (keyeventref01_Encode.f k a0) (keyeventref01_Encode.f (k + 1) a0) := by
  intro a0 k
  have ih0 := keyeventref01_Encode.mono_l k
  unfold keyeventref01_Encode.f
  repeat' first
      | (with_reducible exact ih0 _ _ _)
      | (with_reducible exact LeO.refl _)
      | (with_reducible exact LeO.none _)
      | (with_reducible refine LeO.ite ?_ ?_)
      | (with_reducible refine LeO.bind ?_ (fun _ => ?_))
      | exact ih0 _ _ _
      | exact LeO.none _
      | refine LeO.ite ?_ ?_
      | refine LeO.bind ?_ (fun _ => ?_)
def keyeventref01_Encode.T9 : Bool × List (List Nat × List Nat) := (true, [([], []), ([], []), ([0,1], [0,1]), ([2], [2]), ([3], [3]), ([], []), ([], []), ([6], [6]), ([5,7], [5,7]), ([8], [8]), ([9], [9]), ([4,10], [4,10]), ([], []), ([], []), ([13], [13]), ([12,14], [12,14]), ([15], [15]), ([11,16], [11,16]), ([17,0,1,2,3,4,5,6,7,8,9,10,11,12,13,14,15,16,17], [17])])
def keyeventref01_Encode.B9 : List Nat := [0,0,3,7,15,0,0,64,224,480,992,2047,0,0,8192,28672,61440,131071,262143]
theorem keyeventref01_Encode.tab9 : rtab .any (opsOf Try.f57 9) = keyeventref01_Encode.T9 := by kernel_rfl
theorem keyeventref01_Encode.bits9 : waitsOk keyeventref01_Encode.T9.2 keyeventref01_Encode.B9 = true := by kernel_rfl
def keyeventref01_Encode.T10 : Bool × List (List Nat × List Nat) := (true, [([], []), ([], []), ([1], [1]), ([2], [2]), ([], []), ([4], [4]), ([5], [5]), ([6], [6]), ([], []), ([8], [8]), ([9], [9]), ([10], [10]), ([], []), ([12], [12]), ([13], [13]), ([3,7,11,14], [3,7,11,14]), ([0,15], [0,15]), ([16,16,0,1,2,3,4,5,6,7,8,9,10,11,12,13,14,15,16], [0,16])])
def keyeventref01_Encode.B10 : List Nat := [0,0,2,6,0,16,48,112,0,256,768,1792,0,4096,12288,32766,65535,131071]
theorem keyeventref01_Encode.tab10 : rtab .any (opsOf Try.f57 10) = keyeventref01_Encode.T10 := by kernel_rfl
theorem keyeventref01_Encode.bits10 : waitsOk keyeventref01_Encode.T10.2 keyeventref01_Encode.B10 = true := by kernel_rfl
set_option maxHeartbeats 8000000 in
set_option maxRecDepth 100000 in
theorem keyeventref01_Encode.calls (k : Nat) (a0 : ByteArray) (r1 : ByteArray) (r2 : Int) (w : World) (h : keyeventref01_Encode.f k a0 = some (r1, r2)) :
    Calls Try.prog 57 #[.string a0] w fun e w' => e = .returned (.tuple #[.string r1, .int .i64 r2]) ∧ Below w.heap.size w w' := by
 have HB := Aside0.mk (Below.refl w.heap.size w)
 have H : (if (a0.size : Int) > 65536 then (some ((⟨#[]⟩ : ByteArray), 3)) else (if ((a0.size : Int) % 3) = 0 then (keyeventref01_Encode.l0 k a0 ([] : List Int) 0) else (some ((⟨#[]⟩ : ByteArray), 8)))) = some (r1, r2) := h
 clear h
 by_cases c2 : (a0.size : Int) > 65536
 ·rw [if_pos c2] at H
  have c2b0 := decide_eq_true c2
  have c2b1 : decide (65536 < a0.size) = true := decide_eq_true (by omega)
  clear c2
  simp only [Option.some.injEq, Prod.mk.injEq] at H
  obtain ⟨rfl, rfl⟩ := H
  go_enter Try.func57, Try.ntmps57
  go_wp2
  go_ret2
  exact ⟨rq_, hq HB.out⟩
 ·rw [if_neg c2] at H
  have c2b0 := decide_eq_false c2
  have c2b1 : decide (65536 < a0.size) = false := decide_eq_false (by omega)
  clear c2
  by_cases c3 : ((a0.size : Int) % 3) = 0
  ·rw [if_pos c3] at H
   have c3b0 : (((a0.size : Int) % 3) == 0) = true := beq_iff_eq.mpr c3
   have c3b1 : (((a0.size : Int) % 3) != 0) = false := bne_eq_false_iff_eq.mpr c3
   clear c3
   have H' := Aside0.mk H
   clear H
   go_enter Try.func57, Try.ntmps57
   go_wp2
   go_loopg [4,5] k (fun kq v4 v5 w' => ∃ (x4_1 : List Int) (x5_1 : Int), v5 = .int .i64 x5_1 ∧ Aside0 (keyeventref01_Encode.l0 kq a0 x4_1 x5_1 = some (r1, r2)) ∧ Aside0 (kq ≤ k) ∧ Aside0 (Kd.R (Kd.int .u8) 5 w' w.heap.size (fun _ => True) v4 x4_1) ∧ Aside0 (Below w.heap.size w w'))
   case atStart => exact ⟨(([] : List Int)), (0), dq, H', ⟨Nat.le_refl _⟩, ⟨by first | exact Kd.R_nil _ _ _ _ _ | exact Kd.N_nil _ _ _ _ _ | exact Kd.V_nil _ _ _ _ _ | exact Kd.Q_nil _ _ _ _ _ | exact Kd.S_nil _ _ _ _ _⟩, ⟨hq HB.out⟩⟩
   case round =>
    clear H'
    try clear c2
    try clear c2b0
    try clear c2b1
    try clear p2
    try clear c3
    try clear c3b0
    try clear c3b1
    obtain ⟨x4_1, x5_1, rfl, HA, HK1, HO_4, HB⟩ := hrel
    cases gk with
    | zero => exact absurd HA.out (by simp [keyeventref01_Encode.l0])
    | succ k1 =>
     have H := HA.out
     clear HA
     simp only [keyeventref01_Encode.l0] at H
     by_cases c4 : x5_1 < (a0.size : Int)
     ·rw [if_pos c4] at H
      have c4b0 := decide_eq_true c4
      clear c4
      by_cases c5 : 0 ≤ x5_1
      ·rw [if_pos c5] at H
       have c5b0 := decide_eq_true c5
       clear c5
       obtain ⟨ji7, hji7⟩ : ∃ j_ : Int, (wrap64 (x5_1 + 1)) = j_ := ⟨_, rfl⟩
       replace H : (if 0 ≤ (ji7) then (if (ji7) < (a0.size : Int) then (if 0 ≤ (wrap64 (x5_1 + 2)) then (if (wrap64 (x5_1 + 2)) < (a0.size : Int) then (if 0 ≤ ((Go.bits .or .i64 (Go.bits .or .i64 (wrap64 ((wrap64 (bt a0 x5_1)) * 65536)) (wrap64 ((wrap64 (bt a0 (ji7))) * 256))) (wrap64 (bt a0 (wrap64 (x5_1 + 2))))) / 262144) then (if ((Go.bits .or .i64 (Go.bits .or .i64 (wrap64 ((wrap64 (bt a0 x5_1)) * 65536)) (wrap64 ((wrap64 (bt a0 (ji7))) * 256))) (wrap64 (bt a0 (wrap64 (x5_1 + 2))))) / 262144) < 64 then (if 0 ≤ (Go.bits .and .i64 ((Go.bits .or .i64 (Go.bits .or .i64 (wrap64 ((wrap64 (bt a0 x5_1)) * 65536)) (wrap64 ((wrap64 (bt a0 (ji7))) * 256))) (wrap64 (bt a0 (wrap64 (x5_1 + 2))))) / 4096) 63) then (if (Go.bits .and .i64 ((Go.bits .or .i64 (Go.bits .or .i64 (wrap64 ((wrap64 (bt a0 x5_1)) * 65536)) (wrap64 ((wrap64 (bt a0 (ji7))) * 256))) (wrap64 (bt a0 (wrap64 (x5_1 + 2))))) / 4096) 63) < 64 then (if 0 ≤ (Go.bits .and .i64 ((Go.bits .or .i64 (Go.bits .or .i64 (wrap64 ((wrap64 (bt a0 x5_1)) * 65536)) (wrap64 ((wrap64 (bt a0 (ji7))) * 256))) (wrap64 (bt a0 (wrap64 (x5_1 + 2))))) / 64) 63) then (if (Go.bits .and .i64 ((Go.bits .or .i64 (Go.bits .or .i64 (wrap64 ((wrap64 (bt a0 x5_1)) * 65536)) (wrap64 ((wrap64 (bt a0 (ji7))) * 256))) (wrap64 (bt a0 (wrap64 (x5_1 + 2))))) / 64) 63) < 64 then (if 0 ≤ (Go.bits .and .i64 (Go.bits .or .i64 (Go.bits .or .i64 (wrap64 ((wrap64 (bt a0 x5_1)) * 65536)) (wrap64 ((wrap64 (bt a0 (ji7))) * 256))) (wrap64 (bt a0 (wrap64 (x5_1 + 2))))) 63) then (if (Go.bits .and .i64 (Go.bits .or .i64 (Go.bits .or .i64 (wrap64 ((wrap64 (bt a0 x5_1)) * 65536)) (wrap64 ((wrap64 (bt a0 (ji7))) * 256))) (wrap64 (bt a0 (wrap64 (x5_1 + 2))))) 63) < 64 then ((some (([bt (⟨#[65,66,67,68,69,70,71,72,73,74,75,76,77,78,79,80,81,82,83,84,85,86,87,88,89,90,97,98,99,100,101,102,103,104,105,106,107,108,109,110,111,112,113,114,115,116,117,118,119,120,121,122,48,49,50,51,52,53,54,55,56,57,45,95]⟩ : ByteArray) ((Go.bits .or .i64 (Go.bits .or .i64 (wrap64 ((wrap64 (bt a0 x5_1)) * 65536)) (wrap64 ((wrap64 (bt a0 (ji7))) * 256))) (wrap64 (bt a0 (wrap64 (x5_1 + 2))))) / 262144), bt (⟨#[65,66,67,68,69,70,71,72,73,74,75,76,77,78,79,80,81,82,83,84,85,86,87,88,89,90,97,98,99,100,101,102,103,104,105,106,107,108,109,110,111,112,113,114,115,116,117,118,119,120,121,122,48,49,50,51,52,53,54,55,56,57,45,95]⟩ : ByteArray) (Go.bits .and .i64 ((Go.bits .or .i64 (Go.bits .or .i64 (wrap64 ((wrap64 (bt a0 x5_1)) * 65536)) (wrap64 ((wrap64 (bt a0 (ji7))) * 256))) (wrap64 (bt a0 (wrap64 (x5_1 + 2))))) / 4096) 63), bt (⟨#[65,66,67,68,69,70,71,72,73,74,75,76,77,78,79,80,81,82,83,84,85,86,87,88,89,90,97,98,99,100,101,102,103,104,105,106,107,108,109,110,111,112,113,114,115,116,117,118,119,120,121,122,48,49,50,51,52,53,54,55,56,57,45,95]⟩ : ByteArray) (Go.bits .and .i64 ((Go.bits .or .i64 (Go.bits .or .i64 (wrap64 ((wrap64 (bt a0 x5_1)) * 65536)) (wrap64 ((wrap64 (bt a0 (ji7))) * 256))) (wrap64 (bt a0 (wrap64 (x5_1 + 2))))) / 64) 63), bt (⟨#[65,66,67,68,69,70,71,72,73,74,75,76,77,78,79,80,81,82,83,84,85,86,87,88,89,90,97,98,99,100,101,102,103,104,105,106,107,108,109,110,111,112,113,114,115,116,117,118,119,120,121,122,48,49,50,51,52,53,54,55,56,57,45,95]⟩ : ByteArray) (Go.bits .and .i64 (Go.bits .or .i64 (Go.bits .or .i64 (wrap64 ((wrap64 (bt a0 x5_1)) * 65536)) (wrap64 ((wrap64 (bt a0 (ji7))) * 256))) (wrap64 (bt a0 (wrap64 (x5_1 + 2))))) 63)] : List Int) : List Int)).bind fun y160 => (if x4_1.length + y160.length < 140737488355328 then (keyeventref01_Encode.l0 k1 a0 (x4_1 ++ y160) (wrap64 (x5_1 + 3))) else (none))) else (none)) else (none)) else (none)) else (none)) else (none)) else (none)) else (none)) else (none)) else (none)) else (none)) else (none)) else (none)) = some (r1, r2) := by first | (rw [hji7] at H; exact H) | (simp only [hji7] at H ⊢; exact H)
       have hji7w : (IntKind.i64.wrap (x5_1 + 1)) = ji7 := (i64_w _).trans hji7
       by_cases c8 : 0 ≤ (ji7)
       ·rw [if_pos c8] at H
        have c8b0 := decide_eq_true c8
        clear c8
        by_cases c9 : (ji7) < (a0.size : Int)
        ·rw [if_pos c9] at H
         have c9b0 := decide_eq_true c9
         clear c9
         obtain ⟨ji11, hji11⟩ : ∃ j_ : Int, (wrap64 (x5_1 + 2)) = j_ := ⟨_, rfl⟩
         replace H : (if 0 ≤ (ji11) then (if (ji11) < (a0.size : Int) then (if 0 ≤ ((Go.bits .or .i64 (Go.bits .or .i64 (wrap64 ((wrap64 (bt a0 x5_1)) * 65536)) (wrap64 ((wrap64 (bt a0 (ji7))) * 256))) (wrap64 (bt a0 (ji11)))) / 262144) then (if ((Go.bits .or .i64 (Go.bits .or .i64 (wrap64 ((wrap64 (bt a0 x5_1)) * 65536)) (wrap64 ((wrap64 (bt a0 (ji7))) * 256))) (wrap64 (bt a0 (ji11)))) / 262144) < 64 then (if 0 ≤ (Go.bits .and .i64 ((Go.bits .or .i64 (Go.bits .or .i64 (wrap64 ((wrap64 (bt a0 x5_1)) * 65536)) (wrap64 ((wrap64 (bt a0 (ji7))) * 256))) (wrap64 (bt a0 (ji11)))) / 4096) 63) then (if (Go.bits .and .i64 ((Go.bits .or .i64 (Go.bits .or .i64 (wrap64 ((wrap64 (bt a0 x5_1)) * 65536)) (wrap64 ((wrap64 (bt a0 (ji7))) * 256))) (wrap64 (bt a0 (ji11)))) / 4096) 63) < 64 then (if 0 ≤ (Go.bits .and .i64 ((Go.bits .or .i64 (Go.bits .or .i64 (wrap64 ((wrap64 (bt a0 x5_1)) * 65536)) (wrap64 ((wrap64 (bt a0 (ji7))) * 256))) (wrap64 (bt a0 (ji11)))) / 64) 63) then (if (Go.bits .and .i64 ((Go.bits .or .i64 (Go.bits .or .i64 (wrap64 ((wrap64 (bt a0 x5_1)) * 65536)) (wrap64 ((wrap64 (bt a0 (ji7))) * 256))) (wrap64 (bt a0 (ji11)))) / 64) 63) < 64 then (if 0 ≤ (Go.bits .and .i64 (Go.bits .or .i64 (Go.bits .or .i64 (wrap64 ((wrap64 (bt a0 x5_1)) * 65536)) (wrap64 ((wrap64 (bt a0 (ji7))) * 256))) (wrap64 (bt a0 (ji11)))) 63) then (if (Go.bits .and .i64 (Go.bits .or .i64 (Go.bits .or .i64 (wrap64 ((wrap64 (bt a0 x5_1)) * 65536)) (wrap64 ((wrap64 (bt a0 (ji7))) * 256))) (wrap64 (bt a0 (ji11)))) 63) < 64 then ((some (([bt (⟨#[65,66,67,68,69,70,71,72,73,74,75,76,77,78,79,80,81,82,83,84,85,86,87,88,89,90,97,98,99,100,101,102,103,104,105,106,107,108,109,110,111,112,113,114,115,116,117,118,119,120,121,122,48,49,50,51,52,53,54,55,56,57,45,95]⟩ : ByteArray) ((Go.bits .or .i64 (Go.bits .or .i64 (wrap64 ((wrap64 (bt a0 x5_1)) * 65536)) (wrap64 ((wrap64 (bt a0 (ji7))) * 256))) (wrap64 (bt a0 (ji11)))) / 262144), bt (⟨#[65,66,67,68,69,70,71,72,73,74,75,76,77,78,79,80,81,82,83,84,85,86,87,88,89,90,97,98,99,100,101,102,103,104,105,106,107,108,109,110,111,112,113,114,115,116,117,118,119,120,121,122,48,49,50,51,52,53,54,55,56,57,45,95]⟩ : ByteArray) (Go.bits .and .i64 ((Go.bits .or .i64 (Go.bits .or .i64 (wrap64 ((wrap64 (bt a0 x5_1)) * 65536)) (wrap64 ((wrap64 (bt a0 (ji7))) * 256))) (wrap64 (bt a0 (ji11)))) / 4096) 63), bt (⟨#[65,66,67,68,69,70,71,72,73,74,75,76,77,78,79,80,81,82,83,84,85,86,87,88,89,90,97,98,99,100,101,102,103,104,105,106,107,108,109,110,111,112,113,114,115,116,117,118,119,120,121,122,48,49,50,51,52,53,54,55,56,57,45,95]⟩ : ByteArray) (Go.bits .and .i64 ((Go.bits .or .i64 (Go.bits .or .i64 (wrap64 ((wrap64 (bt a0 x5_1)) * 65536)) (wrap64 ((wrap64 (bt a0 (ji7))) * 256))) (wrap64 (bt a0 (ji11)))) / 64) 63), bt (⟨#[65,66,67,68,69,70,71,72,73,74,75,76,77,78,79,80,81,82,83,84,85,86,87,88,89,90,97,98,99,100,101,102,103,104,105,106,107,108,109,110,111,112,113,114,115,116,117,118,119,120,121,122,48,49,50,51,52,53,54,55,56,57,45,95]⟩ : ByteArray) (Go.bits .and .i64 (Go.bits .or .i64 (Go.bits .or .i64 (wrap64 ((wrap64 (bt a0 x5_1)) * 65536)) (wrap64 ((wrap64 (bt a0 (ji7))) * 256))) (wrap64 (bt a0 (ji11)))) 63)] : List Int) : List Int)).bind fun y160 => (if x4_1.length + y160.length < 140737488355328 then (keyeventref01_Encode.l0 k1 a0 (x4_1 ++ y160) (wrap64 (x5_1 + 3))) else (none))) else (none)) else (none)) else (none)) else (none)) else (none)) else (none)) else (none)) else (none)) else (none)) else (none)) = some (r1, r2) := by first | (rw [hji11] at H; exact H) | (simp only [hji11] at H ⊢; exact H)
         have hji11w : (IntKind.i64.wrap (x5_1 + 2)) = ji11 := (i64_w _).trans hji11
         by_cases c12 : 0 ≤ (ji11)
         ·rw [if_pos c12] at H
          have c12b0 := decide_eq_true c12
          clear c12
          by_cases c13 : (ji11) < (a0.size : Int)
          ·rw [if_pos c13] at H
           have c13b0 := decide_eq_true c13
           clear c13
           obtain ⟨ji15, hji15⟩ : ∃ j_ : Int, ((Go.bits .or .i64 (Go.bits .or .i64 (wrap64 ((wrap64 (bt a0 x5_1)) * 65536)) (wrap64 ((wrap64 (bt a0 (ji7))) * 256))) (wrap64 (bt a0 (ji11)))) / 262144) = j_ := ⟨_, rfl⟩
           replace H : (if 0 ≤ (ji15) then (if (ji15) < 64 then (if 0 ≤ (Go.bits .and .i64 ((Go.bits .or .i64 (Go.bits .or .i64 (wrap64 ((wrap64 (bt a0 x5_1)) * 65536)) (wrap64 ((wrap64 (bt a0 (ji7))) * 256))) (wrap64 (bt a0 (ji11)))) / 4096) 63) then (if (Go.bits .and .i64 ((Go.bits .or .i64 (Go.bits .or .i64 (wrap64 ((wrap64 (bt a0 x5_1)) * 65536)) (wrap64 ((wrap64 (bt a0 (ji7))) * 256))) (wrap64 (bt a0 (ji11)))) / 4096) 63) < 64 then (if 0 ≤ (Go.bits .and .i64 ((Go.bits .or .i64 (Go.bits .or .i64 (wrap64 ((wrap64 (bt a0 x5_1)) * 65536)) (wrap64 ((wrap64 (bt a0 (ji7))) * 256))) (wrap64 (bt a0 (ji11)))) / 64) 63) then (if (Go.bits .and .i64 ((Go.bits .or .i64 (Go.bits .or .i64 (wrap64 ((wrap64 (bt a0 x5_1)) * 65536)) (wrap64 ((wrap64 (bt a0 (ji7))) * 256))) (wrap64 (bt a0 (ji11)))) / 64) 63) < 64 then (if 0 ≤ (Go.bits .and .i64 (Go.bits .or .i64 (Go.bits .or .i64 (wrap64 ((wrap64 (bt a0 x5_1)) * 65536)) (wrap64 ((wrap64 (bt a0 (ji7))) * 256))) (wrap64 (bt a0 (ji11)))) 63) then (if (Go.bits .and .i64 (Go.bits .or .i64 (Go.bits .or .i64 (wrap64 ((wrap64 (bt a0 x5_1)) * 65536)) (wrap64 ((wrap64 (bt a0 (ji7))) * 256))) (wrap64 (bt a0 (ji11)))) 63) < 64 then ((some (([bt (⟨#[65,66,67,68,69,70,71,72,73,74,75,76,77,78,79,80,81,82,83,84,85,86,87,88,89,90,97,98,99,100,101,102,103,104,105,106,107,108,109,110,111,112,113,114,115,116,117,118,119,120,121,122,48,49,50,51,52,53,54,55,56,57,45,95]⟩ : ByteArray) (ji15), bt (⟨#[65,66,67,68,69,70,71,72,73,74,75,76,77,78,79,80,81,82,83,84,85,86,87,88,89,90,97,98,99,100,101,102,103,104,105,106,107,108,109,110,111,112,113,114,115,116,117,118,119,120,121,122,48,49,50,51,52,53,54,55,56,57,45,95]⟩ : ByteArray) (Go.bits .and .i64 ((Go.bits .or .i64 (Go.bits .or .i64 (wrap64 ((wrap64 (bt a0 x5_1)) * 65536)) (wrap64 ((wrap64 (bt a0 (ji7))) * 256))) (wrap64 (bt a0 (ji11)))) / 4096) 63), bt (⟨#[65,66,67,68,69,70,71,72,73,74,75,76,77,78,79,80,81,82,83,84,85,86,87,88,89,90,97,98,99,100,101,102,103,104,105,106,107,108,109,110,111,112,113,114,115,116,117,118,119,120,121,122,48,49,50,51,52,53,54,55,56,57,45,95]⟩ : ByteArray) (Go.bits .and .i64 ((Go.bits .or .i64 (Go.bits .or .i64 (wrap64 ((wrap64 (bt a0 x5_1)) * 65536)) (wrap64 ((wrap64 (bt a0 (ji7))) * 256))) (wrap64 (bt a0 (ji11)))) / 64) 63), bt (⟨#[65,66,67,68,69,70,71,72,73,74,75,76,77,78,79,80,81,82,83,84,85,86,87,88,89,90,97,98,99,100,101,102,103,104,105,106,107,108,109,110,111,112,113,114,115,116,117,118,119,120,121,122,48,49,50,51,52,53,54,55,56,57,45,95]⟩ : ByteArray) (Go.bits .and .i64 (Go.bits .or .i64 (Go.bits .or .i64 (wrap64 ((wrap64 (bt a0 x5_1)) * 65536)) (wrap64 ((wrap64 (bt a0 (ji7))) * 256))) (wrap64 (bt a0 (ji11)))) 63)] : List Int) : List Int)).bind fun y160 => (if x4_1.length + y160.length < 140737488355328 then (keyeventref01_Encode.l0 k1 a0 (x4_1 ++ y160) (wrap64 (x5_1 + 3))) else (none))) else (none)) else (none)) else (none)) else (none)) else (none)) else (none)) else (none)) else (none)) = some (r1, r2) := by first | (rw [hji15] at H; exact H) | (simp only [hji15] at H ⊢; exact H)
           by_cases c16 : 0 ≤ (ji15)
           ·rw [if_pos c16] at H
            have c16b0 := decide_eq_true c16
            clear c16
            by_cases c17 : (ji15) < 64
            ·rw [if_pos c17] at H
             have c17b0 := decide_eq_true c17
             clear c17
             obtain ⟨ji19, hji19⟩ : ∃ j_ : Int, (Go.bits .and .i64 ((Go.bits .or .i64 (Go.bits .or .i64 (wrap64 ((wrap64 (bt a0 x5_1)) * 65536)) (wrap64 ((wrap64 (bt a0 (ji7))) * 256))) (wrap64 (bt a0 (ji11)))) / 4096) 63) = j_ := ⟨_, rfl⟩
             replace H : (if 0 ≤ (ji19) then (if (ji19) < 64 then (if 0 ≤ (Go.bits .and .i64 ((Go.bits .or .i64 (Go.bits .or .i64 (wrap64 ((wrap64 (bt a0 x5_1)) * 65536)) (wrap64 ((wrap64 (bt a0 (ji7))) * 256))) (wrap64 (bt a0 (ji11)))) / 64) 63) then (if (Go.bits .and .i64 ((Go.bits .or .i64 (Go.bits .or .i64 (wrap64 ((wrap64 (bt a0 x5_1)) * 65536)) (wrap64 ((wrap64 (bt a0 (ji7))) * 256))) (wrap64 (bt a0 (ji11)))) / 64) 63) < 64 then (if 0 ≤ (Go.bits .and .i64 (Go.bits .or .i64 (Go.bits .or .i64 (wrap64 ((wrap64 (bt a0 x5_1)) * 65536)) (wrap64 ((wrap64 (bt a0 (ji7))) * 256))) (wrap64 (bt a0 (ji11)))) 63) then (if (Go.bits .and .i64 (Go.bits .or .i64 (Go.bits .or .i64 (wrap64 ((wrap64 (bt a0 x5_1)) * 65536)) (wrap64 ((wrap64 (bt a0 (ji7))) * 256))) (wrap64 (bt a0 (ji11)))) 63) < 64 then ((some (([bt (⟨#[65,66,67,68,69,70,71,72,73,74,75,76,77,78,79,80,81,82,83,84,85,86,87,88,89,90,97,98,99,100,101,102,103,104,105,106,107,108,109,110,111,112,113,114,115,116,117,118,119,120,121,122,48,49,50,51,52,53,54,55,56,57,45,95]⟩ : ByteArray) (ji15), bt (⟨#[65,66,67,68,69,70,71,72,73,74,75,76,77,78,79,80,81,82,83,84,85,86,87,88,89,90,97,98,99,100,101,102,103,104,105,106,107,108,109,110,111,112,113,114,115,116,117,118,119,120,121,122,48,49,50,51,52,53,54,55,56,57,45,95]⟩ : ByteArray) (ji19), bt (⟨#[65,66,67,68,69,70,71,72,73,74,75,76,77,78,79,80,81,82,83,84,85,86,87,88,89,90,97,98,99,100,101,102,103,104,105,106,107,108,109,110,111,112,113,114,115,116,117,118,119,120,121,122,48,49,50,51,52,53,54,55,56,57,45,95]⟩ : ByteArray) (Go.bits .and .i64 ((Go.bits .or .i64 (Go.bits .or .i64 (wrap64 ((wrap64 (bt a0 x5_1)) * 65536)) (wrap64 ((wrap64 (bt a0 (ji7))) * 256))) (wrap64 (bt a0 (ji11)))) / 64) 63), bt (⟨#[65,66,67,68,69,70,71,72,73,74,75,76,77,78,79,80,81,82,83,84,85,86,87,88,89,90,97,98,99,100,101,102,103,104,105,106,107,108,109,110,111,112,113,114,115,116,117,118,119,120,121,122,48,49,50,51,52,53,54,55,56,57,45,95]⟩ : ByteArray) (Go.bits .and .i64 (Go.bits .or .i64 (Go.bits .or .i64 (wrap64 ((wrap64 (bt a0 x5_1)) * 65536)) (wrap64 ((wrap64 (bt a0 (ji7))) * 256))) (wrap64 (bt a0 (ji11)))) 63)] : List Int) : List Int)).bind fun y160 => (if x4_1.length + y160.length < 140737488355328 then (keyeventref01_Encode.l0 k1 a0 (x4_1 ++ y160) (wrap64 (x5_1 + 3))) else (none))) else (none)) else (none)) else (none)) else (none)) else (none)) else (none)) = some (r1, r2) := by first | (rw [hji19] at H; exact H) | (simp only [hji19] at H ⊢; exact H)
             by_cases c20 : 0 ≤ (ji19)
             ·rw [if_pos c20] at H
              have c20b0 := decide_eq_true c20
              clear c20
              by_cases c21 : (ji19) < 64
              ·rw [if_pos c21] at H
               have c21b0 := decide_eq_true c21
               clear c21
               obtain ⟨ji23, hji23⟩ : ∃ j_ : Int, (Go.bits .and .i64 ((Go.bits .or .i64 (Go.bits .or .i64 (wrap64 ((wrap64 (bt a0 x5_1)) * 65536)) (wrap64 ((wrap64 (bt a0 (ji7))) * 256))) (wrap64 (bt a0 (ji11)))) / 64) 63) = j_ := ⟨_, rfl⟩
               replace H : (if 0 ≤ (ji23) then (if (ji23) < 64 then (if 0 ≤ (Go.bits .and .i64 (Go.bits .or .i64 (Go.bits .or .i64 (wrap64 ((wrap64 (bt a0 x5_1)) * 65536)) (wrap64 ((wrap64 (bt a0 (ji7))) * 256))) (wrap64 (bt a0 (ji11)))) 63) then (if (Go.bits .and .i64 (Go.bits .or .i64 (Go.bits .or .i64 (wrap64 ((wrap64 (bt a0 x5_1)) * 65536)) (wrap64 ((wrap64 (bt a0 (ji7))) * 256))) (wrap64 (bt a0 (ji11)))) 63) < 64 then ((some (([bt (⟨#[65,66,67,68,69,70,71,72,73,74,75,76,77,78,79,80,81,82,83,84,85,86,87,88,89,90,97,98,99,100,101,102,103,104,105,106,107,108,109,110,111,112,113,114,115,116,117,118,119,120,121,122,48,49,50,51,52,53,54,55,56,57,45,95]⟩ : ByteArray) (ji15), bt (⟨#[65,66,67,68,69,70,71,72,73,74,75,76,77,78,79,80,81,82,83,84,85,86,87,88,89,90,97,98,99,100,101,102,103,104,105,106,107,108,109,110,111,112,113,114,115,116,117,118,119,120,121,122,48,49,50,51,52,53,54,55,56,57,45,95]⟩ : ByteArray) (ji19), bt (⟨#[65,66,67,68,69,70,71,72,73,74,75,76,77,78,79,80,81,82,83,84,85,86,87,88,89,90,97,98,99,100,101,102,103,104,105,106,107,108,109,110,111,112,113,114,115,116,117,118,119,120,121,122,48,49,50,51,52,53,54,55,56,57,45,95]⟩ : ByteArray) (ji23), bt (⟨#[65,66,67,68,69,70,71,72,73,74,75,76,77,78,79,80,81,82,83,84,85,86,87,88,89,90,97,98,99,100,101,102,103,104,105,106,107,108,109,110,111,112,113,114,115,116,117,118,119,120,121,122,48,49,50,51,52,53,54,55,56,57,45,95]⟩ : ByteArray) (Go.bits .and .i64 (Go.bits .or .i64 (Go.bits .or .i64 (wrap64 ((wrap64 (bt a0 x5_1)) * 65536)) (wrap64 ((wrap64 (bt a0 (ji7))) * 256))) (wrap64 (bt a0 (ji11)))) 63)] : List Int) : List Int)).bind fun y160 => (if x4_1.length + y160.length < 140737488355328 then (keyeventref01_Encode.l0 k1 a0 (x4_1 ++ y160) (wrap64 (x5_1 + 3))) else (none))) else (none)) else (none)) else (none)) else (none)) = some (r1, r2) := by first | (rw [hji23] at H; exact H) | (simp only [hji23] at H ⊢; exact H)
               by_cases c24 : 0 ≤ (ji23)
               ·rw [if_pos c24] at H
                have c24b0 := decide_eq_true c24
                clear c24
                by_cases c25 : (ji23) < 64
                ·rw [if_pos c25] at H
                 have c25b0 := decide_eq_true c25
                 clear c25
                 obtain ⟨ji27, hji27⟩ : ∃ j_ : Int, (Go.bits .and .i64 (Go.bits .or .i64 (Go.bits .or .i64 (wrap64 ((wrap64 (bt a0 x5_1)) * 65536)) (wrap64 ((wrap64 (bt a0 (ji7))) * 256))) (wrap64 (bt a0 (ji11)))) 63) = j_ := ⟨_, rfl⟩
                 replace H : (if 0 ≤ (ji27) then (if (ji27) < 64 then ((some (([bt (⟨#[65,66,67,68,69,70,71,72,73,74,75,76,77,78,79,80,81,82,83,84,85,86,87,88,89,90,97,98,99,100,101,102,103,104,105,106,107,108,109,110,111,112,113,114,115,116,117,118,119,120,121,122,48,49,50,51,52,53,54,55,56,57,45,95]⟩ : ByteArray) (ji15), bt (⟨#[65,66,67,68,69,70,71,72,73,74,75,76,77,78,79,80,81,82,83,84,85,86,87,88,89,90,97,98,99,100,101,102,103,104,105,106,107,108,109,110,111,112,113,114,115,116,117,118,119,120,121,122,48,49,50,51,52,53,54,55,56,57,45,95]⟩ : ByteArray) (ji19), bt (⟨#[65,66,67,68,69,70,71,72,73,74,75,76,77,78,79,80,81,82,83,84,85,86,87,88,89,90,97,98,99,100,101,102,103,104,105,106,107,108,109,110,111,112,113,114,115,116,117,118,119,120,121,122,48,49,50,51,52,53,54,55,56,57,45,95]⟩ : ByteArray) (ji23), bt (⟨#[65,66,67,68,69,70,71,72,73,74,75,76,77,78,79,80,81,82,83,84,85,86,87,88,89,90,97,98,99,100,101,102,103,104,105,106,107,108,109,110,111,112,113,114,115,116,117,118,119,120,121,122,48,49,50,51,52,53,54,55,56,57,45,95]⟩ : ByteArray) (ji27)] : List Int) : List Int)).bind fun y160 => (if x4_1.length + y160.length < 140737488355328 then (keyeventref01_Encode.l0 k1 a0 (x4_1 ++ y160) (wrap64 (x5_1 + 3))) else (none))) else (none)) else (none)) = some (r1, r2) := by first | (rw [hji27] at H; exact H) | (simp only [hji27] at H ⊢; exact H)
                 by_cases c28 : 0 ≤ (ji27)
                 ·rw [if_pos c28] at H
                  have c28b0 := decide_eq_true c28
                  clear c28
                  by_cases c29 : (ji27) < 64
                  ·rw [if_pos c29] at H
                   have c29b0 := decide_eq_true c29
                   clear c29
                   obtain ⟨y160, hy160⟩ : ∃ y_ : List Int, y_ = (([bt (⟨#[65,66,67,68,69,70,71,72,73,74,75,76,77,78,79,80,81,82,83,84,85,86,87,88,89,90,97,98,99,100,101,102,103,104,105,106,107,108,109,110,111,112,113,114,115,116,117,118,119,120,121,122,48,49,50,51,52,53,54,55,56,57,45,95]⟩ : ByteArray) (ji15), bt (⟨#[65,66,67,68,69,70,71,72,73,74,75,76,77,78,79,80,81,82,83,84,85,86,87,88,89,90,97,98,99,100,101,102,103,104,105,106,107,108,109,110,111,112,113,114,115,116,117,118,119,120,121,122,48,49,50,51,52,53,54,55,56,57,45,95]⟩ : ByteArray) (ji19), bt (⟨#[65,66,67,68,69,70,71,72,73,74,75,76,77,78,79,80,81,82,83,84,85,86,87,88,89,90,97,98,99,100,101,102,103,104,105,106,107,108,109,110,111,112,113,114,115,116,117,118,119,120,121,122,48,49,50,51,52,53,54,55,56,57,45,95]⟩ : ByteArray) (ji23), bt (⟨#[65,66,67,68,69,70,71,72,73,74,75,76,77,78,79,80,81,82,83,84,85,86,87,88,89,90,97,98,99,100,101,102,103,104,105,106,107,108,109,110,111,112,113,114,115,116,117,118,119,120,121,122,48,49,50,51,52,53,54,55,56,57,45,95]⟩ : ByteArray) (ji27)] : List Int)) := ⟨_, rfl⟩
                   replace H : (if x4_1.length + y160.length < 140737488355328 then (keyeventref01_Encode.l0 k1 a0 (x4_1 ++ y160) (wrap64 (x5_1 + 3))) else (none)) = some (r1, r2) := by first | (rw [hy160]; with_reducible exact H) | (have H2_ := (Option.bind_some _ _).symm.trans H; rw [hy160]; with_reducible exact H2_) | (have H2_ := (Option.bind_some _ _).symm.trans H; with_reducible exact H2_) | with_reducible exact H | (rw [hy160]; exact H) | exact H
                   have Ny160 := Aside0.mk hy160
                   clear hy160
                   by_cases c31 : x4_1.length + y160.length < 140737488355328
                   ·rw [if_pos c31] at H
                    have LMc31 := Aside0.mk c31
                    clear c31
                    obtain ⟨y163, hy163⟩ : ∃ y_ : List Int, y_ = (x4_1 ++ y160) := ⟨_, rfl⟩
                    replace H : (keyeventref01_Encode.l0 k1 a0 y163 (wrap64 (x5_1 + 3))) = some (r1, r2) := by first | (rw [hy163]; with_reducible exact H) | (have H2_ := (Option.bind_some _ _).symm.trans H; rw [hy163]; with_reducible exact H2_) | (have H2_ := (Option.bind_some _ _).symm.trans H; with_reducible exact H2_) | with_reducible exact H | (rw [hy163]; exact H) | exact H
                    have Ny163 := Aside0.mk hy163
                    clear hy163
                    have H' := Aside0.mk H
                    clear H
                    try go_wp2
                    replace HO_4 := Aside0.mk (Kd.R_drew HO_4.out)
                    replace HB := Aside0.mk (below_drew1 HB.out)
                    have p6 : 0 ≤ (x5_1 : Int) := of_decide_eq_true aq
                    have q6 : x5_1 < (a0.size : Int) := of_decide_eq_true aq
                    have hx6 := bt_at a0 x5_1
                    replace p6 := eq_true p6
                    replace q6 := eq_true q6
                    have p10 : 0 ≤ ((ji7) : Int) := of_decide_eq_true aq
                    have q10 : (ji7) < (a0.size : Int) := of_decide_eq_true aq
                    have hx10 := bt_at a0 (ji7)
                    replace p10 := eq_true p10
                    replace q10 := eq_true q10
                    have p14 : 0 ≤ ((ji11) : Int) := of_decide_eq_true aq
                    have q14 : (ji11) < (a0.size : Int) := of_decide_eq_true aq
                    have hx14 := bt_at a0 (ji11)
                    replace p14 := eq_true p14
                    replace q14 := eq_true q14
                    refine start_ (n := 19) (S := fun w' => True) (ds := []) #[false,false,false,false,false,false,false,false,false,false,false,false,false,false,false,false,false,false,false] (by kernel_rfl) rfl rfl trivial (fun hHeld => ?_); refine with_tabW keyeventref01_Encode.tab9 keyeventref01_Encode.bits9 (fun HT_ HW_ => ?_)
                    generalize wr.drew = w32 at HO_4 HB hHeld ⊢
                    refine pure_ (i := 0) (N := some 22) (v := ?_) (a' := ?_) #[true,false,false,false,false,false,false,false,false,false,false,false,false,false,false,false,false,false,false] rfl rfl (any_of HT_.out (by kernel_rfl)) (fun _ _ _ h => h) (Or.inl ⟨by rfl, pv⟩) pp ?_
                    refine pure_ (i := 1) (N := some 23) (v := ?_) (a' := ?_) #[true,true,false,false,false,false,false,false,false,false,false,false,false,false,false,false,false,false,false] rfl rfl (any_of HT_.out (by kernel_rfl)) (fun _ _ _ h => h) (Or.inl ⟨by rfl, pv⟩) pp ?_
                    refine pure_ (i := 5) (N := some 27) (v := ?_) (a' := ?_) #[true,true,false,false,false,true,false,false,false,false,false,false,false,false,false,false,false,false,false] rfl rfl (any_of HT_.out (by kernel_rfl)) (fun _ _ _ h => h) (Or.inl ⟨by rfl, pv⟩) pp ?_
                    refine pure_ (i := 6) (N := some 28) (v := ?_) (a' := ?_) #[true,true,false,false,false,true,true,false,false,false,false,false,false,false,false,false,false,false,false] rfl rfl (any_of HT_.out (by kernel_rfl)) (fun _ _ _ h => h) (Or.inl ⟨by rfl, pv⟩) pp ?_
                    refine pure_ (i := 7) (N := some 29) (v := ?_) (a' := ?_) #[true,true,false,false,false,true,true,true,false,false,false,false,false,false,false,false,false,false,false] rfl rfl (any_of HT_.out (by kernel_rfl)) (fun _ _ _ h => h) (Or.inl ⟨by rfl, pv⟩) pp ?_
                    refine pure_ (i := 12) (N := some 34) (v := ?_) (a' := ?_) #[true,true,false,false,false,true,true,true,false,false,false,false,true,false,false,false,false,false,false] rfl rfl (any_of HT_.out (by kernel_rfl)) (fun _ _ _ h => h) (Or.inl ⟨by rfl, pv⟩) pp ?_
                    refine pure_ (i := 13) (N := some 35) (v := ?_) (a' := ?_) #[true,true,false,false,false,true,true,true,false,false,false,false,true,true,false,false,false,false,false] rfl rfl (any_of HT_.out (by kernel_rfl)) (fun _ _ _ h => h) (Or.inl ⟨by rfl, pv⟩) pp ?_
                    refine pure_ (i := 14) (N := some 36) (v := ?_) (a' := ?_) #[true,true,false,false,false,true,true,true,false,false,false,false,true,true,true,false,false,false,false] rfl rfl (any_of HT_.out (by kernel_rfl)) (fun _ _ _ h => h) (Or.inl ⟨by rfl, pv⟩) pp ?_
                    refine take_ (i := 2) (N := some 24) (v := ?_) (a' := ?_) #[true,true,true,false,false,true,true,true,false,false,false,false,true,true,true,false,false,false,false] rfl rfl (take_ofW HT_.out HW_.out (by kernel_rfl)) (fun _ _ _ h => h) (Or.inl ⟨by rfl, pv⟩) hHeld pp ?_
                    refine pure_ (i := 3) (N := some 25) (v := ?_) (a' := ?_) #[true,true,true,true,false,true,true,true,false,false,false,false,true,true,true,false,false,false,false] rfl rfl (any_of HT_.out (by kernel_rfl)) (fun _ _ _ h => h) (Or.inl ⟨by rfl, pv⟩) pp ?_
                    refine pure_ (i := 4) (N := some 26) (v := ?_) (a' := ?_) #[true,true,true,true,true,true,true,true,false,false,false,false,true,true,true,false,false,false,false] rfl rfl (any_of HT_.out (by kernel_rfl)) (fun _ _ _ h => h) (Or.inl ⟨by rfl, pv⟩) pp ?_
                    refine take_ (i := 8) (N := some 30) (v := ?_) (a' := ?_) #[true,true,true,true,true,true,true,true,true,false,false,false,true,true,true,false,false,false,false] rfl rfl (take_ofW HT_.out HW_.out (by kernel_rfl)) (fun _ _ _ h => h) (Or.inl ⟨by rfl, pv⟩) hHeld pp ?_
                    refine pure_ (i := 9) (N := some 31) (v := ?_) (a' := ?_) #[true,true,true,true,true,true,true,true,true,true,false,false,true,true,true,false,false,false,false] rfl rfl (any_of HT_.out (by kernel_rfl)) (fun _ _ _ h => h) (Or.inl ⟨by rfl, pv⟩) pp ?_
                    refine pure_ (i := 10) (N := some 32) (v := ?_) (a' := ?_) #[true,true,true,true,true,true,true,true,true,true,true,false,true,true,true,false,false,false,false] rfl rfl (any_of HT_.out (by kernel_rfl)) (fun _ _ _ h => h) (Or.inl ⟨by rfl, pv⟩) pp ?_
                    refine pure_ (i := 11) (N := some 33) (v := ?_) (a' := ?_) #[true,true,true,true,true,true,true,true,true,true,true,true,true,true,true,false,false,false,false] rfl rfl (any_of HT_.out (by kernel_rfl)) (fun _ _ _ h => h) (Or.inl ⟨by rfl, pv⟩) pp ?_
                    refine take_ (i := 15) (N := some 37) (v := ?_) (a' := ?_) #[true,true,true,true,true,true,true,true,true,true,true,true,true,true,true,true,false,false,false] rfl rfl (take_ofW HT_.out HW_.out (by kernel_rfl)) (fun _ _ _ h => h) (Or.inl ⟨by rfl, pv⟩) hHeld pp ?_
                    refine pure_ (i := 16) (N := some 38) (v := ?_) (a' := ?_) #[true,true,true,true,true,true,true,true,true,true,true,true,true,true,true,true,true,false,false] rfl rfl (any_of HT_.out (by kernel_rfl)) (fun _ _ _ h => h) (Or.inl ⟨by rfl, pv⟩) pp ?_
                    refine pure_ (i := 17) (N := some 39) (v := ?_) (a' := ?_) #[true,true,true,true,true,true,true,true,true,true,true,true,true,true,true,true,true,true,false] rfl rfl (any_of HT_.out (by kernel_rfl)) (fun _ _ _ h => h) (Or.inl ⟨by rfl, pv⟩) pp ?_
                    refine pure_ (i := 18) (N := some 6) (v := ?_) (a' := ?_) #[true,true,true,true,true,true,true,true,true,true,true,true,true,true,true,true,true,true,true] rfl rfl (any_of HT_.out (by kernel_rfl)) (fun _ _ _ h => h) (Or.inl ⟨by rfl, pv⟩) pp ?_
                    refine done_ (done_of HT_.out (by kernel_rfl)) ?_
                    try go_wp2
                    replace HO_4 := Aside0.mk (Kd.R_drew HO_4.out)
                    replace HB := Aside0.mk (below_drew1 HB.out)
                    have p18 : 0 ≤ ((ji15) : Int) := of_decide_eq_true aq
                    have q18 : (ji15) < (64 : Int) := of_decide_eq_true aq
                    have hx18 := bt_at (⟨#[65,66,67,68,69,70,71,72,73,74,75,76,77,78,79,80,81,82,83,84,85,86,87,88,89,90,97,98,99,100,101,102,103,104,105,106,107,108,109,110,111,112,113,114,115,116,117,118,119,120,121,122,48,49,50,51,52,53,54,55,56,57,45,95]⟩ : ByteArray) (ji15)
                    replace p18 := eq_true p18
                    replace q18 := eq_true q18
                    have p22 : 0 ≤ ((ji19) : Int) := of_decide_eq_true aq
                    have q22 : (ji19) < (64 : Int) := of_decide_eq_true aq
                    have hx22 := bt_at (⟨#[65,66,67,68,69,70,71,72,73,74,75,76,77,78,79,80,81,82,83,84,85,86,87,88,89,90,97,98,99,100,101,102,103,104,105,106,107,108,109,110,111,112,113,114,115,116,117,118,119,120,121,122,48,49,50,51,52,53,54,55,56,57,45,95]⟩ : ByteArray) (ji19)
                    replace p22 := eq_true p22
                    replace q22 := eq_true q22
                    have p26 : 0 ≤ ((ji23) : Int) := of_decide_eq_true aq
                    have q26 : (ji23) < (64 : Int) := of_decide_eq_true aq
                    have hx26 := bt_at (⟨#[65,66,67,68,69,70,71,72,73,74,75,76,77,78,79,80,81,82,83,84,85,86,87,88,89,90,97,98,99,100,101,102,103,104,105,106,107,108,109,110,111,112,113,114,115,116,117,118,119,120,121,122,48,49,50,51,52,53,54,55,56,57,45,95]⟩ : ByteArray) (ji23)
                    replace p26 := eq_true p26
                    replace q26 := eq_true q26
                    have p30 : 0 ≤ ((ji27) : Int) := of_decide_eq_true aq
                    have q30 : (ji27) < (64 : Int) := of_decide_eq_true aq
                    have hx30 := bt_at (⟨#[65,66,67,68,69,70,71,72,73,74,75,76,77,78,79,80,81,82,83,84,85,86,87,88,89,90,97,98,99,100,101,102,103,104,105,106,107,108,109,110,111,112,113,114,115,116,117,118,119,120,121,122,48,49,50,51,52,53,54,55,56,57,45,95]⟩ : ByteArray) (ji27)
                    replace p30 := eq_true p30
                    replace q30 := eq_true q30
                    refine start_ (n := 18) (S := fun w' => True) (ds := []) #[false,false,false,false,false,false,false,false,false,false,false,false,false,false,false,false,false,false] (by kernel_rfl) rfl rfl trivial (fun hHeld => ?_); refine with_tabW keyeventref01_Encode.tab10 keyeventref01_Encode.bits10 (fun HT_ HW_ => ?_)
                    generalize w32.drew = w33 at HO_4 HB hHeld ⊢
                    refine pure_ (i := 0) (N := some 40) (v := ?_) (a' := ?_) #[true,false,false,false,false,false,false,false,false,false,false,false,false,false,false,false,false,false] rfl rfl (any_of HT_.out (by kernel_rfl)) (fun _ _ _ h => h) (Or.inl ⟨by rfl, pv⟩) pp ?_
                    refine pure_ (i := 1) (N := some 41) (v := ?_) (a' := ?_) #[true,true,false,false,false,false,false,false,false,false,false,false,false,false,false,false,false,false] rfl rfl (any_of HT_.out (by kernel_rfl)) (fun _ _ _ h => h) (Or.inl ⟨by rfl, pv⟩) pp ?_
                    refine pure_ (i := 2) (N := some 42) (v := ?_) (a' := ?_) #[true,true,true,false,false,false,false,false,false,false,false,false,false,false,false,false,false,false] rfl rfl (any_of HT_.out (by kernel_rfl)) (fun _ _ _ h => h) (Or.inl ⟨by rfl, pv⟩) pp ?_
                    refine pure_ (i := 4) (N := some 44) (v := ?_) (a' := ?_) #[true,true,true,false,true,false,false,false,false,false,false,false,false,false,false,false,false,false] rfl rfl (any_of HT_.out (by kernel_rfl)) (fun _ _ _ h => h) (Or.inl ⟨by rfl, pv⟩) pp ?_
                    refine pure_ (i := 5) (N := some 45) (v := ?_) (a' := ?_) #[true,true,true,false,true,true,false,false,false,false,false,false,false,false,false,false,false,false] rfl rfl (any_of HT_.out (by kernel_rfl)) (fun _ _ _ h => h) (Or.inl ⟨by rfl, pv⟩) pp ?_
                    refine pure_ (i := 6) (N := some 46) (v := ?_) (a' := ?_) #[true,true,true,false,true,true,true,false,false,false,false,false,false,false,false,false,false,false] rfl rfl (any_of HT_.out (by kernel_rfl)) (fun _ _ _ h => h) (Or.inl ⟨by rfl, pv⟩) pp ?_
                    refine pure_ (i := 8) (N := some 48) (v := ?_) (a' := ?_) #[true,true,true,false,true,true,true,false,true,false,false,false,false,false,false,false,false,false] rfl rfl (any_of HT_.out (by kernel_rfl)) (fun _ _ _ h => h) (Or.inl ⟨by rfl, pv⟩) pp ?_
                    refine pure_ (i := 9) (N := some 49) (v := ?_) (a' := ?_) #[true,true,true,false,true,true,true,false,true,true,false,false,false,false,false,false,false,false] rfl rfl (any_of HT_.out (by kernel_rfl)) (fun _ _ _ h => h) (Or.inl ⟨by rfl, pv⟩) pp ?_
                    refine pure_ (i := 10) (N := some 50) (v := ?_) (a' := ?_) #[true,true,true,false,true,true,true,false,true,true,true,false,false,false,false,false,false,false] rfl rfl (any_of HT_.out (by kernel_rfl)) (fun _ _ _ h => h) (Or.inl ⟨by rfl, pv⟩) pp ?_
                    refine pure_ (i := 12) (N := some 52) (v := ?_) (a' := ?_) #[true,true,true,false,true,true,true,false,true,true,true,false,true,false,false,false,false,false] rfl rfl (any_of HT_.out (by kernel_rfl)) (fun _ _ _ h => h) (Or.inl ⟨by rfl, pv⟩) pp ?_
                    refine pure_ (i := 13) (N := some 53) (v := ?_) (a' := ?_) #[true,true,true,false,true,true,true,false,true,true,true,false,true,true,false,false,false,false] rfl rfl (any_of HT_.out (by kernel_rfl)) (fun _ _ _ h => h) (Or.inl ⟨by rfl, pv⟩) pp ?_
                    refine take_ (i := 3) (N := some 43) (v := ?_) (a' := ?_) #[true,true,true,true,true,true,true,false,true,true,true,false,true,true,false,false,false,false] rfl rfl (take_ofW HT_.out HW_.out (by kernel_rfl)) (fun _ _ _ h => h) (Or.inl ⟨by rfl, pv⟩) hHeld pp ?_
                    refine take_ (i := 7) (N := some 47) (v := ?_) (a' := ?_) #[true,true,true,true,true,true,true,true,true,true,true,false,true,true,false,false,false,false] rfl rfl (take_ofW HT_.out HW_.out (by kernel_rfl)) (fun _ _ _ h => h) (Or.inl ⟨by rfl, pv⟩) hHeld pp ?_
                    refine take_ (i := 11) (N := some 51) (v := ?_) (a' := ?_) #[true,true,true,true,true,true,true,true,true,true,true,true,true,true,false,false,false,false] rfl rfl (take_ofW HT_.out HW_.out (by kernel_rfl)) (fun _ _ _ h => h) (Or.inl ⟨by rfl, pv⟩) hHeld pp ?_
                    refine take_ (i := 14) (N := some 54) (v := ?_) (a' := ?_) #[true,true,true,true,true,true,true,true,true,true,true,true,true,true,true,false,false,false] rfl rfl (take_ofW HT_.out HW_.out (by kernel_rfl)) (fun _ _ _ h => h) (Or.inl ⟨by rfl, pv⟩) hHeld pp ?_
                    refine one_ (i := 15) (N := some 55) #[true,true,true,true,true,true,true,true,true,true,true,true,true,true,true,true,false,false] rfl rfl (one_of HT_.out (by kernel_rfl)) (by decide) (fun K hK => ?_)
                    refine Kd.R_lit_step (Kd.int .u8) _ 5 ?hg (N := 55) ?hd (xs := ([bt (⟨#[65,66,67,68,69,70,71,72,73,74,75,76,77,78,79,80,81,82,83,84,85,86,87,88,89,90,97,98,99,100,101,102,103,104,105,106,107,108,109,110,111,112,113,114,115,116,117,118,119,120,121,122,48,49,50,51,52,53,54,55,56,57,45,95]⟩ : ByteArray) (ji15), bt (⟨#[65,66,67,68,69,70,71,72,73,74,75,76,77,78,79,80,81,82,83,84,85,86,87,88,89,90,97,98,99,100,101,102,103,104,105,106,107,108,109,110,111,112,113,114,115,116,117,118,119,120,121,122,48,49,50,51,52,53,54,55,56,57,45,95]⟩ : ByteArray) (ji19), bt (⟨#[65,66,67,68,69,70,71,72,73,74,75,76,77,78,79,80,81,82,83,84,85,86,87,88,89,90,97,98,99,100,101,102,103,104,105,106,107,108,109,110,111,112,113,114,115,116,117,118,119,120,121,122,48,49,50,51,52,53,54,55,56,57,45,95]⟩ : ByteArray) (ji23), bt (⟨#[65,66,67,68,69,70,71,72,73,74,75,76,77,78,79,80,81,82,83,84,85,86,87,88,89,90,97,98,99,100,101,102,103,104,105,106,107,108,109,110,111,112,113,114,115,116,117,118,119,120,121,122,48,49,50,51,52,53,54,55,56,57,45,95]⟩ : ByteArray) (ji27)] : List Int)) (inner := [.int .u8 (bt (⟨#[65,66,67,68,69,70,71,72,73,74,75,76,77,78,79,80,81,82,83,84,85,86,87,88,89,90,97,98,99,100,101,102,103,104,105,106,107,108,109,110,111,112,113,114,115,116,117,118,119,120,121,122,48,49,50,51,52,53,54,55,56,57,45,95]⟩ : ByteArray) (ji15)), .int .u8 (bt (⟨#[65,66,67,68,69,70,71,72,73,74,75,76,77,78,79,80,81,82,83,84,85,86,87,88,89,90,97,98,99,100,101,102,103,104,105,106,107,108,109,110,111,112,113,114,115,116,117,118,119,120,121,122,48,49,50,51,52,53,54,55,56,57,45,95]⟩ : ByteArray) (ji19)), .int .u8 (bt (⟨#[65,66,67,68,69,70,71,72,73,74,75,76,77,78,79,80,81,82,83,84,85,86,87,88,89,90,97,98,99,100,101,102,103,104,105,106,107,108,109,110,111,112,113,114,115,116,117,118,119,120,121,122,48,49,50,51,52,53,54,55,56,57,45,95]⟩ : ByteArray) (ji23)), .int .u8 (bt (⟨#[65,66,67,68,69,70,71,72,73,74,75,76,77,78,79,80,81,82,83,84,85,86,87,88,89,90,97,98,99,100,101,102,103,104,105,106,107,108,109,110,111,112,113,114,115,116,117,118,119,120,121,122,48,49,50,51,52,53,54,55,56,57,45,95]⟩ : ByteArray) (ji27))]) (ok := fun _ => True) (okp := fun _ => True) ?hr ?hp (fun _ hk => hk) trivial (Below.refl _ _) (Nat.le_refl _) (by simp) ?_; (case hd => rfl); (case hg => rfl); (case hr => first | (go_simp; done) | (go_simp; rfl)); (case hp => exact (Reps.one (show Kd.M (Kd.int .u8) _ _ _ (bt (⟨#[65,66,67,68,69,70,71,72,73,74,75,76,77,78,79,80,81,82,83,84,85,86,87,88,89,90,97,98,99,100,101,102,103,104,105,106,107,108,109,110,111,112,113,114,115,116,117,118,119,120,121,122,48,49,50,51,52,53,54,55,56,57,45,95]⟩ : ByteArray) (ji15)) [.int .u8 (bt (⟨#[65,66,67,68,69,70,71,72,73,74,75,76,77,78,79,80,81,82,83,84,85,86,87,88,89,90,97,98,99,100,101,102,103,104,105,106,107,108,109,110,111,112,113,114,115,116,117,118,119,120,121,122,48,49,50,51,52,53,54,55,56,57,45,95]⟩ : ByteArray) (ji15))] from rfl) (Reps.one (show Kd.M (Kd.int .u8) _ _ _ (bt (⟨#[65,66,67,68,69,70,71,72,73,74,75,76,77,78,79,80,81,82,83,84,85,86,87,88,89,90,97,98,99,100,101,102,103,104,105,106,107,108,109,110,111,112,113,114,115,116,117,118,119,120,121,122,48,49,50,51,52,53,54,55,56,57,45,95]⟩ : ByteArray) (ji19)) [.int .u8 (bt (⟨#[65,66,67,68,69,70,71,72,73,74,75,76,77,78,79,80,81,82,83,84,85,86,87,88,89,90,97,98,99,100,101,102,103,104,105,106,107,108,109,110,111,112,113,114,115,116,117,118,119,120,121,122,48,49,50,51,52,53,54,55,56,57,45,95]⟩ : ByteArray) (ji19))] from rfl) (Reps.one (show Kd.M (Kd.int .u8) _ _ _ (bt (⟨#[65,66,67,68,69,70,71,72,73,74,75,76,77,78,79,80,81,82,83,84,85,86,87,88,89,90,97,98,99,100,101,102,103,104,105,106,107,108,109,110,111,112,113,114,115,116,117,118,119,120,121,122,48,49,50,51,52,53,54,55,56,57,45,95]⟩ : ByteArray) (ji23)) [.int .u8 (bt (⟨#[65,66,67,68,69,70,71,72,73,74,75,76,77,78,79,80,81,82,83,84,85,86,87,88,89,90,97,98,99,100,101,102,103,104,105,106,107,108,109,110,111,112,113,114,115,116,117,118,119,120,121,122,48,49,50,51,52,53,54,55,56,57,45,95]⟩ : ByteArray) (ji23))] from rfl) (Reps.one (show Kd.M (Kd.int .u8) _ _ _ (bt (⟨#[65,66,67,68,69,70,71,72,73,74,75,76,77,78,79,80,81,82,83,84,85,86,87,88,89,90,97,98,99,100,101,102,103,104,105,106,107,108,109,110,111,112,113,114,115,116,117,118,119,120,121,122,48,49,50,51,52,53,54,55,56,57,45,95]⟩ : ByteArray) (ji27)) [.int .u8 (bt (⟨#[65,66,67,68,69,70,71,72,73,74,75,76,77,78,79,80,81,82,83,84,85,86,87,88,89,90,97,98,99,100,101,102,103,104,105,106,107,108,109,110,111,112,113,114,115,116,117,118,119,120,121,122,48,49,50,51,52,53,54,55,56,57,45,95]⟩ : ByteArray) (ji27))] from rfl) (Reps.none _ _))))))
                    intro v161 w34 ho35 hb hg_ hnew_
                    clear hg_ hnew_
                    (first | rw [← Ny160.out] at ho35 | (simp only [Int.reduceToNat] at ho35; rw [← Ny160.out] at ho35))
                    have HO162 := Aside0.mk (Kd.R_lower (Kd.R_new' ho35 (Kd.R_lt (qR HO_4.out))) (below_size (hq HB.out)))
                    replace HO_4 := Aside0.mk (Kd.R_elder' (qR HO_4.out) (Kd.R_base ho35) hb)
                    replace HB := Aside0.mk (below_step (hq HB.out) hb)
                    clear hb ho35
                    obtain ⟨Ao37, co37, eo37⟩ := Kd.R_slice HO162.out
                    (first | subst eo37 | (injection eo37 with f1_ f2_ f3_; have f4_ := f1_.symm; have f5_ := f3_.symm; clear f1_ f2_ f3_; subst f4_; subst f5_))
                    refine hK.out _ _ trivial (fun hHeld => ?_)
                    clear hK K
                    refine norm_ (a' := ?_) (show Act.put _ (some 55) _ = _ from pp) ?_
                    refine one_ (i := 16) (N := some 56) #[true,true,true,true,true,true,true,true,true,true,true,true,true,true,true,true,true,false] rfl rfl (one_of HT_.out (by kernel_rfl)) (by decide) (fun K hK => ?_)
                    refine Kd.R_append_rows_step (Kd.int .u8) (w0 := w) w.heap.size (by rfl) (.tmp 40) (.tmp 55) 28 5 (.int .u8 0) 1 rfl Try.underlying28 info5 rfl (by decide) (by omega) u4 x4_1 y160 _ _ _ (fun k_ => some k_ ≠ (.slice Ao37 y160.length co37 : Value).ownBlock) (fun _ => False) rfl rfl ?aO ?aR (fun _ _ h => h) (fun _ h => h.elim) ?aF ?aB ?aS ?aL ?_
                    (case aR => repeat (first | exact (Kd.R_reads' HO162.out).2.2 | (with_reducible refine Kd.C_alloc ?_ _) | (with_reducible refine Kd.C_drewN ?_ _) | (with_reducible refine Kd.C_drew ?_)))
                    (case aB => exact (hq HB.out))
                    (case aF => exact (fun k_ hk => Kd.fresh' (Kd.R_lt (qR HO162.out)) k_ hk))
                    (case aO => exact (by (with_reducible repeat (first | apply Kd.R_alloc | apply Kd.R_drewN | apply Kd.R_drew)); exact Kd.R_mono HO_4.out (fun _ hk => hk.2)))
                    (case aS => exact (below_size (hq HB.out)))
                    (case aL => have := LMc31.out; omega)
                    intro v164 w36 ho hb hg hat
                    rw [← Ny163.out] at ho
                    have n0_ := Aside0.mk (Kd.R_after (ok := (fun _ => True)) (qR HO162.out) hg hat)
                    have n1_ := Aside0.mk (hb)
                    have n2_ := Aside0.mk (ho)
                    clear HO162
                    clear HB
                    clear HO_4
                    have HO162 := n0_
                    have HB := n1_
                    have HO165 := n2_
                    clear n0_ n1_ n2_
                    clear ho hb hg hat
                    refine hK.out _ _ trivial (fun hHeld => ?_)
                    clear hK K
                    refine norm_ (a' := ?_) (show Act.put _ (some 56) _ = _ from pp) ?_
                    refine pure_ (i := 17) (N := some 4) (v := ?_) (a' := ?_) #[true,true,true,true,true,true,true,true,true,true,true,true,true,true,true,true,true,true] rfl rfl (any_of HT_.out (by kernel_rfl)) (fun _ _ _ h => h) (Or.inl ⟨by rfl, pv⟩) pp ?_
                    refine done_ (done_of HT_.out (by kernel_rfl)) ?_
                    try go_wp2
                    go_roundg k1
                    case measure => have := HK1.out; omega
                    case rel => exact ⟨(y163), (wrap64 (x5_1 + 3)), dq, H', ⟨by have := HK1.out; omega⟩, ⟨by (with_reducible repeat (first | apply Kd.R_alloc | apply Kd.R_drewN | apply Kd.R_drew)); exact Kd.R_mono HO165.out (fun _ hk => trivial)⟩, ⟨hq HB.out⟩⟩
                   ·rw [if_neg c31] at H
                    exact absurd H (by simp)
                  ·rw [if_neg c29] at H
                   exact absurd H (by simp)
                 ·rw [if_neg c28] at H
                  exact absurd H (by simp)
                ·rw [if_neg c25] at H
                 exact absurd H (by simp)
               ·rw [if_neg c24] at H
                exact absurd H (by simp)
              ·rw [if_neg c21] at H
               exact absurd H (by simp)
             ·rw [if_neg c20] at H
              exact absurd H (by simp)
            ·rw [if_neg c17] at H
             exact absurd H (by simp)
           ·rw [if_neg c16] at H
            exact absurd H (by simp)
          ·rw [if_neg c13] at H
           exact absurd H (by simp)
         ·rw [if_neg c12] at H
          exact absurd H (by simp)
        ·rw [if_neg c9] at H
         exact absurd H (by simp)
       ·rw [if_neg c8] at H
        exact absurd H (by simp)
      ·rw [if_neg c5] at H
       exact absurd H (by simp)
     ·rw [if_neg c4] at H
      have c4b0 := decide_eq_false c4
      clear c4
      simp only [Option.some.injEq, Prod.mk.injEq] at H
      obtain ⟨rfl, rfl⟩ := H
      have hcv38 := own_string (P := Try.prog) Try.underlying28 Try.underlying5 Try.underlying9 (Kd.own_of_R HO_4.out)
      go_wp2
      go_ret2
      exact ⟨rq_, hq HB.out⟩
  ·rw [if_neg c3] at H
   have c3b0 : (((a0.size : Int) % 3) == 0) = false := beq_eq_false_iff_ne.mpr c3
   have c3b1 : (((a0.size : Int) % 3) != 0) = true := bne_iff_ne.mpr c3
   simp only [Option.some.injEq, Prod.mk.injEq] at H
   obtain ⟨rfl, rfl⟩ := H
   go_enter Try.func57, Try.ntmps57
   go_wp2
   go_ret2
   exact ⟨rq_, hq HB.out⟩

end Go.Proofs.Ytookjdhfpbmjkaa.X
