-- Written by xprint.py, a program of this repo that leads the kit's print.py: Lean checks it.
import Derived.Test.YtookjdhfpbmjkaaX0
namespace Go.Proofs.Ytookjdhfpbmjkaa.X
open Go.RowKit Go.Proofs.YtookjdhfpbmjkaaW.PrintWords Go.Proofs.YtookjdhfpbmjkaaW.PrintLast Go.Proofs.YtookjdhfpbmjkaaW.PrintMore
attribute [local go_sem] max2_int min2_int max_two min_two max_three min_three max_four min_four   -- for this text's walks alone
set_option linter.unusedVariables false
set_option linter.unusedSimpArgs false

-- NOT PRINTED: function 42 (stream_kinds)

/-! ### stream_Permitted: function 17 -/
def stream_Permitted.f (a0 : Int) : Option (List Int) := some (patOf a0)
set_option maxHeartbeats 4000000 in
set_option maxRecDepth 100000 in
theorem stream_Permitted.calls (a0 : Int) (r : List Int) (w : World) (h : stream_Permitted.f a0 = some r) :
    Calls Try.prog 17 #[.int .i64 a0] w fun e w' => ∃ v0_ : Value, e = .returned (v0_) ∧ Kd.R (Kd.int .i64) 3 w' w.heap.size (fun _ => True) v0_ r ∧ Below w.heap.size w w' := by
  simp only [stream_Permitted.f, Option.some.injEq] at h
  subst h
  have hfd : ∀ (w : World) (c : Int) (v : Value), (Instr.field 76 (.agg #[.int .u8 c, v]) 1).run Try.prog w = .ok v w := fun _ _ _ => by kernel_rfl
  have hl := kinds_look (kindsWorld_map w) a0 false
  rw [if_neg (by simp)] at hl
  unfold kindOf at hl
  have HR := Aside0.mk (kindsWorld_R w a0)
  have HB := Aside0.mk (kindsWorld_below w)
  obtain ⟨A, hA⟩ : ∃ A, patAt w.heap.size a0 = A := ⟨_, rfl⟩
  obtain ⟨c, hc⟩ : ∃ c, letterOf a0 = c := ⟨_, rfl⟩
  obtain ⟨l, hl2⟩ : ∃ l, patOf a0 = l := ⟨_, rfl⟩
  rw [hA, hl2] at HR
  rw [hA, hc, hl2] at hl
  rw [hl2]
  obtain ⟨n, hn⟩ : ∃ n, l.length = n := ⟨_, rfl⟩
  rw [hn] at hl HR
  clear hA hc hl2 hn
  go_enter Try.func17, Try.ntmps17
  go_wp2_with (go_at_call 42; refine (kinds_any _).mono ?_; rintro e w' ⟨rfl, rfl⟩)
  go_ret
  exact ⟨_, rfl, HR.out, HB.out⟩

/-! ### base64_Number: function 43 -/
mutual
def base64_Number.j0 : Nat → Int → Int → Bool → Option (ByteArray × Int)
  | 0, _, _, _ => none
  | k + 1, x0, x1, x24 => if x24 = true then (some ((⟨#[]⟩ : ByteArray), 2)) else (if 0 ≤ x1 then (if (x1 : Int).toNat ≤ 281474976710656 then ((some (List.replicate (x1 : Int).toNat 0 : List Int)).bind fun y101 => (base64_Number.l0 k x0 x1 y101 (y101.length : Int) 0)) else (none)) else (none))
def base64_Number.l0 : Nat → Int → Int → List Int → Int → Int → Option (ByteArray × Int)
  | 0, _, _, _, _, _ => none
  | k + 1, x0, x1, x6, x28, x29 => if x29 < x28 then (if 0 ≤ (wrap64 (6 * x29)) then (if 0 ≤ (Go.bits .and .i64 (shr .i64 x0 (wrap64 (6 * x29))) 63) then (if (Go.bits .and .i64 (shr .i64 x0 (wrap64 (6 * x29))) 63) < 64 then (if 0 ≤ (wrap64 ((wrap64 (x1 - 1)) - x29)) then (if (wrap64 ((wrap64 (x1 - 1)) - x29)) < (x6.length : Int) then (base64_Number.l0 k x0 x1 (x6.set ((wrap64 ((wrap64 (x1 - 1)) - x29)) : Int).toNat (bt (⟨#[65,66,67,68,69,70,71,72,73,74,75,76,77,78,79,80,81,82,83,84,85,86,87,88,89,90,97,98,99,100,101,102,103,104,105,106,107,108,109,110,111,112,113,114,115,116,117,118,119,120,121,122,48,49,50,51,52,53,54,55,56,57,45,95]⟩ : ByteArray) (Go.bits .and .i64 (shr .i64 x0 (wrap64 (6 * x29))) 63))) x28 (wrap64 (x29 + 1))) else (none)) else (none)) else (none)) else (none)) else (none)) else (some (strOfNums x6, 0))
end
def base64_Number.f (k : Nat) (a0 : Int) (a1 : Int) : Option (ByteArray × Int) := if a1 < 1 then (base64_Number.j0 k a0 a1 true) else (if a1 > 8 then (base64_Number.j0 k a0 a1 true) else (if a0 < 0 then (base64_Number.j0 k a0 a1 true) else (if 0 ≤ (wrap64 (6 * a1)) then (base64_Number.j0 k a0 a1 ((shr .i64 a0 (wrap64 (6 * a1))) != 0)) else (none))))
theorem base64_Number.mono_l : ∀ k, (∀ y0 y1 y2, LeO (base64_Number.j0 k y0 y1 y2) (base64_Number.j0 (k + 1) y0 y1 y2)) ∧ (∀ y0 y1 y2 y3 y4, LeO (base64_Number.l0 k y0 y1 y2 y3 y4) (base64_Number.l0 (k + 1) y0 y1 y2 y3 y4))
  | 0 => ⟨fun _ _ _ r h => by simp [base64_Number.j0] at h, fun _ _ _ _ _ r h => by simp [base64_Number.l0] at h⟩
  | k + 1 => by
    obtain ⟨ih0, ih1⟩ := base64_Number.mono_l k
    refine ⟨?_, ?_⟩
    · intro y0 y1 y2
      unfold base64_Number.j0
      repeat' first
      | (with_reducible exact ih0 _ _ _)
      | (with_reducible exact ih1 _ _ _ _ _)
      | (with_reducible exact LeO.refl _)
      | (with_reducible exact LeO.none _)
      | (with_reducible refine LeO.ite ?_ ?_)
      | (with_reducible refine LeO.bind ?_ (fun _ => ?_))
      | exact ih0 _ _ _
      | exact ih1 _ _ _ _ _
      | exact LeO.none _
      | refine LeO.ite ?_ ?_
      | refine LeO.bind ?_ (fun _ => ?_)
    · intro y0 y1 y2 y3 y4
      unfold base64_Number.l0
      repeat' first
      | (with_reducible exact ih0 _ _ _)
      | (with_reducible exact ih1 _ _ _ _ _)
      | (with_reducible exact LeO.refl _)
      | (with_reducible exact LeO.none _)
      | (with_reducible refine LeO.ite ?_ ?_)
      | (with_reducible refine LeO.bind ?_ (fun _ => ?_))
      | exact ih0 _ _ _
      | exact ih1 _ _ _ _ _
      | exact LeO.none _
      | refine LeO.ite ?_ ?_
      | refine LeO.bind ?_ (fun _ => ?_)
theorem base64_Number.mono : ∀ a0 a1 k, LeO (base64_Number.f k a0 a1) (base64_Number.f (k + 1) a0 a1) := by
  intro a0 a1 k
  obtain ⟨ih0, ih1⟩ := base64_Number.mono_l k
  unfold base64_Number.f
  repeat' first
      | (with_reducible exact ih0 _ _ _)
      | (with_reducible exact ih1 _ _ _ _ _)
      | (with_reducible exact LeO.refl _)
      | (with_reducible exact LeO.none _)
      | (with_reducible refine LeO.ite ?_ ?_)
      | (with_reducible refine LeO.bind ?_ (fun _ => ?_))
      | exact ih0 _ _ _
      | exact ih1 _ _ _ _ _
      | exact LeO.none _
      | refine LeO.ite ?_ ?_
      | refine LeO.bind ?_ (fun _ => ?_)
set_option maxHeartbeats 8000000 in
set_option maxRecDepth 100000 in
theorem base64_Number.calls (k : Nat) (a0 : Int) (a1 : Int) (r1 : ByteArray) (r2 : Int) (w : World) (h : base64_Number.f k a0 a1 = some (r1, r2)) :
    Calls Try.prog 43 #[.int .i64 a0, .int .i64 a1] w fun e w' => e = .returned (.tuple #[.string r1, .int .i64 r2]) ∧ Below w.heap.size w w' := by
 have HB := Aside0.mk (Below.refl w.heap.size w)
 have H : (if a1 < 1 then (base64_Number.j0 k a0 a1 true) else (if a1 > 8 then (base64_Number.j0 k a0 a1 true) else (if a0 < 0 then (base64_Number.j0 k a0 a1 true) else (if 0 ≤ (wrap64 (6 * a1)) then (base64_Number.j0 k a0 a1 ((shr .i64 a0 (wrap64 (6 * a1))) != 0)) else (none))))) = some (r1, r2) := h
 clear h
 have HC3 := Aside0.mk H
 clear H
 go_enter Try.func43, Try.ntmps43
 go_upto_region 1 with (fail)
 go_cut [24] (fun v24 wc => ∃ (kq : Nat) (x24_2 : Bool), v24 = .bool x24_2 ∧ Aside0 (base64_Number.j0 kq a0 a1 x24_2 = some (r1, r2)) ∧ Aside0 (kq ≤ k) ∧ Aside0 (Below w.heap.size w wc))
 case first =>
  have H := HC3.out
  clear HC3
  by_cases c4 : a1 < 1
  ·rw [if_pos c4] at H
   have c4b0 := decide_eq_true c4
   clear c4
   (first | rw [c4b0] | (simp only [i64_w, i32_w]; rw [c4b0]) | skip)
   have H' := Aside0.mk H
   clear H
   go_wp2
   go_meet
   case rel => exact ⟨_, (true), dq, H', ⟨by first | omega | exact Nat.le_refl _⟩, ⟨hq HB.out⟩⟩
  ·rw [if_neg c4] at H
   have c4b0 := decide_eq_false c4
   clear c4
   (first | rw [c4b0] | (simp only [i64_w, i32_w]; rw [c4b0]) | skip)
   by_cases c5 : a1 > 8
   ·rw [if_pos c5] at H
    have c5b0 := decide_eq_true c5
    clear c5
    have H' := Aside0.mk H
    clear H
    go_wp2
    go_meet
    case rel => exact ⟨_, (true), dq, H', ⟨by first | omega | exact Nat.le_refl _⟩, ⟨hq HB.out⟩⟩
   ·rw [if_neg c5] at H
    have c5b0 := decide_eq_false c5
    clear c5
    by_cases c6 : a0 < 0
    ·rw [if_pos c6] at H
     have c6b0 := decide_eq_true c6
     clear c6
     have H' := Aside0.mk H
     clear H
     go_wp2
     go_meet
     case rel => exact ⟨_, (true), dq, H', ⟨by first | omega | exact Nat.le_refl _⟩, ⟨hq HB.out⟩⟩
    ·rw [if_neg c6] at H
     have c6b0 := decide_eq_false c6
     clear c6
     obtain ⟨ji7, hji7⟩ : ∃ j_ : Int, (wrap64 (6 * a1)) = j_ := ⟨_, rfl⟩
     replace H : (if 0 ≤ (ji7) then (base64_Number.j0 k a0 a1 ((shr .i64 a0 (ji7)) != 0)) else (none)) = some (r1, r2) := by first | (rw [hji7] at H; exact H) | (simp only [hji7] at H ⊢; exact H)
     have hji7w : (IntKind.i64.wrap (6 * a1)) = ji7 := (i64_w _).trans hji7
     by_cases c8 : 0 ≤ (ji7)
     ·rw [if_pos c8] at H
      have c8b0 := eq_true c8
      have c8b1 := decide_eq_true c8
      clear c8
      obtain ⟨ji9, hji9⟩ : ∃ j_ : Int, (shr .i64 a0 (ji7)) = j_ := ⟨_, rfl⟩
      replace H : (base64_Number.j0 k a0 a1 ((ji9) != 0)) = some (r1, r2) := by first | (rw [hji9] at H; exact H) | (simp only [hji9] at H ⊢; exact H)
      have hji9_ : (a0 / 2 ^ min (ji7).toNat 64) = ji9 := hji9
      have hji9z : (ji7) ≤ 64 → (a0 / 2 ^ (ji7).toNat) = ji9 := shr_small hji9
      have H' := Aside0.mk H
      clear H
      go_wp2
      go_meet
      case rel => exact ⟨_, (((ji9) != 0)), (by first | rfl | (simp; done) | (simp only [← hji9] <;> (first | rfl | simp)) | (simp [*]; done)), H', ⟨by first | omega | exact Nat.le_refl _⟩, ⟨hq HB.out⟩⟩
     ·rw [if_neg c8] at H
      exact absurd H (by simp)
 case rest =>
  clear HC3
  try clear p2
  try clear c4
  try clear c4b0
  try clear c5
  try clear c5b0
  try clear c6
  try clear c6b0
  try clear p6
  try clear c8
  try clear c8b0
  try clear c8b1
  obtain ⟨kq, x24_2, rfl, HA, HJ2, HB⟩ := hcut
  cases kq with
  | zero => exact absurd HA.out (by simp [base64_Number.j0])
  | succ kj2 =>
   have H := HA.out
   clear HA
   simp only [base64_Number.j0] at H
   by_cases c10 : x24_2 = true
   ·subst c10
    rw [if_pos rfl] at H
    simp only [Option.some.injEq, Prod.mk.injEq] at H
    obtain ⟨rfl, rfl⟩ := H
    go_wp2
    go_ret2
    exact ⟨rq_, hq HB.out⟩
   ·replace c10 := Bool.eq_false_iff.mpr c10
    subst c10
    rw [if_neg (show ¬ (false = true) by decide)] at H
    by_cases c11 : 0 ≤ a1
    ·rw [if_pos c11] at H
     have c11b0 := eq_true c11
     have c11b1 := decide_eq_true c11
     clear c11
     by_cases c12 : (a1 : Int).toNat ≤ 281474976710656
     ·rw [if_pos c12] at H
      have c12b0 := eq_true c12
      have c12b1 := decide_eq_true c12
      clear c12
      obtain ⟨y101, hy101⟩ : ∃ y_ : List Int, y_ = (List.replicate (a1 : Int).toNat 0) := ⟨_, rfl⟩
      replace H : (base64_Number.l0 kj2 a0 a1 y101 (y101.length : Int) 0) = some (r1, r2) := by first | (rw [hy101]; with_reducible exact H) | (have H2_ := (Option.bind_some _ _).symm.trans H; rw [hy101]; with_reducible exact H2_) | (have H2_ := (Option.bind_some _ _).symm.trans H; with_reducible exact H2_) | with_reducible exact H | (rw [hy101]; exact H) | exact H
      have Ny101 := Aside0.mk hy101
      clear hy101
      have H' := Aside0.mk H
      clear H
      go_wp2_with (first | ((with_reducible refine gate_dst (N := 26) rfl ?_); refine Kd.R_make (Kd.int .u8) _ 5 rfl (N := 26) rfl 28 _ _ rfl a1 rfl rfl Try.underlying28 (.int .u8 0) 1 info5 rfl (by decide) (by omega) 0 (ok := fun _ => True) (okp := fun _ => True) rfl (fun _ hk => hk) trivial (of_decide_eq_true aq) (Nat.le_trans (Nat.mul_le_mul_right _ (of_decide_eq_true aq : a1.toNat ≤ 281474976710656)) (by omega)) (Below.refl _ _) (Nat.le_refl _) ?_; intro v102 w13 ho14 hb hg_ hnew_; clear hg_ hnew_; (first | rw [← Ny101.out] at ho14 | (simp only [Int.reduceToNat] at ho14; rw [← Ny101.out] at ho14)); have HO103 := Aside0.mk (Kd.R_lower ho14 (below_size (hq HB.out))); replace HB := Aside0.mk (below_step (hq HB.out) hb); clear hb ho14; obtain ⟨Ao15, co15, eo15⟩ := Kd.R_slice HO103.out; subst eo15))
      go_loopg [29] kj2 (fun kq v29 w' => ∃ (x6_2 : List Int) (x29_2 : Int), v29 = .int .i64 x29_2 ∧ Aside0 (base64_Number.l0 kq a0 a1 x6_2 (y101.length : Int) x29_2 = some (r1, r2)) ∧ Aside0 (kq ≤ kj2) ∧ Aside0 (Kd.R (Kd.int .u8) 5 w' w.heap.size (fun _ => True) (.slice Ao15 y101.length co15) x6_2) ∧ Aside0 (Below w.heap.size w w'))
      case atStart => exact ⟨(y101), (0), dq, H', ⟨Nat.le_refl _⟩, ⟨by (with_reducible repeat (first | apply Kd.R_alloc | apply Kd.R_drewN | apply Kd.R_drew)); exact HO103.out⟩, ⟨hq HB.out⟩⟩
      case round =>
       clear H'
       try clear c1
       try clear p2
       try clear c4
       try clear c4b0
       try clear c5
       try clear c5b0
       try clear c6
       try clear c6b0
       try clear p6
       try clear c8
       try clear c8b0
       try clear c8b1
       try clear c10
       try clear c11
       try clear c11b0
       try clear c11b1
       try clear c12
       try clear c12b0
       try clear c12b1
       try clear p2
       try clear p6
       obtain ⟨x6_2, x29_2, rfl, HA, HK2, HO_6, HB⟩ := hrel
       have hl6_2 := (Kd.R_reads' HO_6.out).1
       rw [hl6_2] at HO_6
       (try simp only [hl6_2])
       cases gk with
       | zero => exact absurd HA.out (by simp [base64_Number.l0])
       | succ k2 =>
        have H := HA.out
        clear HA
        simp only [base64_Number.l0] at H
        by_cases c16 : x29_2 < (y101.length : Int)
        ·rw [if_pos c16] at H
         have c16b0 := decide_eq_true c16
         (try (have c16h0 := c16b0; simp only [hl6_2] at c16h0))
         clear c16
         obtain ⟨ji17, hji17⟩ : ∃ j_ : Int, (wrap64 (6 * x29_2)) = j_ := ⟨_, rfl⟩
         replace H : (if 0 ≤ (ji17) then (if 0 ≤ (Go.bits .and .i64 (shr .i64 a0 (ji17)) 63) then (if (Go.bits .and .i64 (shr .i64 a0 (ji17)) 63) < 64 then (if 0 ≤ (wrap64 ((wrap64 (a1 - 1)) - x29_2)) then (if (wrap64 ((wrap64 (a1 - 1)) - x29_2)) < (x6_2.length : Int) then (base64_Number.l0 k2 a0 a1 (x6_2.set ((wrap64 ((wrap64 (a1 - 1)) - x29_2)) : Int).toNat (bt (⟨#[65,66,67,68,69,70,71,72,73,74,75,76,77,78,79,80,81,82,83,84,85,86,87,88,89,90,97,98,99,100,101,102,103,104,105,106,107,108,109,110,111,112,113,114,115,116,117,118,119,120,121,122,48,49,50,51,52,53,54,55,56,57,45,95]⟩ : ByteArray) (Go.bits .and .i64 (shr .i64 a0 (ji17)) 63))) (y101.length : Int) (wrap64 (x29_2 + 1))) else (none)) else (none)) else (none)) else (none)) else (none)) = some (r1, r2) := by first | (rw [hji17] at H; exact H) | (simp only [hji17] at H ⊢; exact H)
         have hji17w : (IntKind.i64.wrap (6 * x29_2)) = ji17 := (i64_w _).trans hji17
         by_cases c18 : 0 ≤ (ji17)
         ·rw [if_pos c18] at H
          have c18b0 := eq_true c18
          have c18b1 := decide_eq_true c18
          clear c18
          obtain ⟨ji19, hji19⟩ : ∃ j_ : Int, (shr .i64 a0 (ji17)) = j_ := ⟨_, rfl⟩
          replace H : (if 0 ≤ (Go.bits .and .i64 (ji19) 63) then (if (Go.bits .and .i64 (ji19) 63) < 64 then (if 0 ≤ (wrap64 ((wrap64 (a1 - 1)) - x29_2)) then (if (wrap64 ((wrap64 (a1 - 1)) - x29_2)) < (x6_2.length : Int) then (base64_Number.l0 k2 a0 a1 (x6_2.set ((wrap64 ((wrap64 (a1 - 1)) - x29_2)) : Int).toNat (bt (⟨#[65,66,67,68,69,70,71,72,73,74,75,76,77,78,79,80,81,82,83,84,85,86,87,88,89,90,97,98,99,100,101,102,103,104,105,106,107,108,109,110,111,112,113,114,115,116,117,118,119,120,121,122,48,49,50,51,52,53,54,55,56,57,45,95]⟩ : ByteArray) (Go.bits .and .i64 (ji19) 63))) (y101.length : Int) (wrap64 (x29_2 + 1))) else (none)) else (none)) else (none)) else (none)) = some (r1, r2) := by first | (rw [hji19] at H; exact H) | (simp only [hji19] at H ⊢; exact H)
          have hji19_ : (a0 / 2 ^ min (ji17).toNat 64) = ji19 := hji19
          have hji19z : (ji17) ≤ 64 → (a0 / 2 ^ (ji17).toNat) = ji19 := shr_small hji19
          by_cases c20 : 0 ≤ (Go.bits .and .i64 (ji19) 63)
          ·rw [if_pos c20] at H
           have c20b0 := decide_eq_true c20
           clear c20
           by_cases c21 : (Go.bits .and .i64 (ji19) 63) < 64
           ·rw [if_pos c21] at H
            have c21b0 := decide_eq_true c21
            clear c21
            obtain ⟨ji23, hji23⟩ : ∃ j_ : Int, (wrap64 ((wrap64 (a1 - 1)) - x29_2)) = j_ := ⟨_, rfl⟩
            replace H : (if 0 ≤ (ji23) then (if (ji23) < (x6_2.length : Int) then (base64_Number.l0 k2 a0 a1 (x6_2.set ((ji23) : Int).toNat (bt (⟨#[65,66,67,68,69,70,71,72,73,74,75,76,77,78,79,80,81,82,83,84,85,86,87,88,89,90,97,98,99,100,101,102,103,104,105,106,107,108,109,110,111,112,113,114,115,116,117,118,119,120,121,122,48,49,50,51,52,53,54,55,56,57,45,95]⟩ : ByteArray) (Go.bits .and .i64 (ji19) 63))) (y101.length : Int) (wrap64 (x29_2 + 1))) else (none)) else (none)) = some (r1, r2) := by first | (rw [hji23] at H; exact H) | (simp only [hji23] at H ⊢; exact H)
            have hji23w : (IntKind.i64.wrap ((wrap64 (a1 - 1)) - x29_2)) = ji23 := (i64_w _).trans hji23
            by_cases c24 : 0 ≤ (ji23)
            ·rw [if_pos c24] at H
             have c24b0 := decide_eq_true c24
             clear c24
             by_cases c25 : (ji23) < (x6_2.length : Int)
             ·rw [if_pos c25] at H
              have c25b0 := decide_eq_true c25
              (try (have c25h0 := c25b0; simp only [hl6_2] at c25h0))
              clear c25
              obtain ⟨y104, hy104⟩ : ∃ y_ : List Int, y_ = (x6_2.set ((ji23) : Int).toNat (bt (⟨#[65,66,67,68,69,70,71,72,73,74,75,76,77,78,79,80,81,82,83,84,85,86,87,88,89,90,97,98,99,100,101,102,103,104,105,106,107,108,109,110,111,112,113,114,115,116,117,118,119,120,121,122,48,49,50,51,52,53,54,55,56,57,45,95]⟩ : ByteArray) (Go.bits .and .i64 (ji19) 63))) := ⟨_, rfl⟩
              replace H : (base64_Number.l0 k2 a0 a1 y104 (y101.length : Int) (wrap64 (x29_2 + 1))) = some (r1, r2) := by first | (rw [hy104]; with_reducible exact H) | (have H2_ := (Option.bind_some _ _).symm.trans H; rw [hy104]; with_reducible exact H2_) | (have H2_ := (Option.bind_some _ _).symm.trans H; with_reducible exact H2_) | with_reducible exact H | (rw [hy104]; exact H) | exact H
              have Ny104 := Aside0.mk hy104
              clear hy104
              have H' := Aside0.mk H
              clear H
              have p22 : 0 ≤ ((Go.bits .and .i64 (ji19) 63) : Int) := of_decide_eq_true aq
              have q22 : (Go.bits .and .i64 (ji19) 63) < (64 : Int) := of_decide_eq_true aq
              have hx22 := bt_at (⟨#[65,66,67,68,69,70,71,72,73,74,75,76,77,78,79,80,81,82,83,84,85,86,87,88,89,90,97,98,99,100,101,102,103,104,105,106,107,108,109,110,111,112,113,114,115,116,117,118,119,120,121,122,48,49,50,51,52,53,54,55,56,57,45,95]⟩ : ByteArray) (Go.bits .and .i64 (ji19) 63)
              replace p22 := eq_true p22
              replace q22 := eq_true q22
              have p26 : 0 ≤ ((ji23) : Int) := of_decide_eq_true aq
              have q26 : ((ji23) : Int) < ((x6_2.length : Int) : Int) := of_decide_eq_true aq
              obtain ⟨go26, co26, eo26, gb26, gl26, cl26, HG26⟩ := Kd.R_form HO_6.out (by omega)
              (first | cases eo26 | (injection eo26 with ea_ en_ ec_; (first | subst ea_ | (injection ea_ with ea_; subst ea_)); subst ec_; clear en_))
              have GB26 := Aside0.mk gb26
              have GG26 := Aside0.mk HG26
              clear gb26 gl26 HG26
              obtain ⟨hx26_0, hf26_0⟩ := Kd.R_celln 0 HO_6.out ((ji23) : Int) p26 q26
              replace p26 := eq_true p26
              replace q26 := eq_true q26
              have HP27 := Kd.R_putg HO_6.out ((ji23) : Int) (bt (⟨#[65,66,67,68,69,70,71,72,73,74,75,76,77,78,79,80,81,82,83,84,85,86,87,88,89,90,97,98,99,100,101,102,103,104,105,106,107,108,109,110,111,112,113,114,115,116,117,118,119,120,121,122,48,49,50,51,52,53,54,55,56,57,45,95]⟩ : ByteArray) (Go.bits .and .i64 (ji19) 63))
              go_wp2_with (first | ((with_reducible refine gate_store (t := 5) (p := 43) rfl ?_); refine store_event (t := 5) (p := 43) (v := ?vo_w28) (w1 := (wr.setCell ⟨go26, ((ji23) : Int).toNat, none⟩ (.int .u8 (bt (⟨#[65,66,67,68,69,70,71,72,73,74,75,76,77,78,79,80,81,82,83,84,85,86,87,88,89,90,97,98,99,100,101,102,103,104,105,106,107,108,109,110,111,112,113,114,115,116,117,118,119,120,121,122,48,49,50,51,52,53,54,55,56,57,45,95]⟩ : ByteArray) (Go.bits .and .i64 (ji19) 63))))) ?hg ?ho ?hn ?hr ?_; (case ho => rfl); (case hg => rfl); (case hn => rfl); (case hr => first | (go_simp; done) | (go_simp; rfl)); intro w28 hw; have hg : wr.grownBy w28 (some go26) := (by rw [hw]; exact HP27.2); have hp_ : Kd.R (Kd.int .u8) 5 w28 w.heap.size (fun _ => True) (.slice (some ⟨go26, 0, none⟩) x6_2.length co15) y104 := (by rw [hw, Ny104.out]; exact HP27.1); clear HP27; replace HO_6 := Aside0.mk (hp_); replace HB := Aside0.mk ((by rw [hw]; exact below_set (HB.out) GB26.out : Below w.heap.size w w28)); clear hg hw hp_))
              (try simp only [← hl6_2])
              go_roundg k2
              case measure => have := HJ2.out; have := HK2.out; omega
              case rel => exact ⟨(y104), (wrap64 (x29_2 + 1)), dq, H', ⟨by have := HJ2.out; have := HK2.out; omega⟩, ⟨by (try simp only [hl6_2]); (with_reducible repeat (first | apply Kd.R_alloc | apply Kd.R_drewN | apply Kd.R_drew)); exact HO_6.out⟩, ⟨hq HB.out⟩⟩
             ·rw [if_neg c25] at H
              exact absurd H (by simp)
            ·rw [if_neg c24] at H
             exact absurd H (by simp)
           ·rw [if_neg c21] at H
            exact absurd H (by simp)
          ·rw [if_neg c20] at H
           exact absurd H (by simp)
         ·rw [if_neg c18] at H
          exact absurd H (by simp)
        ·rw [if_neg c16] at H
         have c16b0 := decide_eq_false c16
         (try (have c16h0 := c16b0; simp only [hl6_2] at c16h0))
         clear c16
         simp only [Option.some.injEq, Prod.mk.injEq] at H
         obtain ⟨rfl, rfl⟩ := H
         have hcv29 := own_string (P := Try.prog) Try.underlying28 Try.underlying5 Try.underlying9 (Kd.own_of_R HO_6.out)
         go_wp2
         go_ret2
         exact ⟨rq_, hq HB.out⟩
     ·rw [if_neg c12] at H
      exact absurd H (by simp)
    ·rw [if_neg c11] at H
     exact absurd H (by simp)

/-! ### stream_Mark: function 18 -/
def stream_Mark.f (k : Nat) (a0 a1 : Int) : Option (ByteArray × Int) :=
  if kndOk a0 = true ∧ 0 ≤ a1 ∧ a1 ≤ 4095 then (base64_Number.f k a1 2).bind fun t => (if 2 + t.1.size ≤ 9223372036854775807 then some (strOfNums [45, letterOf a0] ++ t.1, 0) else none) else some (⟨#[]⟩, 2)
theorem stream_Mark.mono : ∀ a0 a1 k, LeO (stream_Mark.f k a0 a1) (stream_Mark.f (k + 1) a0 a1) := by
  intro a0 a1 k
  unfold stream_Mark.f
  repeat' first
      | (with_reducible exact base64_Number.mono _ _ _)
      | (with_reducible exact LeO.refl _)
      | (with_reducible refine LeO.ite ?_ ?_)
      | (with_reducible refine LeO.bind ?_ (fun _ => ?_))
set_option maxHeartbeats 4000000 in
set_option maxRecDepth 100000 in
theorem stream_Mark.callsA (a0 a1 : Int) (w : World) (c : Int) (A : Option Addr) (n : Nat) (ok : Bool) (t : ByteArray) (te : Int) (R : Ending → World → Prop)
    (hnum : ok = true → 0 ≤ a1 → a1 ≤ 4095 → ∀ w, Calls Try.prog 43 #[.int .i64 a1, .int .i64 2] w fun e w' => e = .returned (.tuple #[.string t, .int .i64 te]) ∧ Below w.heap.size w w')
    (hsz : 2 + t.size ≤ 9223372036854775807)
    (hl : (Instr.lookup 77 (.map (some w.heap.size)) (.int .i64 a0) true).run Try.prog (kindsWorld w) = .ok (.tuple #[.agg #[.int .u8 c, .slice A n n], .bool ok]) (kindsWorld w))
    (hyes : ok = true → 0 ≤ a1 → a1 ≤ 4095 → ∀ w', Below w.heap.size w w' → R (.returned (.tuple #[.string (strOfNums [45, c] ++ t), .int .i64 0])) w')
    (hno : ¬ (ok = true ∧ 0 ≤ a1 ∧ a1 ≤ 4095) → ∀ w', Below w.heap.size w w' → R (.returned (.tuple #[.string ⟨#[]⟩, .int .i64 2])) w') :
    Calls Try.prog 18 #[.int .i64 a0, .int .i64 a1] w R := by
  have HN := Aside0.mk hnum
  have HY := Aside0.mk hyes
  have HO := Aside0.mk hno
  clear hnum hyes hno
  have HB := Aside0.mk (kindsWorld_below w)
  have hks := kindsWorld_size w
  cases ok with
  | false =>
    go_enter Try.func18, Try.ntmps18
    go_wp2_with (go_at_call 42; refine (kinds_any _).mono ?_; rintro e w' ⟨rfl, rfl⟩)
    exact HO.out (by simp) _ (below_alloc HB.out _)
  | true =>
    by_cases h0 : 0 ≤ a1
    · by_cases h1 : a1 ≤ 4095
      · have b0 : decide (a1 < 0) = false := decide_eq_false (by omega)
        have b1 : decide (4095 < a1) = false := decide_eq_false (by omega)
        have z0 : (9223372036854775807 < 2 + t.size) = False := eq_false (by omega)
        go_enter Try.func18, Try.ntmps18
        go_wp2_with (go_at_call 42; refine (kinds_any _).mono ?_; rintro e w' ⟨rfl, rfl⟩)
        refine (HN.out trivial h0 h1 _).mono ?_
        rintro e w1 ⟨rfl, hb⟩
        have c0 : w1.cell? ⟨w.heap.size + 5, 0, none⟩ = some (.int .u8 c) := (hb.cell (p := ⟨w.heap.size + 5, 0, none⟩) (by simp [hks])).trans (cell_of _ (alloc_at (kindsWorld w) _ hks.symm) rfl)
        have ha : (w1.alloc (.cells #[.int .u8 45, .int .u8 c] 5)).heap[w1.heap.size]? = some (.cells #[.int .u8 45, .int .u8 c] 5 (0, 0)) := alloc_at _ _ rfl
        have hcv := run_convert_bytes_arg (P := Try.prog) (w1.alloc (.cells #[.int .u8 45, .int .u8 c] 5)) 28 5 Try.underlying28 Try.underlying5 w1.heap.size 0 2 2 [45, c] rfl (fun i hi => by
          rcases (show i = 0 ∨ i = 1 by omega) with rfl | rfl
          · exact cell_of _ ha rfl
          · exact cell_of _ ha rfl) 9 Try.underlying9
        have hs2 : (strOfNums [45, c]).size = 2 := rfl
        have HBB := Aside0.mk hb
        clear hb ha
        go_wp2_with fail
        exact HY.out trivial h0 h1 _ (below_alloc ((below_alloc HB.out _).trans (Below.mono HBB.out (below_alloc HB.out _).size)) _)
      · have b0 : decide (a1 < 0) = false := decide_eq_false (by omega)
        have b1 : decide (4095 < a1) = true := decide_eq_true (by omega)
        go_enter Try.func18, Try.ntmps18
        go_wp2_with (go_at_call 42; refine (kinds_any _).mono ?_; rintro e w' ⟨rfl, rfl⟩)
        exact HO.out (by omega) _ (below_alloc HB.out _)
    · have b0 : decide (a1 < 0) = true := decide_eq_true (by omega)
      go_enter Try.func18, Try.ntmps18
      go_wp2_with (go_at_call 42; refine (kinds_any _).mono ?_; rintro e w' ⟨rfl, rfl⟩)
      exact HO.out (by omega) _ (below_alloc HB.out _)
theorem stream_Mark.calls (k : Nat) (a0 a1 : Int) (r1 : ByteArray) (r2 : Int) (w : World) (h : stream_Mark.f k a0 a1 = some (r1, r2)) :
    Calls Try.prog 18 #[.int .i64 a0, .int .i64 a1] w fun e w' => e = .returned (.tuple #[.string r1, .int .i64 r2]) ∧ Below w.heap.size w w' := by
  have hl := kinds_look (kindsWorld_map w) a0 true
  rw [if_pos rfl] at hl
  unfold stream_Mark.f at h
  by_cases hc : kndOk a0 = true ∧ 0 ≤ a1 ∧ a1 ≤ 4095
  · rw [if_pos hc] at h
    obtain ⟨⟨t, te⟩, ht, h⟩ := Option.bind_eq_some_iff.mp h
    dsimp only at h
    split at h
    · rename_i hz
      simp only [Option.some.injEq, Prod.mk.injEq] at h
      obtain ⟨rfl, rfl⟩ := h
      exact stream_Mark.callsA a0 a1 w (letterOf a0) (patAt w.heap.size a0) (patOf a0).length (kndOk a0) t te _ (fun _ _ _ w1 => base64_Number.calls k a1 2 t te w1 ht) hz hl (fun _ _ _ w' hw => ⟨rfl, hw⟩) (fun hn => absurd hc hn)
    · cases h
  · rw [if_neg hc] at h
    simp only [Option.some.injEq, Prod.mk.injEq] at h
    obtain ⟨rfl, rfl⟩ := h
    exact stream_Mark.callsA a0 a1 w (letterOf a0) (patAt w.heap.size a0) (patOf a0).length (kndOk a0) ⟨#[]⟩ 0 _ (fun h1 h2 h3 => absurd ⟨h1, h2, h3⟩ hc) (by decide) hl (fun h1 h2 h3 => absurd ⟨h1, h2, h3⟩ hc) (fun _ w' hw => ⟨rfl, hw⟩)

/-! ### stream_primitives: function 28 -/
def stream_primitives.l0 : Nat → Int → List (S25) → Int → Int → Option (Int)
  | 0, _, _, _, _ => none
  | k + 1, x3, x6, x7, x8 => if x8 < x7 then (if 0 ≤ x8 then (if x8 < (x6.length : Int) then (stream_primitives.l0 k (wrap64 (x3 + (((rd_T25 x6 x8).f1).length : Int))) x6 x7 (wrap64 (x8 + 1))) else (none)) else (none)) else (some x3)
def stream_primitives.f (k : Nat) (l0 : List (S25)) : Option (Int) := stream_primitives.l0 k 0 l0 (l0.length : Int) 0
theorem stream_primitives.mono_l : ∀ k, (∀ y0 y1 y2 y3, LeO (stream_primitives.l0 k y0 y1 y2 y3) (stream_primitives.l0 (k + 1) y0 y1 y2 y3))
  | 0 => fun _ _ _ _ r h => by simp [stream_primitives.l0] at h
  | k + 1 => by
    have ih0 := stream_primitives.mono_l k
    · intro y0 y1 y2 y3
      unfold stream_primitives.l0
      repeat' first
      | (with_reducible exact ih0 _ _ _ _)
      | (with_reducible exact LeO.refl _)
      | (with_reducible exact LeO.none _)
      | (with_reducible refine LeO.ite ?_ ?_)
      | (with_reducible refine LeO.bind ?_ (fun _ => ?_))
      | exact ih0 _ _ _ _
      | exact LeO.none _
      | refine LeO.ite ?_ ?_
      | refine LeO.bind ?_ (fun _ => ?_)
theorem stream_primitives.mono : ∀ a0 k, LeO (stream_primitives.f k a0) (stream_primitives.f (k + 1) a0) := by
  intro a0 k
  have ih0 := stream_primitives.mono_l k
  unfold stream_primitives.f
  repeat' first
      | (with_reducible exact ih0 _ _ _ _)
      | (with_reducible exact LeO.refl _)
      | (with_reducible exact LeO.none _)
      | (with_reducible refine LeO.ite ?_ ?_)
      | (with_reducible refine LeO.bind ?_ (fun _ => ?_))
      | exact ih0 _ _ _ _
      | exact LeO.none _
      | refine LeO.ite ?_ ?_
      | refine LeO.bind ?_ (fun _ => ?_)
set_option maxHeartbeats 8000000 in
set_option maxRecDepth 100000 in
theorem stream_primitives.calls (k : Nat) (A0 : Option Addr) (c0 : Nat) (l0 : List (S25)) (r : Int) (w : World) (hr0 : Kd.C k25 w A0 l0.length l0) (hc0 : l0.length ≤ c0) (h : stream_primitives.f k l0 = some r) :
    Calls Try.prog 28 #[.slice A0 l0.length c0] w fun e w' => e = .returned (.int .i64 r) ∧ Below w.heap.size w w' := by
 have hu25 := Try.underlying25
 have HR0 := Aside0.mk hr0
 have HC0 := Aside0.mk hc0
 clear hr0 hc0
 have HB := Aside0.mk (Below.refl w.heap.size w)
 have H : (stream_primitives.l0 k 0 l0 (l0.length : Int) 0) = some r := h
 clear h
 have H' := Aside0.mk H
 clear H
 go_enter Try.func28, Try.ntmps28
 go_wp2
 go_loopg [3,8] k (fun kq v3 v8 w' => ∃ (x3_1 : Int) (x8_1 : Int), v3 = .int .i64 x3_1 ∧ v8 = .int .i64 x8_1 ∧ Aside0 (stream_primitives.l0 kq x3_1 l0 (l0.length : Int) x8_1 = some r) ∧ Aside0 (kq ≤ k) ∧ Aside0 (Below w.heap.size w w'))
 case atStart => exact ⟨(0), (0), dq, dq, H', ⟨Nat.le_refl _⟩, ⟨hq HB.out⟩⟩
 case round =>
  clear H'
  obtain ⟨x3_1, x8_1, rfl, rfl, HA, HK1, HB⟩ := hrel
  cases gk with
  | zero => exact absurd HA.out (by simp [stream_primitives.l0])
  | succ k1 =>
   have H := HA.out
   clear HA
   simp only [stream_primitives.l0] at H
   by_cases c2 : x8_1 < (l0.length : Int)
   ·rw [if_pos c2] at H
    have c2b0 := decide_eq_true c2
    clear c2
    by_cases c3 : 0 ≤ x8_1
    ·rw [if_pos c3] at H
     have c3b0 := decide_eq_true c3
     clear c3
     by_cases c4 : x8_1 < (l0.length : Int)
     ·rw [if_pos c4] at H
      have c4b0 := decide_eq_true c4
      clear c4
      have H' := Aside0.mk H
      clear H
      have p105 : 0 ≤ (x8_1 : Int) := of_decide_eq_true aq
      have q105 : x8_1 < (l0.length : Int) := of_decide_eq_true aq
      obtain ⟨ad105, A105_1, c105_1, e105, hx105_0, hx105_1, hl105_1, hi105_1⟩ := at_T25 HR0.out x8_1 p105 q105
      cases e105
      replace hx105_0 := (HB.out.cell (World.block_lt_of_cell? w _ hx105_0)).trans hx105_0
      replace hx105_1 := (HB.out.cell (World.block_lt_of_cell? w _ hx105_1)).trans hx105_1
      have HR105_1 := Aside0.mk hi105_1
      have HC105_1 := Aside0.mk hl105_1
      clear hi105_1 hl105_1
      replace p105 := eq_true p105
      replace q105 := eq_true q105
      go_wp2_with (first | ((with_reducible refine gate_dst (N := 5) rfl ?_); refine box_event ?hg (N := 5) ?hd (cs := #[.int .i64 0, .slice none 0 0]) (t := 25) ?hr ?_; (case hd => rfl); (case hg => rfl); (case hr => first | (go_simp; done) | (go_simp; rfl)); intro gb106 hg w5 hbox hb; have BK106 := Aside0.mk (hbox); have GW106 := Aside0.mk ((by rw [hg]; exact (below_size (hq HB.out)) : w.heap.size ≤ gb106)); have GE106 := Aside0.mk ((by rw [hg]; exact (below_size (hq HB.out)) : w.heap.size ≤ gb106)); replace HB := Aside0.mk (below_step (hq HB.out) hb); clear hb hbox hg; have hcz6_0 : w5.cell? ⟨gb106, 0, none⟩ = some (.int .i64 0) := (blk_cell BK106.out 0).trans rfl; have hcz6_1 : w5.cell? ⟨gb106, 1, none⟩ = some (.slice none 0 0) := (blk_cell BK106.out 1).trans rfl; have hfz6_0 := blk_frozen BK106.out 0; have hfz6_1 := blk_frozen BK106.out 1))
      go_roundg k1
      case measure => have := HK1.out; omega
      case rel => exact ⟨(wrap64 (x3_1 + (((rd_T25 l0 x8_1).f1).length : Int))), (wrap64 (x8_1 + 1)), dq, dq, H', ⟨by have := HK1.out; omega⟩, ⟨hq1 HB.out GE106.out⟩⟩
     ·rw [if_neg c4] at H
      exact absurd H (by simp)
    ·rw [if_neg c3] at H
     exact absurd H (by simp)
   ·rw [if_neg c2] at H
    have c2b0 := decide_eq_false c2
    clear c2
    obtain rfl := Option.some.inj H
    go_wp2
    go_ret
    exact ⟨rq_, hq HB.out⟩

-- NOT PRINTED: function 49 (api_Group_49)

-- NOT PRINTED: function 29 (api_Group_29)

end Go.Proofs.Ytookjdhfpbmjkaa.X
