-- Written by xprint.py, a program of this repo that leads the kit's print.py: Lean checks it.
import Derived.Test.YtookjdhfpbmjkaaX0
import Derived.Test.YtookjdhfpbmjkaaX7
import Derived.Test.YtookjdhfpbmjkaaX15
namespace Go.Proofs.Ytookjdhfpbmjkaa.X
open Go.RowKit Go.Proofs.YtookjdhfpbmjkaaW.PrintWords Go.Proofs.YtookjdhfpbmjkaaW.PrintLast Go.Proofs.YtookjdhfpbmjkaaW.PrintMore
attribute [local go_sem] max2_int min2_int max_two min_two max_three min_three max_four min_four   -- for this text's walks alone
set_option linter.unusedVariables false
set_option linter.unusedSimpArgs false

/-! ### keyeventref03_Decode: function 61 -/
mutual
def keyeventref03_Decode.l0 : Nat → ByteArray → Int → Option (Int × ByteArray × Int × Int)
  | 0, _, _ => none
  | k + 1, x0, x5 => if x5 ≤ 8 then ((keyeventref03_Code.f x5).bind fun bt276 => (if (x0.size : Int) < (bt276.1.size : Int) then (keyeventref03_Decode.j1 k x0 x5 bt276.1 true) else (if 0 ≤ (bt276.1.size : Int) then (if (bt276.1.size : Int) ≤ (x0.size : Int) then (keyeventref03_Decode.j1 k x0 x5 bt276.1 ((x0.extract 0 ((bt276.1.size : Int) : Int).toNat).toList != bt276.1.toList)) else (none)) else (none)))) else (some (0, (⟨#[]⟩ : ByteArray), 0, 7))
def keyeventref03_Decode.j1 : Nat → ByteArray → Int → ByteArray → Bool → Option (Int × ByteArray × Int × Int)
  | 0, _, _, _, _ => none
  | k + 1, x0, x5, x6, x32 => if x32 = true then (keyeventref03_Decode.l0 k x0 (wrap64 (x5 + 1))) else ((keyeventref03_Size.f x5).bind fun t278 => (if (x0.size : Int) < t278 then (some (0, (⟨#[]⟩ : ByteArray), 0, 8)) else ((keyeventref03_lead.f x5).bind fun t279 => (if 0 ≤ t279 then (if t279 ≤ 2 then ((keyeventref03_Size.f x5).bind fun t280 => (if 0 ≤ (x6.size : Int) then (if (x6.size : Int) ≤ t280 then (if t280 ≤ (x0.size : Int) then (if ((⟨#[65,65]⟩ : ByteArray).extract 0 (t279 : Int).toNat).size + (x0.extract ((x6.size : Int) : Int).toNat (t280 : Int).toNat).size ≤ 9223372036854775807 then ((keyeventref01_Decode.f k (((⟨#[65,65]⟩ : ByteArray).extract 0 (t279 : Int).toNat) ++ (x0.extract ((x6.size : Int) : Int).toNat (t280 : Int).toNat))).bind fun bt281 => (if bt281.2 = 0 then (if t279 ≤ (bt281.1.size : Int) then (if (bt281.1.extract 0 (t279 : Int).toNat).toList = ((⟨#[0,0]⟩ : ByteArray).extract 0 (t279 : Int).toNat).toList then ((keyeventref03_Size.f x5).bind fun t283 => (some (x5, bt281.1.extract (t279 : Int).toNat bt281.1.size, t283, 0))) else (some (0, (⟨#[]⟩ : ByteArray), 0, 4))) else (none)) else (some (0, (⟨#[]⟩ : ByteArray), 0, 4)))) else (none)) else (none)) else (none)) else (none))) else (none)) else (none)))))
end
def keyeventref03_Decode.f (k : Nat) (a0 : ByteArray) : Option (Int × ByteArray × Int × Int) := keyeventref03_Decode.l0 k a0 1
theorem keyeventref03_Decode.mono_l : ∀ k, (∀ y0 y1, LeO (keyeventref03_Decode.l0 k y0 y1) (keyeventref03_Decode.l0 (k + 1) y0 y1)) ∧ (∀ y0 y1 y2 y3, LeO (keyeventref03_Decode.j1 k y0 y1 y2 y3) (keyeventref03_Decode.j1 (k + 1) y0 y1 y2 y3))
  | 0 => ⟨fun _ _ r h => by simp [keyeventref03_Decode.l0] at h, fun _ _ _ _ r h => by simp [keyeventref03_Decode.j1] at h⟩
  | k + 1 => by
    obtain ⟨ih0, ih1⟩ := keyeventref03_Decode.mono_l k
    refine ⟨?_, ?_⟩
    · intro y0 y1
      unfold keyeventref03_Decode.l0
      repeat' first
      | (with_reducible exact ih0 _ _)
      | (with_reducible exact ih1 _ _ _ _)
      | (with_reducible exact keyeventref01_Decode.mono _ _)
      | (with_reducible exact LeO.refl _)
      | (with_reducible exact LeO.none _)
      | (with_reducible refine LeO.ite ?_ ?_)
      | (with_reducible refine LeO.bind ?_ (fun _ => ?_))
      | exact ih0 _ _
      | exact ih1 _ _ _ _
      | exact keyeventref01_Decode.mono _ _
      | exact LeO.none _
      | refine LeO.ite ?_ ?_
      | refine LeO.bind ?_ (fun _ => ?_)
    · intro y0 y1 y2 y3
      unfold keyeventref03_Decode.j1
      repeat' first
      | (with_reducible exact ih0 _ _)
      | (with_reducible exact ih1 _ _ _ _)
      | (with_reducible exact keyeventref01_Decode.mono _ _)
      | (with_reducible exact LeO.refl _)
      | (with_reducible exact LeO.none _)
      | (with_reducible refine LeO.ite ?_ ?_)
      | (with_reducible refine LeO.bind ?_ (fun _ => ?_))
      | exact ih0 _ _
      | exact ih1 _ _ _ _
      | exact keyeventref01_Decode.mono _ _
      | exact LeO.none _
      | refine LeO.ite ?_ ?_
      | refine LeO.bind ?_ (fun _ => ?_)
theorem keyeventref03_Decode.mono : ∀ a0 k, LeO (keyeventref03_Decode.f k a0) (keyeventref03_Decode.f (k + 1) a0) := by
  intro a0 k
  obtain ⟨ih0, ih1⟩ := keyeventref03_Decode.mono_l k
  unfold keyeventref03_Decode.f
  repeat' first
      | (with_reducible exact ih0 _ _)
      | (with_reducible exact ih1 _ _ _ _)
      | (with_reducible exact keyeventref01_Decode.mono _ _)
      | (with_reducible exact LeO.refl _)
      | (with_reducible exact LeO.none _)
      | (with_reducible refine LeO.ite ?_ ?_)
      | (with_reducible refine LeO.bind ?_ (fun _ => ?_))
      | exact ih0 _ _
      | exact ih1 _ _ _ _
      | exact keyeventref01_Decode.mono _ _
      | exact LeO.none _
      | refine LeO.ite ?_ ?_
      | refine LeO.bind ?_ (fun _ => ?_)
def keyeventref03_Decode.T9 : Bool × List (List Nat × List Nat) := (true, [([], []), ([0], [0]), ([], []), ([], []), ([3], [3]), ([], []), ([5], [5]), ([2,4,6], [2,4,6]), ([1,7], [1,7]), ([8,6], [8]), ([9], [9]), ([10], [10]), ([10], [10]), ([11,9,0,1,2,3,4,5,6,7,8,9,10,11], [11]), ([12,13,0,1,2,3,4,5,6,7,8,9,10,11,12,13], [12])])
def keyeventref03_Decode.B9 : List Nat := [0,1,0,0,8,0,32,124,255,511,1023,2047,2047,4095,16383]
theorem keyeventref03_Decode.tab9 : rtab .any (opsOf Try.f61 9) = keyeventref03_Decode.T9 := by kernel_rfl
theorem keyeventref03_Decode.bits9 : waitsOk keyeventref03_Decode.T9.2 keyeventref03_Decode.B9 = true := by kernel_rfl
def keyeventref03_Decode.T10 : Bool × List (List Nat × List Nat) := (true, [([], []), ([0], [0]), ([1], [1]), ([2], [2]), ([2], [2]), ([3,4,2], [2,3,4]), ([2], [2]), ([6,2], [2,6]), ([5,7,2], [2,5,7]), ([2,8], [2,8])])
def keyeventref03_Decode.B10 : List Nat := [0,1,3,7,7,31,7,71,255,511]
theorem keyeventref03_Decode.tab10 : rtab .any (opsOf Try.f61 10) = keyeventref03_Decode.T10 := by kernel_rfl
theorem keyeventref03_Decode.bits10 : waitsOk keyeventref03_Decode.T10.2 keyeventref03_Decode.B10 = true := by kernel_rfl
def keyeventref03_Decode.T12 : Bool × List (List Nat × List Nat) := (true, [([], []), ([], []), ([], []), ([1,2], [1,2]), ([0,3], [0,3]), ([], []), ([5], [5]), ([4,6,0,1,2,3,4], [4]), ([6,7,0,1,2,3,4,5,6,7], [6]), ([8,0,1,2,3,4,5,6,7,8], [])])
def keyeventref03_Decode.B12 : List Nat := [0,0,0,6,15,0,32,127,255,511]
theorem keyeventref03_Decode.tab12 : rtab .any (opsOf Try.f61 12) = keyeventref03_Decode.T12 := by kernel_rfl
theorem keyeventref03_Decode.bits12 : waitsOk keyeventref03_Decode.T12.2 keyeventref03_Decode.B12 = true := by kernel_rfl
set_option maxHeartbeats 8000000 in
set_option maxRecDepth 100000 in
theorem keyeventref03_Decode.calls (k : Nat) (a0 : ByteArray) (r1 : Int) (r2 : ByteArray) (r3 : Int) (r4 : Int) (w : World) (h : keyeventref03_Decode.f k a0 = some (r1, r2, r3, r4)) :
    Calls Try.prog 61 #[.string a0] w fun e w' => e = .returned (.tuple #[.agg #[.int .i64 r1, .string r2], .int .i64 r3, .int .i64 r4]) ∧ Below w.heap.size w w' := by
 have hu27 := Try.underlying27
 have HB := Aside0.mk (Below.refl w.heap.size w)
 have H : (keyeventref03_Decode.l0 k a0 1) = some (r1, r2, r3, r4) := h
 clear h
 have H' := Aside0.mk H
 clear H
 go_enter Try.func61, Try.ntmps61
 go_wp2_with (first | ((with_reducible refine gate_dst (N := 2) rfl ?_); (try (refine gate_guard (by rfl) ?_; dsimp only)); refine box_event ?hg (N := 2) ?hd (cs := #[.int .i64 0, .string (⟨#[]⟩ : ByteArray)]) (t := 27) ?hr ?_; (case hd => rfl); (case hg => rfl); (case hr => first | (go_simp; done) | (go_simp; rfl)); intro gb275 hg w2 hbox hb; have BK275 := Aside0.mk (hbox); have GW275 := Aside0.mk ((by rw [hg]; exact (below_size (hq HB.out)) : w.heap.size ≤ gb275)); have GE275 := Aside0.mk ((by rw [hg]; exact (below_size (hq HB.out)) : w.heap.size ≤ gb275)); replace HB := Aside0.mk (below_step (hq HB.out) hb); clear hb hbox hg))
 go_loopg [5] k (fun kq v5 w' => ∃ (x5_1 : Int) (x276000_1 : Int) (x276001_1 : ByteArray), v5 = .int .i64 x5_1 ∧ Aside0 (keyeventref03_Decode.l0 kq a0 x5_1 = some (r1, r2, r3, r4)) ∧ Aside0 (kq ≤ k) ∧ Aside0 (w'.heap[gb275]? = some (.cells #[.int .i64 x276000_1, .string x276001_1] 27 (0, 0))) ∧ Aside0 (Below w.heap.size w w'))
 case atStart => exact ⟨(1), (0), ((⟨#[]⟩ : ByteArray)), dq, H', ⟨Nat.le_refl _⟩, ⟨by (with_reducible repeat (first | refine blk_drewN ?_ _ | refine blk_drew ?_ | refine blk_alloc ?_ _)); exact BK275.out⟩, ⟨hq1 HB.out GE275.out⟩⟩
 case round =>
  clear H'
  try clear p2
  obtain ⟨x5_1, x276000_1, x276001_1, rfl, HA, HK1, BK275, HB⟩ := hrel
  cases gk with
  | zero => exact absurd HA.out (by simp [keyeventref03_Decode.l0])
  | succ k1 =>
   have H := HA.out
   clear HA
   simp only [keyeventref03_Decode.l0] at H
   by_cases c3 : x5_1 ≤ 8
   ·rw [if_pos c3] at H
    have c3b0 := decide_eq_true c3
    clear c3
    obtain ⟨⟨t276, t277⟩, A4, H⟩ := bindS H
    try dsimp only at H
    have HC5 := Aside0.mk H
    clear H
    go_upto_region 5 with (first | ((with_reducible refine gate_callee (f := 55) rfl ?_); refine goesL_ (some 17) rfl rfl Try.func55 (by kernel_rfl) rfl #[.int .i64 x5_1] rfl eq_ ?_; (with_reducible refine (keyeventref03_Code.calls x5_1 t276 t277 _ A4.out).mono ?_); rintro e w6 ⟨rfl, hb⟩; refine ⟨_, rfl, ?_⟩; replace BK275 := Aside0.mk (blk_below (g := gb275) (o := .cells #[.int .i64 x276000_1, .string x276001_1] 27 (0, 0)) (bq BK275.out) hb); replace HB := Aside0.mk (below_step (hq1 HB.out GE275.out) hb); (try clear hb)))
    (try simp only [Act.put, List.setIfInBounds_toArray, List.set_cons_zero, List.set_cons_succ])
    go_cut [32] (fun v32 wc => ∃ (kq : Nat) (x32_4 : Bool), v32 = .bool x32_4 ∧ Aside0 (keyeventref03_Decode.j1 kq a0 x5_1 t276 x32_4 = some (r1, r2, r3, r4)) ∧ Aside0 (kq ≤ k1) ∧ Aside0 (wc.heap[gb275]? = some (.cells #[.int .i64 x276000_1, .string x276001_1] 27 (0, 0))) ∧ Aside0 (Below w.heap.size w wc))
    case first =>
     have H := HC5.out
     clear HC5
     by_cases c7 : (a0.size : Int) < (t276.size : Int)
     ·rw [if_pos c7] at H
      have c7b0 := decide_eq_true c7
      have c7b1 : decide (a0.size < t276.size) = true := decide_eq_true (Int.ofNat_lt.mp c7)
      clear c7
      (first | rw [c7b0] | (simp only [i64_w, i32_w]; rw [c7b0]) | skip)
      have H' := Aside0.mk H
      clear H
      go_wp2
      go_meet
      case rel => exact ⟨_, (true), dq, H', ⟨by have := HK1.out; first | omega | exact Nat.le_refl _⟩, ⟨by (with_reducible repeat (first | refine blk_drewN ?_ _ | refine blk_drew ?_ | refine blk_alloc ?_ _)); exact BK275.out⟩, ⟨hq1 HB.out GE275.out⟩⟩
     ·rw [if_neg c7] at H
      have c7b0 := decide_eq_false c7
      have c7b1 : decide (a0.size < t276.size) = false := decide_eq_false (fun h => c7 (Int.ofNat_lt.mpr h))
      clear c7
      (first | rw [c7b0] | (simp only [i64_w, i32_w]; rw [c7b0]) | skip)
      by_cases c8 : 0 ≤ (t276.size : Int)
      ·rw [if_pos c8] at H
       have c8b0 := eq_true c8
       have c8b1 := decide_eq_true c8
       clear c8
       by_cases c9 : (t276.size : Int) ≤ (a0.size : Int)
       ·rw [if_pos c9] at H
        have c9b0 := eq_true c9
        have c9b1 := decide_eq_true c9
        clear c9
        have H' := Aside0.mk H
        clear H
        go_wp2
        go_meet
        case rel => exact ⟨_, (((a0.extract 0 ((t276.size : Int) : Int).toNat).toList != t276.toList)), dq, H', ⟨by have := HK1.out; first | omega | exact Nat.le_refl _⟩, ⟨by (with_reducible repeat (first | refine blk_drewN ?_ _ | refine blk_drew ?_ | refine blk_alloc ?_ _)); exact BK275.out⟩, ⟨hq1 HB.out GE275.out⟩⟩
       ·rw [if_neg c9] at H
        exact absurd H (by simp)
      ·rw [if_neg c8] at H
       exact absurd H (by simp)
    case rest =>
     clear HC5
     try clear p2
     try clear c3
     try clear c3b0
     try clear c5
     try clear c6
     try clear c7
     try clear c7b0
     try clear c7b1
     try clear c8
     try clear c8b0
     try clear c8b1
     try clear c9
     try clear c9b0
     try clear c9b1
     try clear p2
     obtain ⟨kq, x32_4, rfl, HA, HJ4, BK275, HB⟩ := hcut
     cases kq with
     | zero => exact absurd HA.out (by simp [keyeventref03_Decode.j1])
     | succ kj4 =>
      have H := HA.out
      clear HA
      simp only [keyeventref03_Decode.j1] at H
      by_cases c10 : x32_4 = true
      ·subst c10
       rw [if_pos rfl] at H
       have H' := Aside0.mk H
       clear H
       go_wp2
       go_roundg kj4
       case measure => have := HK1.out; have := HJ4.out; omega
       case rel => exact ⟨(wrap64 (x5_1 + 1)), (x276000_1), (x276001_1), dq, H', ⟨by have := HK1.out; have := HJ4.out; omega⟩, ⟨by (with_reducible repeat (first | refine blk_drewN ?_ _ | refine blk_drew ?_ | refine blk_alloc ?_ _)); exact BK275.out⟩, ⟨hq1 HB.out GE275.out⟩⟩
      ·replace c10 := Bool.eq_false_iff.mpr c10
       subst c10
       rw [if_neg (show ¬ (false = true) by decide)] at H
       obtain ⟨t278, A11, H⟩ := bindS H
       by_cases c12 : (a0.size : Int) < t278
       ·rw [if_pos c12] at H
        have c12b0 := decide_eq_true c12
        clear c12
        simp only [Option.some.injEq, Prod.mk.injEq] at H
        obtain ⟨rfl, rfl, rfl, rfl⟩ := H
        go_wp2_with (first | ((with_reducible refine gate_callee (f := 72) rfl ?_); refine goesL_ (some 36) rfl rfl Try.func72 (by kernel_rfl) rfl #[.int .i64 x5_1] rfl eq_ ?_; (with_reducible refine (keyeventref03_Size.calls x5_1 t278 _ A11.out).mono ?_); rintro e w13 ⟨rfl, hb⟩; refine ⟨_, rfl, ?_⟩; replace BK275 := Aside0.mk (blk_below (g := gb275) (o := .cells #[.int .i64 x276000_1, .string x276001_1] 27 (0, 0)) (bq BK275.out) hb); replace HB := Aside0.mk (below_step (hq1 HB.out GE275.out) hb); (try clear hb); have hcz14_0 : w13.cell? ⟨gb275, 0, none⟩ = some (.int .i64 x276000_1) := (blk_cell BK275.out 0).trans rfl; have hcz14_1 : w13.cell? ⟨gb275, 1, none⟩ = some (.string x276001_1) := (blk_cell BK275.out 1).trans rfl; have hfz14_0 := blk_frozen BK275.out 0; have hfz14_1 := blk_frozen BK275.out 1))
        refine bodyPost_ret (results_ctt rfl _ _ gb275 27 #[.int .i64 0, .string (⟨#[]⟩ : ByteArray)] (0, 0) _ rfl (by (with_reducible repeat (first | refine blk_drewN ?_ _ | refine blk_drew ?_ | refine blk_alloc ?_ _)); refine blk_put (cs := #[.int .i64 0, .string x276001_1]) ?_ 1 _ rfl; (with_reducible repeat (first | refine blk_drewN ?_ _ | refine blk_drew ?_ | refine blk_alloc ?_ _)); refine blk_put (cs := #[.int .i64 x276000_1, .string x276001_1]) ?_ 0 _ rfl; (with_reducible repeat (first | refine blk_drewN ?_ _ | refine blk_drew ?_ | refine blk_alloc ?_ _)); exact BK275.out) Try.underlying27 rfl (by kernel_rfl)) rfl ?_
        exact ⟨rq_, hq1 HB.out GE275.out⟩
       ·rw [if_neg c12] at H
        have c12b0 := decide_eq_false c12
        clear c12
        obtain ⟨t279, A15, H⟩ := bindS H
        by_cases c16 : 0 ≤ t279
        ·rw [if_pos c16] at H
         have c16b0 := eq_true c16
         have c16b1 := decide_eq_true c16
         clear c16
         by_cases c17 : t279 ≤ 2
         ·rw [if_pos c17] at H
          have c17b0 := eq_true c17
          have c17b1 := decide_eq_true c17
          clear c17
          obtain ⟨t280, A18, H⟩ := bindS H
          by_cases c19 : 0 ≤ (t276.size : Int)
          ·rw [if_pos c19] at H
           have c19b0 := eq_true c19
           have c19b1 := decide_eq_true c19
           clear c19
           by_cases c20 : (t276.size : Int) ≤ t280
           ·rw [if_pos c20] at H
            have c20b0 := eq_true c20
            have c20b1 := decide_eq_true c20
            clear c20
            by_cases c21 : t280 ≤ (a0.size : Int)
            ·rw [if_pos c21] at H
             have c21b0 := eq_true c21
             have c21b1 := decide_eq_true c21
             clear c21
             by_cases c22 : ((⟨#[65,65]⟩ : ByteArray).extract 0 (t279 : Int).toNat).size + (a0.extract ((t276.size : Int) : Int).toNat (t280 : Int).toNat).size ≤ 9223372036854775807
             ·rw [if_pos c22] at H
              have c22b0 := eq_true c22
              have c22b1 := decide_eq_true c22
              try have c22b2 : (9223372036854775807 < ((⟨#[65,65]⟩ : ByteArray).extract 0 (t279 : Int).toNat).size + (a0.extract ((t276.size : Int) : Int).toNat (t280 : Int).toNat).size) = False := eq_false (Nat.not_lt.2 c22)
              have c22b3 : (9223372036854775807 < t279.toNat + (t280.toNat - t276.size)) = False := eq_false (by have h_ := c22; simp only [ByteArray.size_extract] at h_; have l0_ : (t279 : Int) ≤ 2 := of_eq_true (by assumption); simp only [show (⟨#[65,65]⟩ : ByteArray).size = 2 from rfl] at h_; have l2_ : (t280 : Int) ≤ (a0.size : Int) := of_eq_true (by assumption); omega)
              obtain ⟨⟨t281, t282⟩, A23, H⟩ := bindS H
              try dsimp only at H
              by_cases c24 : t282 = 0
              ·rw [if_pos c24] at H
               have c24b0 : (t282 == 0) = true := beq_iff_eq.mpr c24
               have c24b1 : (t282 != 0) = false := bne_eq_false_iff_eq.mpr c24
               clear c24
               have c25b0 := eq_true (of_decide_eq_true aq : 0 ≤ t279)
               by_cases c26 : t279 ≤ (t281.size : Int)
               ·rw [if_pos c26] at H
                have c26b0 := eq_true c26
                have c26b1 := decide_eq_true c26
                clear c26
                have c27b0 := eq_true (of_decide_eq_true aq : 0 ≤ t279)
                have c28b0 := eq_true (of_decide_eq_true aq : t279 ≤ 2)
                by_cases c29 : (t281.extract 0 (t279 : Int).toNat).toList = ((⟨#[0,0]⟩ : ByteArray).extract 0 (t279 : Int).toNat).toList
                ·rw [if_pos c29] at H
                 have c29b0 : ((t281.extract 0 (t279 : Int).toNat).toList == ((⟨#[0,0]⟩ : ByteArray).extract 0 (t279 : Int).toNat).toList) = true := beq_iff_eq.mpr c29
                 have c29b1 : ((t281.extract 0 (t279 : Int).toNat).toList != ((⟨#[0,0]⟩ : ByteArray).extract 0 (t279 : Int).toNat).toList) = false := bne_eq_false_iff_eq.mpr c29
                 clear c29
                 have c30b0 := eq_true (of_decide_eq_true aq : 0 ≤ t279)
                 have c31b0 := eq_true (of_decide_eq_true aq : t279 ≤ (t281.size : Int))
                 obtain ⟨t283, A32, H⟩ := bindS H
                 simp only [Option.some.injEq, Prod.mk.injEq] at H
                 obtain ⟨rfl, rfl, rfl, rfl⟩ := H
                 try go_wp2_with (first | ((with_reducible refine gate_callee (f := 72) rfl ?_); refine goesL_ (some 36) rfl rfl Try.func72 (by kernel_rfl) rfl #[.int .i64 x5_1] rfl eq_ ?_; (with_reducible refine (keyeventref03_Size.calls x5_1 t278 _ A11.out).mono ?_); rintro e w33 ⟨rfl, hb⟩; refine ⟨_, rfl, ?_⟩; replace BK275 := Aside0.mk (blk_below (g := gb275) (o := .cells #[.int .i64 x276000_1, .string x276001_1] 27 (0, 0)) (bq BK275.out) hb); replace HB := Aside0.mk (below_step (hq1 HB.out GE275.out) hb); (try clear hb)) | ((with_reducible refine gate_callee (f := 56) rfl ?_); refine goesL_ (some 40) rfl rfl Try.func56 (by kernel_rfl) rfl #[.int .i64 x5_1] rfl eq_ ?_; (with_reducible refine (keyeventref03_lead.calls x5_1 t279 _ A15.out).mono ?_); rintro e w34 ⟨rfl, hb⟩; refine ⟨_, rfl, ?_⟩; replace BK275 := Aside0.mk (blk_below (g := gb275) (o := .cells #[.int .i64 x276000_1, .string x276001_1] 27 (0, 0)) (bq BK275.out) hb); replace HB := Aside0.mk (below_step (hq1 HB.out GE275.out) hb); (try clear hb)))
                 replace BK275 := Aside0.mk (blk_drew BK275.out)
                 replace HB := Aside0.mk (below_drew1 HB.out)
                 refine start_ (n := 15) (S := fun w' => True) (ds := []) #[false,false,false,false,false,false,false,false,false,false,false,false,false,false,false] (by kernel_rfl) rfl rfl trivial (fun hHeld => ?_); refine with_tabW keyeventref03_Decode.tab9 keyeventref03_Decode.bits9 (fun HT_ HW_ => ?_)
                 generalize w34.drew = w35 at BK275 HB hHeld ⊢
                 refine pure_ (i := 0) (N := some 42) (v := ?_) (a' := ?_) #[true,false,false,false,false,false,false,false,false,false,false,false,false,false,false] rfl rfl (any_of HT_.out (by kernel_rfl)) (fun _ _ _ h => h) (Or.inl ⟨by rfl, pv⟩) pp ?_
                 refine pure_ (i := 1) (N := some 43) (v := ?_) (a' := ?_) #[true,true,false,false,false,false,false,false,false,false,false,false,false,false,false] rfl rfl (any_of HT_.out (by kernel_rfl)) (fun _ _ _ h => h) (Or.inl ⟨by rfl, pv⟩) pp ?_
                 refine pure_ (i := 2) (N := some 44) (v := ?_) (a' := ?_) #[true,true,true,false,false,false,false,false,false,false,false,false,false,false,false] rfl rfl (any_of HT_.out (by kernel_rfl)) (fun _ _ _ h => h) (Or.inl ⟨by rfl, pv⟩) pp ?_
                 refine pure_ (i := 3) (N := some 45) (v := ?_) (a' := ?_) #[true,true,true,true,false,false,false,false,false,false,false,false,false,false,false] rfl rfl (any_of HT_.out (by kernel_rfl)) (fun _ _ _ h => h) (Or.inl ⟨by rfl, pv⟩) pp ?_
                 refine pure_ (i := 4) (N := some 46) (v := ?_) (a' := ?_) #[true,true,true,true,true,false,false,false,false,false,false,false,false,false,false] rfl rfl (any_of HT_.out (by kernel_rfl)) (fun _ _ _ h => h) (Or.inl ⟨by rfl, pv⟩) pp ?_
                 refine pure_ (i := 5) (N := some 47) (v := ?_) (a' := ?_) #[true,true,true,true,true,true,false,false,false,false,false,false,false,false,false] rfl rfl (any_of HT_.out (by kernel_rfl)) (fun _ _ _ h => h) (Or.inl ⟨by rfl, pv⟩) pp ?_
                 refine one_ (i := 6) (N := some 48) #[true,true,true,true,true,true,true,false,false,false,false,false,false,false,false] rfl rfl (one_of HT_.out (by kernel_rfl)) (by decide) (fun K hK => ?_)
                 refine goes_ Try.func72 (by kernel_rfl) rfl #[.int .i64 x5_1] (by rfl) rfl rfl eq_ ?_
                 with_reducible refine (keyeventref03_Size.calls x5_1 t280 _ A18.out).mono ?_
                 rintro e w36 ⟨rfl, hb⟩
                 refine ⟨_, rfl, ?_⟩
                 replace BK275 := Aside0.mk (blk_below (g := gb275) (o := .cells #[.int .i64 x276000_1, .string x276001_1] 27 (0, 0)) (bq BK275.out) hb)
                 replace HB := Aside0.mk (below_step (hq1 HB.out GE275.out) hb)
                 (try clear hb)
                 refine hK.out _ _ trivial (fun hHeld => ?_)
                 clear hK K
                 refine norm_ (a' := ?_) (show Act.put _ (some 48) _ = _ from pp) ?_
                 refine pure_ (i := 7) (N := some 49) (v := ?_) (a' := ?_) #[true,true,true,true,true,true,true,true,false,false,false,false,false,false,false] rfl rfl (any_of HT_.out (by kernel_rfl)) (fun _ _ _ h => h) (Or.inl ⟨by rfl, pv⟩) pp ?_
                 refine pure_ (i := 8) (N := some 50) (v := ?_) (a' := ?_) #[true,true,true,true,true,true,true,true,true,false,false,false,false,false,false] rfl rfl (any_of HT_.out (by kernel_rfl)) (fun _ _ _ h => h) (Or.inl ⟨by rfl, pv⟩) pp ?_
                 refine one_ (i := 9) (N := some 51) #[true,true,true,true,true,true,true,true,true,true,false,false,false,false,false] rfl rfl (one_of HT_.out (by kernel_rfl)) (by decide) (fun K hK => ?_)
                 refine goes_ Try.func63 (by kernel_rfl) rfl #[.string (((⟨#[65,65]⟩ : ByteArray).extract 0 (t279 : Int).toNat) ++ (a0.extract ((t276.size : Int) : Int).toNat (t280 : Int).toNat))] (by rfl) rfl rfl eq_ ?_
                 with_reducible refine (keyeventref01_Decode.calls kj4 (((⟨#[65,65]⟩ : ByteArray).extract 0 (t279 : Int).toNat) ++ (a0.extract ((t276.size : Int) : Int).toNat (t280 : Int).toNat)) t281 t282 _ A23.out).mono ?_
                 rintro e w37 ⟨rfl, hb⟩
                 refine ⟨_, rfl, ?_⟩
                 replace BK275 := Aside0.mk (blk_below (g := gb275) (o := .cells #[.int .i64 x276000_1, .string x276001_1] 27 (0, 0)) (bq BK275.out) hb)
                 replace HB := Aside0.mk (below_step (hq1 HB.out GE275.out) hb)
                 (try clear hb)
                 refine hK.out _ _ trivial (fun hHeld => ?_)
                 clear hK K
                 refine norm_ (a' := ?_) (show Act.put _ (some 51) _ = _ from pp) ?_
                 refine pure_ (i := 10) (N := some 41) (v := ?_) (a' := ?_) #[true,true,true,true,true,true,true,true,true,true,true,false,false,false,false] rfl rfl (any_of HT_.out (by kernel_rfl)) (fun _ _ _ h => h) (Or.inl ⟨by rfl, pv⟩) pp ?_
                 refine pure_ (i := 11) (N := some 52) (v := ?_) (a' := ?_) #[true,true,true,true,true,true,true,true,true,true,true,true,false,false,false] rfl rfl (any_of HT_.out (by kernel_rfl)) (fun _ _ _ h => h) (Or.inl ⟨by rfl, pv⟩) pp ?_
                 refine pure_ (i := 12) (N := some 53) (v := ?_) (a' := ?_) #[true,true,true,true,true,true,true,true,true,true,true,true,true,false,false] rfl rfl (any_of HT_.out (by kernel_rfl)) (fun _ _ _ h => h) (Or.inl ⟨by rfl, pv⟩) pp ?_
                 refine pure_ (i := 13) (N := some 9) (v := ?_) (a' := ?_) #[true,true,true,true,true,true,true,true,true,true,true,true,true,true,false] rfl rfl (any_of HT_.out (by kernel_rfl)) (fun _ _ _ h => h) (Or.inl ⟨by rfl, pv⟩) pp ?_
                 refine pure_ (i := 14) (N := some 10) (v := ?_) (a' := ?_) #[true,true,true,true,true,true,true,true,true,true,true,true,true,true,true] rfl rfl (any_of HT_.out (by kernel_rfl)) (fun _ _ _ h => h) (Or.inl ⟨by rfl, pv⟩) pp ?_
                 refine done_ (done_of HT_.out (by kernel_rfl)) ?_
                 try go_wp2
                 replace BK275 := Aside0.mk (blk_drew BK275.out)
                 replace HB := Aside0.mk (below_drew1 HB.out)
                 refine start_ (n := 10) (S := fun w' => True) (ds := []) #[false,false,false,false,false,false,false,false,false,false] (by kernel_rfl) rfl rfl trivial (fun hHeld => ?_); refine with_tabW keyeventref03_Decode.tab10 keyeventref03_Decode.bits10 (fun HT_ HW_ => ?_)
                 generalize w37.drew = w38 at BK275 HB hHeld ⊢
                 refine pure_ (i := 0) (N := some 54) (v := ?_) (a' := ?_) #[true,false,false,false,false,false,false,false,false,false] rfl rfl (any_of HT_.out (by kernel_rfl)) (fun _ _ _ h => h) (Or.inl ⟨by rfl, pv⟩) pp ?_
                 refine pure_ (i := 1) (N := some 55) (v := ?_) (a' := ?_) #[true,true,false,false,false,false,false,false,false,false] rfl rfl (any_of HT_.out (by kernel_rfl)) (fun _ _ _ h => h) (Or.inl ⟨by rfl, pv⟩) pp ?_
                 refine pure_ (i := 2) (N := some 56) (v := ?_) (a' := ?_) #[true,true,true,false,false,false,false,false,false,false] rfl rfl (any_of HT_.out (by kernel_rfl)) (fun _ _ _ h => h) (Or.inl ⟨by rfl, pv⟩) pp ?_
                 refine pure_ (i := 3) (N := some 57) (v := ?_) (a' := ?_) #[true,true,true,true,false,false,false,false,false,false] rfl rfl (any_of HT_.out (by kernel_rfl)) (fun _ _ _ h => h) (Or.inl ⟨by rfl, pv⟩) pp ?_
                 refine pure_ (i := 4) (N := some 58) (v := ?_) (a' := ?_) #[true,true,true,true,true,false,false,false,false,false] rfl rfl (any_of HT_.out (by kernel_rfl)) (fun _ _ _ h => h) (Or.inl ⟨by rfl, pv⟩) pp ?_
                 refine pure_ (i := 5) (N := some 59) (v := ?_) (a' := ?_) #[true,true,true,true,true,true,false,false,false,false] rfl rfl (any_of HT_.out (by kernel_rfl)) (fun _ _ _ h => h) (Or.inl ⟨by rfl, pv⟩) pp ?_
                 refine pure_ (i := 6) (N := some 60) (v := ?_) (a' := ?_) #[true,true,true,true,true,true,true,false,false,false] rfl rfl (any_of HT_.out (by kernel_rfl)) (fun _ _ _ h => h) (Or.inl ⟨by rfl, pv⟩) pp ?_
                 refine pure_ (i := 7) (N := some 61) (v := ?_) (a' := ?_) #[true,true,true,true,true,true,true,true,false,false] rfl rfl (any_of HT_.out (by kernel_rfl)) (fun _ _ _ h => h) (Or.inl ⟨by rfl, pv⟩) pp ?_
                 refine pure_ (i := 8) (N := some 62) (v := ?_) (a' := ?_) #[true,true,true,true,true,true,true,true,true,false] rfl rfl (any_of HT_.out (by kernel_rfl)) (fun _ _ _ h => h) (Or.inl ⟨by rfl, pv⟩) pp ?_
                 refine pure_ (i := 9) (N := some 63) (v := ?_) (a' := ?_) #[true,true,true,true,true,true,true,true,true,true] rfl rfl (any_of HT_.out (by kernel_rfl)) (fun _ _ _ h => h) (Or.inl ⟨by rfl, pv⟩) pp ?_
                 refine done_ (done_of HT_.out (by kernel_rfl)) ?_
                 try go_wp2
                 replace BK275 := Aside0.mk (blk_drew BK275.out)
                 replace HB := Aside0.mk (below_drew1 HB.out)
                 refine start_ (n := 10) (S := fun w' => True) (ds := []) #[false,false,false,false,false,false,false,false,false,false] (by kernel_rfl) rfl rfl trivial (fun hHeld => ?_); refine with_tabW keyeventref03_Decode.tab12 keyeventref03_Decode.bits12 (fun HT_ HW_ => ?_)
                 generalize w38.drew = w39 at BK275 HB hHeld ⊢
                 refine pure_ (i := 0) (N := some 65) (v := ?_) (a' := ?_) #[true,false,false,false,false,false,false,false,false,false] rfl rfl (any_of HT_.out (by kernel_rfl)) (fun _ _ _ h => h) (Or.inl ⟨by rfl, pv⟩) pp ?_
                 refine pure_ (i := 1) (N := some 66) (v := ?_) (a' := ?_) #[true,true,false,false,false,false,false,false,false,false] rfl rfl (any_of HT_.out (by kernel_rfl)) (fun _ _ _ h => h) (Or.inl ⟨by rfl, pv⟩) pp ?_
                 refine pure_ (i := 2) (N := some 67) (v := ?_) (a' := ?_) #[true,true,true,false,false,false,false,false,false,false] rfl rfl (any_of HT_.out (by kernel_rfl)) (fun _ _ _ h => h) (Or.inl ⟨by rfl, pv⟩) pp ?_
                 refine pure_ (i := 3) (N := some 68) (v := ?_) (a' := ?_) #[true,true,true,true,false,false,false,false,false,false] rfl rfl (any_of HT_.out (by kernel_rfl)) (fun _ _ _ h => h) (Or.inl ⟨by rfl, pv⟩) pp ?_
                 refine pure_ (i := 4) (N := some 69) (v := ?_) (a' := ?_) #[true,true,true,true,true,false,false,false,false,false] rfl rfl (any_of HT_.out (by kernel_rfl)) (fun _ _ _ h => h) (Or.inl ⟨by rfl, pv⟩) pp ?_
                 refine pure_ (i := 5) (N := some 70) (v := ?_) (a' := ?_) #[true,true,true,true,true,true,false,false,false,false] rfl rfl (any_of HT_.out (by kernel_rfl)) (fun _ _ _ h => h) (Or.inl ⟨by rfl, pv⟩) pp ?_
                 refine one_ (i := 6) (N := some 71) #[true,true,true,true,true,true,true,false,false,false] rfl rfl (one_of HT_.out (by kernel_rfl)) (by decide) (fun K hK => ?_)
                 refine goes_ Try.func72 (by kernel_rfl) rfl #[.int .i64 x5_1] (by rfl) rfl rfl eq_ ?_
                 with_reducible refine (keyeventref03_Size.calls x5_1 t283 _ A32.out).mono ?_
                 rintro e w40 ⟨rfl, hb⟩
                 refine ⟨_, rfl, ?_⟩
                 replace BK275 := Aside0.mk (blk_below (g := gb275) (o := .cells #[.int .i64 x276000_1, .string x276001_1] 27 (0, 0)) (bq BK275.out) hb)
                 replace HB := Aside0.mk (below_step (hq1 HB.out GE275.out) hb)
                 (try clear hb)
                 refine hK.out _ _ trivial (fun hHeld => ?_)
                 clear hK K
                 refine norm_ (a' := ?_) (show Act.put _ (some 71) _ = _ from pp) ?_
                 refine one_ (i := 7) (N := none) #[true,true,true,true,true,true,true,true,false,false] rfl rfl (one_of HT_.out (by kernel_rfl)) (by decide) (fun K hK => ?_)
                 have hs41 : w40.cell? ⟨gb275, 0, none⟩ = some (.int .i64 x276000_1) := (blk_cell BK275.out 0).trans rfl
                 have hfs41 := blk_frozen BK275.out 0
                 have hs42 : w40.cell? ⟨gb275, 1, none⟩ = some (.string x276001_1) := (blk_cell BK275.out 1).trans rfl
                 have hfs42 := blk_frozen BK275.out 1
                 refine skip_ (w1 := ?_) (by rfl) rfl ?_ ?_
                 rotate_left
                 ·go_simp
                  rfl
                 refine hK.out _ _ trivial (fun hHeld => ?_)
                 clear hK K
                 refine pure_ (i := 8) (N := some 3) (v := ?_) (a' := ?_) #[true,true,true,true,true,true,true,true,true,false] rfl rfl (any_of HT_.out (by kernel_rfl)) (fun _ _ _ h => h) (Or.inl ⟨by rfl, pv⟩) pp ?_
                 refine pure_ (i := 9) (N := some 4) (v := ?_) (a' := ?_) #[true,true,true,true,true,true,true,true,true,true] rfl rfl (any_of HT_.out (by kernel_rfl)) (fun _ _ _ h => h) (Or.inl ⟨by rfl, pv⟩) pp ?_
                 refine done_ (done_of HT_.out (by kernel_rfl)) ?_
                 try go_wp2
                 refine bodyPost_ret (results_ctt rfl _ _ gb275 27 #[.int .i64 x5_1, .string (t281.extract (t279 : Int).toNat t281.size)] (0, 0) _ rfl (by (with_reducible repeat (first | refine blk_drewN ?_ _ | refine blk_drew ?_ | refine blk_alloc ?_ _)); refine blk_put (cs := #[.int .i64 x5_1, .string x276001_1]) ?_ 1 _ rfl; (with_reducible repeat (first | refine blk_drewN ?_ _ | refine blk_drew ?_ | refine blk_alloc ?_ _)); refine blk_put (cs := #[.int .i64 x276000_1, .string x276001_1]) ?_ 0 _ rfl; (with_reducible repeat (first | refine blk_drewN ?_ _ | refine blk_drew ?_ | refine blk_alloc ?_ _)); exact BK275.out) Try.underlying27 rfl (by kernel_rfl)) rfl ?_
                 exact ⟨rq_, hq1 HB.out GE275.out⟩
                ·rw [if_neg c29] at H
                 have c29b0 : ((t281.extract 0 (t279 : Int).toNat).toList == ((⟨#[0,0]⟩ : ByteArray).extract 0 (t279 : Int).toNat).toList) = false := beq_eq_false_iff_ne.mpr c29
                 have c29b1 : ((t281.extract 0 (t279 : Int).toNat).toList != ((⟨#[0,0]⟩ : ByteArray).extract 0 (t279 : Int).toNat).toList) = true := bne_iff_ne.mpr c29
                 simp only [Option.some.injEq, Prod.mk.injEq] at H
                 obtain ⟨rfl, rfl, rfl, rfl⟩ := H
                 try go_wp2_with (first | ((with_reducible refine gate_callee (f := 72) rfl ?_); refine goesL_ (some 36) rfl rfl Try.func72 (by kernel_rfl) rfl #[.int .i64 x5_1] rfl eq_ ?_; (with_reducible refine (keyeventref03_Size.calls x5_1 t278 _ A11.out).mono ?_); rintro e w43 ⟨rfl, hb⟩; refine ⟨_, rfl, ?_⟩; replace BK275 := Aside0.mk (blk_below (g := gb275) (o := .cells #[.int .i64 x276000_1, .string x276001_1] 27 (0, 0)) (bq BK275.out) hb); replace HB := Aside0.mk (below_step (hq1 HB.out GE275.out) hb); (try clear hb)) | ((with_reducible refine gate_callee (f := 56) rfl ?_); refine goesL_ (some 40) rfl rfl Try.func56 (by kernel_rfl) rfl #[.int .i64 x5_1] rfl eq_ ?_; (with_reducible refine (keyeventref03_lead.calls x5_1 t279 _ A15.out).mono ?_); rintro e w44 ⟨rfl, hb⟩; refine ⟨_, rfl, ?_⟩; replace BK275 := Aside0.mk (blk_below (g := gb275) (o := .cells #[.int .i64 x276000_1, .string x276001_1] 27 (0, 0)) (bq BK275.out) hb); replace HB := Aside0.mk (below_step (hq1 HB.out GE275.out) hb); (try clear hb)))
                 replace BK275 := Aside0.mk (blk_drew BK275.out)
                 replace HB := Aside0.mk (below_drew1 HB.out)
                 refine start_ (n := 15) (S := fun w' => True) (ds := []) #[false,false,false,false,false,false,false,false,false,false,false,false,false,false,false] (by kernel_rfl) rfl rfl trivial (fun hHeld => ?_); refine with_tabW keyeventref03_Decode.tab9 keyeventref03_Decode.bits9 (fun HT_ HW_ => ?_)
                 generalize w44.drew = w45 at BK275 HB hHeld ⊢
                 refine pure_ (i := 0) (N := some 42) (v := ?_) (a' := ?_) #[true,false,false,false,false,false,false,false,false,false,false,false,false,false,false] rfl rfl (any_of HT_.out (by kernel_rfl)) (fun _ _ _ h => h) (Or.inl ⟨by rfl, pv⟩) pp ?_
                 refine pure_ (i := 1) (N := some 43) (v := ?_) (a' := ?_) #[true,true,false,false,false,false,false,false,false,false,false,false,false,false,false] rfl rfl (any_of HT_.out (by kernel_rfl)) (fun _ _ _ h => h) (Or.inl ⟨by rfl, pv⟩) pp ?_
                 refine pure_ (i := 2) (N := some 44) (v := ?_) (a' := ?_) #[true,true,true,false,false,false,false,false,false,false,false,false,false,false,false] rfl rfl (any_of HT_.out (by kernel_rfl)) (fun _ _ _ h => h) (Or.inl ⟨by rfl, pv⟩) pp ?_
                 refine pure_ (i := 3) (N := some 45) (v := ?_) (a' := ?_) #[true,true,true,true,false,false,false,false,false,false,false,false,false,false,false] rfl rfl (any_of HT_.out (by kernel_rfl)) (fun _ _ _ h => h) (Or.inl ⟨by rfl, pv⟩) pp ?_
                 refine pure_ (i := 4) (N := some 46) (v := ?_) (a' := ?_) #[true,true,true,true,true,false,false,false,false,false,false,false,false,false,false] rfl rfl (any_of HT_.out (by kernel_rfl)) (fun _ _ _ h => h) (Or.inl ⟨by rfl, pv⟩) pp ?_
                 refine pure_ (i := 5) (N := some 47) (v := ?_) (a' := ?_) #[true,true,true,true,true,true,false,false,false,false,false,false,false,false,false] rfl rfl (any_of HT_.out (by kernel_rfl)) (fun _ _ _ h => h) (Or.inl ⟨by rfl, pv⟩) pp ?_
                 refine one_ (i := 6) (N := some 48) #[true,true,true,true,true,true,true,false,false,false,false,false,false,false,false] rfl rfl (one_of HT_.out (by kernel_rfl)) (by decide) (fun K hK => ?_)
                 refine goes_ Try.func72 (by kernel_rfl) rfl #[.int .i64 x5_1] (by rfl) rfl rfl eq_ ?_
                 with_reducible refine (keyeventref03_Size.calls x5_1 t280 _ A18.out).mono ?_
                 rintro e w46 ⟨rfl, hb⟩
                 refine ⟨_, rfl, ?_⟩
                 replace BK275 := Aside0.mk (blk_below (g := gb275) (o := .cells #[.int .i64 x276000_1, .string x276001_1] 27 (0, 0)) (bq BK275.out) hb)
                 replace HB := Aside0.mk (below_step (hq1 HB.out GE275.out) hb)
                 (try clear hb)
                 refine hK.out _ _ trivial (fun hHeld => ?_)
                 clear hK K
                 refine norm_ (a' := ?_) (show Act.put _ (some 48) _ = _ from pp) ?_
                 refine pure_ (i := 7) (N := some 49) (v := ?_) (a' := ?_) #[true,true,true,true,true,true,true,true,false,false,false,false,false,false,false] rfl rfl (any_of HT_.out (by kernel_rfl)) (fun _ _ _ h => h) (Or.inl ⟨by rfl, pv⟩) pp ?_
                 refine pure_ (i := 8) (N := some 50) (v := ?_) (a' := ?_) #[true,true,true,true,true,true,true,true,true,false,false,false,false,false,false] rfl rfl (any_of HT_.out (by kernel_rfl)) (fun _ _ _ h => h) (Or.inl ⟨by rfl, pv⟩) pp ?_
                 refine one_ (i := 9) (N := some 51) #[true,true,true,true,true,true,true,true,true,true,false,false,false,false,false] rfl rfl (one_of HT_.out (by kernel_rfl)) (by decide) (fun K hK => ?_)
                 refine goes_ Try.func63 (by kernel_rfl) rfl #[.string (((⟨#[65,65]⟩ : ByteArray).extract 0 (t279 : Int).toNat) ++ (a0.extract ((t276.size : Int) : Int).toNat (t280 : Int).toNat))] (by rfl) rfl rfl eq_ ?_
                 with_reducible refine (keyeventref01_Decode.calls kj4 (((⟨#[65,65]⟩ : ByteArray).extract 0 (t279 : Int).toNat) ++ (a0.extract ((t276.size : Int) : Int).toNat (t280 : Int).toNat)) t281 t282 _ A23.out).mono ?_
                 rintro e w47 ⟨rfl, hb⟩
                 refine ⟨_, rfl, ?_⟩
                 replace BK275 := Aside0.mk (blk_below (g := gb275) (o := .cells #[.int .i64 x276000_1, .string x276001_1] 27 (0, 0)) (bq BK275.out) hb)
                 replace HB := Aside0.mk (below_step (hq1 HB.out GE275.out) hb)
                 (try clear hb)
                 refine hK.out _ _ trivial (fun hHeld => ?_)
                 clear hK K
                 refine norm_ (a' := ?_) (show Act.put _ (some 51) _ = _ from pp) ?_
                 refine pure_ (i := 10) (N := some 41) (v := ?_) (a' := ?_) #[true,true,true,true,true,true,true,true,true,true,true,false,false,false,false] rfl rfl (any_of HT_.out (by kernel_rfl)) (fun _ _ _ h => h) (Or.inl ⟨by rfl, pv⟩) pp ?_
                 refine pure_ (i := 11) (N := some 52) (v := ?_) (a' := ?_) #[true,true,true,true,true,true,true,true,true,true,true,true,false,false,false] rfl rfl (any_of HT_.out (by kernel_rfl)) (fun _ _ _ h => h) (Or.inl ⟨by rfl, pv⟩) pp ?_
                 refine pure_ (i := 12) (N := some 53) (v := ?_) (a' := ?_) #[true,true,true,true,true,true,true,true,true,true,true,true,true,false,false] rfl rfl (any_of HT_.out (by kernel_rfl)) (fun _ _ _ h => h) (Or.inl ⟨by rfl, pv⟩) pp ?_
                 refine pure_ (i := 13) (N := some 9) (v := ?_) (a' := ?_) #[true,true,true,true,true,true,true,true,true,true,true,true,true,true,false] rfl rfl (any_of HT_.out (by kernel_rfl)) (fun _ _ _ h => h) (Or.inl ⟨by rfl, pv⟩) pp ?_
                 refine pure_ (i := 14) (N := some 10) (v := ?_) (a' := ?_) #[true,true,true,true,true,true,true,true,true,true,true,true,true,true,true] rfl rfl (any_of HT_.out (by kernel_rfl)) (fun _ _ _ h => h) (Or.inl ⟨by rfl, pv⟩) pp ?_
                 refine done_ (done_of HT_.out (by kernel_rfl)) ?_
                 try go_wp2
                 replace BK275 := Aside0.mk (blk_drew BK275.out)
                 replace HB := Aside0.mk (below_drew1 HB.out)
                 refine start_ (n := 10) (S := fun w' => True) (ds := []) #[false,false,false,false,false,false,false,false,false,false] (by kernel_rfl) rfl rfl trivial (fun hHeld => ?_); refine with_tabW keyeventref03_Decode.tab10 keyeventref03_Decode.bits10 (fun HT_ HW_ => ?_)
                 generalize w47.drew = w48 at BK275 HB hHeld ⊢
                 refine pure_ (i := 0) (N := some 54) (v := ?_) (a' := ?_) #[true,false,false,false,false,false,false,false,false,false] rfl rfl (any_of HT_.out (by kernel_rfl)) (fun _ _ _ h => h) (Or.inl ⟨by rfl, pv⟩) pp ?_
                 refine pure_ (i := 1) (N := some 55) (v := ?_) (a' := ?_) #[true,true,false,false,false,false,false,false,false,false] rfl rfl (any_of HT_.out (by kernel_rfl)) (fun _ _ _ h => h) (Or.inl ⟨by rfl, pv⟩) pp ?_
                 refine pure_ (i := 2) (N := some 56) (v := ?_) (a' := ?_) #[true,true,true,false,false,false,false,false,false,false] rfl rfl (any_of HT_.out (by kernel_rfl)) (fun _ _ _ h => h) (Or.inl ⟨by rfl, pv⟩) pp ?_
                 refine pure_ (i := 3) (N := some 57) (v := ?_) (a' := ?_) #[true,true,true,true,false,false,false,false,false,false] rfl rfl (any_of HT_.out (by kernel_rfl)) (fun _ _ _ h => h) (Or.inl ⟨by rfl, pv⟩) pp ?_
                 refine pure_ (i := 4) (N := some 58) (v := ?_) (a' := ?_) #[true,true,true,true,true,false,false,false,false,false] rfl rfl (any_of HT_.out (by kernel_rfl)) (fun _ _ _ h => h) (Or.inl ⟨by rfl, pv⟩) pp ?_
                 refine pure_ (i := 5) (N := some 59) (v := ?_) (a' := ?_) #[true,true,true,true,true,true,false,false,false,false] rfl rfl (any_of HT_.out (by kernel_rfl)) (fun _ _ _ h => h) (Or.inl ⟨by rfl, pv⟩) pp ?_
                 refine pure_ (i := 6) (N := some 60) (v := ?_) (a' := ?_) #[true,true,true,true,true,true,true,false,false,false] rfl rfl (any_of HT_.out (by kernel_rfl)) (fun _ _ _ h => h) (Or.inl ⟨by rfl, pv⟩) pp ?_
                 refine pure_ (i := 7) (N := some 61) (v := ?_) (a' := ?_) #[true,true,true,true,true,true,true,true,false,false] rfl rfl (any_of HT_.out (by kernel_rfl)) (fun _ _ _ h => h) (Or.inl ⟨by rfl, pv⟩) pp ?_
                 refine pure_ (i := 8) (N := some 62) (v := ?_) (a' := ?_) #[true,true,true,true,true,true,true,true,true,false] rfl rfl (any_of HT_.out (by kernel_rfl)) (fun _ _ _ h => h) (Or.inl ⟨by rfl, pv⟩) pp ?_
                 refine pure_ (i := 9) (N := some 63) (v := ?_) (a' := ?_) #[true,true,true,true,true,true,true,true,true,true] rfl rfl (any_of HT_.out (by kernel_rfl)) (fun _ _ _ h => h) (Or.inl ⟨by rfl, pv⟩) pp ?_
                 refine done_ (done_of HT_.out (by kernel_rfl)) ?_
                 have hcz49_0 : w48.cell? ⟨gb275, 0, none⟩ = some (.int .i64 x276000_1) := (blk_cell BK275.out 0).trans rfl
                 have hcz49_1 : w48.cell? ⟨gb275, 1, none⟩ = some (.string x276001_1) := (blk_cell BK275.out 1).trans rfl
                 have hfz49_0 := blk_frozen BK275.out 0
                 have hfz49_1 := blk_frozen BK275.out 1
                 try go_wp2
                 refine bodyPost_ret (results_ctt rfl _ _ gb275 27 #[.int .i64 0, .string (⟨#[]⟩ : ByteArray)] (0, 0) _ rfl (by (with_reducible repeat (first | refine blk_drewN ?_ _ | refine blk_drew ?_ | refine blk_alloc ?_ _)); refine blk_put (cs := #[.int .i64 0, .string x276001_1]) ?_ 1 _ rfl; (with_reducible repeat (first | refine blk_drewN ?_ _ | refine blk_drew ?_ | refine blk_alloc ?_ _)); refine blk_put (cs := #[.int .i64 x276000_1, .string x276001_1]) ?_ 0 _ rfl; (with_reducible repeat (first | refine blk_drewN ?_ _ | refine blk_drew ?_ | refine blk_alloc ?_ _)); exact BK275.out) Try.underlying27 rfl (by kernel_rfl)) rfl ?_
                 exact ⟨rq_, hq1 HB.out GE275.out⟩
               ·rw [if_neg c26] at H
                exact absurd H (by simp)
              ·rw [if_neg c24] at H
               have c24b0 : (t282 == 0) = false := beq_eq_false_iff_ne.mpr c24
               have c24b1 : (t282 != 0) = true := bne_iff_ne.mpr c24
               simp only [Option.some.injEq, Prod.mk.injEq] at H
               obtain ⟨rfl, rfl, rfl, rfl⟩ := H
               try go_wp2_with (first | ((with_reducible refine gate_callee (f := 72) rfl ?_); refine goesL_ (some 36) rfl rfl Try.func72 (by kernel_rfl) rfl #[.int .i64 x5_1] rfl eq_ ?_; (with_reducible refine (keyeventref03_Size.calls x5_1 t278 _ A11.out).mono ?_); rintro e w50 ⟨rfl, hb⟩; refine ⟨_, rfl, ?_⟩; replace BK275 := Aside0.mk (blk_below (g := gb275) (o := .cells #[.int .i64 x276000_1, .string x276001_1] 27 (0, 0)) (bq BK275.out) hb); replace HB := Aside0.mk (below_step (hq1 HB.out GE275.out) hb); (try clear hb)) | ((with_reducible refine gate_callee (f := 56) rfl ?_); refine goesL_ (some 40) rfl rfl Try.func56 (by kernel_rfl) rfl #[.int .i64 x5_1] rfl eq_ ?_; (with_reducible refine (keyeventref03_lead.calls x5_1 t279 _ A15.out).mono ?_); rintro e w51 ⟨rfl, hb⟩; refine ⟨_, rfl, ?_⟩; replace BK275 := Aside0.mk (blk_below (g := gb275) (o := .cells #[.int .i64 x276000_1, .string x276001_1] 27 (0, 0)) (bq BK275.out) hb); replace HB := Aside0.mk (below_step (hq1 HB.out GE275.out) hb); (try clear hb)))
               replace BK275 := Aside0.mk (blk_drew BK275.out)
               replace HB := Aside0.mk (below_drew1 HB.out)
               refine start_ (n := 15) (S := fun w' => True) (ds := []) #[false,false,false,false,false,false,false,false,false,false,false,false,false,false,false] (by kernel_rfl) rfl rfl trivial (fun hHeld => ?_); refine with_tabW keyeventref03_Decode.tab9 keyeventref03_Decode.bits9 (fun HT_ HW_ => ?_)
               generalize w51.drew = w52 at BK275 HB hHeld ⊢
               refine pure_ (i := 0) (N := some 42) (v := ?_) (a' := ?_) #[true,false,false,false,false,false,false,false,false,false,false,false,false,false,false] rfl rfl (any_of HT_.out (by kernel_rfl)) (fun _ _ _ h => h) (Or.inl ⟨by rfl, pv⟩) pp ?_
               refine pure_ (i := 1) (N := some 43) (v := ?_) (a' := ?_) #[true,true,false,false,false,false,false,false,false,false,false,false,false,false,false] rfl rfl (any_of HT_.out (by kernel_rfl)) (fun _ _ _ h => h) (Or.inl ⟨by rfl, pv⟩) pp ?_
               refine pure_ (i := 2) (N := some 44) (v := ?_) (a' := ?_) #[true,true,true,false,false,false,false,false,false,false,false,false,false,false,false] rfl rfl (any_of HT_.out (by kernel_rfl)) (fun _ _ _ h => h) (Or.inl ⟨by rfl, pv⟩) pp ?_
               refine pure_ (i := 3) (N := some 45) (v := ?_) (a' := ?_) #[true,true,true,true,false,false,false,false,false,false,false,false,false,false,false] rfl rfl (any_of HT_.out (by kernel_rfl)) (fun _ _ _ h => h) (Or.inl ⟨by rfl, pv⟩) pp ?_
               refine pure_ (i := 4) (N := some 46) (v := ?_) (a' := ?_) #[true,true,true,true,true,false,false,false,false,false,false,false,false,false,false] rfl rfl (any_of HT_.out (by kernel_rfl)) (fun _ _ _ h => h) (Or.inl ⟨by rfl, pv⟩) pp ?_
               refine pure_ (i := 5) (N := some 47) (v := ?_) (a' := ?_) #[true,true,true,true,true,true,false,false,false,false,false,false,false,false,false] rfl rfl (any_of HT_.out (by kernel_rfl)) (fun _ _ _ h => h) (Or.inl ⟨by rfl, pv⟩) pp ?_
               refine one_ (i := 6) (N := some 48) #[true,true,true,true,true,true,true,false,false,false,false,false,false,false,false] rfl rfl (one_of HT_.out (by kernel_rfl)) (by decide) (fun K hK => ?_)
               refine goes_ Try.func72 (by kernel_rfl) rfl #[.int .i64 x5_1] (by rfl) rfl rfl eq_ ?_
               with_reducible refine (keyeventref03_Size.calls x5_1 t280 _ A18.out).mono ?_
               rintro e w53 ⟨rfl, hb⟩
               refine ⟨_, rfl, ?_⟩
               replace BK275 := Aside0.mk (blk_below (g := gb275) (o := .cells #[.int .i64 x276000_1, .string x276001_1] 27 (0, 0)) (bq BK275.out) hb)
               replace HB := Aside0.mk (below_step (hq1 HB.out GE275.out) hb)
               (try clear hb)
               refine hK.out _ _ trivial (fun hHeld => ?_)
               clear hK K
               refine norm_ (a' := ?_) (show Act.put _ (some 48) _ = _ from pp) ?_
               refine pure_ (i := 7) (N := some 49) (v := ?_) (a' := ?_) #[true,true,true,true,true,true,true,true,false,false,false,false,false,false,false] rfl rfl (any_of HT_.out (by kernel_rfl)) (fun _ _ _ h => h) (Or.inl ⟨by rfl, pv⟩) pp ?_
               refine pure_ (i := 8) (N := some 50) (v := ?_) (a' := ?_) #[true,true,true,true,true,true,true,true,true,false,false,false,false,false,false] rfl rfl (any_of HT_.out (by kernel_rfl)) (fun _ _ _ h => h) (Or.inl ⟨by rfl, pv⟩) pp ?_
               refine one_ (i := 9) (N := some 51) #[true,true,true,true,true,true,true,true,true,true,false,false,false,false,false] rfl rfl (one_of HT_.out (by kernel_rfl)) (by decide) (fun K hK => ?_)
               refine goes_ Try.func63 (by kernel_rfl) rfl #[.string (((⟨#[65,65]⟩ : ByteArray).extract 0 (t279 : Int).toNat) ++ (a0.extract ((t276.size : Int) : Int).toNat (t280 : Int).toNat))] (by rfl) rfl rfl eq_ ?_
               with_reducible refine (keyeventref01_Decode.calls kj4 (((⟨#[65,65]⟩ : ByteArray).extract 0 (t279 : Int).toNat) ++ (a0.extract ((t276.size : Int) : Int).toNat (t280 : Int).toNat)) t281 t282 _ A23.out).mono ?_
               rintro e w54 ⟨rfl, hb⟩
               refine ⟨_, rfl, ?_⟩
               replace BK275 := Aside0.mk (blk_below (g := gb275) (o := .cells #[.int .i64 x276000_1, .string x276001_1] 27 (0, 0)) (bq BK275.out) hb)
               replace HB := Aside0.mk (below_step (hq1 HB.out GE275.out) hb)
               (try clear hb)
               refine hK.out _ _ trivial (fun hHeld => ?_)
               clear hK K
               refine norm_ (a' := ?_) (show Act.put _ (some 51) _ = _ from pp) ?_
               refine pure_ (i := 10) (N := some 41) (v := ?_) (a' := ?_) #[true,true,true,true,true,true,true,true,true,true,true,false,false,false,false] rfl rfl (any_of HT_.out (by kernel_rfl)) (fun _ _ _ h => h) (Or.inl ⟨by rfl, pv⟩) pp ?_
               refine pure_ (i := 11) (N := some 52) (v := ?_) (a' := ?_) #[true,true,true,true,true,true,true,true,true,true,true,true,false,false,false] rfl rfl (any_of HT_.out (by kernel_rfl)) (fun _ _ _ h => h) (Or.inl ⟨by rfl, pv⟩) pp ?_
               refine pure_ (i := 12) (N := some 53) (v := ?_) (a' := ?_) #[true,true,true,true,true,true,true,true,true,true,true,true,true,false,false] rfl rfl (any_of HT_.out (by kernel_rfl)) (fun _ _ _ h => h) (Or.inl ⟨by rfl, pv⟩) pp ?_
               refine pure_ (i := 13) (N := some 9) (v := ?_) (a' := ?_) #[true,true,true,true,true,true,true,true,true,true,true,true,true,true,false] rfl rfl (any_of HT_.out (by kernel_rfl)) (fun _ _ _ h => h) (Or.inl ⟨by rfl, pv⟩) pp ?_
               refine pure_ (i := 14) (N := some 10) (v := ?_) (a' := ?_) #[true,true,true,true,true,true,true,true,true,true,true,true,true,true,true] rfl rfl (any_of HT_.out (by kernel_rfl)) (fun _ _ _ h => h) (Or.inl ⟨by rfl, pv⟩) pp ?_
               refine done_ (done_of HT_.out (by kernel_rfl)) ?_
               try go_wp2
               replace BK275 := Aside0.mk (blk_drew BK275.out)
               replace HB := Aside0.mk (below_drew1 HB.out)
               refine start_ (n := 10) (S := fun w' => True) (ds := []) #[false,false,false,false,false,false,false,false,false,false] (by kernel_rfl) rfl rfl trivial (fun hHeld => ?_); refine with_tabW keyeventref03_Decode.tab10 keyeventref03_Decode.bits10 (fun HT_ HW_ => ?_)
               generalize w54.drew = w55 at BK275 HB hHeld ⊢
               refine pure_ (i := 0) (N := some 54) (v := ?_) (a' := ?_) #[true,false,false,false,false,false,false,false,false,false] rfl rfl (any_of HT_.out (by kernel_rfl)) (fun _ _ _ h => h) (Or.inl ⟨by rfl, pv⟩) pp ?_
               refine pure_ (i := 1) (N := some 55) (v := ?_) (a' := ?_) #[true,true,false,false,false,false,false,false,false,false] rfl rfl (any_of HT_.out (by kernel_rfl)) (fun _ _ _ h => h) (Or.inl ⟨by rfl, pv⟩) pp ?_
               refine pure_ (i := 2) (N := some 56) (v := ?_) (a' := ?_) #[true,true,true,false,false,false,false,false,false,false] rfl rfl (any_of HT_.out (by kernel_rfl)) (fun _ _ _ h => h) (Or.inl ⟨by rfl, pv⟩) pp ?_
               refine pure_ (i := 3) (N := some 57) (v := undef) (a' := ?_) #[true,true,true,true,false,false,false,false,false,false] rfl rfl (any_of HT_.out (by kernel_rfl)) (fun _ _ _ h => h) (Or.inr ⟨by rfl, rfl⟩) ?_ ?_
               rotate_left
               ·simp only [Act.put, List.setIfInBounds_toArray, List.set_cons_zero, List.set_cons_succ, i64_w, i32_w]
                rfl
               refine pure_ (i := 4) (N := some 58) (v := undef) (a' := ?_) #[true,true,true,true,true,false,false,false,false,false] rfl rfl (any_of HT_.out (by kernel_rfl)) (fun _ _ _ h => h) (Or.inr ⟨by rfl, rfl⟩) ?_ ?_
               rotate_left
               ·simp only [Act.put, List.setIfInBounds_toArray, List.set_cons_zero, List.set_cons_succ, i64_w, i32_w]
                rfl
               refine pure_ (i := 5) (N := some 59) (v := undef) (a' := ?_) #[true,true,true,true,true,true,false,false,false,false] rfl rfl (any_of HT_.out (by kernel_rfl)) (fun _ _ _ h => h) (Or.inr ⟨by rfl, rfl⟩) ?_ ?_
               rotate_left
               ·simp only [Act.put, List.setIfInBounds_toArray, List.set_cons_zero, List.set_cons_succ, i64_w, i32_w]
                rfl
               refine pure_ (i := 6) (N := some 60) (v := undef) (a' := ?_) #[true,true,true,true,true,true,true,false,false,false] rfl rfl (any_of HT_.out (by kernel_rfl)) (fun _ _ _ h => h) (Or.inr ⟨by rfl, rfl⟩) ?_ ?_
               rotate_left
               ·simp only [Act.put, List.setIfInBounds_toArray, List.set_cons_zero, List.set_cons_succ, i64_w, i32_w]
                rfl
               refine pure_ (i := 7) (N := some 61) (v := undef) (a' := ?_) #[true,true,true,true,true,true,true,true,false,false] rfl rfl (any_of HT_.out (by kernel_rfl)) (fun _ _ _ h => h) (Or.inr ⟨by rfl, rfl⟩) ?_ ?_
               rotate_left
               ·simp only [Act.put, List.setIfInBounds_toArray, List.set_cons_zero, List.set_cons_succ, i64_w, i32_w]
                rfl
               refine pure_ (i := 8) (N := some 62) (v := undef) (a' := ?_) #[true,true,true,true,true,true,true,true,true,false] rfl rfl (any_of HT_.out (by kernel_rfl)) (fun _ _ _ h => h) (Or.inr ⟨by rfl, rfl⟩) ?_ ?_
               rotate_left
               ·simp only [Act.put, List.setIfInBounds_toArray, List.set_cons_zero, List.set_cons_succ, i64_w, i32_w]
                rfl
               refine pure_ (i := 9) (N := some 63) (v := ?_) (a' := ?_) #[true,true,true,true,true,true,true,true,true,true] rfl rfl (any_of HT_.out (by kernel_rfl)) (fun _ _ _ h => h) (Or.inl ⟨by rfl, pv⟩) pp ?_
               refine done_ (done_of HT_.out (by kernel_rfl)) ?_
               have hcz56_0 : w55.cell? ⟨gb275, 0, none⟩ = some (.int .i64 x276000_1) := (blk_cell BK275.out 0).trans rfl
               have hcz56_1 : w55.cell? ⟨gb275, 1, none⟩ = some (.string x276001_1) := (blk_cell BK275.out 1).trans rfl
               have hfz56_0 := blk_frozen BK275.out 0
               have hfz56_1 := blk_frozen BK275.out 1
               try go_wp2
               refine bodyPost_ret (results_ctt rfl _ _ gb275 27 #[.int .i64 0, .string (⟨#[]⟩ : ByteArray)] (0, 0) _ rfl (by (with_reducible repeat (first | refine blk_drewN ?_ _ | refine blk_drew ?_ | refine blk_alloc ?_ _)); refine blk_put (cs := #[.int .i64 0, .string x276001_1]) ?_ 1 _ rfl; (with_reducible repeat (first | refine blk_drewN ?_ _ | refine blk_drew ?_ | refine blk_alloc ?_ _)); refine blk_put (cs := #[.int .i64 x276000_1, .string x276001_1]) ?_ 0 _ rfl; (with_reducible repeat (first | refine blk_drewN ?_ _ | refine blk_drew ?_ | refine blk_alloc ?_ _)); exact BK275.out) Try.underlying27 rfl (by kernel_rfl)) rfl ?_
               exact ⟨rq_, hq1 HB.out GE275.out⟩
             ·rw [if_neg c22] at H
              exact absurd H (by simp)
            ·rw [if_neg c21] at H
             exact absurd H (by simp)
           ·rw [if_neg c20] at H
            exact absurd H (by simp)
          ·rw [if_neg c19] at H
           exact absurd H (by simp)
         ·rw [if_neg c17] at H
          exact absurd H (by simp)
        ·rw [if_neg c16] at H
         exact absurd H (by simp)
   ·rw [if_neg c3] at H
    have c3b0 := decide_eq_false c3
    clear c3
    simp only [Option.some.injEq, Prod.mk.injEq] at H
    obtain ⟨rfl, rfl, rfl, rfl⟩ := H
    have hcz57_0 : wr.cell? ⟨gb275, 0, none⟩ = some (.int .i64 x276000_1) := (blk_cell BK275.out 0).trans rfl
    have hcz57_1 : wr.cell? ⟨gb275, 1, none⟩ = some (.string x276001_1) := (blk_cell BK275.out 1).trans rfl
    have hfz57_0 := blk_frozen BK275.out 0
    have hfz57_1 := blk_frozen BK275.out 1
    go_wp2
    refine bodyPost_ret (results_ctt rfl _ _ gb275 27 #[.int .i64 0, .string (⟨#[]⟩ : ByteArray)] (0, 0) _ rfl (by (with_reducible repeat (first | refine blk_drewN ?_ _ | refine blk_drew ?_ | refine blk_alloc ?_ _)); refine blk_put (cs := #[.int .i64 0, .string x276001_1]) ?_ 1 _ rfl; (with_reducible repeat (first | refine blk_drewN ?_ _ | refine blk_drew ?_ | refine blk_alloc ?_ _)); refine blk_put (cs := #[.int .i64 x276000_1, .string x276001_1]) ?_ 0 _ rfl; (with_reducible repeat (first | refine blk_drewN ?_ _ | refine blk_drew ?_ | refine blk_alloc ?_ _)); exact BK275.out) Try.underlying27 rfl (by kernel_rfl)) rfl ?_
    exact ⟨rq_, hq1 HB.out GE275.out⟩

end Go.Proofs.Ytookjdhfpbmjkaa.X
