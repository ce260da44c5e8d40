-- Written by xprint.py, a program of this repo that leads the kit's print.py: Lean checks it.
import Derived.Test.YtookjdhfpbmjkaaX0
import Derived.Test.YtookjdhfpbmjkaaX6
import Derived.Test.YtookjdhfpbmjkaaX15
import Derived.Test.YtookjdhfpbmjkaaX16
namespace Go.Proofs.Ytookjdhfpbmjkaa.X
open Go.RowKit Go.Proofs.YtookjdhfpbmjkaaW.PrintWords Go.Proofs.YtookjdhfpbmjkaaW.PrintLast Go.Proofs.YtookjdhfpbmjkaaW.PrintMore
attribute [local go_sem] max2_int min2_int max_two min_two max_three min_three max_four min_four   -- for this text's walks alone
set_option linter.unusedVariables false
set_option linter.unusedSimpArgs false

/-! ### keyeventref04_Group: function 38 -/
mutual
def keyeventref04_Group.j0 : Nat → ByteArray → Bool → Int → Option (Int × (List (S27)) × ByteArray × Int)
  | 0, _, _, _ => none
  | k + 1, x0, x21, x286000 => if x21 = true then (some (x286000, ([] : List (S27)), (⟨#[]⟩ : ByteArray), 4)) else (keyeventref04_Group.l0 k x0 1 x286000)
def keyeventref04_Group.l0 : Nat → ByteArray → Int → Int → Option (Int × (List (S27)) × ByteArray × Int)
  | 0, _, _, _ => none
  | k + 1, x0, x6, x286000 => if x6 < 5 then (if 0 ≤ x6 then (if 1 < (x0.size : Int) then (if (bt (⟨#[63,65,66,67,71]⟩ : ByteArray) x6) = (bt x0 1) then (keyeventref04_Group.l0 k x0 (wrap64 (x6 + 1)) x6) else (keyeventref04_Group.l0 k x0 (wrap64 (x6 + 1)) x286000)) else (none)) else (none)) else (if 2 ≤ 4 then (if 4 ≤ (x0.size : Int) then ((keyeventref01_Parse.f k (x0.extract 2 4)).bind fun bt286 => (if x286000 = 0 then (keyeventref04_Group.j2 k x0 bt286.1 true x286000) else (keyeventref04_Group.j2 k x0 bt286.1 (bt286.2 != 0) x286000))) else (none)) else (none))
def keyeventref04_Group.j2 : Nat → ByteArray → Int → Bool → Int → Option (Int × (List (S27)) × ByteArray × Int)
  | 0, _, _, _, _ => none
  | k + 1, x0, x7, x46, x286000 => if x46 = true then (some (x286000, ([] : List (S27)), (⟨#[]⟩ : ByteArray), 4)) else (if 4 ≤ (x0.size : Int) then (keyeventref04_Group.l1 k (x0.extract 4 x0.size) x7 0 x286000 ([] : List (S27))) else (none))
def keyeventref04_Group.l1 : Nat → ByteArray → Int → Int → Int → List (S27) → Option (Int × (List (S27)) × ByteArray × Int)
  | 0, _, _, _, _, _ => none
  | k + 1, x0, x50, x51, x286000, x286001 => if x51 < x50 then ((keyeventref04_Permitted.f k x286000).bind fun t288 => (keyeventref04_Group.l2 k x0 x50 x51 t288 (t288.length : Int) 0 x286000 x286001)) else (some (x286000, x286001, x0, 0))
def keyeventref04_Group.l2 : Nat → ByteArray → Int → Int → List Int → Int → Int → Int → List (S27) → Option (Int × (List (S27)) × ByteArray × Int)
  | 0, _, _, _, _, _, _, _, _ => none
  | k + 1, x0, x50, x51, x55, x56, x57, x286000, x286001 => if x57 < x56 then (if 0 ≤ x57 then (if x57 < (x55.length : Int) then ((keyeventref03_Decode.f k x0).bind fun bt292 => (if bt292.2.2.2 = 0 then (if bt292.1 = (rd x55 x57) then (if x286001.length < 5864062014805 then (if 0 ≤ bt292.2.2.1 then (if bt292.2.2.1 ≤ (x0.size : Int) then (keyeventref04_Group.l2 k (x0.extract (bt292.2.2.1 : Int).toNat x0.size) x50 x51 x55 x56 (wrap64 (x57 + 1)) x286000 (x286001 ++ [(⟨bt292.1, bt292.2.1⟩ : S27)])) else (none)) else (none)) else (none)) else (some (x286000, x286001, (⟨#[]⟩ : ByteArray), 7))) else (some (x286000, x286001, (⟨#[]⟩ : ByteArray), bt292.2.2.2)))) else (none)) else (none)) else (keyeventref04_Group.l1 k x0 x50 (wrap64 (x51 + 1)) x286000 x286001)
end
def keyeventref04_Group.f (k : Nat) (a0 : ByteArray) : Option (Int × (List (S27)) × ByteArray × Int) := if (a0.size : Int) < 4 then (keyeventref04_Group.j0 k a0 true 0) else (if 0 < (a0.size : Int) then (keyeventref04_Group.j0 k a0 ((bt a0 0) != 45) 0) else (none))
theorem keyeventref04_Group.mono_l : ∀ k, (∀ y0 y1 y2, LeO (keyeventref04_Group.j0 k y0 y1 y2) (keyeventref04_Group.j0 (k + 1) y0 y1 y2)) ∧ (∀ y0 y1 y2, LeO (keyeventref04_Group.l0 k y0 y1 y2) (keyeventref04_Group.l0 (k + 1) y0 y1 y2)) ∧ (∀ y0 y1 y2 y3, LeO (keyeventref04_Group.j2 k y0 y1 y2 y3) (keyeventref04_Group.j2 (k + 1) y0 y1 y2 y3)) ∧ (∀ y0 y1 y2 y3 y4, LeO (keyeventref04_Group.l1 k y0 y1 y2 y3 y4) (keyeventref04_Group.l1 (k + 1) y0 y1 y2 y3 y4)) ∧ (∀ y0 y1 y2 y3 y4 y5 y6 y7, LeO (keyeventref04_Group.l2 k y0 y1 y2 y3 y4 y5 y6 y7) (keyeventref04_Group.l2 (k + 1) y0 y1 y2 y3 y4 y5 y6 y7))
  | 0 => ⟨fun _ _ _ r h => by simp [keyeventref04_Group.j0] at h, fun _ _ _ r h => by simp [keyeventref04_Group.l0] at h, fun _ _ _ _ r h => by simp [keyeventref04_Group.j2] at h, fun _ _ _ _ _ r h => by simp [keyeventref04_Group.l1] at h, fun _ _ _ _ _ _ _ _ r h => by simp [keyeventref04_Group.l2] at h⟩
  | k + 1 => by
    obtain ⟨ih0, ih1, ih2, ih3, ih4⟩ := keyeventref04_Group.mono_l k
    refine ⟨?_, ?_, ?_, ?_, ?_⟩
    · intro y0 y1 y2
      unfold keyeventref04_Group.j0
      repeat' first
      | (with_reducible exact ih0 _ _ _)
      | (with_reducible exact ih1 _ _ _)
      | (with_reducible exact ih2 _ _ _ _)
      | (with_reducible exact ih3 _ _ _ _ _)
      | (with_reducible exact ih4 _ _ _ _ _ _ _ _)
      | (with_reducible exact keyeventref01_Parse.mono _ _)
      | (with_reducible exact keyeventref03_Decode.mono _ _)
      | (with_reducible exact keyeventref04_Permitted.mono _ _)
      | (with_reducible exact LeO.refl _)
      | (with_reducible exact LeO.none _)
      | (with_reducible refine LeO.ite ?_ ?_)
      | (with_reducible refine LeO.bind ?_ (fun _ => ?_))
      | exact ih0 _ _ _
      | exact ih1 _ _ _
      | exact ih2 _ _ _ _
      | exact ih3 _ _ _ _ _
      | exact ih4 _ _ _ _ _ _ _ _
      | exact keyeventref01_Parse.mono _ _
      | exact keyeventref03_Decode.mono _ _
      | exact keyeventref04_Permitted.mono _ _
      | exact LeO.none _
      | refine LeO.ite ?_ ?_
      | refine LeO.bind ?_ (fun _ => ?_)
    · intro y0 y1 y2
      unfold keyeventref04_Group.l0
      repeat' first
      | (with_reducible exact ih0 _ _ _)
      | (with_reducible exact ih1 _ _ _)
      | (with_reducible exact ih2 _ _ _ _)
      | (with_reducible exact ih3 _ _ _ _ _)
      | (with_reducible exact ih4 _ _ _ _ _ _ _ _)
      | (with_reducible exact keyeventref01_Parse.mono _ _)
      | (with_reducible exact keyeventref03_Decode.mono _ _)
      | (with_reducible exact keyeventref04_Permitted.mono _ _)
      | (with_reducible exact LeO.refl _)
      | (with_reducible exact LeO.none _)
      | (with_reducible refine LeO.ite ?_ ?_)
      | (with_reducible refine LeO.bind ?_ (fun _ => ?_))
      | exact ih0 _ _ _
      | exact ih1 _ _ _
      | exact ih2 _ _ _ _
      | exact ih3 _ _ _ _ _
      | exact ih4 _ _ _ _ _ _ _ _
      | exact keyeventref01_Parse.mono _ _
      | exact keyeventref03_Decode.mono _ _
      | exact keyeventref04_Permitted.mono _ _
      | exact LeO.none _
      | refine LeO.ite ?_ ?_
      | refine LeO.bind ?_ (fun _ => ?_)
    · intro y0 y1 y2 y3
      unfold keyeventref04_Group.j2
      repeat' first
      | (with_reducible exact ih0 _ _ _)
      | (with_reducible exact ih1 _ _ _)
      | (with_reducible exact ih2 _ _ _ _)
      | (with_reducible exact ih3 _ _ _ _ _)
      | (with_reducible exact ih4 _ _ _ _ _ _ _ _)
      | (with_reducible exact keyeventref01_Parse.mono _ _)
      | (with_reducible exact keyeventref03_Decode.mono _ _)
      | (with_reducible exact keyeventref04_Permitted.mono _ _)
      | (with_reducible exact LeO.refl _)
      | (with_reducible exact LeO.none _)
      | (with_reducible refine LeO.ite ?_ ?_)
      | (with_reducible refine LeO.bind ?_ (fun _ => ?_))
      | exact ih0 _ _ _
      | exact ih1 _ _ _
      | exact ih2 _ _ _ _
      | exact ih3 _ _ _ _ _
      | exact ih4 _ _ _ _ _ _ _ _
      | exact keyeventref01_Parse.mono _ _
      | exact keyeventref03_Decode.mono _ _
      | exact keyeventref04_Permitted.mono _ _
      | exact LeO.none _
      | refine LeO.ite ?_ ?_
      | refine LeO.bind ?_ (fun _ => ?_)
    · intro y0 y1 y2 y3 y4
      unfold keyeventref04_Group.l1
      repeat' first
      | (with_reducible exact ih0 _ _ _)
      | (with_reducible exact ih1 _ _ _)
      | (with_reducible exact ih2 _ _ _ _)
      | (with_reducible exact ih3 _ _ _ _ _)
      | (with_reducible exact ih4 _ _ _ _ _ _ _ _)
      | (with_reducible exact keyeventref01_Parse.mono _ _)
      | (with_reducible exact keyeventref03_Decode.mono _ _)
      | (with_reducible exact keyeventref04_Permitted.mono _ _)
      | (with_reducible exact LeO.refl _)
      | (with_reducible exact LeO.none _)
      | (with_reducible refine LeO.ite ?_ ?_)
      | (with_reducible refine LeO.bind ?_ (fun _ => ?_))
      | exact ih0 _ _ _
      | exact ih1 _ _ _
      | exact ih2 _ _ _ _
      | exact ih3 _ _ _ _ _
      | exact ih4 _ _ _ _ _ _ _ _
      | exact keyeventref01_Parse.mono _ _
      | exact keyeventref03_Decode.mono _ _
      | exact keyeventref04_Permitted.mono _ _
      | exact LeO.none _
      | refine LeO.ite ?_ ?_
      | refine LeO.bind ?_ (fun _ => ?_)
    · intro y0 y1 y2 y3 y4 y5 y6 y7
      unfold keyeventref04_Group.l2
      repeat' first
      | (with_reducible exact ih0 _ _ _)
      | (with_reducible exact ih1 _ _ _)
      | (with_reducible exact ih2 _ _ _ _)
      | (with_reducible exact ih3 _ _ _ _ _)
      | (with_reducible exact ih4 _ _ _ _ _ _ _ _)
      | (with_reducible exact keyeventref01_Parse.mono _ _)
      | (with_reducible exact keyeventref03_Decode.mono _ _)
      | (with_reducible exact keyeventref04_Permitted.mono _ _)
      | (with_reducible exact LeO.refl _)
      | (with_reducible exact LeO.none _)
      | (with_reducible refine LeO.ite ?_ ?_)
      | (with_reducible refine LeO.bind ?_ (fun _ => ?_))
      | exact ih0 _ _ _
      | exact ih1 _ _ _
      | exact ih2 _ _ _ _
      | exact ih3 _ _ _ _ _
      | exact ih4 _ _ _ _ _ _ _ _
      | exact keyeventref01_Parse.mono _ _
      | exact keyeventref03_Decode.mono _ _
      | exact keyeventref04_Permitted.mono _ _
      | exact LeO.none _
      | refine LeO.ite ?_ ?_
      | refine LeO.bind ?_ (fun _ => ?_)
theorem keyeventref04_Group.mono : ∀ a0 k, LeO (keyeventref04_Group.f k a0) (keyeventref04_Group.f (k + 1) a0) := by
  intro a0 k
  obtain ⟨ih0, ih1, ih2, ih3, ih4⟩ := keyeventref04_Group.mono_l k
  unfold keyeventref04_Group.f
  repeat' first
      | (with_reducible exact ih0 _ _ _)
      | (with_reducible exact ih1 _ _ _)
      | (with_reducible exact ih2 _ _ _ _)
      | (with_reducible exact ih3 _ _ _ _ _)
      | (with_reducible exact ih4 _ _ _ _ _ _ _ _)
      | (with_reducible exact keyeventref01_Parse.mono _ _)
      | (with_reducible exact keyeventref03_Decode.mono _ _)
      | (with_reducible exact keyeventref04_Permitted.mono _ _)
      | (with_reducible exact LeO.refl _)
      | (with_reducible exact LeO.none _)
      | (with_reducible refine LeO.ite ?_ ?_)
      | (with_reducible refine LeO.bind ?_ (fun _ => ?_))
      | exact ih0 _ _ _
      | exact ih1 _ _ _
      | exact ih2 _ _ _ _
      | exact ih3 _ _ _ _ _
      | exact ih4 _ _ _ _ _ _ _ _
      | exact keyeventref01_Parse.mono _ _
      | exact keyeventref03_Decode.mono _ _
      | exact keyeventref04_Permitted.mono _ _
      | exact LeO.none _
      | refine LeO.ite ?_ ?_
      | refine LeO.bind ?_ (fun _ => ?_)
def keyeventref04_Group.T23 : Bool × List (List Nat × List Nat) := (true, [([], []), ([0], [0]), ([], []), ([2], [2]), ([1,3], [1,3]), ([], []), ([], []), ([5,6], [5,6]), ([0,1,2,3,4], []), ([8,4,4,0,1,2,3,4], [4,8]), ([7,9,0,1,2,3,4,5,6,7,8,9], [5,7])])
def keyeventref04_Group.B23 : List Nat := [0,1,0,4,15,0,0,96,31,287,1023]
theorem keyeventref04_Group.tab23 : rtab .any (opsOf Try.f38 23) = keyeventref04_Group.T23 := by kernel_rfl
theorem keyeventref04_Group.bits23 : waitsOk keyeventref04_Group.T23.2 keyeventref04_Group.B23 = true := by kernel_rfl
set_option maxHeartbeats 8000000 in
set_option maxRecDepth 100000 in
theorem keyeventref04_Group.calls (k : Nat) (a0 : ByteArray) (r1 : Int) (r2 : List (S27)) (r3 : ByteArray) (r4 : Int) (w : World) (h : keyeventref04_Group.f k a0 = some (r1, r2, r3, r4)) :
    Calls Try.prog 38 #[.string a0] w fun e w' => ∃ v1_ : Value, e = .returned (.tuple #[.agg #[.int .i64 r1, v1_], .string r3, .int .i64 r4]) ∧ Kd.R k27 27 w' w.heap.size (fun _ => True) v1_ r2 ∧ Below w.heap.size w w' := by
 have hu25 := Try.underlying25
 have hu27 := Try.underlying27
 have HB := Aside0.mk (Below.refl w.heap.size w)
 have H : (if (a0.size : Int) < 4 then (keyeventref04_Group.j0 k a0 true 0) else (if 0 < (a0.size : Int) then (keyeventref04_Group.j0 k a0 ((bt a0 0) != 45) 0) else (none))) = some (r1, r2, r3, r4) := h
 clear h
 have HC2 := Aside0.mk H
 clear H
 go_enter Try.func38, Try.ntmps38
 go_upto_region 2 with (first | ((with_reducible refine gate_dst (N := 2) rfl ?_); refine box_event ?hg (N := 2) ?hd (cs := #[.int .i64 0, .slice none 0 0]) (t := 25) ?hr ?_; (case hd => rfl); (case hg => rfl); (case hr => first | (go_simp; done) | (go_simp; rfl)); intro gb284 hg w3 hbox hb; have BK284 := Aside0.mk (hbox); have GW284 := Aside0.mk ((by rw [hg]; exact (below_size (hq HB.out)) : w.heap.size ≤ gb284)); have GE284 := Aside0.mk ((by rw [hg]; exact (below_size (hq HB.out)) : w.heap.size ≤ gb284)); replace HB := Aside0.mk (below_step (hq HB.out) hb); clear hb hbox hg) | ((with_reducible refine gate_dst (N := 5) rfl ?_); refine box_event ?hg (N := 5) ?hd (cs := #[.int .i64 0, .slice none 0 0]) (t := 25) ?hr ?_; (case hd => rfl); (case hg => rfl); (case hr => first | (go_simp; done) | (go_simp; rfl)); intro gb285 hg w4 hbox hb; have BK285 := Aside0.mk (hbox); have GW285 := Aside0.mk ((by rw [hg]; exact (below_size (hq1 HB.out GE284.out)) : w.heap.size ≤ gb285)); have GE285 := Aside0.mk ((by rw [hg]; exact (below_size (hq1 HB.out GE284.out)) : w.heap.size ≤ gb285)); replace HB := Aside0.mk (below_step (hq1 HB.out GE284.out) hb); have NB284_285 := Aside0.mk ((by rw [hg]; exact Nat.ne_of_lt (blk_lt (g := gb284) (o := .cells #[.int .i64 0, .slice none 0 0] 25 (0, 0)) (bq BK284.out)) : gb284 ≠ gb285)); have NB285_284 := Aside0.mk ((by rw [hg]; exact Nat.ne_of_gt (blk_lt (g := gb284) (o := .cells #[.int .i64 0, .slice none 0 0] 25 (0, 0)) (bq BK284.out)) : gb285 ≠ gb284)); replace BK284 := Aside0.mk (blk_below (g := gb284) (o := .cells #[.int .i64 0, .slice none 0 0] 25 (0, 0)) (bq BK284.out) hb); clear hb hbox hg))
 (try simp only [Act.put, List.setIfInBounds_toArray, List.set_cons_zero, List.set_cons_succ])
 go_cut [21] (fun v21 wc => ∃ (kq : Nat) (x21_1 : Bool), v21 = .bool x21_1 ∧ Aside0 (keyeventref04_Group.j0 kq a0 x21_1 0 = some (r1, r2, r3, r4)) ∧ Aside0 (kq ≤ k) ∧ Aside0 (wc.heap[gb284]? = some (.cells #[.int .i64 0, (.slice none 0 0)] 25 (0, 0))) ∧ Aside0 (wc.heap[gb285]? = some (.cells #[.int .i64 0, (.slice none 0 0)] 25 (0, 0))) ∧ Aside0 (Below w.heap.size w wc))
 case first =>
  have H := HC2.out
  clear HC2
  by_cases c5 : (a0.size : Int) < 4
  ·rw [if_pos c5] at H
   have c5b0 := decide_eq_true c5
   have c5b1 : decide (a0.size < 4) = true := decide_eq_true (by omega)
   clear c5
   (first | rw [c5b0] | (simp only [i64_w, i32_w]; rw [c5b0]) | skip)
   have H' := Aside0.mk H
   clear H
   go_wp2
   go_meet
   case rel => exact ⟨_, (true), dq, H', ⟨by first | omega | exact Nat.le_refl _⟩, ⟨by (with_reducible repeat (first | refine blk_drewN ?_ _ | refine blk_drew ?_ | refine blk_alloc ?_ _)); exact BK284.out⟩, ⟨by (with_reducible repeat (first | refine blk_drewN ?_ _ | refine blk_drew ?_ | refine blk_alloc ?_ _)); exact BK285.out⟩, ⟨hq2 HB.out GE284.out GE285.out⟩⟩
  ·rw [if_neg c5] at H
   have c5b0 := decide_eq_false c5
   have c5b1 : decide (a0.size < 4) = false := decide_eq_false (by omega)
   clear c5
   (first | rw [c5b0] | (simp only [i64_w, i32_w]; rw [c5b0]) | skip)
   by_cases c6 : 0 < (a0.size : Int)
   ·rw [if_pos c6] at H
    have c6b0 := decide_eq_true c6
    have c6b1 : decide (0 < a0.size) = true := decide_eq_true (by omega)
    clear c6
    have H' := Aside0.mk H
    clear H
    have p7 : 0 ≤ (0 : Int) := (by omega)
    have q7 : 0 < a0.size := (by have : (0 : Int) < (a0.size : Int) := of_decide_eq_true aq; omega)
    have hx7 : ∀ h : 0 < a0.size, ((a0[0]'h).toNat : Int) = bt a0 0 := bt_at a0 0
    clear p7
    have qi7 : (0 < (a0.size : Int)) = True := eq_true (of_decide_eq_true aq)
    replace q7 := eq_true q7
    go_wp2
    go_meet
    case rel => exact ⟨_, (((bt a0 0) != 45)), dq, H', ⟨by first | omega | exact Nat.le_refl _⟩, ⟨by (with_reducible repeat (first | refine blk_drewN ?_ _ | refine blk_drew ?_ | refine blk_alloc ?_ _)); exact BK284.out⟩, ⟨by (with_reducible repeat (first | refine blk_drewN ?_ _ | refine blk_drew ?_ | refine blk_alloc ?_ _)); exact BK285.out⟩, ⟨hq2 HB.out GE284.out GE285.out⟩⟩
   ·rw [if_neg c6] at H
    exact absurd H (by simp)
 case rest =>
  clear HC2
  try clear p2
  try clear c3
  try clear c5
  try clear c5b0
  try clear c5b1
  try clear c6
  try clear c6b0
  try clear c6b1
  try clear p7
  try clear q7
  try clear hx7
  try clear qi7
  try clear p7
  try clear q7
  obtain ⟨kq, x21_1, rfl, HA, HJ1, BK284, BK285, HB⟩ := hcut
  cases kq with
  | zero => exact absurd HA.out (by simp [keyeventref04_Group.j0])
  | succ kj1 =>
   have H := HA.out
   clear HA
   simp only [keyeventref04_Group.j0] at H
   by_cases c8 : x21_1 = true
   ·subst c8
    rw [if_pos rfl] at H
    simp only [Option.some.injEq, Prod.mk.injEq] at H
    obtain ⟨rfl, rfl, rfl, rfl⟩ := H
    have hnb9 := NB285_284.out
    have hnc9 := NB284_285.out
    have hcz10_0 : wc.cell? ⟨gb285, 0, none⟩ = some (.int .i64 0) := (blk_cell BK285.out 0).trans rfl
    have hcz10_1 : wc.cell? ⟨gb285, 1, none⟩ = some (.slice none 0 0) := (blk_cell BK285.out 1).trans rfl
    have hfz10_0 := blk_frozen BK285.out 0
    have hfz10_1 := blk_frozen BK285.out 1
    have hcz11_0 : wc.cell? ⟨gb284, 0, none⟩ = some (.int .i64 0) := (blk_cell BK284.out 0).trans rfl
    have hcz11_1 : wc.cell? ⟨gb284, 1, none⟩ = some (.slice none 0 0) := (blk_cell BK284.out 1).trans rfl
    have hfz11_0 := blk_frozen BK284.out 0
    have hfz11_1 := blk_frozen BK284.out 1
    go_wp2
    refine bodyPost_ret (results_ctt rfl _ _ gb284 25 #[.int .i64 0, .slice none 0 0] (0, 0) _ rfl (by (with_reducible repeat (first | refine blk_drewN ?_ _ | refine blk_drew ?_ | refine blk_alloc ?_ _)); refine blk_put (cs := #[.int .i64 0, .slice none 0 0]) ?_ 1 _ rfl; (with_reducible repeat (first | refine blk_drewN ?_ _ | refine blk_drew ?_ | refine blk_alloc ?_ _)); refine blk_put (cs := #[.int .i64 0, .slice none 0 0]) ?_ 0 _ rfl; (with_reducible repeat (first | refine blk_drewN ?_ _ | refine blk_drew ?_ | refine blk_alloc ?_ _)); exact BK284.out) Try.underlying25 rfl (by kernel_rfl)) rfl ?_
    exact ⟨_, rq_, by first | exact Kd.R_nil _ _ _ _ _ | exact Kd.N_nil _ _ _ _ _ | exact Kd.V_nil _ _ _ _ _ | exact Kd.Q_nil _ _ _ _ _ | exact Kd.S_nil _ _ _ _ _, hq2 HB.out GE284.out GE285.out⟩
   ·replace c8 := Bool.eq_false_iff.mpr c8
    subst c8
    rw [if_neg (show ¬ (false = true) by decide)] at H
    have H' := Aside0.mk H
    clear H
    go_wp2
    go_loopg [6] kj1 (fun kq v6 w' => ∃ (x6_2 : Int) (x286000_2 : Int), v6 = .int .i64 x6_2 ∧ Aside0 (keyeventref04_Group.l0 kq a0 x6_2 x286000_2 = some (r1, r2, r3, r4)) ∧ Aside0 (kq ≤ kj1) ∧ Aside0 (w'.heap[gb284]? = some (.cells #[.int .i64 0, (.slice none 0 0)] 25 (0, 0))) ∧ Aside0 (w'.heap[gb285]? = some (.cells #[.int .i64 x286000_2, (.slice none 0 0)] 25 (0, 0))) ∧ Aside0 (Below w.heap.size w w'))
    case atStart => exact ⟨(1), (0), dq, H', ⟨Nat.le_refl _⟩, ⟨by (with_reducible repeat (first | refine blk_drewN ?_ _ | refine blk_drew ?_ | refine blk_alloc ?_ _)); exact BK284.out⟩, ⟨by (with_reducible repeat (first | refine blk_drewN ?_ _ | refine blk_drew ?_ | refine blk_alloc ?_ _)); exact BK285.out⟩, ⟨hq2 HB.out GE284.out GE285.out⟩⟩
    case round =>
     clear H'
     try clear p2
     try clear c3
     try clear c5
     try clear c5b0
     try clear c5b1
     try clear c6
     try clear c6b0
     try clear c6b1
     try clear p7
     try clear q7
     try clear hx7
     try clear qi7
     try clear c8
     try clear c9
     try clear hcz10_0
     try clear hcz10_1
     try clear hcz11_0
     try clear hcz11_1
     try clear hfz10_0
     try clear hfz10_1
     try clear hfz11_0
     try clear hfz11_1
     try clear p2
     try clear p7
     try clear q7
     obtain ⟨x6_2, x286000_2, rfl, HA, HK2, BK284, BK285, HB⟩ := hrel
     cases gk with
     | zero => exact absurd HA.out (by simp [keyeventref04_Group.l0])
     | succ k2 =>
      have H := HA.out
      clear HA
      simp only [keyeventref04_Group.l0] at H
      by_cases c12 : x6_2 < 5
      ·rw [if_pos c12] at H
       have c12b0 := decide_eq_true c12
       clear c12
       by_cases c13 : 0 ≤ x6_2
       ·rw [if_pos c13] at H
        have c13b0 := decide_eq_true c13
        clear c13
        by_cases c15 : 1 < (a0.size : Int)
        ·rw [if_pos c15] at H
         have c15b0 := decide_eq_true c15
         have c15b1 : decide (1 < a0.size) = true := decide_eq_true (by omega)
         clear c15
         by_cases c17 : (bt (⟨#[63,65,66,67,71]⟩ : ByteArray) x6_2) = (bt a0 1)
         ·rw [if_pos c17] at H
          have c17b0 : ((bt (⟨#[63,65,66,67,71]⟩ : ByteArray) x6_2) == (bt a0 1)) = true := beq_iff_eq.mpr c17
          have c17b1 : ((bt (⟨#[63,65,66,67,71]⟩ : ByteArray) x6_2) != (bt a0 1)) = false := bne_eq_false_iff_eq.mpr c17
          clear c17
          have H' := Aside0.mk H
          clear H
          try go_wp2
          replace BK284 := Aside0.mk (blk_drew BK284.out)
          replace BK285 := Aside0.mk (blk_drew BK285.out)
          replace HB := Aside0.mk (below_drew1 HB.out)
          have p14 : 0 ≤ (x6_2 : Int) := of_decide_eq_true aq
          have q14 : x6_2 < (5 : Int) := of_decide_eq_true aq
          have hx14 := bt_at (⟨#[63,65,66,67,71]⟩ : ByteArray) x6_2
          replace p14 := eq_true p14
          replace q14 := eq_true q14
          have p16 : 0 ≤ (1 : Int) := (by omega)
          have q16 : 1 < a0.size := (by have : (1 : Int) < (a0.size : Int) := of_decide_eq_true aq; omega)
          have hx16 : ∀ h : 1 < a0.size, ((a0[1]'h).toNat : Int) = bt a0 1 := bt_at a0 1
          clear p16
          have qi16 : (1 < (a0.size : Int)) = True := eq_true (of_decide_eq_true aq)
          replace q16 := eq_true q16
          refine start_ (n := 5) (S := fun w' => True) (ds := []) #[false,false,false,false,false] (by kernel_rfl) rfl rfl trivial (fun hHeld => ?_)
          generalize wr.drew = w18 at BK284 BK285 HB hHeld ⊢
          refine pure_ (i := 0) (N := some 27) (v := ?_) (a' := ?_) #[true,false,false,false,false] rfl rfl (by kernel_rfl) (fun _ _ _ h => h) (Or.inl ⟨by rfl, pv⟩) pp ?_
          refine pure_ (i := 2) (N := some 29) (v := ?_) (a' := ?_) #[true,false,true,false,false] rfl rfl (by kernel_rfl) (fun _ _ _ h => h) (Or.inl ⟨by rfl, pv⟩) pp ?_
          refine take_ (i := 1) (N := some 28) (v := ?_) (a' := ?_) #[true,true,true,false,false] rfl rfl (by kernel_rfl) (fun _ _ _ h => h) (Or.inl ⟨by rfl, pv⟩) hHeld pp ?_
          refine take_ (i := 3) (N := some 30) (v := ?_) (a' := ?_) #[true,true,true,true,false] rfl rfl (by kernel_rfl) (fun _ _ _ h => h) (Or.inl ⟨by rfl, pv⟩) hHeld pp ?_
          refine pure_ (i := 4) (N := some 31) (v := ?_) (a' := ?_) #[true,true,true,true,true] rfl rfl (by kernel_rfl) (fun _ _ _ h => h) (Or.inl ⟨by rfl, pv⟩) pp ?_
          refine done_ (by kernel_rfl) ?_
          have hnb19 := NB285_284.out
          have hnc19 := NB284_285.out
          have hcz20_0 : w18.cell? ⟨gb285, 0, none⟩ = some (.int .i64 x286000_2) := (blk_cell BK285.out 0).trans rfl
          have hcz20_1 : w18.cell? ⟨gb285, 1, none⟩ = some (.slice none 0 0) := (blk_cell BK285.out 1).trans rfl
          have hfz20_0 := blk_frozen BK285.out 0
          have hfz20_1 := blk_frozen BK285.out 1
          try go_wp2
          go_roundg k2
          case measure => have := HJ1.out; have := HK2.out; omega
          case rel => exact ⟨(wrap64 (x6_2 + 1)), (x6_2), dq, H', ⟨by have := HJ1.out; have := HK2.out; omega⟩, ⟨by (with_reducible repeat (first | refine blk_drewN ?_ _ | refine blk_drew ?_ | refine blk_alloc ?_ _)); refine blk_far ?_ NB284_285.out _; (with_reducible repeat (first | refine blk_drewN ?_ _ | refine blk_drew ?_ | refine blk_alloc ?_ _)); exact BK284.out⟩, ⟨by (with_reducible repeat (first | refine blk_drewN ?_ _ | refine blk_drew ?_ | refine blk_alloc ?_ _)); refine blk_put (cs := #[.int .i64 x286000_2, .slice none 0 0]) ?_ 0 _ rfl; (with_reducible repeat (first | refine blk_drewN ?_ _ | refine blk_drew ?_ | refine blk_alloc ?_ _)); exact BK285.out⟩, ⟨hq2 HB.out GE284.out GE285.out⟩⟩
         ·rw [if_neg c17] at H
          have c17b0 : ((bt (⟨#[63,65,66,67,71]⟩ : ByteArray) x6_2) == (bt a0 1)) = false := beq_eq_false_iff_ne.mpr c17
          have c17b1 : ((bt (⟨#[63,65,66,67,71]⟩ : ByteArray) x6_2) != (bt a0 1)) = true := bne_iff_ne.mpr c17
          have H' := Aside0.mk H
          clear H
          try go_wp2
          replace BK284 := Aside0.mk (blk_drew BK284.out)
          replace BK285 := Aside0.mk (blk_drew BK285.out)
          replace HB := Aside0.mk (below_drew1 HB.out)
          have p14 : 0 ≤ (x6_2 : Int) := of_decide_eq_true aq
          have q14 : x6_2 < (5 : Int) := of_decide_eq_true aq
          have hx14 := bt_at (⟨#[63,65,66,67,71]⟩ : ByteArray) x6_2
          replace p14 := eq_true p14
          replace q14 := eq_true q14
          have p16 : 0 ≤ (1 : Int) := (by omega)
          have q16 : 1 < a0.size := (by have : (1 : Int) < (a0.size : Int) := of_decide_eq_true aq; omega)
          have hx16 : ∀ h : 1 < a0.size, ((a0[1]'h).toNat : Int) = bt a0 1 := bt_at a0 1
          clear p16
          have qi16 : (1 < (a0.size : Int)) = True := eq_true (of_decide_eq_true aq)
          replace q16 := eq_true q16
          refine start_ (n := 5) (S := fun w' => True) (ds := []) #[false,false,false,false,false] (by kernel_rfl) rfl rfl trivial (fun hHeld => ?_)
          generalize wr.drew = w21 at BK284 BK285 HB hHeld ⊢
          refine pure_ (i := 0) (N := some 27) (v := ?_) (a' := ?_) #[true,false,false,false,false] rfl rfl (by kernel_rfl) (fun _ _ _ h => h) (Or.inl ⟨by rfl, pv⟩) pp ?_
          refine pure_ (i := 2) (N := some 29) (v := ?_) (a' := ?_) #[true,false,true,false,false] rfl rfl (by kernel_rfl) (fun _ _ _ h => h) (Or.inl ⟨by rfl, pv⟩) pp ?_
          refine take_ (i := 1) (N := some 28) (v := ?_) (a' := ?_) #[true,true,true,false,false] rfl rfl (by kernel_rfl) (fun _ _ _ h => h) (Or.inl ⟨by rfl, pv⟩) hHeld pp ?_
          refine take_ (i := 3) (N := some 30) (v := ?_) (a' := ?_) #[true,true,true,true,false] rfl rfl (by kernel_rfl) (fun _ _ _ h => h) (Or.inl ⟨by rfl, pv⟩) hHeld pp ?_
          refine pure_ (i := 4) (N := some 31) (v := ?_) (a' := ?_) #[true,true,true,true,true] rfl rfl (by kernel_rfl) (fun _ _ _ h => h) (Or.inl ⟨by rfl, pv⟩) pp ?_
          refine done_ (by kernel_rfl) ?_
          try go_wp2
          go_roundg k2
          case measure => have := HJ1.out; have := HK2.out; omega
          case rel => exact ⟨(wrap64 (x6_2 + 1)), (x286000_2), dq, H', ⟨by have := HJ1.out; have := HK2.out; omega⟩, ⟨by (with_reducible repeat (first | refine blk_drewN ?_ _ | refine blk_drew ?_ | refine blk_alloc ?_ _)); exact BK284.out⟩, ⟨by (with_reducible repeat (first | refine blk_drewN ?_ _ | refine blk_drew ?_ | refine blk_alloc ?_ _)); exact BK285.out⟩, ⟨hq2 HB.out GE284.out GE285.out⟩⟩
        ·rw [if_neg c15] at H
         exact absurd H (by simp)
       ·rw [if_neg c13] at H
        exact absurd H (by simp)
      ·rw [if_neg c12] at H
       have c12b0 := decide_eq_false c12
       clear c12
       by_cases c22 : 2 ≤ 4
       ·rw [if_pos c22] at H
        have c22b0 := eq_true c22
        have c22b1 := decide_eq_true c22
        clear c22
        by_cases c23 : 4 ≤ (a0.size : Int)
        ·rw [if_pos c23] at H
         have c23b0 := eq_true c23
         have c23b1 := decide_eq_true c23
         clear c23
         obtain ⟨⟨t286, t287⟩, A24, H⟩ := bindS H
         try dsimp only at H
         have HC25 := Aside0.mk H
         clear H
         go_upto_region 10 with (first | ((with_reducible refine gate_callee (f := 60) rfl ?_); refine goesL_ (some 37) rfl rfl Try.func60 (by kernel_rfl) rfl #[.string (a0.extract 2 4)] rfl eq_ ?_; (with_reducible refine (keyeventref01_Parse.calls k2 (a0.extract 2 4) t286 t287 _ A24.out).mono ?_); rintro e w' ⟨rfl, ⟨nd, rfl⟩⟩; refine ⟨_, rfl, ?_⟩))
         (try simp only [Act.put, List.setIfInBounds_toArray, List.set_cons_zero, List.set_cons_succ])
         go_cut [46] (fun v46 wc => ∃ (kq : Nat) (x46_24 : Bool), v46 = .bool x46_24 ∧ Aside0 (keyeventref04_Group.j2 kq a0 t286 x46_24 x286000_2 = some (r1, r2, r3, r4)) ∧ Aside0 (kq ≤ k2) ∧ Aside0 (wc.heap[gb284]? = some (.cells #[.int .i64 0, (.slice none 0 0)] 25 (0, 0))) ∧ Aside0 (wc.heap[gb285]? = some (.cells #[.int .i64 x286000_2, (.slice none 0 0)] 25 (0, 0))) ∧ Aside0 (Below w.heap.size w wc))
         case first =>
          have H := HC25.out
          clear HC25
          by_cases c26 : x286000_2 = 0
          ·rw [if_pos c26] at H
           have c26b0 : (x286000_2 == 0) = true := beq_iff_eq.mpr c26
           have c26b1 : (x286000_2 != 0) = false := bne_eq_false_iff_eq.mpr c26
           clear c26
           (first | rw [c26b0] | (simp only [i64_w, i32_w]; rw [c26b0]) | skip)
           have H' := Aside0.mk H
           clear H
           have hnb27 := NB285_284.out
           have hnc27 := NB284_285.out
           have hcz28_0 : wr.cell? ⟨gb285, 0, none⟩ = some (.int .i64 x286000_2) := (blk_cell BK285.out 0).trans rfl
           have hcz28_1 : wr.cell? ⟨gb285, 1, none⟩ = some (.slice none 0 0) := (blk_cell BK285.out 1).trans rfl
           have hfz28_0 := blk_frozen BK285.out 0
           have hfz28_1 := blk_frozen BK285.out 1
           go_wp2
           go_meet
           case rel => exact ⟨_, (true), dq, H', ⟨by have := HJ1.out; have := HK2.out; first | omega | exact Nat.le_refl _⟩, ⟨by (with_reducible repeat (first | refine blk_drewN ?_ _ | refine blk_drew ?_ | refine blk_alloc ?_ _)); exact BK284.out⟩, ⟨by (with_reducible repeat (first | refine blk_drewN ?_ _ | refine blk_drew ?_ | refine blk_alloc ?_ _)); exact BK285.out⟩, ⟨hq2 HB.out GE284.out GE285.out⟩⟩
          ·rw [if_neg c26] at H
           have c26b0 : (x286000_2 == 0) = false := beq_eq_false_iff_ne.mpr c26
           have c26b1 : (x286000_2 != 0) = true := bne_iff_ne.mpr c26
           (first | rw [c26b0] | (simp only [i64_w, i32_w]; rw [c26b0]) | skip)
           have H' := Aside0.mk H
           clear H
           have hnb29 := NB285_284.out
           have hnc29 := NB284_285.out
           have hcz30_0 : wr.cell? ⟨gb285, 0, none⟩ = some (.int .i64 x286000_2) := (blk_cell BK285.out 0).trans rfl
           have hcz30_1 : wr.cell? ⟨gb285, 1, none⟩ = some (.slice none 0 0) := (blk_cell BK285.out 1).trans rfl
           have hfz30_0 := blk_frozen BK285.out 0
           have hfz30_1 := blk_frozen BK285.out 1
           go_wp2
           go_meet
           case rel => exact ⟨_, ((t287 != 0)), dq, H', ⟨by have := HJ1.out; have := HK2.out; first | omega | exact Nat.le_refl _⟩, ⟨by (with_reducible repeat (first | refine blk_drewN ?_ _ | refine blk_drew ?_ | refine blk_alloc ?_ _)); exact BK284.out⟩, ⟨by (with_reducible repeat (first | refine blk_drewN ?_ _ | refine blk_drew ?_ | refine blk_alloc ?_ _)); exact BK285.out⟩, ⟨hq2 HB.out GE284.out GE285.out⟩⟩
         case rest =>
          clear HC25
          try clear c1
          try clear p1
          try clear q1
          try clear hx1
          try clear qi1
          try clear c2
          try clear p2
          try clear c3
          try clear c5
          try clear c5b0
          try clear c5b1
          try clear c6
          try clear c6b0
          try clear c6b1
          try clear p6
          try clear p7
          try clear q7
          try clear hx7
          try clear qi7
          try clear c8
          try clear c9
          try clear c12
          try clear c12b0
          try clear c13
          try clear c13b0
          try clear p14
          try clear q14
          try clear hx14
          try clear c15
          try clear c15b0
          try clear c15b1
          try clear p16
          try clear q16
          try clear hx16
          try clear qi16
          try clear c17
          try clear c17b0
          try clear c17b1
          try clear c19
          try clear c22
          try clear c22b0
          try clear c22b1
          try clear c23
          try clear c23b0
          try clear c23b1
          try clear c26
          try clear c26b0
          try clear c26b1
          try clear c27
          try clear c29
          try clear hcz10_0
          try clear hcz10_1
          try clear hcz11_0
          try clear hcz11_1
          try clear hcz20_0
          try clear hcz20_1
          try clear hcz28_0
          try clear hcz28_1
          try clear hcz30_0
          try clear hcz30_1
          try clear hfz10_0
          try clear hfz10_1
          try clear hfz11_0
          try clear hfz11_1
          try clear hfz20_0
          try clear hfz20_1
          try clear hfz28_0
          try clear hfz28_1
          try clear hfz30_0
          try clear hfz30_1
          try clear p14
          try clear p16
          try clear p2
          try clear p7
          try clear q14
          try clear q16
          try clear q7
          obtain ⟨kq, x46_24, rfl, HA, HJ24, BK284, BK285, HB⟩ := hcut
          cases kq with
          | zero => exact absurd HA.out (by simp [keyeventref04_Group.j2])
          | succ kj24 =>
           have H := HA.out
           clear HA
           simp only [keyeventref04_Group.j2] at H
           by_cases c31 : x46_24 = true
           ·subst c31
            rw [if_pos rfl] at H
            simp only [Option.some.injEq, Prod.mk.injEq] at H
            obtain ⟨rfl, rfl, rfl, rfl⟩ := H
            have hnb32 := NB285_284.out
            have hnc32 := NB284_285.out
            have hcz33_0 : wc.cell? ⟨gb285, 0, none⟩ = some (.int .i64 x286000_2) := (blk_cell BK285.out 0).trans rfl
            have hcz33_1 : wc.cell? ⟨gb285, 1, none⟩ = some (.slice none 0 0) := (blk_cell BK285.out 1).trans rfl
            have hfz33_0 := blk_frozen BK285.out 0
            have hfz33_1 := blk_frozen BK285.out 1
            have hcz34_0 : wc.cell? ⟨gb284, 0, none⟩ = some (.int .i64 0) := (blk_cell BK284.out 0).trans rfl
            have hcz34_1 : wc.cell? ⟨gb284, 1, none⟩ = some (.slice none 0 0) := (blk_cell BK284.out 1).trans rfl
            have hfz34_0 := blk_frozen BK284.out 0
            have hfz34_1 := blk_frozen BK284.out 1
            go_wp2
            refine bodyPost_ret (results_ctt rfl _ _ gb284 25 #[.int .i64 x286000_2, .slice none 0 0] (0, 0) _ rfl (by (with_reducible repeat (first | refine blk_drewN ?_ _ | refine blk_drew ?_ | refine blk_alloc ?_ _)); refine blk_put (cs := #[.int .i64 x286000_2, .slice none 0 0]) ?_ 1 _ rfl; (with_reducible repeat (first | refine blk_drewN ?_ _ | refine blk_drew ?_ | refine blk_alloc ?_ _)); refine blk_put (cs := #[.int .i64 0, .slice none 0 0]) ?_ 0 _ rfl; (with_reducible repeat (first | refine blk_drewN ?_ _ | refine blk_drew ?_ | refine blk_alloc ?_ _)); exact BK284.out) Try.underlying25 rfl (by kernel_rfl)) rfl ?_
            exact ⟨_, rq_, by first | exact Kd.R_nil _ _ _ _ _ | exact Kd.N_nil _ _ _ _ _ | exact Kd.V_nil _ _ _ _ _ | exact Kd.Q_nil _ _ _ _ _ | exact Kd.S_nil _ _ _ _ _, hq2 HB.out GE284.out GE285.out⟩
           ·replace c31 := Bool.eq_false_iff.mpr c31
            subst c31
            rw [if_neg (show ¬ (false = true) by decide)] at H
            by_cases c35 : 4 ≤ (a0.size : Int)
            ·rw [if_pos c35] at H
             have c35b0 := eq_true c35
             have c35b1 := decide_eq_true c35
             clear c35
             have H' := Aside0.mk H
             clear H
             go_wp2
             go_loopg [0,51] kj24 (fun kq v0 v51 w' => ∃ (x0_4 : ByteArray) (x51_4 : Int) (x285000_4 : Int) (x286001_4 : List (S27)) (u286001 : Value), v0 = .string x0_4 ∧ v51 = .int .i64 x51_4 ∧ Aside0 (keyeventref04_Group.l1 kq x0_4 t286 x51_4 x286000_2 x286001_4 = some (r1, r2, r3, r4)) ∧ Aside0 (kq ≤ kj24) ∧ Aside0 (Kd.R k27 27 w' w.heap.size (fun _ => True) u286001 x286001_4) ∧ Aside0 (w'.heap[gb284]? = some (.cells #[.int .i64 x285000_4, (.slice none 0 0)] 25 (0, 0))) ∧ Aside0 (w'.heap[gb285]? = some (.cells #[.int .i64 x286000_2, u286001] 25 (0, 0))) ∧ Aside0 (Below w.heap.size w w'))
             case atStart => exact ⟨(a0.extract 4 a0.size), (0), (0), (([] : List (S27))), (.slice none 0 0), dq, dq, H', ⟨Nat.le_refl _⟩, ⟨by first | exact Kd.R_nil _ _ _ _ _ | exact Kd.N_nil _ _ _ _ _ | exact Kd.V_nil _ _ _ _ _ | exact Kd.Q_nil _ _ _ _ _ | exact Kd.S_nil _ _ _ _ _⟩, ⟨by (with_reducible repeat (first | refine blk_drewN ?_ _ | refine blk_drew ?_ | refine blk_alloc ?_ _)); exact BK284.out⟩, ⟨by (with_reducible repeat (first | refine blk_drewN ?_ _ | refine blk_drew ?_ | refine blk_alloc ?_ _)); exact BK285.out⟩, ⟨hq2 HB.out GE284.out GE285.out⟩⟩
             case round =>
              clear H'
              try clear c1
              try clear p1
              try clear q1
              try clear hx1
              try clear qi1
              try clear c2
              try clear p2
              try clear c3
              try clear c5
              try clear c5b0
              try clear c5b1
              try clear c6
              try clear c6b0
              try clear c6b1
              try clear p6
              try clear p7
              try clear q7
              try clear hx7
              try clear qi7
              try clear c8
              try clear c9
              try clear c12
              try clear c12b0
              try clear c13
              try clear c13b0
              try clear p14
              try clear q14
              try clear hx14
              try clear c15
              try clear c15b0
              try clear c15b1
              try clear p16
              try clear q16
              try clear hx16
              try clear qi16
              try clear c17
              try clear c17b0
              try clear c17b1
              try clear c19
              try clear c22
              try clear c22b0
              try clear c22b1
              try clear c23
              try clear c23b0
              try clear c23b1
              try clear c26
              try clear c26b0
              try clear c26b1
              try clear c27
              try clear c29
              try clear c31
              try clear c32
              try clear c35
              try clear c35b0
              try clear c35b1
              try clear hcz10_0
              try clear hcz10_1
              try clear hcz11_0
              try clear hcz11_1
              try clear hcz20_0
              try clear hcz20_1
              try clear hcz28_0
              try clear hcz28_1
              try clear hcz30_0
              try clear hcz30_1
              try clear hcz33_0
              try clear hcz33_1
              try clear hcz34_0
              try clear hcz34_1
              try clear hfz10_0
              try clear hfz10_1
              try clear hfz11_0
              try clear hfz11_1
              try clear hfz20_0
              try clear hfz20_1
              try clear hfz28_0
              try clear hfz28_1
              try clear hfz30_0
              try clear hfz30_1
              try clear hfz33_0
              try clear hfz33_1
              try clear hfz34_0
              try clear hfz34_1
              try clear p1
              try clear p14
              try clear p16
              try clear p2
              try clear p6
              try clear p7
              try clear q1
              try clear q14
              try clear q16
              try clear q7
              obtain ⟨x0_4, x51_4, x285000_4, x286001_4, u286001, rfl, rfl, HA, HK4, HO_286001, BK284, BK285, HB⟩ := hrel
              cases gk with
              | zero => exact absurd HA.out (by simp [keyeventref04_Group.l1])
              | succ k4 =>
               have H := HA.out
               clear HA
               simp only [keyeventref04_Group.l1] at H
               by_cases c36 : x51_4 < t286
               ·rw [if_pos c36] at H
                have c36b0 := decide_eq_true c36
                clear c36
                obtain ⟨t288, A37, H⟩ := bindS H
                have H' := Aside0.mk H
                clear H
                have hnb38 := NB285_284.out
                have hnc38 := NB284_285.out
                have hcz39_0 : wr.cell? ⟨gb285, 0, none⟩ = some (.int .i64 x286000_2) := (blk_cell BK285.out 0).trans rfl
                have hcz39_1 : wr.cell? ⟨gb285, 1, none⟩ = some (u286001) := (blk_cell BK285.out 1).trans rfl
                have hfz39_0 := blk_frozen BK285.out 0
                have hfz39_1 := blk_frozen BK285.out 1
                go_wp2_with (first | ((with_reducible refine gate_callee (f := 27) rfl ?_); refine goesL_ (some 55) rfl rfl Try.func27 (by kernel_rfl) rfl #[.int .i64 x286000_2] rfl eq_ ?_; (with_reducible refine (keyeventref04_Permitted.calls k4 x286000_2 t288 _ A37.out).mono ?_); rintro e w40 ⟨v289, rfl, ho0, hb⟩; refine ⟨_, rfl, ?_⟩; replace HO_286001 := Aside0.mk (Kd.R_below (qR HO_286001.out) hb); have HO290 := Aside0.mk (Kd.R_lower ho0 (below_size (hq2 HB.out GE284.out GE285.out))); replace BK284 := Aside0.mk (blk_below (g := gb284) (o := .cells #[.int .i64 x285000_4, .slice none 0 0] 25 (0, 0)) (bq BK284.out) hb); replace BK285 := Aside0.mk (blk_below (g := gb285) (o := .cells #[.int .i64 x286000_2, u286001] 25 (0, 0)) (bq BK285.out) hb); replace HB := Aside0.mk (below_step (hq2 HB.out GE284.out GE285.out) hb); (try clear hb); (try clear ho0); obtain ⟨Ao41, co41, eo41⟩ := Kd.R_slice HO290.out; subst eo41))
                go_loopg [0,57] k4 (fun kq v0 v57 w' => ∃ (x0_5 : ByteArray) (x57_5 : Int) (x285000_5 : Int) (x286001_5 : List (S27)) (u286001 : Value), v0 = .string x0_5 ∧ v57 = .int .i64 x57_5 ∧ Aside0 (keyeventref04_Group.l2 kq x0_5 t286 x51_4 t288 (t288.length : Int) x57_5 x286000_2 x286001_5 = some (r1, r2, r3, r4)) ∧ Aside0 (kq ≤ k4) ∧ Aside0 (Kd.R (Kd.int .i64) 3 w' w.heap.size (fun _ => True) (.slice Ao41 t288.length co41) t288) ∧ Aside0 (Kd.R k27 27 w' w.heap.size (fun _ => True) u286001 x286001_5) ∧ Aside0 (w'.heap[gb284]? = some (.cells #[.int .i64 x285000_5, (.slice none 0 0)] 25 (0, 0))) ∧ Aside0 (w'.heap[gb285]? = some (.cells #[.int .i64 x286000_2, u286001] 25 (0, 0))) ∧ Aside0 (Below w.heap.size w w'))
                case atStart => exact ⟨(x0_4), (0), (x285000_4), (x286001_4), (u286001), dq, dq, H', ⟨Nat.le_refl _⟩, ⟨by (with_reducible repeat (first | apply Kd.R_alloc | apply Kd.R_drewN | apply Kd.R_drew)); exact HO290.out⟩, ⟨by (with_reducible repeat (first | apply Kd.R_alloc | apply Kd.R_drewN | apply Kd.R_drew)); exact HO_286001.out⟩, ⟨by (with_reducible repeat (first | refine blk_drewN ?_ _ | refine blk_drew ?_ | refine blk_alloc ?_ _)); exact BK284.out⟩, ⟨by (with_reducible repeat (first | refine blk_drewN ?_ _ | refine blk_drew ?_ | refine blk_alloc ?_ _)); exact BK285.out⟩, ⟨hq2 HB.out GE284.out GE285.out⟩⟩
                case round =>
                 clear H'
                 try clear c1
                 try clear p1
                 try clear q1
                 try clear hx1
                 try clear qi1
                 try clear c2
                 try clear p2
                 try clear c3
                 try clear c5
                 try clear c5b0
                 try clear c5b1
                 try clear c6
                 try clear c6b0
                 try clear c6b1
                 try clear p6
                 try clear p7
                 try clear q7
                 try clear hx7
                 try clear qi7
                 try clear c8
                 try clear c9
                 try clear c12
                 try clear c12b0
                 try clear c13
                 try clear c13b0
                 try clear p14
                 try clear q14
                 try clear hx14
                 try clear c15
                 try clear c15b0
                 try clear c15b1
                 try clear p16
                 try clear q16
                 try clear hx16
                 try clear qi16
                 try clear c17
                 try clear c17b0
                 try clear c17b1
                 try clear c19
                 try clear c22
                 try clear c22b0
                 try clear c22b1
                 try clear c23
                 try clear c23b0
                 try clear c23b1
                 try clear c26
                 try clear c26b0
                 try clear c26b1
                 try clear c27
                 try clear c29
                 try clear c31
                 try clear c32
                 try clear c35
                 try clear c35b0
                 try clear c35b1
                 try clear c36
                 try clear c36b0
                 try clear c38
                 try clear hcz10_0
                 try clear hcz10_1
                 try clear hcz11_0
                 try clear hcz11_1
                 try clear hcz20_0
                 try clear hcz20_1
                 try clear hcz28_0
                 try clear hcz28_1
                 try clear hcz30_0
                 try clear hcz30_1
                 try clear hcz33_0
                 try clear hcz33_1
                 try clear hcz34_0
                 try clear hcz34_1
                 try clear hcz39_0
                 try clear hcz39_1
                 try clear hfz10_0
                 try clear hfz10_1
                 try clear hfz11_0
                 try clear hfz11_1
                 try clear hfz20_0
                 try clear hfz20_1
                 try clear hfz28_0
                 try clear hfz28_1
                 try clear hfz30_0
                 try clear hfz30_1
                 try clear hfz33_0
                 try clear hfz33_1
                 try clear hfz34_0
                 try clear hfz34_1
                 try clear hfz39_0
                 try clear hfz39_1
                 try clear p1
                 try clear p14
                 try clear p16
                 try clear p2
                 try clear p6
                 try clear p7
                 try clear q1
                 try clear q14
                 try clear q16
                 try clear q7
                 obtain ⟨x0_5, x57_5, x285000_5, x286001_5, u286001, rfl, rfl, HA, HK5, HO_55, HO_286001, BK284, BK285, HB⟩ := hrel
                 cases gk with
                 | zero => exact absurd HA.out (by simp [keyeventref04_Group.l2])
                 | succ k5 =>
                  have H := HA.out
                  clear HA
                  simp only [keyeventref04_Group.l2] at H
                  by_cases c42 : x57_5 < (t288.length : Int)
                  ·rw [if_pos c42] at H
                   have c42b0 := decide_eq_true c42
                   clear c42
                   by_cases c43 : 0 ≤ x57_5
                   ·rw [if_pos c43] at H
                    have c43b0 := decide_eq_true c43
                    clear c43
                    by_cases c44 : x57_5 < (t288.length : Int)
                    ·rw [if_pos c44] at H
                     have c44b0 := decide_eq_true c44
                     clear c44
                     obtain ⟨⟨t292, t293, t294, t295⟩, A45, H⟩ := bindS H
                     try dsimp only at H
                     by_cases c46 : t295 = 0
                     ·rw [if_pos c46] at H
                      have c46b0 : (t295 == 0) = true := beq_iff_eq.mpr c46
                      have c46b1 : (t295 != 0) = false := bne_eq_false_iff_eq.mpr c46
                      clear c46
                      by_cases c47 : t292 = (rd t288 x57_5)
                      ·rw [if_pos c47] at H
                       have c47b0 : (t292 == (rd t288 x57_5)) = true := beq_iff_eq.mpr c47
                       have c47b1 : (t292 != (rd t288 x57_5)) = false := bne_eq_false_iff_eq.mpr c47
                       clear c47
                       by_cases c48 : x286001_5.length < 5864062014805
                       ·rw [if_pos c48] at H
                        have LMc48 := Aside0.mk c48
                        clear c48
                        obtain ⟨y297, hy297⟩ : ∃ y_ : List (S27), y_ = (x286001_5 ++ [(⟨t292, t293⟩ : S27)]) := ⟨_, rfl⟩
                        replace H : (if 0 ≤ t294 then (if t294 ≤ (x0_5.size : Int) then (keyeventref04_Group.l2 k5 (x0_5.extract (t294 : Int).toNat x0_5.size) t286 x51_4 t288 (t288.length : Int) (wrap64 (x57_5 + 1)) x286000_2 y297) else (none)) else (none)) = some (r1, r2, r3, r4) := by first | (rw [hy297]; with_reducible exact H) | (have H2_ := (Option.bind_some _ _).symm.trans H; rw [hy297]; with_reducible exact H2_) | (have H2_ := (Option.bind_some _ _).symm.trans H; with_reducible exact H2_) | with_reducible exact H | (rw [hy297]; exact H) | exact H
                        have Ny297 := Aside0.mk hy297
                        clear hy297
                        by_cases c49 : 0 ≤ t294
                        ·rw [if_pos c49] at H
                         have c49b0 := eq_true c49
                         have c49b1 := decide_eq_true c49
                         clear c49
                         by_cases c50 : t294 ≤ (x0_5.size : Int)
                         ·rw [if_pos c50] at H
                          have c50b0 := eq_true c50
                          have c50b1 := decide_eq_true c50
                          clear c50
                          have H' := Aside0.mk H
                          clear H
                          have p291 : 0 ≤ (x57_5 : Int) := of_decide_eq_true aq
                          have q291 : x57_5 < (t288.length : Int) := of_decide_eq_true aq
                          obtain ⟨ad291, e291, hx291_0⟩ := Kd.at_int (Kd.R_reads' HO_55.out).2.2 x57_5 p291 q291
                          cases e291
                          replace p291 := eq_true p291
                          replace q291 := eq_true q291
                          try go_wp2_with (first | ((with_reducible refine gate_callee (f := 61) rfl ?_); refine goesL_ (some 63) rfl rfl Try.func61 (by kernel_rfl) rfl #[.string x0_5] rfl eq_ ?_; (with_reducible refine (keyeventref03_Decode.calls k5 x0_5 t292 t293 t294 t295 _ A45.out).mono ?_); rintro e w51 ⟨rfl, hb⟩; refine ⟨_, rfl, ?_⟩; replace HO_55 := Aside0.mk (Kd.R_below (qR HO_55.out) hb); replace HO_286001 := Aside0.mk (Kd.R_below (qR HO_286001.out) hb); replace BK284 := Aside0.mk (blk_below (g := gb284) (o := .cells #[.int .i64 x285000_5, .slice none 0 0] 25 (0, 0)) (bq BK284.out) hb); replace BK285 := Aside0.mk (blk_below (g := gb285) (o := .cells #[.int .i64 x286000_2, u286001] 25 (0, 0)) (bq BK285.out) hb); replace HB := Aside0.mk (below_step (hq2 HB.out GE284.out GE285.out) hb); (try clear hb)) | ((with_reducible refine gate_dst (N := 11) rfl ?_); refine box_event ?hg (N := 11) ?hd (cs := #[.int .i64 0, .string (⟨#[]⟩ : ByteArray)]) (t := 27) ?hr ?_; (case hd => rfl); (case hg => rfl); (case hr => first | (go_simp; done) | (go_simp; rfl)); intro gb296 hg w52 hbox hb; replace HO_55 := Aside0.mk (Kd.R_below (qR HO_55.out) hb); replace HO_286001 := Aside0.mk (Kd.R_below (Kd.R_elderB (qR HO_286001.out) gb296 (Nat.le_of_eq hg.symm)) hb); have BK296 := Aside0.mk (hbox); have GW296 := Aside0.mk ((by rw [hg]; exact (below_size (hq2 HB.out GE284.out GE285.out)) : w.heap.size ≤ gb296)); have GE296 := Aside0.mk ((by rw [hg]; exact (below_size (hq2 HB.out GE284.out GE285.out)) : w.heap.size ≤ gb296)); replace HB := Aside0.mk (below_step (hq2 HB.out GE284.out GE285.out) hb); have NB284_296 := Aside0.mk ((by rw [hg]; exact Nat.ne_of_lt (blk_lt (g := gb284) (o := .cells #[.int .i64 x285000_5, .slice none 0 0] 25 (0, 0)) (bq BK284.out)) : gb284 ≠ gb296)); have NB296_284 := Aside0.mk ((by rw [hg]; exact Nat.ne_of_gt (blk_lt (g := gb284) (o := .cells #[.int .i64 x285000_5, .slice none 0 0] 25 (0, 0)) (bq BK284.out)) : gb296 ≠ gb284)); replace BK284 := Aside0.mk (blk_below (g := gb284) (o := .cells #[.int .i64 x285000_5, .slice none 0 0] 25 (0, 0)) (bq BK284.out) hb); have NB285_296 := Aside0.mk ((by rw [hg]; exact Nat.ne_of_lt (blk_lt (g := gb285) (o := .cells #[.int .i64 x286000_2, u286001] 25 (0, 0)) (bq BK285.out)) : gb285 ≠ gb296)); have NB296_285 := Aside0.mk ((by rw [hg]; exact Nat.ne_of_gt (blk_lt (g := gb285) (o := .cells #[.int .i64 x286000_2, u286001] 25 (0, 0)) (bq BK285.out)) : gb296 ≠ gb285)); replace BK285 := Aside0.mk (blk_below (g := gb285) (o := .cells #[.int .i64 x286000_2, u286001] 25 (0, 0)) (bq BK285.out) hb); clear hb hbox hg; have hnb53 := NB296_284.out; have hnc53 := NB284_296.out; have hnb54 := NB296_285.out; have hnc54 := NB285_296.out; have hcz55_0 : w52.cell? ⟨gb296, 0, none⟩ = some (.int .i64 0) := (blk_cell BK296.out 0).trans rfl; have hcz55_1 : w52.cell? ⟨gb296, 1, none⟩ = some (.string (⟨#[]⟩ : ByteArray)) := (blk_cell BK296.out 1).trans rfl; have hfz55_0 := blk_frozen BK296.out 0; have hfz55_1 := blk_frozen BK296.out 1))
                          have n0_ : Aside0 (Kd.R (Kd.int .i64) 3 ((w52.setCell ⟨gb296, 0, none⟩ (.int .i64 t292)).setCell ⟨gb296, 1, none⟩ (.string t293)) w.heap.size (fun _ => True) (.slice (some ad291) t288.length co41) t288) := ⟨by (with_reducible repeat (first | apply Kd.R_alloc | apply Kd.R_drewN | apply Kd.R_drew)); exact Kd.R_mono (Kd.R_far (p := ⟨gb296, 1, none⟩) (Kd.R_far (p := ⟨gb296, 0, none⟩) (Kd.R_types HO_55.out BK296.out (by decide)) (fun _ hk => hk.2) (.int .i64 t292)) (fun _ hk => hk.2) (.string t293)) (fun _ hk => trivial)⟩
                          have n1_ : Aside0 (Kd.R k27 27 ((w52.setCell ⟨gb296, 0, none⟩ (.int .i64 t292)).setCell ⟨gb296, 1, none⟩ (.string t293)) w.heap.size (fun k_ => k_ ≠ gb296) u286001 x286001_5) := ⟨by (with_reducible repeat (first | apply Kd.R_alloc | apply Kd.R_drewN | apply Kd.R_drew)); exact Kd.R_mono (Kd.R_far (p := ⟨gb296, 1, none⟩) (Kd.R_far (p := ⟨gb296, 0, none⟩) (Kd.R_mono HO_286001.out (fun k_ hk => (⟨hk, hk.2⟩ : _ ∧ k_ ≠ gb296))) (fun _ hk => hk.2) (.int .i64 t292)) (fun _ hk => hk.2) (.string t293)) (fun _ hk => hk.1.2)⟩
                          have n2_ : Aside0 (((w52.setCell ⟨gb296, 0, none⟩ (.int .i64 t292)).setCell ⟨gb296, 1, none⟩ (.string t293)).heap[gb284]? = some (.cells #[.int .i64 x285000_5, .slice none 0 0] 25 (0, 0))) := ⟨by (with_reducible repeat (first | refine blk_drewN ?_ _ | refine blk_drew ?_ | refine blk_alloc ?_ _)); refine blk_far ?_ NB284_296.out _; (with_reducible repeat (first | refine blk_drewN ?_ _ | refine blk_drew ?_ | refine blk_alloc ?_ _)); refine blk_far ?_ NB284_296.out _; (with_reducible repeat (first | refine blk_drewN ?_ _ | refine blk_drew ?_ | refine blk_alloc ?_ _)); exact BK284.out⟩
                          have n3_ : Aside0 (((w52.setCell ⟨gb296, 0, none⟩ (.int .i64 t292)).setCell ⟨gb296, 1, none⟩ (.string t293)).heap[gb285]? = some (.cells #[.int .i64 x286000_2, u286001] 25 (0, 0))) := ⟨by (with_reducible repeat (first | refine blk_drewN ?_ _ | refine blk_drew ?_ | refine blk_alloc ?_ _)); refine blk_far ?_ NB285_296.out _; (with_reducible repeat (first | refine blk_drewN ?_ _ | refine blk_drew ?_ | refine blk_alloc ?_ _)); refine blk_far ?_ NB285_296.out _; (with_reducible repeat (first | refine blk_drewN ?_ _ | refine blk_drew ?_ | refine blk_alloc ?_ _)); exact BK285.out⟩
                          have n4_ : Aside0 (((w52.setCell ⟨gb296, 0, none⟩ (.int .i64 t292)).setCell ⟨gb296, 1, none⟩ (.string t293)).heap[gb296]? = some (.cells #[.int .i64 t292, .string t293] 27 (0, 0))) := ⟨by (with_reducible repeat (first | refine blk_drewN ?_ _ | refine blk_drew ?_ | refine blk_alloc ?_ _)); refine blk_put (cs := #[.int .i64 t292, .string (⟨#[]⟩ : ByteArray)]) ?_ 1 _ rfl; (with_reducible repeat (first | refine blk_drewN ?_ _ | refine blk_drew ?_ | refine blk_alloc ?_ _)); refine blk_put (cs := #[.int .i64 0, .string (⟨#[]⟩ : ByteArray)]) ?_ 0 _ rfl; (with_reducible repeat (first | refine blk_drewN ?_ _ | refine blk_drew ?_ | refine blk_alloc ?_ _)); exact BK296.out⟩
                          have n5_ : Aside0 (Below w.heap.size w ((w52.setCell ⟨gb296, 0, none⟩ (.int .i64 t292)).setCell ⟨gb296, 1, none⟩ (.string t293))) := ⟨by repeat (first | (with_reducible first | exact HB.out | apply below_alloc | apply pw_below_drewN | apply below_drew1 | refine below_set ?_ GE284.out | refine below_set ?_ GE285.out | refine below_set ?_ GE296.out) | exact HB.out)⟩
                          (try clear HO_55)
                          (try clear HO_286001)
                          (try clear BK284)
                          (try clear BK285)
                          (try clear BK296)
                          (try clear HB)
                          generalize ((w52.setCell ⟨gb296, 0, none⟩ (.int .i64 t292)).setCell ⟨gb296, 1, none⟩ (.string t293)) = w56 at n0_ n1_ n2_ n3_ n4_ n5_ ⊢
                          have HO_55 := n0_
                          have HO_286001 := n1_
                          have BK284 := n2_
                          have BK285 := n3_
                          have BK296 := n4_
                          have HB := n5_
                          clear n0_ n1_ n2_ n3_ n4_ n5_
                          replace HO_55 := Aside0.mk (Kd.R_drew HO_55.out)
                          replace HO_286001 := Aside0.mk (Kd.R_drew HO_286001.out)
                          replace BK284 := Aside0.mk (blk_drew BK284.out)
                          replace BK285 := Aside0.mk (blk_drew BK285.out)
                          replace BK296 := Aside0.mk (blk_drew BK296.out)
                          replace HB := Aside0.mk (below_drew1 HB.out)
                          refine start_ (n := 11) (S := fun w' => w'.cell? ⟨gb285, 0, none⟩ = some (.int .i64 x286000_2) ∧ w'.cell? ⟨gb285, 1, none⟩ = some (u286001) ∧ w'.cell? ⟨gb296, 0, none⟩ = some (.int .i64 t292) ∧ w'.cell? ⟨gb296, 1, none⟩ = some (.string t293)) (ds := [9]) #[false,false,false,false,false,false,false,false,false,false,false] (by kernel_rfl) rfl rfl ⟨(blk_cell BK285.out 0).trans rfl, (blk_cell BK285.out 1).trans rfl, (blk_cell BK296.out 0).trans rfl, (blk_cell BK296.out 1).trans rfl⟩ (fun hHeld => ?_); refine with_tabW keyeventref04_Group.tab23 keyeventref04_Group.bits23 (fun HT_ HW_ => ?_)
                          generalize w56.drew = w57 at HO_55 HO_286001 BK284 BK285 BK296 HB hHeld ⊢
                          refine pure_ (i := 0) (N := some 78) (v := ?_) (a' := ?_) #[true,false,false,false,false,false,false,false,false,false,false] rfl rfl (any_of HT_.out (by kernel_rfl)) (fun _ _ _ h => h) (Or.inl ⟨by rfl, pv⟩) pp ?_
                          refine pure_ (i := 5) (N := some 83) (v := ?_) (a' := ?_) #[true,false,false,false,false,true,false,false,false,false,false] rfl rfl (any_of HT_.out (by kernel_rfl)) (fun _ _ _ h => h) (Or.inl ⟨by rfl, pv⟩) pp ?_
                          refine pure_ (i := 6) (N := some 84) (v := ?_) (a' := ?_) #[true,false,false,false,false,true,true,false,false,false,false] rfl rfl (any_of HT_.out (by kernel_rfl)) (fun _ _ _ h => h) (Or.inl ⟨by rfl, pv⟩) pp ?_
                          refine pure_ (i := 7) (N := some 85) (v := ?_) (a' := ?_) #[true,false,false,false,false,true,true,true,false,false,false] rfl rfl (any_of HT_.out (by kernel_rfl)) (fun _ _ _ h => h) (Or.inl ⟨by rfl, pv⟩) pp ?_
                          refine take_ (i := 1) (N := some 79) (v := ?_) (a' := ?_) #[true,true,false,false,false,true,true,true,false,false,false] rfl rfl (take_ofW HT_.out HW_.out (by kernel_rfl)) (fun _ _ _ h => h) (Or.inl ⟨by rfl, by rintro w' ⟨s0, s1, s2, s3⟩; go_simp; with_reducible rfl⟩) hHeld pp ?_
                          refine take_ (i := 2) (N := some 80) (v := ?_) (a' := ?_) #[true,true,true,false,false,true,true,true,false,false,false] rfl rfl (take_ofW HT_.out HW_.out (by kernel_rfl)) (fun _ _ _ h => h) (Or.inl ⟨by rfl, by rintro w' ⟨s0, s1, s2, s3⟩; go_simp; with_reducible rfl⟩) hHeld pp ?_
                          refine one_ (i := 3) (N := some 81) #[true,true,true,true,false,true,true,true,false,false,false] rfl rfl (one_of HT_.out (by kernel_rfl)) (by decide) (fun K hK => ?_)
                          refine value_ (w1 := ?_) (v := ?_) (by rfl) rfl ?_ ?_
                          rotate_left 2
                          ·go_simp
                           constructor
                           ·rfl
                           ·rfl
                          refine hK.out _ _ ⟨(blk_cell (blk_alloc BK285.out _) 0).trans rfl, (blk_cell (blk_alloc BK285.out _) 1).trans rfl, (blk_cell (blk_alloc BK296.out _) 0).trans rfl, (blk_cell (blk_alloc BK296.out _) 1).trans rfl⟩ (fun hHeld => ?_)
                          clear hK K
                          refine norm_ (a' := ?_) (show Act.put _ (some 81) _ = _ from pp) ?_
                          refine one_ (i := 4) (N := some 82) #[true,true,true,true,true,true,true,true,false,false,false] rfl rfl (one_of HT_.out (by kernel_rfl)) (by decide) (fun K hK => ?_)
                          refine Kd.R_append_step k27 (w0 := w) w.heap.size (by rfl) (.tmp 79) (.tmp 81) 23 27 (.agg #[(.int .i64 0), (.string ⟨#[]⟩)]) 24 rfl Try.underlying23 info27 rfl (by decide) (by omega) u286001 x286001_5 (⟨t292, t293⟩ : S27) [.int .i64 t292, .string t293] (fun k_ => k_ ≠ gb296) (fun _ => False) rfl rfl ?aP (fun _ hk => hk.elim) ?aF ?aO ?aB ?aS ?aL ?_
                          (case aP => exact k27_mkM _ _ _ (⟨t292, t293⟩ : S27))
                          (case aB => exact (by repeat (first | (with_reducible first | exact HB.out | apply below_alloc | apply pw_below_drewN | apply below_drew1 | refine below_set ?_ GE284.out | refine below_set ?_ GE285.out | refine below_set ?_ GE296.out) | exact HB.out)))
                          (case aF => exact (fun k_ hk => Kd.freshB (g := gb296) (o := .cells #[.int .i64 t292, .string t293] 27 (0, 0)) (bq BK296.out) k_ hk))
                          (case aO => exact (qR HO_286001.out))
                          (case aS => exact (below_size (by repeat (first | (with_reducible first | exact HB.out | apply below_alloc | apply pw_below_drewN | apply below_drew1 | refine below_set ?_ GE284.out | refine below_set ?_ GE285.out | refine below_set ?_ GE296.out) | exact HB.out))))
                          (case aL => have := LMc48.out; omega)
                          intro v298 w58 ho hb hg hat
                          rw [← Ny297.out] at ho
                          have n0_ := Aside0.mk (Kd.R_over' (qR HO_55.out) (Kd.R_typed (qR HO_286001.out)) (by decide) hg)
                          have n1_ := Aside0.mk (blk_grown (g := gb284) (o := .cells #[.int .i64 x285000_5, .slice none 0 0] 25 (0, 0)) (bq BK284.out) hg (Kd.R_ne HO_286001.out BK284.out (by decide)))
                          have n2_ := Aside0.mk (blk_grown (g := gb285) (o := .cells #[.int .i64 x286000_2, u286001] 25 (0, 0)) (bq BK285.out) hg (Kd.R_ne HO_286001.out BK285.out (by decide)))
                          have n3_ := Aside0.mk (blk_grown (g := gb296) (o := .cells #[.int .i64 t292, .string t293] 27 (0, 0)) (bq BK296.out) hg (Kd.R_away HO_286001.out (fun _ hk => hk)))
                          have n4_ := Aside0.mk (hb)
                          have n5_ := Aside0.mk (ho)
                          clear HO_55
                          clear BK284
                          clear BK285
                          clear BK296
                          clear HB
                          clear HO_286001
                          have HO_55 := n0_
                          have BK284 := n1_
                          have BK285 := n2_
                          have BK296 := n3_
                          have HB := n4_
                          have HO299 := n5_
                          clear n0_ n1_ n2_ n3_ n4_ n5_
                          clear ho hb hg hat
                          obtain ⟨Ao59, co59, eo59⟩ := Kd.R_slice HO299.out
                          (first | subst eo59 | (injection eo59 with f1_ f2_ f3_; have f4_ := f1_.symm; have f5_ := f3_.symm; clear f1_ f2_ f3_; subst f4_; subst f5_))
                          refine hK.out _ _ ⟨(blk_cell BK285.out 0).trans rfl, (blk_cell BK285.out 1).trans rfl, (blk_cell BK296.out 0).trans rfl, (blk_cell BK296.out 1).trans rfl⟩ (fun hHeld => ?_)
                          clear hK K
                          refine norm_ (a' := ?_) (show Act.put _ (some 82) _ = _ from pp) ?_
                          refine pure_ (i := 8) (N := some 86) (v := ?_) (a' := ?_) #[true,true,true,true,true,true,true,true,true,false,false] rfl rfl (any_of HT_.out (by kernel_rfl)) (fun _ _ _ h => h) (Or.inl ⟨by rfl, pv⟩) pp ?_
                          refine last_ (i := 9) (N := none) #[true,true,true,true,true,true,true,true,true,true,false] rfl rfl (one_of HT_.out (by kernel_rfl)) (by decide) (fun K hK => ?_)
                          have hs60 : w58.cell? ⟨gb285, 1, none⟩ = some (u286001) := (blk_cell BK285.out 1).trans rfl
                          have hfs60 := blk_frozen BK285.out 1
                          have hns60_0 := NB284_285.out
                          have hns60_2 := NB296_285.out
                          have hms60_0 := NB285_284.out
                          have hms60_2 := NB285_296.out
                          refine skip_ (w1 := ?_) (by rfl) rfl ?_ ?_
                          rotate_left
                          ·go_simp
                           rfl
                          refine hK.out _ _ ?_
                          clear hK K
                          refine pure_ (i := 10) (N := some 0) (v := ?_) (a' := ?_) #[true,true,true,true,true,true,true,true,true,true,true] rfl rfl (any_of HT_.out (by kernel_rfl)) (fun _ _ _ h => h) (Or.inl ⟨by rfl, pv⟩) pp ?_
                          refine done_ (done_of HT_.out (by kernel_rfl)) ?_
                          try go_wp2
                          go_roundg k5
                          case measure => have := HJ1.out; have := HK2.out; have := HJ24.out; have := HK4.out; have := HK5.out; omega
                          case rel => exact ⟨(x0_5.extract (t294 : Int).toNat x0_5.size), (wrap64 (x57_5 + 1)), (x285000_5), (y297), (.slice Ao59 y297.length co59), dq, dq, H', ⟨by have := HJ1.out; have := HK2.out; have := HJ24.out; have := HK4.out; have := HK5.out; omega⟩, ⟨by (with_reducible repeat (first | apply Kd.R_alloc | apply Kd.R_drewN | apply Kd.R_drew)); exact Kd.R_mono (Kd.R_far (p := ⟨gb285, 1, none⟩) (Kd.R_types HO_55.out BK285.out (by decide)) (fun _ hk => hk.2) (.slice Ao59 y297.length co59)) (fun _ hk => trivial)⟩, ⟨by (with_reducible repeat (first | apply Kd.R_alloc | apply Kd.R_drewN | apply Kd.R_drew)); exact Kd.R_mono (Kd.R_far (p := ⟨gb285, 1, none⟩) (Kd.R_types HO299.out BK285.out (by decide)) (fun _ hk => hk.2) (.slice Ao59 y297.length co59)) (fun _ hk => trivial)⟩, ⟨by (with_reducible repeat (first | refine blk_drewN ?_ _ | refine blk_drew ?_ | refine blk_alloc ?_ _)); refine blk_far ?_ NB284_285.out _; (with_reducible repeat (first | refine blk_drewN ?_ _ | refine blk_drew ?_ | refine blk_alloc ?_ _)); exact BK284.out⟩, ⟨by (with_reducible repeat (first | refine blk_drewN ?_ _ | refine blk_drew ?_ | refine blk_alloc ?_ _)); refine blk_put (cs := #[.int .i64 x286000_2, u286001]) ?_ 1 _ rfl; (with_reducible repeat (first | refine blk_drewN ?_ _ | refine blk_drew ?_ | refine blk_alloc ?_ _)); exact BK285.out⟩, ⟨by repeat (first | (with_reducible first | exact HB.out | apply below_alloc | apply pw_below_drewN | apply below_drew1 | refine below_set ?_ GE284.out | refine below_set ?_ GE285.out | refine below_set ?_ GE296.out) | exact HB.out)⟩⟩
                         ·rw [if_neg c50] at H
                          exact absurd H (by simp)
                        ·rw [if_neg c49] at H
                         exact absurd H (by simp)
                       ·rw [if_neg c48] at H
                        exact absurd H (by simp)
                      ·rw [if_neg c47] at H
                       have c47b0 : (t292 == (rd t288 x57_5)) = false := beq_eq_false_iff_ne.mpr c47
                       have c47b1 : (t292 != (rd t288 x57_5)) = true := bne_iff_ne.mpr c47
                       simp only [Option.some.injEq, Prod.mk.injEq] at H
                       obtain ⟨rfl, rfl, rfl, rfl⟩ := H
                       have p291 : 0 ≤ (x57_5 : Int) := of_decide_eq_true aq
                       have q291 : x57_5 < (t288.length : Int) := of_decide_eq_true aq
                       obtain ⟨ad291, e291, hx291_0⟩ := Kd.at_int (Kd.R_reads' HO_55.out).2.2 x57_5 p291 q291
                       cases e291
                       replace p291 := eq_true p291
                       replace q291 := eq_true q291
                       go_wp2_with (first | ((with_reducible refine gate_callee (f := 61) rfl ?_); refine goesL_ (some 63) rfl rfl Try.func61 (by kernel_rfl) rfl #[.string x0_5] rfl eq_ ?_; (with_reducible refine (keyeventref03_Decode.calls k5 x0_5 t292 t293 t294 t295 _ A45.out).mono ?_); rintro e w61 ⟨rfl, hb⟩; refine ⟨_, rfl, ?_⟩; replace HO_55 := Aside0.mk (Kd.R_below (qR HO_55.out) hb); replace HO_286001 := Aside0.mk (Kd.R_below (qR HO_286001.out) hb); replace BK284 := Aside0.mk (blk_below (g := gb284) (o := .cells #[.int .i64 x285000_5, .slice none 0 0] 25 (0, 0)) (bq BK284.out) hb); replace BK285 := Aside0.mk (blk_below (g := gb285) (o := .cells #[.int .i64 x286000_2, u286001] 25 (0, 0)) (bq BK285.out) hb); replace HB := Aside0.mk (below_step (hq2 HB.out GE284.out GE285.out) hb); (try clear hb)) | ((with_reducible refine gate_dst (N := 11) rfl ?_); refine box_event ?hg (N := 11) ?hd (cs := #[.int .i64 0, .string (⟨#[]⟩ : ByteArray)]) (t := 27) ?hr ?_; (case hd => rfl); (case hg => rfl); (case hr => first | (go_simp; done) | (go_simp; rfl)); intro gb296 hg w62 hbox hb; replace HO_55 := Aside0.mk (Kd.R_below (qR HO_55.out) hb); replace HO_286001 := Aside0.mk (Kd.R_below (Kd.R_elderB (qR HO_286001.out) gb296 (Nat.le_of_eq hg.symm)) hb); have BK296 := Aside0.mk (hbox); have GW296 := Aside0.mk ((by rw [hg]; exact (below_size (hq2 HB.out GE284.out GE285.out)) : w.heap.size ≤ gb296)); have GE296 := Aside0.mk ((by rw [hg]; exact (below_size (hq2 HB.out GE284.out GE285.out)) : w.heap.size ≤ gb296)); replace HB := Aside0.mk (below_step (hq2 HB.out GE284.out GE285.out) hb); have NB284_296 := Aside0.mk ((by rw [hg]; exact Nat.ne_of_lt (blk_lt (g := gb284) (o := .cells #[.int .i64 x285000_5, .slice none 0 0] 25 (0, 0)) (bq BK284.out)) : gb284 ≠ gb296)); have NB296_284 := Aside0.mk ((by rw [hg]; exact Nat.ne_of_gt (blk_lt (g := gb284) (o := .cells #[.int .i64 x285000_5, .slice none 0 0] 25 (0, 0)) (bq BK284.out)) : gb296 ≠ gb284)); replace BK284 := Aside0.mk (blk_below (g := gb284) (o := .cells #[.int .i64 x285000_5, .slice none 0 0] 25 (0, 0)) (bq BK284.out) hb); have NB285_296 := Aside0.mk ((by rw [hg]; exact Nat.ne_of_lt (blk_lt (g := gb285) (o := .cells #[.int .i64 x286000_2, u286001] 25 (0, 0)) (bq BK285.out)) : gb285 ≠ gb296)); have NB296_285 := Aside0.mk ((by rw [hg]; exact Nat.ne_of_gt (blk_lt (g := gb285) (o := .cells #[.int .i64 x286000_2, u286001] 25 (0, 0)) (bq BK285.out)) : gb296 ≠ gb285)); replace BK285 := Aside0.mk (blk_below (g := gb285) (o := .cells #[.int .i64 x286000_2, u286001] 25 (0, 0)) (bq BK285.out) hb); clear hb hbox hg; have hnb63 := NB296_284.out; have hnc63 := NB284_296.out; have hnb64 := NB296_285.out; have hnc64 := NB285_296.out; have hcz65_0 : w62.cell? ⟨gb296, 0, none⟩ = some (.int .i64 0) := (blk_cell BK296.out 0).trans rfl; have hcz65_1 : w62.cell? ⟨gb296, 1, none⟩ = some (.string (⟨#[]⟩ : ByteArray)) := (blk_cell BK296.out 1).trans rfl; have hfz65_0 := blk_frozen BK296.out 0; have hfz65_1 := blk_frozen BK296.out 1; have hnb66 := NB285_284.out; have hnc66 := NB284_285.out; have hcz67_0 : w62.cell? ⟨gb285, 0, none⟩ = some (.int .i64 x286000_2) := (blk_cell BK285.out 0).trans rfl; have hcz67_1 : w62.cell? ⟨gb285, 1, none⟩ = some (u286001) := (blk_cell BK285.out 1).trans rfl; have hfz67_0 := blk_frozen BK285.out 0; have hfz67_1 := blk_frozen BK285.out 1; have hcz68_0 : w62.cell? ⟨gb284, 0, none⟩ = some (.int .i64 x285000_5) := (blk_cell BK284.out 0).trans rfl; have hcz68_1 : w62.cell? ⟨gb284, 1, none⟩ = some (.slice none 0 0) := (blk_cell BK284.out 1).trans rfl; have hfz68_0 := blk_frozen BK284.out 0; have hfz68_1 := blk_frozen BK284.out 1; obtain ⟨Ao69, co69, eo69⟩ := Kd.R_slice HO_286001.out; subst eo69))
                       refine bodyPost_ret (results_ctt rfl _ _ gb284 25 #[.int .i64 x286000_2, .slice Ao69 x286001_5.length co69] (0, 0) _ rfl (by (with_reducible repeat (first | refine blk_drewN ?_ _ | refine blk_drew ?_ | refine blk_alloc ?_ _)); refine blk_put (cs := #[.int .i64 x286000_2, .slice none 0 0]) ?_ 1 _ rfl; (with_reducible repeat (first | refine blk_drewN ?_ _ | refine blk_drew ?_ | refine blk_alloc ?_ _)); refine blk_put (cs := #[.int .i64 x285000_5, .slice none 0 0]) ?_ 0 _ rfl; (with_reducible repeat (first | refine blk_drewN ?_ _ | refine blk_drew ?_ | refine blk_alloc ?_ _)); refine blk_far ?_ NB284_296.out _; (with_reducible repeat (first | refine blk_drewN ?_ _ | refine blk_drew ?_ | refine blk_alloc ?_ _)); refine blk_far ?_ NB284_296.out _; (with_reducible repeat (first | refine blk_drewN ?_ _ | refine blk_drew ?_ | refine blk_alloc ?_ _)); exact BK284.out) Try.underlying25 rfl (by kernel_rfl)) rfl ?_
                       exact ⟨_, rq_, by (with_reducible repeat (first | apply Kd.R_alloc | apply Kd.R_drewN | apply Kd.R_drew)); exact Kd.R_mono (Kd.R_far (p := ⟨gb284, 1, none⟩) (Kd.R_far (p := ⟨gb284, 0, none⟩) (Kd.R_far (p := ⟨gb296, 1, none⟩) (Kd.R_far (p := ⟨gb296, 0, none⟩) (Kd.R_types (Kd.R_mono HO_286001.out (fun k_ hk => (⟨hk, hk.2⟩ : _ ∧ k_ ≠ gb296))) BK284.out (by decide)) (fun _ hk => hk.1.2) (.int .i64 t292)) (fun _ hk => hk.1.2) (.string t293)) (fun _ hk => hk.2) (.int .i64 x286000_2)) (fun _ hk => hk.2) (.slice Ao69 x286001_5.length co69)) (fun _ hk => trivial), by repeat (first | (with_reducible first | exact HB.out | apply below_alloc | apply pw_below_drewN | apply below_drew1 | refine below_set ?_ GE284.out | refine below_set ?_ GE285.out | refine below_set ?_ GE296.out) | exact HB.out)⟩
                     ·rw [if_neg c46] at H
                      have c46b0 : (t295 == 0) = false := beq_eq_false_iff_ne.mpr c46
                      have c46b1 : (t295 != 0) = true := bne_iff_ne.mpr c46
                      simp only [Option.some.injEq, Prod.mk.injEq] at H
                      obtain ⟨rfl, rfl, rfl, rfl⟩ := H
                      have p291 : 0 ≤ (x57_5 : Int) := of_decide_eq_true aq
                      have q291 : x57_5 < (t288.length : Int) := of_decide_eq_true aq
                      obtain ⟨ad291, e291, hx291_0⟩ := Kd.at_int (Kd.R_reads' HO_55.out).2.2 x57_5 p291 q291
                      cases e291
                      replace p291 := eq_true p291
                      replace q291 := eq_true q291
                      go_wp2_with (first | ((with_reducible refine gate_callee (f := 61) rfl ?_); refine goesL_ (some 63) rfl rfl Try.func61 (by kernel_rfl) rfl #[.string x0_5] rfl eq_ ?_; (with_reducible refine (keyeventref03_Decode.calls k5 x0_5 t292 t293 t294 t295 _ A45.out).mono ?_); rintro e w70 ⟨rfl, hb⟩; refine ⟨_, rfl, ?_⟩; replace HO_55 := Aside0.mk (Kd.R_below (qR HO_55.out) hb); replace HO_286001 := Aside0.mk (Kd.R_below (qR HO_286001.out) hb); replace BK284 := Aside0.mk (blk_below (g := gb284) (o := .cells #[.int .i64 x285000_5, .slice none 0 0] 25 (0, 0)) (bq BK284.out) hb); replace BK285 := Aside0.mk (blk_below (g := gb285) (o := .cells #[.int .i64 x286000_2, u286001] 25 (0, 0)) (bq BK285.out) hb); replace HB := Aside0.mk (below_step (hq2 HB.out GE284.out GE285.out) hb); (try clear hb)) | ((with_reducible refine gate_dst (N := 11) rfl ?_); refine box_event ?hg (N := 11) ?hd (cs := #[.int .i64 0, .string (⟨#[]⟩ : ByteArray)]) (t := 27) ?hr ?_; (case hd => rfl); (case hg => rfl); (case hr => first | (go_simp; done) | (go_simp; rfl)); intro gb296 hg w71 hbox hb; replace HO_55 := Aside0.mk (Kd.R_below (qR HO_55.out) hb); replace HO_286001 := Aside0.mk (Kd.R_below (Kd.R_elderB (qR HO_286001.out) gb296 (Nat.le_of_eq hg.symm)) hb); have BK296 := Aside0.mk (hbox); have GW296 := Aside0.mk ((by rw [hg]; exact (below_size (hq2 HB.out GE284.out GE285.out)) : w.heap.size ≤ gb296)); have GE296 := Aside0.mk ((by rw [hg]; exact (below_size (hq2 HB.out GE284.out GE285.out)) : w.heap.size ≤ gb296)); replace HB := Aside0.mk (below_step (hq2 HB.out GE284.out GE285.out) hb); have NB284_296 := Aside0.mk ((by rw [hg]; exact Nat.ne_of_lt (blk_lt (g := gb284) (o := .cells #[.int .i64 x285000_5, .slice none 0 0] 25 (0, 0)) (bq BK284.out)) : gb284 ≠ gb296)); have NB296_284 := Aside0.mk ((by rw [hg]; exact Nat.ne_of_gt (blk_lt (g := gb284) (o := .cells #[.int .i64 x285000_5, .slice none 0 0] 25 (0, 0)) (bq BK284.out)) : gb296 ≠ gb284)); replace BK284 := Aside0.mk (blk_below (g := gb284) (o := .cells #[.int .i64 x285000_5, .slice none 0 0] 25 (0, 0)) (bq BK284.out) hb); have NB285_296 := Aside0.mk ((by rw [hg]; exact Nat.ne_of_lt (blk_lt (g := gb285) (o := .cells #[.int .i64 x286000_2, u286001] 25 (0, 0)) (bq BK285.out)) : gb285 ≠ gb296)); have NB296_285 := Aside0.mk ((by rw [hg]; exact Nat.ne_of_gt (blk_lt (g := gb285) (o := .cells #[.int .i64 x286000_2, u286001] 25 (0, 0)) (bq BK285.out)) : gb296 ≠ gb285)); replace BK285 := Aside0.mk (blk_below (g := gb285) (o := .cells #[.int .i64 x286000_2, u286001] 25 (0, 0)) (bq BK285.out) hb); clear hb hbox hg; have hnb72 := NB296_284.out; have hnc72 := NB284_296.out; have hnb73 := NB296_285.out; have hnc73 := NB285_296.out; have hcz74_0 : w71.cell? ⟨gb296, 0, none⟩ = some (.int .i64 0) := (blk_cell BK296.out 0).trans rfl; have hcz74_1 : w71.cell? ⟨gb296, 1, none⟩ = some (.string (⟨#[]⟩ : ByteArray)) := (blk_cell BK296.out 1).trans rfl; have hfz74_0 := blk_frozen BK296.out 0; have hfz74_1 := blk_frozen BK296.out 1; have hnb75 := NB285_284.out; have hnc75 := NB284_285.out; have hcz76_0 : w71.cell? ⟨gb285, 0, none⟩ = some (.int .i64 x286000_2) := (blk_cell BK285.out 0).trans rfl; have hcz76_1 : w71.cell? ⟨gb285, 1, none⟩ = some (u286001) := (blk_cell BK285.out 1).trans rfl; have hfz76_0 := blk_frozen BK285.out 0; have hfz76_1 := blk_frozen BK285.out 1; have hcz77_0 : w71.cell? ⟨gb284, 0, none⟩ = some (.int .i64 x285000_5) := (blk_cell BK284.out 0).trans rfl; have hcz77_1 : w71.cell? ⟨gb284, 1, none⟩ = some (.slice none 0 0) := (blk_cell BK284.out 1).trans rfl; have hfz77_0 := blk_frozen BK284.out 0; have hfz77_1 := blk_frozen BK284.out 1; obtain ⟨Ao78, co78, eo78⟩ := Kd.R_slice HO_286001.out; subst eo78))
                      refine bodyPost_ret (results_ctt rfl _ _ gb284 25 #[.int .i64 x286000_2, .slice Ao78 x286001_5.length co78] (0, 0) _ rfl (by (with_reducible repeat (first | refine blk_drewN ?_ _ | refine blk_drew ?_ | refine blk_alloc ?_ _)); refine blk_put (cs := #[.int .i64 x286000_2, .slice none 0 0]) ?_ 1 _ rfl; (with_reducible repeat (first | refine blk_drewN ?_ _ | refine blk_drew ?_ | refine blk_alloc ?_ _)); refine blk_put (cs := #[.int .i64 x285000_5, .slice none 0 0]) ?_ 0 _ rfl; (with_reducible repeat (first | refine blk_drewN ?_ _ | refine blk_drew ?_ | refine blk_alloc ?_ _)); refine blk_far ?_ NB284_296.out _; (with_reducible repeat (first | refine blk_drewN ?_ _ | refine blk_drew ?_ | refine blk_alloc ?_ _)); refine blk_far ?_ NB284_296.out _; (with_reducible repeat (first | refine blk_drewN ?_ _ | refine blk_drew ?_ | refine blk_alloc ?_ _)); exact BK284.out) Try.underlying25 rfl (by kernel_rfl)) rfl ?_
                      exact ⟨_, rq_, by (with_reducible repeat (first | apply Kd.R_alloc | apply Kd.R_drewN | apply Kd.R_drew)); exact Kd.R_mono (Kd.R_far (p := ⟨gb284, 1, none⟩) (Kd.R_far (p := ⟨gb284, 0, none⟩) (Kd.R_far (p := ⟨gb296, 1, none⟩) (Kd.R_far (p := ⟨gb296, 0, none⟩) (Kd.R_types (Kd.R_mono HO_286001.out (fun k_ hk => (⟨hk, hk.2⟩ : _ ∧ k_ ≠ gb296))) BK284.out (by decide)) (fun _ hk => hk.1.2) (.int .i64 t292)) (fun _ hk => hk.1.2) (.string t293)) (fun _ hk => hk.2) (.int .i64 x286000_2)) (fun _ hk => hk.2) (.slice Ao78 x286001_5.length co78)) (fun _ hk => trivial), by repeat (first | (with_reducible first | exact HB.out | apply below_alloc | apply pw_below_drewN | apply below_drew1 | refine below_set ?_ GE284.out | refine below_set ?_ GE285.out | refine below_set ?_ GE296.out) | exact HB.out)⟩
                    ·rw [if_neg c44] at H
                     exact absurd H (by simp)
                   ·rw [if_neg c43] at H
                    exact absurd H (by simp)
                  ·rw [if_neg c42] at H
                   have c42b0 := decide_eq_false c42
                   clear c42
                   have H' := Aside0.mk H
                   clear H
                   go_wp2
                   go_roundg k5
                   case measure => have := HJ1.out; have := HK2.out; have := HJ24.out; have := HK4.out; have := HK5.out; omega
                   case rel => exact ⟨(x0_5), (wrap64 (x51_4 + 1)), (x285000_5), (x286001_5), (u286001), dq, dq, H', ⟨by have := HJ1.out; have := HK2.out; have := HJ24.out; have := HK4.out; have := HK5.out; omega⟩, ⟨by (with_reducible repeat (first | apply Kd.R_alloc | apply Kd.R_drewN | apply Kd.R_drew)); exact HO_286001.out⟩, ⟨by (with_reducible repeat (first | refine blk_drewN ?_ _ | refine blk_drew ?_ | refine blk_alloc ?_ _)); exact BK284.out⟩, ⟨by (with_reducible repeat (first | refine blk_drewN ?_ _ | refine blk_drew ?_ | refine blk_alloc ?_ _)); exact BK285.out⟩, ⟨hq2 HB.out GE284.out GE285.out⟩⟩
               ·rw [if_neg c36] at H
                have c36b0 := decide_eq_false c36
                clear c36
                simp only [Option.some.injEq, Prod.mk.injEq] at H
                obtain ⟨rfl, rfl, rfl, rfl⟩ := H
                have hnb79 := NB285_284.out
                have hnc79 := NB284_285.out
                have hcz80_0 : wr.cell? ⟨gb285, 0, none⟩ = some (.int .i64 x286000_2) := (blk_cell BK285.out 0).trans rfl
                have hcz80_1 : wr.cell? ⟨gb285, 1, none⟩ = some (u286001) := (blk_cell BK285.out 1).trans rfl
                have hfz80_0 := blk_frozen BK285.out 0
                have hfz80_1 := blk_frozen BK285.out 1
                have hcz81_0 : wr.cell? ⟨gb284, 0, none⟩ = some (.int .i64 x285000_4) := (blk_cell BK284.out 0).trans rfl
                have hcz81_1 : wr.cell? ⟨gb284, 1, none⟩ = some (.slice none 0 0) := (blk_cell BK284.out 1).trans rfl
                have hfz81_0 := blk_frozen BK284.out 0
                have hfz81_1 := blk_frozen BK284.out 1
                obtain ⟨Ao82, co82, eo82⟩ := Kd.R_slice HO_286001.out
                subst eo82
                go_wp2
                refine bodyPost_ret (results_ctt rfl _ _ gb284 25 #[.int .i64 x286000_2, .slice Ao82 x286001_4.length co82] (0, 0) _ rfl (by (with_reducible repeat (first | refine blk_drewN ?_ _ | refine blk_drew ?_ | refine blk_alloc ?_ _)); refine blk_put (cs := #[.int .i64 x286000_2, .slice none 0 0]) ?_ 1 _ rfl; (with_reducible repeat (first | refine blk_drewN ?_ _ | refine blk_drew ?_ | refine blk_alloc ?_ _)); refine blk_put (cs := #[.int .i64 x285000_4, .slice none 0 0]) ?_ 0 _ rfl; (with_reducible repeat (first | refine blk_drewN ?_ _ | refine blk_drew ?_ | refine blk_alloc ?_ _)); exact BK284.out) Try.underlying25 rfl (by kernel_rfl)) rfl ?_
                exact ⟨_, rq_, by (with_reducible repeat (first | apply Kd.R_alloc | apply Kd.R_drewN | apply Kd.R_drew)); exact Kd.R_mono (Kd.R_far (p := ⟨gb284, 1, none⟩) (Kd.R_far (p := ⟨gb284, 0, none⟩) (Kd.R_types HO_286001.out BK284.out (by decide)) (fun _ hk => hk.2) (.int .i64 x286000_2)) (fun _ hk => hk.2) (.slice Ao82 x286001_4.length co82)) (fun _ hk => trivial), hq2 HB.out GE284.out GE285.out⟩
            ·rw [if_neg c35] at H
             exact absurd H (by simp)
        ·rw [if_neg c23] at H
         exact absurd H (by simp)
       ·rw [if_neg c22] at H
        exact absurd H (by simp)

end Go.Proofs.Ytookjdhfpbmjkaa.X
