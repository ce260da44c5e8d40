-- Written by xprint.py, a program of this repo that leads the kit's print.py: Lean checks it.
import Derived.Test.YtookjdhfpbmjkaaX0
import Derived.Test.YtookjdhfpbmjkaaX6
import Derived.Test.YtookjdhfpbmjkaaX7
import Derived.Test.YtookjdhfpbmjkaaX9
namespace Go.Proofs.Ytookjdhfpbmjkaa.X
open Go.RowKit Go.Proofs.YtookjdhfpbmjkaaW.PrintWords Go.Proofs.YtookjdhfpbmjkaaW.PrintLast Go.Proofs.YtookjdhfpbmjkaaW.PrintMore
attribute [local go_sem] max2_int min2_int max_two min_two max_three min_three max_four min_four   -- for this text's walks alone
set_option linter.unusedVariables false
set_option linter.unusedSimpArgs false

/-! ### keyeventref04_Encode: function 9 -/
mutual
def keyeventref04_Encode.l0 : Nat → List (S25) → Int → List (S25) → Int → Int → Option (ByteArray × Int)
  | 0, _, _, _, _, _ => none
  | k + 1, x0, x4, x18, x19, x20 => if x20 < x19 then (if 0 ≤ x20 then (if x20 < (x18.length : Int) then (keyeventref04_Encode.l0 k x0 (wrap64 (x4 + (((rd_T25 x18 x20).f1).length : Int))) x18 x19 (wrap64 (x20 + 1))) else (none)) else (none)) else (if x4 > 1024 then (some ((⟨#[]⟩ : ByteArray), 3)) else (keyeventref04_Encode.l1 k x0 x0 (x0.length : Int) 0))
def keyeventref04_Encode.l1 : Nat → List (S25) → List (S25) → Int → Int → Option (ByteArray × Int)
  | 0, _, _, _, _ => none
  | k + 1, x0, x32, x33, x34 => if x34 < x33 then (if 0 ≤ x34 then (if x34 < (x32.length : Int) then ((keyeventref04_follows.f k ((rd_T25 x32 x34).f0) ((rd_T25 x32 x34).f1)).bind fun t177 => (if t177 = true then (keyeventref04_Encode.l1 k x0 x32 x33 (wrap64 (x34 + 1))) else (some ((⟨#[]⟩ : ByteArray), 7)))) else (none)) else (none)) else (keyeventref04_Encode.l2 k (⟨#[]⟩ : ByteArray) x0 (x0.length : Int) 0)
def keyeventref04_Encode.l2 : Nat → ByteArray → List (S25) → Int → Int → Option (ByteArray × Int)
  | 0, _, _, _, _ => none
  | k + 1, x9, x42, x43, x44 => if x44 < x43 then (if 0 ≤ x44 then (if x44 < (x42.length : Int) then ((keyeventref04_Permitted.f k ((rd_T25 x42 x44).f0)).bind fun t180 => (if (t180.length : Int) = 0 then (none) else ((keyeventref04_Mark.f k ((rd_T25 x42 x44).f0) (wrap64 ((((rd_T25 x42 x44).f1).length : Int) / (t180.length : Int)))).bind fun bt183 => (if x9.size + bt183.1.size ≤ 9223372036854775807 then (keyeventref04_Encode.l3 k (x9 ++ bt183.1) x42 x43 x44 ((rd_T25 x42 x44).f1) (((rd_T25 x42 x44).f1).length : Int) 0) else (none))))) else (none)) else (none)) else (some (x9, 0))
def keyeventref04_Encode.l3 : Nat → ByteArray → List (S25) → Int → Int → List (S27) → Int → Int → Option (ByteArray × Int)
  | 0, _, _, _, _, _, _, _ => none
  | k + 1, x9, x42, x43, x44, x66, x67, x68 => if x68 < x67 then (if 0 ≤ x68 then (if x68 < (x66.length : Int) then ((keyeventref03_Encode.f k ((rd_T27 x66 x68).f0) ((rd_T27 x66 x68).f1)).bind fun bt187 => (if bt187.2 = 0 then (if x9.size + bt187.1.size ≤ 9223372036854775807 then (keyeventref04_Encode.l3 k (x9 ++ bt187.1) x42 x43 x44 x66 x67 (wrap64 (x68 + 1))) else (none)) else (some ((⟨#[]⟩ : ByteArray), bt187.2)))) else (none)) else (none)) else (keyeventref04_Encode.l2 k x9 x42 x43 (wrap64 (x44 + 1)))
end
def keyeventref04_Encode.f (k : Nat) (l0 : List (S25)) : Option (ByteArray × Int) := keyeventref04_Encode.l0 k l0 0 l0 (l0.length : Int) 0
theorem keyeventref04_Encode.mono_l : ∀ k, (∀ y0 y1 y2 y3 y4, LeO (keyeventref04_Encode.l0 k y0 y1 y2 y3 y4) (keyeventref04_Encode.l0 (k + 1) y0 y1 y2 y3 y4)) ∧ (∀ y0 y1 y2 y3, LeO (keyeventref04_Encode.l1 k y0 y1 y2 y3) (keyeventref04_Encode.l1 (k + 1) y0 y1 y2 y3)) ∧ (∀ y0 y1 y2 y3, LeO (keyeventref04_Encode.l2 k y0 y1 y2 y3) (keyeventref04_Encode.l2 (k + 1) y0 y1 y2 y3)) ∧ (∀ y0 y1 y2 y3 y4 y5 y6, LeO (keyeventref04_Encode.l3 k y0 y1 y2 y3 y4 y5 y6) (keyeventref04_Encode.l3 (k + 1) y0 y1 y2 y3 y4 y5 y6))
  | 0 => ⟨fun _ _ _ _ _ r h => by simp [keyeventref04_Encode.l0] at h, fun _ _ _ _ r h => by simp [keyeventref04_Encode.l1] at h, fun _ _ _ _ r h => by simp [keyeventref04_Encode.l2] at h, fun _ _ _ _ _ _ _ r h => by simp [keyeventref04_Encode.l3] at h⟩
  | k + 1 => by
    obtain ⟨ih0, ih1, ih2, ih3⟩ := keyeventref04_Encode.mono_l k
    refine ⟨?_, ?_, ?_, ?_⟩
    · intro y0 y1 y2 y3 y4
      unfold keyeventref04_Encode.l0
      repeat' first
      | (with_reducible exact ih0 _ _ _ _ _)
      | (with_reducible exact ih1 _ _ _ _)
      | (with_reducible exact ih2 _ _ _ _)
      | (with_reducible exact ih3 _ _ _ _ _ _ _)
      | (with_reducible exact keyeventref03_Encode.mono _ _ _)
      | (with_reducible exact keyeventref04_Mark.mono _ _ _)
      | (with_reducible exact keyeventref04_Permitted.mono _ _)
      | (with_reducible exact keyeventref04_follows.mono _ _ _)
      | (with_reducible exact LeO.refl _)
      | (with_reducible exact LeO.none _)
      | (with_reducible refine LeO.ite ?_ ?_)
      | (with_reducible refine LeO.bind ?_ (fun _ => ?_))
      | exact ih0 _ _ _ _ _
      | exact ih1 _ _ _ _
      | exact ih2 _ _ _ _
      | exact ih3 _ _ _ _ _ _ _
      | exact keyeventref03_Encode.mono _ _ _
      | exact keyeventref04_Mark.mono _ _ _
      | exact keyeventref04_Permitted.mono _ _
      | exact keyeventref04_follows.mono _ _ _
      | exact LeO.none _
      | refine LeO.ite ?_ ?_
      | refine LeO.bind ?_ (fun _ => ?_)
    · intro y0 y1 y2 y3
      unfold keyeventref04_Encode.l1
      repeat' first
      | (with_reducible exact ih0 _ _ _ _ _)
      | (with_reducible exact ih1 _ _ _ _)
      | (with_reducible exact ih2 _ _ _ _)
      | (with_reducible exact ih3 _ _ _ _ _ _ _)
      | (with_reducible exact keyeventref03_Encode.mono _ _ _)
      | (with_reducible exact keyeventref04_Mark.mono _ _ _)
      | (with_reducible exact keyeventref04_Permitted.mono _ _)
      | (with_reducible exact keyeventref04_follows.mono _ _ _)
      | (with_reducible exact LeO.refl _)
      | (with_reducible exact LeO.none _)
      | (with_reducible refine LeO.ite ?_ ?_)
      | (with_reducible refine LeO.bind ?_ (fun _ => ?_))
      | exact ih0 _ _ _ _ _
      | exact ih1 _ _ _ _
      | exact ih2 _ _ _ _
      | exact ih3 _ _ _ _ _ _ _
      | exact keyeventref03_Encode.mono _ _ _
      | exact keyeventref04_Mark.mono _ _ _
      | exact keyeventref04_Permitted.mono _ _
      | exact keyeventref04_follows.mono _ _ _
      | exact LeO.none _
      | refine LeO.ite ?_ ?_
      | refine LeO.bind ?_ (fun _ => ?_)
    · intro y0 y1 y2 y3
      unfold keyeventref04_Encode.l2
      repeat' first
      | (with_reducible exact ih0 _ _ _ _ _)
      | (with_reducible exact ih1 _ _ _ _)
      | (with_reducible exact ih2 _ _ _ _)
      | (with_reducible exact ih3 _ _ _ _ _ _ _)
      | (with_reducible exact keyeventref03_Encode.mono _ _ _)
      | (with_reducible exact keyeventref04_Mark.mono _ _ _)
      | (with_reducible exact keyeventref04_Permitted.mono _ _)
      | (with_reducible exact keyeventref04_follows.mono _ _ _)
      | (with_reducible exact LeO.refl _)
      | (with_reducible exact LeO.none _)
      | (with_reducible refine LeO.ite ?_ ?_)
      | (with_reducible refine LeO.bind ?_ (fun _ => ?_))
      | exact ih0 _ _ _ _ _
      | exact ih1 _ _ _ _
      | exact ih2 _ _ _ _
      | exact ih3 _ _ _ _ _ _ _
      | exact keyeventref03_Encode.mono _ _ _
      | exact keyeventref04_Mark.mono _ _ _
      | exact keyeventref04_Permitted.mono _ _
      | exact keyeventref04_follows.mono _ _ _
      | exact LeO.none _
      | refine LeO.ite ?_ ?_
      | refine LeO.bind ?_ (fun _ => ?_)
    · intro y0 y1 y2 y3 y4 y5 y6
      unfold keyeventref04_Encode.l3
      repeat' first
      | (with_reducible exact ih0 _ _ _ _ _)
      | (with_reducible exact ih1 _ _ _ _)
      | (with_reducible exact ih2 _ _ _ _)
      | (with_reducible exact ih3 _ _ _ _ _ _ _)
      | (with_reducible exact keyeventref03_Encode.mono _ _ _)
      | (with_reducible exact keyeventref04_Mark.mono _ _ _)
      | (with_reducible exact keyeventref04_Permitted.mono _ _)
      | (with_reducible exact keyeventref04_follows.mono _ _ _)
      | (with_reducible exact LeO.refl _)
      | (with_reducible exact LeO.none _)
      | (with_reducible refine LeO.ite ?_ ?_)
      | (with_reducible refine LeO.bind ?_ (fun _ => ?_))
      | exact ih0 _ _ _ _ _
      | exact ih1 _ _ _ _
      | exact ih2 _ _ _ _
      | exact ih3 _ _ _ _ _ _ _
      | exact keyeventref03_Encode.mono _ _ _
      | exact keyeventref04_Mark.mono _ _ _
      | exact keyeventref04_Permitted.mono _ _
      | exact keyeventref04_follows.mono _ _ _
      | exact LeO.none _
      | refine LeO.ite ?_ ?_
      | refine LeO.bind ?_ (fun _ => ?_)
theorem keyeventref04_Encode.mono : ∀ a0 k, LeO (keyeventref04_Encode.f k a0) (keyeventref04_Encode.f (k + 1) a0) := by
  intro a0 k
  obtain ⟨ih0, ih1, ih2, ih3⟩ := keyeventref04_Encode.mono_l k
  unfold keyeventref04_Encode.f
  repeat' first
      | (with_reducible exact ih0 _ _ _ _ _)
      | (with_reducible exact ih1 _ _ _ _)
      | (with_reducible exact ih2 _ _ _ _)
      | (with_reducible exact ih3 _ _ _ _ _ _ _)
      | (with_reducible exact keyeventref03_Encode.mono _ _ _)
      | (with_reducible exact keyeventref04_Mark.mono _ _ _)
      | (with_reducible exact keyeventref04_Permitted.mono _ _)
      | (with_reducible exact keyeventref04_follows.mono _ _ _)
      | (with_reducible exact LeO.refl _)
      | (with_reducible exact LeO.none _)
      | (with_reducible refine LeO.ite ?_ ?_)
      | (with_reducible refine LeO.bind ?_ (fun _ => ?_))
      | exact ih0 _ _ _ _ _
      | exact ih1 _ _ _ _
      | exact ih2 _ _ _ _
      | exact ih3 _ _ _ _ _ _ _
      | exact keyeventref03_Encode.mono _ _ _
      | exact keyeventref04_Mark.mono _ _ _
      | exact keyeventref04_Permitted.mono _ _
      | exact keyeventref04_follows.mono _ _ _
      | exact LeO.none _
      | refine LeO.ite ?_ ?_
      | refine LeO.bind ?_ (fun _ => ?_)
def keyeventref04_Encode.T19 : Bool × List (List Nat × List Nat) := (true, [([], []), ([0], [0]), ([], []), ([2], [2]), ([3], [3]), ([], []), ([5], [5]), ([6], [6]), ([7], [7]), ([4,8], [4,8]), ([1,9,7], [1,9]), ([10], [10]), ([11], [11]), ([11], [11]), ([12,10,0,1,2,3,4,5,6,7,8,9,10,11,12], [12]), ([13,14,0,1,2,3,4,5,6,7,8,9,10,11,12,13,14], [13])])
def keyeventref04_Encode.B19 : List Nat := [0,1,0,4,12,0,32,96,224,508,1023,2047,4095,4095,8191,32767]
theorem keyeventref04_Encode.tab19 : rtab .any (opsOf Try.f9 19) = keyeventref04_Encode.T19 := by kernel_rfl
theorem keyeventref04_Encode.bits19 : waitsOk keyeventref04_Encode.T19.2 keyeventref04_Encode.B19 = true := by kernel_rfl
set_option maxHeartbeats 8000000 in
set_option maxRecDepth 100000 in
theorem keyeventref04_Encode.calls (k : Nat) (A0 : Option Addr) (c0 : Nat) (l0 : List (S25)) (r1 : ByteArray) (r2 : Int) (w : World) (hr0 : Kd.C k25 w A0 l0.length l0) (hc0 : l0.length ≤ c0) (h : keyeventref04_Encode.f k l0 = some (r1, r2)) :
    Calls Try.prog 9 #[.slice A0 l0.length c0] w fun e w' => e = .returned (.tuple #[.string r1, .int .i64 r2]) ∧ Below w.heap.size w w' := by
 have hu25 := Try.underlying25
 have hu27 := Try.underlying27
 have HR0 := Aside0.mk hr0
 have HC0 := Aside0.mk hc0
 clear hr0 hc0
 have HB := Aside0.mk (Below.refl w.heap.size w)
 have H : (keyeventref04_Encode.l0 k l0 0 l0 (l0.length : Int) 0) = some (r1, r2) := h
 clear h
 have H' := Aside0.mk H
 clear H
 go_enter Try.func9, Try.ntmps9
 go_wp2
 go_loopg [4,20] k (fun kq v4 v20 w' => ∃ (x4_1 : Int) (x20_1 : Int), v4 = .int .i64 x4_1 ∧ v20 = .int .i64 x20_1 ∧ Aside0 (keyeventref04_Encode.l0 kq l0 x4_1 l0 (l0.length : Int) x20_1 = some (r1, r2)) ∧ Aside0 (kq ≤ k) ∧ Aside0 (Below w.heap.size w w'))
 case atStart => exact ⟨(0), (0), dq, dq, H', ⟨Nat.le_refl _⟩, ⟨hq HB.out⟩⟩
 case round =>
  clear H'
  obtain ⟨x4_1, x20_1, rfl, rfl, HA, HK1, HB⟩ := hrel
  cases gk with
  | zero => exact absurd HA.out (by simp [keyeventref04_Encode.l0])
  | succ k1 =>
   have H := HA.out
   clear HA
   simp only [keyeventref04_Encode.l0] at H
   by_cases c2 : x20_1 < (l0.length : Int)
   ·rw [if_pos c2] at H
    have c2b0 := decide_eq_true c2
    clear c2
    by_cases c3 : 0 ≤ x20_1
    ·rw [if_pos c3] at H
     have c3b0 := decide_eq_true c3
     clear c3
     by_cases c4 : x20_1 < (l0.length : Int)
     ·rw [if_pos c4] at H
      have c4b0 := decide_eq_true c4
      clear c4
      have H' := Aside0.mk H
      clear H
      have p173 : 0 ≤ (x20_1 : Int) := of_decide_eq_true aq
      have q173 : x20_1 < (l0.length : Int) := of_decide_eq_true aq
      obtain ⟨ad173, A173_1, c173_1, e173, hx173_0, hx173_1, hl173_1, hi173_1⟩ := at_T25 HR0.out x20_1 p173 q173
      cases e173
      replace hx173_0 := (HB.out.cell (World.block_lt_of_cell? w _ hx173_0)).trans hx173_0
      replace hx173_1 := (HB.out.cell (World.block_lt_of_cell? w _ hx173_1)).trans hx173_1
      have HR173_1 := Aside0.mk hi173_1
      have HC173_1 := Aside0.mk hl173_1
      clear hi173_1 hl173_1
      replace p173 := eq_true p173
      replace q173 := eq_true q173
      go_wp2_with (first | ((with_reducible refine gate_dst (N := 6) rfl ?_); refine box_event ?hg (N := 6) ?hd (cs := #[.int .i64 0, .slice none 0 0]) (t := 25) ?hr ?_; (case hd => rfl); (case hg => rfl); (case hr => first | (go_simp; done) | (go_simp; rfl)); intro gb174 hg w5 hbox hb; have BK174 := Aside0.mk (hbox); have GW174 := Aside0.mk ((by rw [hg]; exact (below_size (hq HB.out)) : w.heap.size ≤ gb174)); have GE174 := Aside0.mk ((by rw [hg]; exact (below_size (hq HB.out)) : w.heap.size ≤ gb174)); replace HB := Aside0.mk (below_step (hq HB.out) hb); clear hb hbox hg; have hcz6_0 : w5.cell? ⟨gb174, 0, none⟩ = some (.int .i64 0) := (blk_cell BK174.out 0).trans rfl; have hcz6_1 : w5.cell? ⟨gb174, 1, none⟩ = some (.slice none 0 0) := (blk_cell BK174.out 1).trans rfl; have hfz6_0 := blk_frozen BK174.out 0; have hfz6_1 := blk_frozen BK174.out 1))
      go_roundg k1
      case measure => have := HK1.out; omega
      case rel => exact ⟨(wrap64 (x4_1 + (((rd_T25 l0 x20_1).f1).length : Int))), (wrap64 (x20_1 + 1)), dq, dq, H', ⟨by have := HK1.out; omega⟩, ⟨hq1 HB.out GE174.out⟩⟩
     ·rw [if_neg c4] at H
      exact absurd H (by simp)
    ·rw [if_neg c3] at H
     exact absurd H (by simp)
   ·rw [if_neg c2] at H
    have c2b0 := decide_eq_false c2
    clear c2
    by_cases c7 : x4_1 > 1024
    ·rw [if_pos c7] at H
     have c7b0 := decide_eq_true c7
     clear c7
     simp only [Option.some.injEq, Prod.mk.injEq] at H
     obtain ⟨rfl, rfl⟩ := H
     go_wp2
     go_ret2
     exact ⟨rq_, hq HB.out⟩
    ·rw [if_neg c7] at H
     have c7b0 := decide_eq_false c7
     clear c7
     have H' := Aside0.mk H
     clear H
     go_wp2
     go_loopg [34] k1 (fun kq v34 w' => ∃ (x34_2 : Int), v34 = .int .i64 x34_2 ∧ Aside0 (keyeventref04_Encode.l1 kq l0 l0 (l0.length : Int) x34_2 = some (r1, r2)) ∧ Aside0 (kq ≤ k1) ∧ Aside0 (Below w.heap.size w w'))
     case atStart => exact ⟨(0), dq, H', ⟨Nat.le_refl _⟩, ⟨hq HB.out⟩⟩
     case round =>
      clear H'
      try clear c1
      try clear p1
      try clear q1
      try clear hx1
      try clear c2
      try clear c2b0
      try clear p2
      try clear c3
      try clear c3b0
      try clear c4
      try clear c4b0
      try clear p6
      try clear c7
      try clear c7b0
      try clear hcz6_0
      try clear hcz6_1
      try clear hfz6_0
      try clear hfz6_1
      try clear hx173_0
      try clear hx173_1
      try clear p173
      try clear q173
      obtain ⟨x34_2, rfl, HA, HK2, HB⟩ := hrel
      cases gk with
      | zero => exact absurd HA.out (by simp [keyeventref04_Encode.l1])
      | succ k2 =>
       have H := HA.out
       clear HA
       simp only [keyeventref04_Encode.l1] at H
       by_cases c8 : x34_2 < (l0.length : Int)
       ·rw [if_pos c8] at H
        have c8b0 := decide_eq_true c8
        clear c8
        by_cases c9 : 0 ≤ x34_2
        ·rw [if_pos c9] at H
         have c9b0 := decide_eq_true c9
         clear c9
         by_cases c10 : x34_2 < (l0.length : Int)
         ·rw [if_pos c10] at H
          have c10b0 := decide_eq_true c10
          clear c10
          obtain ⟨t177, A11, H⟩ := bindS H
          by_cases c12 : t177 = true
          ·subst c12
           rw [if_pos rfl] at H
           have H' := Aside0.mk H
           clear H
           have p175 : 0 ≤ (x34_2 : Int) := of_decide_eq_true aq
           have q175 : x34_2 < (l0.length : Int) := of_decide_eq_true aq
           obtain ⟨ad175, A175_1, c175_1, e175, hx175_0, hx175_1, hl175_1, hi175_1⟩ := at_T25 HR0.out x34_2 p175 q175
           cases e175
           replace hx175_0 := (HB.out.cell (World.block_lt_of_cell? w _ hx175_0)).trans hx175_0
           replace hx175_1 := (HB.out.cell (World.block_lt_of_cell? w _ hx175_1)).trans hx175_1
           have HR175_1 := Aside0.mk hi175_1
           have HC175_1 := Aside0.mk hl175_1
           clear hi175_1 hl175_1
           replace p175 := eq_true p175
           replace q175 := eq_true q175
           go_wp2_with (first | ((with_reducible refine gate_dst (N := 8) rfl ?_); refine box_event ?hg (N := 8) ?hd (cs := #[.int .i64 0, .slice none 0 0]) (t := 25) ?hr ?_; (case hd => rfl); (case hg => rfl); (case hr => first | (go_simp; done) | (go_simp; rfl)); intro gb176 hg w13 hbox hb; have BK176 := Aside0.mk (hbox); have GW176 := Aside0.mk ((by rw [hg]; exact (below_size (hq HB.out)) : w.heap.size ≤ gb176)); have GE176 := Aside0.mk ((by rw [hg]; exact (below_size (hq HB.out)) : w.heap.size ≤ gb176)); replace HB := Aside0.mk (below_step (hq HB.out) hb); clear hb hbox hg; have hcz14_0 : w13.cell? ⟨gb176, 0, none⟩ = some (.int .i64 0) := (blk_cell BK176.out 0).trans rfl; have hcz14_1 : w13.cell? ⟨gb176, 1, none⟩ = some (.slice none 0 0) := (blk_cell BK176.out 1).trans rfl; have hfz14_0 := blk_frozen BK176.out 0; have hfz14_1 := blk_frozen BK176.out 1) | ((with_reducible refine gate_callee (f := 35) rfl ?_); refine goesL_ (some 39) rfl rfl Try.func35 (by kernel_rfl) rfl #[.agg #[.int .i64 ((rd_T25 l0 x34_2).f0), .slice A175_1 ((rd_T25 l0 x34_2).f1).length c175_1]] rfl eq_ ?_; (with_reducible refine (keyeventref04_follows.calls k2 ((rd_T25 l0 x34_2).f0) _ _ ((rd_T25 l0 x34_2).f1) true _ ?side1 ?side2 A11.out).mono ?_); (case side1 => exact Kd.C_below HR175_1.out (hq1 HB.out GE176.out)); (case side2 => exact HC175_1.out); rintro e w15 ⟨rfl, hb⟩; refine ⟨_, rfl, ?_⟩; replace BK176 := Aside0.mk (blk_below (g := gb176) (o := .cells #[.int .i64 ((rd_T25 l0 x34_2).f0), .slice A175_1 ((rd_T25 l0 x34_2).f1).length c175_1] 25 (0, 0)) (by (with_reducible repeat (first | refine blk_drewN ?_ _ | refine blk_drew ?_ | refine blk_alloc ?_ _)); refine blk_put (cs := #[.int .i64 ((rd_T25 l0 x34_2).f0), .slice none 0 0]) ?_ 1 _ rfl; (with_reducible repeat (first | refine blk_drewN ?_ _ | refine blk_drew ?_ | refine blk_alloc ?_ _)); refine blk_put (cs := #[.int .i64 0, .slice none 0 0]) ?_ 0 _ rfl; (with_reducible repeat (first | refine blk_drewN ?_ _ | refine blk_drew ?_ | refine blk_alloc ?_ _)); exact BK176.out) hb); replace HB := Aside0.mk (below_step (hq1 HB.out GE176.out) hb); (try clear hb)))
           go_roundg k2
           case measure => have := HK1.out; have := HK2.out; omega
           case rel => exact ⟨(wrap64 (x34_2 + 1)), dq, H', ⟨by have := HK1.out; have := HK2.out; omega⟩, ⟨hq1 HB.out GE176.out⟩⟩
          ·replace c12 := Bool.eq_false_iff.mpr c12
           subst c12
           rw [if_neg (show ¬ (false = true) by decide)] at H
           simp only [Option.some.injEq, Prod.mk.injEq] at H
           obtain ⟨rfl, rfl⟩ := H
           have p175 : 0 ≤ (x34_2 : Int) := of_decide_eq_true aq
           have q175 : x34_2 < (l0.length : Int) := of_decide_eq_true aq
           obtain ⟨ad175, A175_1, c175_1, e175, hx175_0, hx175_1, hl175_1, hi175_1⟩ := at_T25 HR0.out x34_2 p175 q175
           cases e175
           replace hx175_0 := (HB.out.cell (World.block_lt_of_cell? w _ hx175_0)).trans hx175_0
           replace hx175_1 := (HB.out.cell (World.block_lt_of_cell? w _ hx175_1)).trans hx175_1
           have HR175_1 := Aside0.mk hi175_1
           have HC175_1 := Aside0.mk hl175_1
           clear hi175_1 hl175_1
           replace p175 := eq_true p175
           replace q175 := eq_true q175
           go_wp2_with (first | ((with_reducible refine gate_dst (N := 8) rfl ?_); refine box_event ?hg (N := 8) ?hd (cs := #[.int .i64 0, .slice none 0 0]) (t := 25) ?hr ?_; (case hd => rfl); (case hg => rfl); (case hr => first | (go_simp; done) | (go_simp; rfl)); intro gb176 hg w16 hbox hb; have BK176 := Aside0.mk (hbox); have GW176 := Aside0.mk ((by rw [hg]; exact (below_size (hq HB.out)) : w.heap.size ≤ gb176)); have GE176 := Aside0.mk ((by rw [hg]; exact (below_size (hq HB.out)) : w.heap.size ≤ gb176)); replace HB := Aside0.mk (below_step (hq HB.out) hb); clear hb hbox hg; have hcz17_0 : w16.cell? ⟨gb176, 0, none⟩ = some (.int .i64 0) := (blk_cell BK176.out 0).trans rfl; have hcz17_1 : w16.cell? ⟨gb176, 1, none⟩ = some (.slice none 0 0) := (blk_cell BK176.out 1).trans rfl; have hfz17_0 := blk_frozen BK176.out 0; have hfz17_1 := blk_frozen BK176.out 1) | ((with_reducible refine gate_callee (f := 35) rfl ?_); refine goesL_ (some 39) rfl rfl Try.func35 (by kernel_rfl) rfl #[.agg #[.int .i64 ((rd_T25 l0 x34_2).f0), .slice A175_1 ((rd_T25 l0 x34_2).f1).length c175_1]] rfl eq_ ?_; (with_reducible refine (keyeventref04_follows.calls k2 ((rd_T25 l0 x34_2).f0) _ _ ((rd_T25 l0 x34_2).f1) false _ ?side1 ?side2 A11.out).mono ?_); (case side1 => exact Kd.C_below HR175_1.out (hq1 HB.out GE176.out)); (case side2 => exact HC175_1.out); rintro e w18 ⟨rfl, hb⟩; refine ⟨_, rfl, ?_⟩; replace BK176 := Aside0.mk (blk_below (g := gb176) (o := .cells #[.int .i64 ((rd_T25 l0 x34_2).f0), .slice A175_1 ((rd_T25 l0 x34_2).f1).length c175_1] 25 (0, 0)) (by (with_reducible repeat (first | refine blk_drewN ?_ _ | refine blk_drew ?_ | refine blk_alloc ?_ _)); refine blk_put (cs := #[.int .i64 ((rd_T25 l0 x34_2).f0), .slice none 0 0]) ?_ 1 _ rfl; (with_reducible repeat (first | refine blk_drewN ?_ _ | refine blk_drew ?_ | refine blk_alloc ?_ _)); refine blk_put (cs := #[.int .i64 0, .slice none 0 0]) ?_ 0 _ rfl; (with_reducible repeat (first | refine blk_drewN ?_ _ | refine blk_drew ?_ | refine blk_alloc ?_ _)); exact BK176.out) hb); replace HB := Aside0.mk (below_step (hq1 HB.out GE176.out) hb); (try clear hb)))
           go_ret2
           exact ⟨rq_, hq1 HB.out GE176.out⟩
         ·rw [if_neg c10] at H
          exact absurd H (by simp)
        ·rw [if_neg c9] at H
         exact absurd H (by simp)
       ·rw [if_neg c8] at H
        have c8b0 := decide_eq_false c8
        clear c8
        have H' := Aside0.mk H
        clear H
        go_wp2
        go_loopg [9,44] k2 (fun kq v9 v44 w' => ∃ (x9_3 : ByteArray) (x44_3 : Int), v9 = .string x9_3 ∧ v44 = .int .i64 x44_3 ∧ Aside0 (keyeventref04_Encode.l2 kq x9_3 l0 (l0.length : Int) x44_3 = some (r1, r2)) ∧ Aside0 (kq ≤ k2) ∧ Aside0 (Below w.heap.size w w'))
        case atStart => exact ⟨((⟨#[]⟩ : ByteArray)), (0), dq, dq, H', ⟨Nat.le_refl _⟩, ⟨hq HB.out⟩⟩
        case round =>
         clear H'
         try clear c1
         try clear p1
         try clear q1
         try clear hx1
         try clear c2
         try clear c2b0
         try clear p2
         try clear c3
         try clear c3b0
         try clear c4
         try clear c4b0
         try clear p6
         try clear c7
         try clear c7b0
         try clear c8
         try clear c8b0
         try clear c9
         try clear c9b0
         try clear c10
         try clear c10b0
         try clear c12
         try clear c17
         try clear p17
         try clear q17
         try clear hx17
         try clear hcz14_0
         try clear hcz14_1
         try clear hcz17_0
         try clear hcz17_1
         try clear hcz6_0
         try clear hcz6_1
         try clear hfz14_0
         try clear hfz14_1
         try clear hfz17_0
         try clear hfz17_1
         try clear hfz6_0
         try clear hfz6_1
         try clear hx173_0
         try clear hx173_1
         try clear hx175_0
         try clear hx175_1
         try clear p1
         try clear p173
         try clear p175
         try clear p2
         try clear p6
         try clear q1
         try clear q173
         try clear q175
         obtain ⟨x9_3, x44_3, rfl, rfl, HA, HK3, HB⟩ := hrel
         cases gk with
         | zero => exact absurd HA.out (by simp [keyeventref04_Encode.l2])
         | succ k3 =>
          have H := HA.out
          clear HA
          simp only [keyeventref04_Encode.l2] at H
          by_cases c19 : x44_3 < (l0.length : Int)
          ·rw [if_pos c19] at H
           have c19b0 := decide_eq_true c19
           clear c19
           by_cases c20 : 0 ≤ x44_3
           ·rw [if_pos c20] at H
            have c20b0 := decide_eq_true c20
            clear c20
            by_cases c21 : x44_3 < (l0.length : Int)
            ·rw [if_pos c21] at H
             have c21b0 := decide_eq_true c21
             clear c21
             obtain ⟨t180, A22, H⟩ := bindS H
             by_cases c23 : (t180.length : Int) = 0
             ·rw [if_pos c23] at H
              exact absurd H (by simp)
             ·rw [if_neg c23] at H
              have c23b0 : ((t180.length : Int) == 0) = false := beq_eq_false_iff_ne.mpr c23
              have c23b1 : ((t180.length : Int) != 0) = true := bne_iff_ne.mpr c23
              have c23b2 : ¬ (t180 = []) := fun h_ => c23 (by rw [h_]; rfl)
              obtain ⟨⟨t183, t184⟩, A24, H⟩ := bindS H
              try dsimp only at H
              by_cases c25 : x9_3.size + t183.size ≤ 9223372036854775807
              ·rw [if_pos c25] at H
               have c25b0 := eq_true c25
               have c25b1 := decide_eq_true c25
               try have c25b2 : (9223372036854775807 < x9_3.size + t183.size) = False := eq_false (Nat.not_lt.2 c25)
               have H' := Aside0.mk H
               clear H
               have p178 : 0 ≤ (x44_3 : Int) := of_decide_eq_true aq
               have q178 : x44_3 < (l0.length : Int) := of_decide_eq_true aq
               obtain ⟨ad178, A178_1, c178_1, e178, hx178_0, hx178_1, hl178_1, hi178_1⟩ := at_T25 HR0.out x44_3 p178 q178
               cases e178
               replace hx178_0 := (HB.out.cell (World.block_lt_of_cell? w _ hx178_0)).trans hx178_0
               replace hx178_1 := (HB.out.cell (World.block_lt_of_cell? w _ hx178_1)).trans hx178_1
               have HR178_1 := Aside0.mk hi178_1
               have HC178_1 := Aside0.mk hl178_1
               clear hi178_1 hl178_1
               replace p178 := eq_true p178
               replace q178 := eq_true q178
               try go_wp2_with (first | ((with_reducible refine gate_dst (N := 11) rfl ?_); refine box_event ?hg (N := 11) ?hd (cs := #[.int .i64 0, .slice none 0 0]) (t := 25) ?hr ?_; (case hd => rfl); (case hg => rfl); (case hr => first | (go_simp; done) | (go_simp; rfl)); intro gb179 hg w26 hbox hb; have BK179 := Aside0.mk (hbox); have GW179 := Aside0.mk ((by rw [hg]; exact (below_size (hq HB.out)) : w.heap.size ≤ gb179)); have GE179 := Aside0.mk ((by rw [hg]; exact (below_size (hq HB.out)) : w.heap.size ≤ gb179)); replace HB := Aside0.mk (below_step (hq HB.out) hb); clear hb hbox hg; have hcz27_0 : w26.cell? ⟨gb179, 0, none⟩ = some (.int .i64 0) := (blk_cell BK179.out 0).trans rfl; have hcz27_1 : w26.cell? ⟨gb179, 1, none⟩ = some (.slice none 0 0) := (blk_cell BK179.out 1).trans rfl; have hfz27_0 := blk_frozen BK179.out 0; have hfz27_1 := blk_frozen BK179.out 1))
               have n0_ : Aside0 (((w26.setCell ⟨gb179, 0, none⟩ (.int .i64 ((rd_T25 l0 x44_3).f0))).setCell ⟨gb179, 1, none⟩ (.slice A178_1 ((rd_T25 l0 x44_3).f1).length c178_1)).heap[gb179]? = some (.cells #[.int .i64 ((rd_T25 l0 x44_3).f0), .slice A178_1 ((rd_T25 l0 x44_3).f1).length c178_1] 25 (0, 0))) := ⟨by (with_reducible repeat (first | refine blk_drewN ?_ _ | refine blk_drew ?_ | refine blk_alloc ?_ _)); refine blk_put (cs := #[.int .i64 ((rd_T25 l0 x44_3).f0), .slice none 0 0]) ?_ 1 _ rfl; (with_reducible repeat (first | refine blk_drewN ?_ _ | refine blk_drew ?_ | refine blk_alloc ?_ _)); refine blk_put (cs := #[.int .i64 0, .slice none 0 0]) ?_ 0 _ rfl; (with_reducible repeat (first | refine blk_drewN ?_ _ | refine blk_drew ?_ | refine blk_alloc ?_ _)); exact BK179.out⟩
               have n1_ : Aside0 (Below w.heap.size w ((w26.setCell ⟨gb179, 0, none⟩ (.int .i64 ((rd_T25 l0 x44_3).f0))).setCell ⟨gb179, 1, none⟩ (.slice A178_1 ((rd_T25 l0 x44_3).f1).length c178_1))) := ⟨hq1 HB.out GE179.out⟩
               (try clear BK179)
               (try clear HB)
               generalize ((w26.setCell ⟨gb179, 0, none⟩ (.int .i64 ((rd_T25 l0 x44_3).f0))).setCell ⟨gb179, 1, none⟩ (.slice A178_1 ((rd_T25 l0 x44_3).f1).length c178_1)) = w28 at n0_ n1_ ⊢
               have BK179 := n0_
               have HB := n1_
               clear n0_ n1_
               replace BK179 := Aside0.mk (blk_drew BK179.out)
               replace HB := Aside0.mk (below_drew1 HB.out)
               refine start_ (n := 16) (S := fun w' => w'.cell? ⟨gb179, 0, none⟩ = some (.int .i64 ((rd_T25 l0 x44_3).f0)) ∧ w'.cell? ⟨gb179, 1, none⟩ = some (.slice A178_1 ((rd_T25 l0 x44_3).f1).length c178_1)) (ds := []) #[false,false,false,false,false,false,false,false,false,false,false,false,false,false,false,false] (by kernel_rfl) rfl rfl ⟨(blk_cell BK179.out 0).trans rfl, (blk_cell BK179.out 1).trans rfl⟩ (fun hHeld => ?_); refine with_tabW keyeventref04_Encode.tab19 keyeventref04_Encode.bits19 (fun HT_ HW_ => ?_)
               generalize w28.drew = w29 at BK179 HB hHeld ⊢
               refine pure_ (i := 0) (N := some 49) (v := ?_) (a' := ?_) #[true,false,false,false,false,false,false,false,false,false,false,false,false,false,false,false] rfl rfl (any_of HT_.out (by kernel_rfl)) (fun _ _ _ h => h) (Or.inl ⟨by rfl, pv⟩) pp ?_
               refine pure_ (i := 2) (N := some 51) (v := ?_) (a' := ?_) #[true,false,true,false,false,false,false,false,false,false,false,false,false,false,false,false] rfl rfl (any_of HT_.out (by kernel_rfl)) (fun _ _ _ h => h) (Or.inl ⟨by rfl, pv⟩) pp ?_
               refine pure_ (i := 5) (N := some 54) (v := ?_) (a' := ?_) #[true,false,true,false,false,true,false,false,false,false,false,false,false,false,false,false] rfl rfl (any_of HT_.out (by kernel_rfl)) (fun _ _ _ h => h) (Or.inl ⟨by rfl, pv⟩) pp ?_
               refine take_ (i := 1) (N := some 50) (v := ?_) (a' := ?_) #[true,true,true,false,false,true,false,false,false,false,false,false,false,false,false,false] rfl rfl (take_ofW HT_.out HW_.out (by kernel_rfl)) (fun _ _ _ h => h) (Or.inl ⟨by rfl, by rintro w' ⟨s0, s1⟩; go_simp; with_reducible rfl⟩) hHeld pp ?_
               refine take_ (i := 3) (N := some 52) (v := ?_) (a' := ?_) #[true,true,true,true,false,true,false,false,false,false,false,false,false,false,false,false] rfl rfl (take_ofW HT_.out HW_.out (by kernel_rfl)) (fun _ _ _ h => h) (Or.inl ⟨by rfl, by rintro w' ⟨s0, s1⟩; go_simp; with_reducible rfl⟩) hHeld pp ?_
               refine pure_ (i := 4) (N := some 53) (v := ?_) (a' := ?_) #[true,true,true,true,true,true,false,false,false,false,false,false,false,false,false,false] rfl rfl (any_of HT_.out (by kernel_rfl)) (fun _ _ _ h => h) (Or.inl ⟨by rfl, pv⟩) pp ?_
               refine take_ (i := 6) (N := some 55) (v := ?_) (a' := ?_) #[true,true,true,true,true,true,true,false,false,false,false,false,false,false,false,false] rfl rfl (take_ofW HT_.out HW_.out (by kernel_rfl)) (fun _ _ _ h => h) (Or.inl ⟨by rfl, by rintro w' ⟨s0, s1⟩; go_simp; with_reducible rfl⟩) hHeld pp ?_
               refine one_ (i := 7) (N := some 56) #[true,true,true,true,true,true,true,true,false,false,false,false,false,false,false,false] rfl rfl (one_of HT_.out (by kernel_rfl)) (by decide) (fun K hK => ?_)
               refine goes_ Try.func27 (by kernel_rfl) rfl #[.int .i64 ((rd_T25 l0 x44_3).f0)] (by rfl) rfl rfl eq_ ?_
               with_reducible refine (keyeventref04_Permitted.calls k3 ((rd_T25 l0 x44_3).f0) t180 _ A22.out).mono ?_
               rintro e w30 ⟨v181, rfl, ho0, hb⟩
               refine ⟨_, rfl, ?_⟩
               have HO182 := Aside0.mk (Kd.R_lower ho0 (below_size (hq1 HB.out GE179.out)))
               replace BK179 := Aside0.mk (blk_below (g := gb179) (o := .cells #[.int .i64 ((rd_T25 l0 x44_3).f0), .slice A178_1 ((rd_T25 l0 x44_3).f1).length c178_1] 25 (0, 0)) (bq BK179.out) hb)
               replace HB := Aside0.mk (below_step (hq1 HB.out GE179.out) hb)
               (try clear hb)
               (try clear ho0)
               obtain ⟨Ao31, co31, eo31⟩ := Kd.R_slice HO182.out
               (first | subst eo31 | (injection eo31 with f1_ f2_ f3_; have f4_ := f1_.symm; have f5_ := f3_.symm; clear f1_ f2_ f3_; subst f4_; subst f5_))
               refine hK.out _ _ ⟨(blk_cell BK179.out 0).trans rfl, (blk_cell BK179.out 1).trans rfl⟩ (fun hHeld => ?_)
               clear hK K
               refine norm_ (a' := ?_) (show Act.put _ (some 56) _ = _ from pp) ?_
               refine pure_ (i := 8) (N := some 57) (v := ?_) (a' := ?_) #[true,true,true,true,true,true,true,true,true,false,false,false,false,false,false,false] rfl rfl (any_of HT_.out (by kernel_rfl)) (fun _ _ _ h => h) (Or.inl ⟨by rfl, pv⟩) pp ?_
               refine pure_ (i := 9) (N := some 58) (v := ?_) (a' := ?_) #[true,true,true,true,true,true,true,true,true,true,false,false,false,false,false,false] rfl rfl (any_of HT_.out (by kernel_rfl)) (fun _ _ _ h => h) (Or.inl ⟨by rfl, pv⟩) pp ?_
               refine one_ (i := 10) (N := some 59) #[true,true,true,true,true,true,true,true,true,true,true,false,false,false,false,false] rfl rfl (one_of HT_.out (by kernel_rfl)) (by decide) (fun K hK => ?_)
               refine goes_ Try.func26 (by kernel_rfl) rfl #[.int .i64 ((rd_T25 l0 x44_3).f0), .int .i64 (wrap64 ((((rd_T25 l0 x44_3).f1).length : Int) / (t180.length : Int)))] (by rfl) rfl rfl eq_ ?_
               with_reducible refine (keyeventref04_Mark.calls k3 ((rd_T25 l0 x44_3).f0) (wrap64 ((((rd_T25 l0 x44_3).f1).length : Int) / (t180.length : Int))) t183 t184 _ A24.out).mono ?_
               rintro e w32 ⟨rfl, hb⟩
               refine ⟨_, rfl, ?_⟩
               replace HO182 := Aside0.mk (Kd.R_below (qR HO182.out) hb)
               replace BK179 := Aside0.mk (blk_below (g := gb179) (o := .cells #[.int .i64 ((rd_T25 l0 x44_3).f0), .slice A178_1 ((rd_T25 l0 x44_3).f1).length c178_1] 25 (0, 0)) (bq BK179.out) hb)
               replace HB := Aside0.mk (below_step (hq1 HB.out GE179.out) hb)
               (try clear hb)
               refine hK.out _ _ ⟨(blk_cell BK179.out 0).trans rfl, (blk_cell BK179.out 1).trans rfl⟩ (fun hHeld => ?_)
               clear hK K
               refine norm_ (a' := ?_) (show Act.put _ (some 59) _ = _ from pp) ?_
               refine pure_ (i := 11) (N := some 48) (v := ?_) (a' := ?_) #[true,true,true,true,true,true,true,true,true,true,true,true,false,false,false,false] rfl rfl (any_of HT_.out (by kernel_rfl)) (fun _ _ _ h => h) (Or.inl ⟨by rfl, pv⟩) pp ?_
               refine pure_ (i := 12) (N := some 60) (v := ?_) (a' := ?_) #[true,true,true,true,true,true,true,true,true,true,true,true,true,false,false,false] rfl rfl (any_of HT_.out (by kernel_rfl)) (fun _ _ _ h => h) (Or.inl ⟨by rfl, pv⟩) pp ?_
               refine pure_ (i := 13) (N := some 61) (v := ?_) (a' := ?_) #[true,true,true,true,true,true,true,true,true,true,true,true,true,true,false,false] rfl rfl (any_of HT_.out (by kernel_rfl)) (fun _ _ _ h => h) (Or.inl ⟨by rfl, pv⟩) pp ?_
               refine pure_ (i := 14) (N := some 12) (v := ?_) (a' := ?_) #[true,true,true,true,true,true,true,true,true,true,true,true,true,true,true,false] rfl rfl (any_of HT_.out (by kernel_rfl)) (fun _ _ _ h => h) (Or.inl ⟨by rfl, pv⟩) pp ?_
               refine pure_ (i := 15) (N := some 13) (v := ?_) (a' := ?_) #[true,true,true,true,true,true,true,true,true,true,true,true,true,true,true,true] rfl rfl (any_of HT_.out (by kernel_rfl)) (fun _ _ _ h => h) (Or.inl ⟨by rfl, pv⟩) pp ?_
               refine done_ (done_of HT_.out (by kernel_rfl)) ?_
               have hcz33_0 : w32.cell? ⟨gb179, 0, none⟩ = some (.int .i64 ((rd_T25 l0 x44_3).f0)) := (blk_cell BK179.out 0).trans rfl
               have hcz33_1 : w32.cell? ⟨gb179, 1, none⟩ = some (.slice A178_1 ((rd_T25 l0 x44_3).f1).length c178_1) := (blk_cell BK179.out 1).trans rfl
               have hfz33_0 := blk_frozen BK179.out 0
               have hfz33_1 := blk_frozen BK179.out 1
               try go_wp2
               go_loopg [9,68] k3 (fun kq v9 v68 w' => ∃ (x9_4 : ByteArray) (x68_4 : Int), v9 = .string x9_4 ∧ v68 = .int .i64 x68_4 ∧ Aside0 (keyeventref04_Encode.l3 kq x9_4 l0 (l0.length : Int) x44_3 ((rd_T25 l0 x44_3).f1) (((rd_T25 l0 x44_3).f1).length : Int) x68_4 = some (r1, r2)) ∧ Aside0 (kq ≤ k3) ∧ Aside0 (w'.heap[gb179]? = some (.cells #[.int .i64 ((rd_T25 l0 x44_3).f0), (.slice A178_1 ((rd_T25 l0 x44_3).f1).length c178_1)] 25 (0, 0))) ∧ Aside0 (Below w.heap.size w w'))
               case atStart => exact ⟨(x9_3 ++ t183), (0), dq, dq, H', ⟨Nat.le_refl _⟩, ⟨by (with_reducible repeat (first | refine blk_drewN ?_ _ | refine blk_drew ?_ | refine blk_alloc ?_ _)); exact BK179.out⟩, ⟨hq1 HB.out GE179.out⟩⟩
               case round =>
                clear H'
                try clear c1
                try clear p1
                try clear q1
                try clear hx1
                try clear c2
                try clear c2b0
                try clear p2
                try clear c3
                try clear c3b0
                try clear c4
                try clear c4b0
                try clear p6
                try clear c7
                try clear c7b0
                try clear c8
                try clear c8b0
                try clear c9
                try clear c9b0
                try clear c10
                try clear c10b0
                try clear c12
                try clear c17
                try clear p17
                try clear q17
                try clear hx17
                try clear c19
                try clear c19b0
                try clear c20
                try clear c20b0
                try clear c21
                try clear c21b0
                try clear c23
                try clear c23b0
                try clear c23b1
                try clear c23b2
                try clear c25
                try clear c25b0
                try clear c25b1
                try clear c25b2
                try clear c26
                try clear c27
                try clear hcz14_0
                try clear hcz14_1
                try clear hcz17_0
                try clear hcz17_1
                try clear hcz27_0
                try clear hcz27_1
                try clear hcz33_0
                try clear hcz33_1
                try clear hcz6_0
                try clear hcz6_1
                try clear hfz14_0
                try clear hfz14_1
                try clear hfz17_0
                try clear hfz17_1
                try clear hfz27_0
                try clear hfz27_1
                try clear hfz33_0
                try clear hfz33_1
                try clear hfz6_0
                try clear hfz6_1
                try clear hx173_0
                try clear hx173_1
                try clear hx175_0
                try clear hx175_1
                try clear hx178_0
                try clear hx178_1
                try clear p1
                try clear p17
                try clear p173
                try clear p175
                try clear p178
                try clear p2
                try clear p6
                try clear q1
                try clear q17
                try clear q173
                try clear q175
                try clear q178
                obtain ⟨x9_4, x68_4, rfl, rfl, HA, HK4, BK179, HB⟩ := hrel
                cases gk with
                | zero => exact absurd HA.out (by simp [keyeventref04_Encode.l3])
                | succ k4 =>
                 have H := HA.out
                 clear HA
                 simp only [keyeventref04_Encode.l3] at H
                 by_cases c34 : x68_4 < (((rd_T25 l0 x44_3).f1).length : Int)
                 ·rw [if_pos c34] at H
                  have c34b0 := decide_eq_true c34
                  clear c34
                  by_cases c35 : 0 ≤ x68_4
                  ·rw [if_pos c35] at H
                   have c35b0 := decide_eq_true c35
                   clear c35
                   by_cases c36 : x68_4 < (((rd_T25 l0 x44_3).f1).length : Int)
                   ·rw [if_pos c36] at H
                    have c36b0 := decide_eq_true c36
                    clear c36
                    obtain ⟨⟨t187, t188⟩, A37, H⟩ := bindS H
                    try dsimp only at H
                    by_cases c38 : t188 = 0
                    ·rw [if_pos c38] at H
                     have c38b0 : (t188 == 0) = true := beq_iff_eq.mpr c38
                     have c38b1 : (t188 != 0) = false := bne_eq_false_iff_eq.mpr c38
                     clear c38
                     by_cases c39 : x9_4.size + t187.size ≤ 9223372036854775807
                     ·rw [if_pos c39] at H
                      have c39b0 := eq_true c39
                      have c39b1 := decide_eq_true c39
                      try have c39b2 : (9223372036854775807 < x9_4.size + t187.size) = False := eq_false (Nat.not_lt.2 c39)
                      have H' := Aside0.mk H
                      clear H
                      have p185 : 0 ≤ (x68_4 : Int) := of_decide_eq_true aq
                      have q185 : x68_4 < (((rd_T25 l0 x44_3).f1).length : Int) := of_decide_eq_true aq
                      obtain ⟨ad185, e185, hx185_0, hx185_1⟩ := at_T27 HR178_1.out x68_4 p185 q185
                      cases e185
                      replace hx185_0 := (HB.out.cell (World.block_lt_of_cell? w _ hx185_0)).trans hx185_0
                      replace hx185_1 := (HB.out.cell (World.block_lt_of_cell? w _ hx185_1)).trans hx185_1
                      replace p185 := eq_true p185
                      replace q185 := eq_true q185
                      go_wp2_with (first | ((with_reducible refine gate_dst (N := 15) rfl ?_); refine box_event ?hg (N := 15) ?hd (cs := #[.int .i64 0, .string (⟨#[]⟩ : ByteArray)]) (t := 27) ?hr ?_; (case hd => rfl); (case hg => rfl); (case hr => first | (go_simp; done) | (go_simp; rfl)); intro gb186 hg w40 hbox hb; have BK186 := Aside0.mk (hbox); have GW186 := Aside0.mk ((by rw [hg]; exact (below_size (hq1 HB.out GE179.out)) : w.heap.size ≤ gb186)); have GE186 := Aside0.mk ((by rw [hg]; exact (below_size (hq1 HB.out GE179.out)) : w.heap.size ≤ gb186)); replace HB := Aside0.mk (below_step (hq1 HB.out GE179.out) hb); have NB179_186 := Aside0.mk ((by rw [hg]; exact Nat.ne_of_lt (blk_lt (g := gb179) (o := .cells #[.int .i64 ((rd_T25 l0 x44_3).f0), .slice (some ad185) ((rd_T25 l0 x44_3).f1).length c178_1] 25 (0, 0)) (bq BK179.out)) : gb179 ≠ gb186)); have NB186_179 := Aside0.mk ((by rw [hg]; exact Nat.ne_of_gt (blk_lt (g := gb179) (o := .cells #[.int .i64 ((rd_T25 l0 x44_3).f0), .slice (some ad185) ((rd_T25 l0 x44_3).f1).length c178_1] 25 (0, 0)) (bq BK179.out)) : gb186 ≠ gb179)); replace BK179 := Aside0.mk (blk_below (g := gb179) (o := .cells #[.int .i64 ((rd_T25 l0 x44_3).f0), .slice (some ad185) ((rd_T25 l0 x44_3).f1).length c178_1] 25 (0, 0)) (bq BK179.out) hb); clear hb hbox hg; have hnb41 := NB186_179.out; have hnc41 := NB179_186.out; have hcz42_0 : w40.cell? ⟨gb186, 0, none⟩ = some (.int .i64 0) := (blk_cell BK186.out 0).trans rfl; have hcz42_1 : w40.cell? ⟨gb186, 1, none⟩ = some (.string (⟨#[]⟩ : ByteArray)) := (blk_cell BK186.out 1).trans rfl; have hfz42_0 := blk_frozen BK186.out 0; have hfz42_1 := blk_frozen BK186.out 1) | ((with_reducible refine gate_callee (f := 36) rfl ?_); refine goesL_ (some 74) rfl rfl Try.func36 (by kernel_rfl) rfl #[.agg #[.int .i64 ((rd_T27 ((rd_T25 l0 x44_3).f1) x68_4).f0), .string ((rd_T27 ((rd_T25 l0 x44_3).f1) x68_4).f1)]] rfl eq_ ?_; (with_reducible refine (keyeventref03_Encode.calls k4 ((rd_T27 ((rd_T25 l0 x44_3).f1) x68_4).f0) ((rd_T27 ((rd_T25 l0 x44_3).f1) x68_4).f1) t187 t188 _ A37.out).mono ?_); rintro e w43 ⟨rfl, hb⟩; refine ⟨_, rfl, ?_⟩; replace BK179 := Aside0.mk (blk_below (g := gb179) (o := .cells #[.int .i64 ((rd_T25 l0 x44_3).f0), .slice (some ad185) ((rd_T25 l0 x44_3).f1).length c178_1] 25 (0, 0)) (by (with_reducible repeat (first | refine blk_drewN ?_ _ | refine blk_drew ?_ | refine blk_alloc ?_ _)); refine blk_far ?_ NB179_186.out _; (with_reducible repeat (first | refine blk_drewN ?_ _ | refine blk_drew ?_ | refine blk_alloc ?_ _)); refine blk_far ?_ NB179_186.out _; (with_reducible repeat (first | refine blk_drewN ?_ _ | refine blk_drew ?_ | refine blk_alloc ?_ _)); exact BK179.out) hb); replace BK186 := Aside0.mk (blk_below (g := gb186) (o := .cells #[.int .i64 ((rd_T27 ((rd_T25 l0 x44_3).f1) x68_4).f0), .string ((rd_T27 ((rd_T25 l0 x44_3).f1) x68_4).f1)] 27 (0, 0)) (by (with_reducible repeat (first | refine blk_drewN ?_ _ | refine blk_drew ?_ | refine blk_alloc ?_ _)); refine blk_put (cs := #[.int .i64 ((rd_T27 ((rd_T25 l0 x44_3).f1) x68_4).f0), .string (⟨#[]⟩ : ByteArray)]) ?_ 1 _ rfl; (with_reducible repeat (first | refine blk_drewN ?_ _ | refine blk_drew ?_ | refine blk_alloc ?_ _)); refine blk_put (cs := #[.int .i64 0, .string (⟨#[]⟩ : ByteArray)]) ?_ 0 _ rfl; (with_reducible repeat (first | refine blk_drewN ?_ _ | refine blk_drew ?_ | refine blk_alloc ?_ _)); exact BK186.out) hb); replace HB := Aside0.mk (below_step (hq2 HB.out GE179.out GE186.out) hb); (try clear hb)))
                      go_roundg k4
                      case measure => have := HK1.out; have := HK2.out; have := HK3.out; have := HK4.out; omega
                      case rel => exact ⟨(x9_4 ++ t187), (wrap64 (x68_4 + 1)), dq, dq, H', ⟨by have := HK1.out; have := HK2.out; have := HK3.out; have := HK4.out; omega⟩, ⟨by (with_reducible repeat (first | refine blk_drewN ?_ _ | refine blk_drew ?_ | refine blk_alloc ?_ _)); exact BK179.out⟩, ⟨hq2 HB.out GE179.out GE186.out⟩⟩
                     ·rw [if_neg c39] at H
                      exact absurd H (by simp)
                    ·rw [if_neg c38] at H
                     have c38b0 : (t188 == 0) = false := beq_eq_false_iff_ne.mpr c38
                     have c38b1 : (t188 != 0) = true := bne_iff_ne.mpr c38
                     simp only [Option.some.injEq, Prod.mk.injEq] at H
                     obtain ⟨rfl, rfl⟩ := H
                     have p185 : 0 ≤ (x68_4 : Int) := of_decide_eq_true aq
                     have q185 : x68_4 < (((rd_T25 l0 x44_3).f1).length : Int) := of_decide_eq_true aq
                     obtain ⟨ad185, e185, hx185_0, hx185_1⟩ := at_T27 HR178_1.out x68_4 p185 q185
                     cases e185
                     replace hx185_0 := (HB.out.cell (World.block_lt_of_cell? w _ hx185_0)).trans hx185_0
                     replace hx185_1 := (HB.out.cell (World.block_lt_of_cell? w _ hx185_1)).trans hx185_1
                     replace p185 := eq_true p185
                     replace q185 := eq_true q185
                     go_wp2_with (first | ((with_reducible refine gate_dst (N := 15) rfl ?_); refine box_event ?hg (N := 15) ?hd (cs := #[.int .i64 0, .string (⟨#[]⟩ : ByteArray)]) (t := 27) ?hr ?_; (case hd => rfl); (case hg => rfl); (case hr => first | (go_simp; done) | (go_simp; rfl)); intro gb186 hg w44 hbox hb; have BK186 := Aside0.mk (hbox); have GW186 := Aside0.mk ((by rw [hg]; exact (below_size (hq1 HB.out GE179.out)) : w.heap.size ≤ gb186)); have GE186 := Aside0.mk ((by rw [hg]; exact (below_size (hq1 HB.out GE179.out)) : w.heap.size ≤ gb186)); replace HB := Aside0.mk (below_step (hq1 HB.out GE179.out) hb); have NB179_186 := Aside0.mk ((by rw [hg]; exact Nat.ne_of_lt (blk_lt (g := gb179) (o := .cells #[.int .i64 ((rd_T25 l0 x44_3).f0), .slice (some ad185) ((rd_T25 l0 x44_3).f1).length c178_1] 25 (0, 0)) (bq BK179.out)) : gb179 ≠ gb186)); have NB186_179 := Aside0.mk ((by rw [hg]; exact Nat.ne_of_gt (blk_lt (g := gb179) (o := .cells #[.int .i64 ((rd_T25 l0 x44_3).f0), .slice (some ad185) ((rd_T25 l0 x44_3).f1).length c178_1] 25 (0, 0)) (bq BK179.out)) : gb186 ≠ gb179)); replace BK179 := Aside0.mk (blk_below (g := gb179) (o := .cells #[.int .i64 ((rd_T25 l0 x44_3).f0), .slice (some ad185) ((rd_T25 l0 x44_3).f1).length c178_1] 25 (0, 0)) (bq BK179.out) hb); clear hb hbox hg; have hnb45 := NB186_179.out; have hnc45 := NB179_186.out; have hcz46_0 : w44.cell? ⟨gb186, 0, none⟩ = some (.int .i64 0) := (blk_cell BK186.out 0).trans rfl; have hcz46_1 : w44.cell? ⟨gb186, 1, none⟩ = some (.string (⟨#[]⟩ : ByteArray)) := (blk_cell BK186.out 1).trans rfl; have hfz46_0 := blk_frozen BK186.out 0; have hfz46_1 := blk_frozen BK186.out 1) | ((with_reducible refine gate_callee (f := 36) rfl ?_); refine goesL_ (some 74) rfl rfl Try.func36 (by kernel_rfl) rfl #[.agg #[.int .i64 ((rd_T27 ((rd_T25 l0 x44_3).f1) x68_4).f0), .string ((rd_T27 ((rd_T25 l0 x44_3).f1) x68_4).f1)]] rfl eq_ ?_; (with_reducible refine (keyeventref03_Encode.calls k4 ((rd_T27 ((rd_T25 l0 x44_3).f1) x68_4).f0) ((rd_T27 ((rd_T25 l0 x44_3).f1) x68_4).f1) t187 t188 _ A37.out).mono ?_); rintro e w47 ⟨rfl, hb⟩; refine ⟨_, rfl, ?_⟩; replace BK179 := Aside0.mk (blk_below (g := gb179) (o := .cells #[.int .i64 ((rd_T25 l0 x44_3).f0), .slice (some ad185) ((rd_T25 l0 x44_3).f1).length c178_1] 25 (0, 0)) (by (with_reducible repeat (first | refine blk_drewN ?_ _ | refine blk_drew ?_ | refine blk_alloc ?_ _)); refine blk_far ?_ NB179_186.out _; (with_reducible repeat (first | refine blk_drewN ?_ _ | refine blk_drew ?_ | refine blk_alloc ?_ _)); refine blk_far ?_ NB179_186.out _; (with_reducible repeat (first | refine blk_drewN ?_ _ | refine blk_drew ?_ | refine blk_alloc ?_ _)); exact BK179.out) hb); replace BK186 := Aside0.mk (blk_below (g := gb186) (o := .cells #[.int .i64 ((rd_T27 ((rd_T25 l0 x44_3).f1) x68_4).f0), .string ((rd_T27 ((rd_T25 l0 x44_3).f1) x68_4).f1)] 27 (0, 0)) (by (with_reducible repeat (first | refine blk_drewN ?_ _ | refine blk_drew ?_ | refine blk_alloc ?_ _)); refine blk_put (cs := #[.int .i64 ((rd_T27 ((rd_T25 l0 x44_3).f1) x68_4).f0), .string (⟨#[]⟩ : ByteArray)]) ?_ 1 _ rfl; (with_reducible repeat (first | refine blk_drewN ?_ _ | refine blk_drew ?_ | refine blk_alloc ?_ _)); refine blk_put (cs := #[.int .i64 0, .string (⟨#[]⟩ : ByteArray)]) ?_ 0 _ rfl; (with_reducible repeat (first | refine blk_drewN ?_ _ | refine blk_drew ?_ | refine blk_alloc ?_ _)); exact BK186.out) hb); replace HB := Aside0.mk (below_step (hq2 HB.out GE179.out GE186.out) hb); (try clear hb)))
                     go_ret2
                     exact ⟨rq_, hq2 HB.out GE179.out GE186.out⟩
                   ·rw [if_neg c36] at H
                    exact absurd H (by simp)
                  ·rw [if_neg c35] at H
                   exact absurd H (by simp)
                 ·rw [if_neg c34] at H
                  have c34b0 := decide_eq_false c34
                  clear c34
                  have H' := Aside0.mk H
                  clear H
                  go_wp2
                  go_roundg k4
                  case measure => have := HK1.out; have := HK2.out; have := HK3.out; have := HK4.out; omega
                  case rel => exact ⟨(x9_4), (wrap64 (x44_3 + 1)), dq, dq, H', ⟨by have := HK1.out; have := HK2.out; have := HK3.out; have := HK4.out; omega⟩, ⟨hq1 HB.out GE179.out⟩⟩
              ·rw [if_neg c25] at H
               exact absurd H (by simp)
            ·rw [if_neg c21] at H
             exact absurd H (by simp)
           ·rw [if_neg c20] at H
            exact absurd H (by simp)
          ·rw [if_neg c19] at H
           have c19b0 := decide_eq_false c19
           clear c19
           simp only [Option.some.injEq, Prod.mk.injEq] at H
           obtain ⟨rfl, rfl⟩ := H
           go_wp2
           go_ret2
           exact ⟨rq_, hq HB.out⟩

end Go.Proofs.Ytookjdhfpbmjkaa.X
