-- Written by xprint.py, a program of this repo that leads the kit's print.py: Lean checks it.
import Derived.Test.YtookjdhfpbmjkaaX0
import Derived.Test.YtookjdhfpbmjkaaX5
import Derived.Test.YtookjdhfpbmjkaaX10
import Derived.Test.YtookjdhfpbmjkaaX15
import Derived.Test.YtookjdhfpbmjkaaX18
import Derived.Test.YtookjdhfpbmjkaaX19
namespace Go.Proofs.Ytookjdhfpbmjkaa.X
open Go.RowKit Go.Proofs.YtookjdhfpbmjkaaW.PrintWords Go.Proofs.YtookjdhfpbmjkaaW.PrintLast Go.Proofs.YtookjdhfpbmjkaaW.PrintMore
attribute [local go_sem] max2_int min2_int max_two min_two max_three min_three max_four min_four   -- for this text's walks alone
set_option linter.unusedVariables false
set_option linter.unusedSimpArgs false

/-! ### keyeventlaw04_StreamLimit: function 3 -/
mutual
def keyeventlaw04_StreamLimit.l0 : Nat → Int → Int → List (S25) → Int → Option (Bool)
  | 0, _, _, _, _ => none
  | k + 1, x0, x3, x4, x20 => if x20 < 2 then (keyeventlaw04_StreamLimit.l1 k x0 x3 x4 x20 (wrap64 (Int.tdiv x3 2)) 0 4 ([] : List (S27))) else (if (Int.tmod x0 2) = 1 then (if 0 < (x4.length : Int) then (if 2 ≤ (((rd_T25 x4 0).f1).length : Int) then (if x4.length < 4398046511104 then (keyeventlaw04_StreamLimit.j2 k x0 (x4 ++ [(⟨4, (((rd_T25 x4 0).f1).take 2)⟩ : S25)])) else (none)) else (none)) else (none)) else (keyeventlaw04_StreamLimit.j2 k x0 x4))
def keyeventlaw04_StreamLimit.l1 : Nat → Int → Int → List (S25) → Int → Int → Int → Int → List (S27) → Option (Bool)
  | 0, _, _, _, _, _, _, _, _ => none
  | k + 1, x0, x3, x4, x20, x24, x25, x324000, x324001 => if x25 < x24 then (if 32 ≤ 281474976710656 then ((some (([(⟨8, (⟨#[0,0,0,0,0,1]⟩ : ByteArray)⟩ : S27), (⟨1, strOfNums (List.replicate 32 0)⟩ : S27)] : List (S27)) : List (S27))).bind fun y327 => (if x324001.length + y327.length < 5864062014805 then (keyeventlaw04_StreamLimit.l1 k x0 x3 x4 x20 x24 (wrap64 (x25 + 1)) x324000 (x324001 ++ y327)) else (none))) else (none)) else (if x4.length < 4398046511104 then (keyeventlaw04_StreamLimit.l0 k x0 x3 (x4 ++ [(⟨x324000, x324001⟩ : S25)]) (wrap64 (x20 + 1))) else (none))
def keyeventlaw04_StreamLimit.j2 : Nat → Int → List (S25) → Option (Bool)
  | 0, _, _ => none
  | k + 1, x0, x4 => (stream_Encode.f k x4).bind fun bt345 => ((keyeventref04_Encode.f k x4).bind fun bt347 => (if 2 ≤ (x4.length : Int) then ((keyeventref04_Encode.f k (x4.take 2)).bind fun bt354 => (if 0 ≤ 60 then (if 60 ≤ (bt354.1.size : Int) then (if bt354.1.size + (bt354.1.extract 0 60).size ≤ 9223372036854775807 then ((stream_Decode.f k (bt354.1 ++ (bt354.1.extract 0 60))).bind fun bt356 => ((keyeventref04_Decode.f k (bt354.1 ++ (bt354.1.extract 0 60))).bind fun bt360 => (if bt345.2 = bt347.2 then (if ((bt345.2 == 0) == ((Int.tmod x0 2) == 0)) = true then (if bt345.2 = 0 then (if bt356.2 = bt360.2 then ((keyeventref04_Same.f k bt356.1 bt360.1).bind fun t364 => (if t364 = true then ((keyeventlaw04_awake.f k).bind fun t365 => (some t365)) else (some false))) else (some false)) else (if bt345.1.toList = ([] : List UInt8) then (if bt356.2 = bt360.2 then ((keyeventref04_Same.f k bt356.1 bt360.1).bind fun t366 => (if t366 = true then ((keyeventlaw04_awake.f k).bind fun t367 => (some t367)) else (some false))) else (some false)) else (some false))) else (some false)) else (some false)))) else (none)) else (none)) else (none))) else (none)))
end
def keyeventlaw04_StreamLimit.f (k : Nat) (a0 : Int) : Option (Bool) := keyeventlaw04_StreamLimit.l0 k a0 (wrap64 (512 + (wrap64 (Int.tmod a0 2)))) ([] : List (S25)) 0
theorem keyeventlaw04_StreamLimit.mono_l : ∀ k, (∀ y0 y1 y2 y3, LeO (keyeventlaw04_StreamLimit.l0 k y0 y1 y2 y3) (keyeventlaw04_StreamLimit.l0 (k + 1) y0 y1 y2 y3)) ∧ (∀ y0 y1 y2 y3 y4 y5 y6 y7, LeO (keyeventlaw04_StreamLimit.l1 k y0 y1 y2 y3 y4 y5 y6 y7) (keyeventlaw04_StreamLimit.l1 (k + 1) y0 y1 y2 y3 y4 y5 y6 y7)) ∧ (∀ y0 y1, LeO (keyeventlaw04_StreamLimit.j2 k y0 y1) (keyeventlaw04_StreamLimit.j2 (k + 1) y0 y1))
  | 0 => ⟨fun _ _ _ _ r h => by simp [keyeventlaw04_StreamLimit.l0] at h, fun _ _ _ _ _ _ _ _ r h => by simp [keyeventlaw04_StreamLimit.l1] at h, fun _ _ r h => by simp [keyeventlaw04_StreamLimit.j2] at h⟩
  | k + 1 => by
    obtain ⟨ih0, ih1, ih2⟩ := keyeventlaw04_StreamLimit.mono_l k
    refine ⟨?_, ?_, ?_⟩
    · intro y0 y1 y2 y3
      unfold keyeventlaw04_StreamLimit.l0
      repeat' first
      | (with_reducible exact ih0 _ _ _ _)
      | (with_reducible exact ih1 _ _ _ _ _ _ _ _)
      | (with_reducible exact ih2 _ _)
      | (with_reducible exact keyeventlaw04_awake.mono _)
      | (with_reducible exact keyeventref04_Decode.mono _ _)
      | (with_reducible exact keyeventref04_Encode.mono _ _)
      | (with_reducible exact keyeventref04_Same.mono _ _ _)
      | (with_reducible exact stream_Decode.mono _ _)
      | (with_reducible exact stream_Encode.mono _ _)
      | (with_reducible exact LeO.refl _)
      | (with_reducible exact LeO.none _)
      | (with_reducible refine LeO.ite ?_ ?_)
      | (with_reducible refine LeO.bind ?_ (fun _ => ?_))
      | exact ih0 _ _ _ _
      | exact ih1 _ _ _ _ _ _ _ _
      | exact ih2 _ _
      | exact keyeventlaw04_awake.mono _
      | exact keyeventref04_Decode.mono _ _
      | exact keyeventref04_Encode.mono _ _
      | exact keyeventref04_Same.mono _ _ _
      | exact stream_Decode.mono _ _
      | exact stream_Encode.mono _ _
      | exact LeO.none _
      | refine LeO.ite ?_ ?_
      | refine LeO.bind ?_ (fun _ => ?_)
    · intro y0 y1 y2 y3 y4 y5 y6 y7
      unfold keyeventlaw04_StreamLimit.l1
      repeat' first
      | (with_reducible exact ih0 _ _ _ _)
      | (with_reducible exact ih1 _ _ _ _ _ _ _ _)
      | (with_reducible exact ih2 _ _)
      | (with_reducible exact keyeventlaw04_awake.mono _)
      | (with_reducible exact keyeventref04_Decode.mono _ _)
      | (with_reducible exact keyeventref04_Encode.mono _ _)
      | (with_reducible exact keyeventref04_Same.mono _ _ _)
      | (with_reducible exact stream_Decode.mono _ _)
      | (with_reducible exact stream_Encode.mono _ _)
      | (with_reducible exact LeO.refl _)
      | (with_reducible exact LeO.none _)
      | (with_reducible refine LeO.ite ?_ ?_)
      | (with_reducible refine LeO.bind ?_ (fun _ => ?_))
      | exact ih0 _ _ _ _
      | exact ih1 _ _ _ _ _ _ _ _
      | exact ih2 _ _
      | exact keyeventlaw04_awake.mono _
      | exact keyeventref04_Decode.mono _ _
      | exact keyeventref04_Encode.mono _ _
      | exact keyeventref04_Same.mono _ _ _
      | exact stream_Decode.mono _ _
      | exact stream_Encode.mono _ _
      | exact LeO.none _
      | refine LeO.ite ?_ ?_
      | refine LeO.bind ?_ (fun _ => ?_)
    · intro y0 y1
      unfold keyeventlaw04_StreamLimit.j2
      repeat' first
      | (with_reducible exact ih0 _ _ _ _)
      | (with_reducible exact ih1 _ _ _ _ _ _ _ _)
      | (with_reducible exact ih2 _ _)
      | (with_reducible exact keyeventlaw04_awake.mono _)
      | (with_reducible exact keyeventref04_Decode.mono _ _)
      | (with_reducible exact keyeventref04_Encode.mono _ _)
      | (with_reducible exact keyeventref04_Same.mono _ _ _)
      | (with_reducible exact stream_Decode.mono _ _)
      | (with_reducible exact stream_Encode.mono _ _)
      | (with_reducible exact LeO.refl _)
      | (with_reducible exact LeO.none _)
      | (with_reducible refine LeO.ite ?_ ?_)
      | (with_reducible refine LeO.bind ?_ (fun _ => ?_))
      | exact ih0 _ _ _ _
      | exact ih1 _ _ _ _ _ _ _ _
      | exact ih2 _ _
      | exact keyeventlaw04_awake.mono _
      | exact keyeventref04_Decode.mono _ _
      | exact keyeventref04_Encode.mono _ _
      | exact keyeventref04_Same.mono _ _ _
      | exact stream_Decode.mono _ _
      | exact stream_Encode.mono _ _
      | exact LeO.none _
      | refine LeO.ite ?_ ?_
      | refine LeO.bind ?_ (fun _ => ?_)
theorem keyeventlaw04_StreamLimit.mono : ∀ a0 k, LeO (keyeventlaw04_StreamLimit.f k a0) (keyeventlaw04_StreamLimit.f (k + 1) a0) := by
  intro a0 k
  obtain ⟨ih0, ih1, ih2⟩ := keyeventlaw04_StreamLimit.mono_l k
  unfold keyeventlaw04_StreamLimit.f
  repeat' first
      | (with_reducible exact ih0 _ _ _ _)
      | (with_reducible exact ih1 _ _ _ _ _ _ _ _)
      | (with_reducible exact ih2 _ _)
      | (with_reducible exact keyeventlaw04_awake.mono _)
      | (with_reducible exact keyeventref04_Decode.mono _ _)
      | (with_reducible exact keyeventref04_Encode.mono _ _)
      | (with_reducible exact keyeventref04_Same.mono _ _ _)
      | (with_reducible exact stream_Decode.mono _ _)
      | (with_reducible exact stream_Encode.mono _ _)
      | (with_reducible exact LeO.refl _)
      | (with_reducible exact LeO.none _)
      | (with_reducible refine LeO.ite ?_ ?_)
      | (with_reducible refine LeO.bind ?_ (fun _ => ?_))
      | exact ih0 _ _ _ _
      | exact ih1 _ _ _ _ _ _ _ _
      | exact ih2 _ _
      | exact keyeventlaw04_awake.mono _
      | exact keyeventref04_Decode.mono _ _
      | exact keyeventref04_Encode.mono _ _
      | exact keyeventref04_Same.mono _ _ _
      | exact stream_Decode.mono _ _
      | exact stream_Encode.mono _ _
      | exact LeO.none _
      | refine LeO.ite ?_ ?_
      | refine LeO.bind ?_ (fun _ => ?_)
def keyeventlaw04_StreamLimit.T8 : Bool × List (List Nat × List Nat) := (true, [([], []), ([0], [0]), ([], []), ([], []), ([3], [3]), ([4], [4]), ([2,5], [2,5]), ([1,6], [1,6]), ([0,1,2,3,4,5,6,7], []), ([8,7,7,0,1,2,3,4,5,6,7], [7,8])])
def keyeventlaw04_StreamLimit.B8 : List Nat := [0,1,0,0,8,24,60,127,255,511]
theorem keyeventlaw04_StreamLimit.tab8 : rtab .any (opsOf Try.f3 8) = keyeventlaw04_StreamLimit.T8 := by kernel_rfl
theorem keyeventlaw04_StreamLimit.bits8 : waitsOk keyeventlaw04_StreamLimit.T8.2 keyeventlaw04_StreamLimit.B8 = true := by kernel_rfl
set_option maxHeartbeats 8000000 in
set_option maxRecDepth 100000 in
theorem keyeventlaw04_StreamLimit.calls (k : Nat) (a0 : Int) (r : Bool) (w : World) (h : keyeventlaw04_StreamLimit.f k a0 = some r) :
    Calls Try.prog 3 #[.int .u8 a0] w fun e w' => e = .returned (.bool r) ∧ Below w.heap.size w w' := by
 have hu25 := Try.underlying25
 have hu27 := Try.underlying27
 have HB := Aside0.mk (Below.refl w.heap.size w)
 have H : (keyeventlaw04_StreamLimit.l0 k a0 (wrap64 (512 + (wrap64 (Int.tmod a0 2)))) ([] : List (S25)) 0) = some r := h
 clear h
 have H' := Aside0.mk H
 clear H
 go_enter Try.func3, Try.ntmps3
 go_wp2
 go_loopg [4,20] k (fun kq v4 v20 w' => ∃ (x4_1 : List (S25)) (x20_1 : Int), v20 = .int .i64 x20_1 ∧ Aside0 (keyeventlaw04_StreamLimit.l0 kq a0 (wrap64 (512 + (wrap64 (Int.tmod a0 2)))) x4_1 x20_1 = some r) ∧ Aside0 (kq ≤ k) ∧ Aside0 (Kd.N k25 25 w' w.heap.size (fun _ => True) v4 x4_1) ∧ Aside0 (Below w.heap.size w w'))
 case atStart => exact ⟨(([] : List (S25))), (0), dq, H', ⟨Nat.le_refl _⟩, ⟨by first | exact Kd.S_nil _ _ _ _ _ | exact Kd.N_nil _ _ _ _ _ | exact Kd.V_nil _ _ _ _ _ | exact Kd.Q_nil _ _ _ _ _ | exact Kd.R_nil _ _ _ _ _⟩, ⟨hq HB.out⟩⟩
 case round =>
  clear H'
  obtain ⟨x4_1, x20_1, rfl, HA, HK1, HO_4, HB⟩ := hrel
  cases gk with
  | zero => exact absurd HA.out (by simp [keyeventlaw04_StreamLimit.l0])
  | succ k1 =>
   have H := HA.out
   clear HA
   simp only [keyeventlaw04_StreamLimit.l0] at H
   by_cases c2 : x20_1 < 2
   ·rw [if_pos c2] at H
    have c2b0 := decide_eq_true c2
    clear c2
    have H' := Aside0.mk H
    clear H
    go_wp2_with (first | ((with_reducible refine gate_dst (N := 5) rfl ?_); refine box_event ?hg (N := 5) ?hd (cs := #[.int .i64 0, .slice none 0 0]) (t := 25) ?hr ?_; (case hd => rfl); (case hg => rfl); (case hr => first | (go_simp; done) | (go_simp; rfl)); intro gb323 hg w3 hbox hb; replace HO_4 := Aside0.mk (Kd.N_below (Kd.N_elderB (qN HO_4.out) gb323 (Nat.le_of_eq hg.symm)) hb); have BK323 := Aside0.mk (hbox); have GW323 := Aside0.mk ((by rw [hg]; exact (below_size (hq HB.out)) : w.heap.size ≤ gb323)); have GE323 := Aside0.mk ((by rw [hg]; exact (below_size (hq HB.out)) : w.heap.size ≤ gb323)); replace HB := Aside0.mk (below_step (hq HB.out) hb); clear hb hbox hg; have hcz4_0 : w3.cell? ⟨gb323, 0, none⟩ = some (.int .i64 0) := (blk_cell BK323.out 0).trans rfl; have hcz4_1 : w3.cell? ⟨gb323, 1, none⟩ = some (.slice none 0 0) := (blk_cell BK323.out 1).trans rfl; have hfz4_0 := blk_frozen BK323.out 0; have hfz4_1 := blk_frozen BK323.out 1))
    go_loopg [25] k1 (fun kq v25 w' => ∃ (x25_2 : Int) (x324001_2 : List (S27)) (u324001 : Value), v25 = .int .i64 x25_2 ∧ Aside0 (keyeventlaw04_StreamLimit.l1 kq a0 (wrap64 (512 + (wrap64 (Int.tmod a0 2)))) x4_1 x20_1 (wrap64 (Int.tdiv (wrap64 (512 + (wrap64 (Int.tmod a0 2)))) 2)) x25_2 4 x324001_2 = some r) ∧ Aside0 (kq ≤ k1) ∧ Aside0 (Kd.N k25 25 w' w.heap.size (fun k_ => some k_ ≠ (u324001 : Value).ownBlock ∧ k_ ≠ gb323) u4 x4_1) ∧ Aside0 (Kd.R k27 27 w' w.heap.size (fun _ => True) u324001 x324001_2) ∧ Aside0 (w'.heap[gb323]? = some (.cells #[.int .i64 4, u324001] 25 (0, 0))) ∧ Aside0 (Below w.heap.size w w'))
    case atStart => exact ⟨(0), (([] : List (S27))), (.slice none 0 0), dq, H', ⟨Nat.le_refl _⟩, ⟨by (with_reducible repeat (first | apply Kd.N_alloc | apply Kd.N_drewN | apply Kd.N_drew)); exact Kd.N_mono (Kd.N_far (p := ⟨gb323, 1, none⟩) (Kd.N_far (p := ⟨gb323, 0, none⟩) (Kd.N_mono HO_4.out (fun k_ hk => (⟨hk, hk.2⟩ : _ ∧ k_ ≠ gb323))) (fun _ hk => hk.2) (.int .i64 4)) (fun _ hk => hk.2) (.slice none 0 0)) (fun _ hk => ⟨(by simp [Value.ownBlock]), hk.1.2⟩)⟩, ⟨by first | exact Kd.R_nil _ _ _ _ _ | exact Kd.N_nil _ _ _ _ _ | exact Kd.V_nil _ _ _ _ _ | exact Kd.Q_nil _ _ _ _ _ | exact Kd.S_nil _ _ _ _ _⟩, ⟨by (with_reducible repeat (first | refine blk_drewN ?_ _ | refine blk_drew ?_ | refine blk_alloc ?_ _)); refine blk_put (cs := #[.int .i64 4, .slice none 0 0]) ?_ 1 _ rfl; (with_reducible repeat (first | refine blk_drewN ?_ _ | refine blk_drew ?_ | refine blk_alloc ?_ _)); refine blk_put (cs := #[.int .i64 0, .slice none 0 0]) ?_ 0 _ rfl; (with_reducible repeat (first | refine blk_drewN ?_ _ | refine blk_drew ?_ | refine blk_alloc ?_ _)); exact BK323.out⟩, ⟨hq1 HB.out GE323.out⟩⟩
    case round =>
     clear H'
     try clear c2
     try clear c2b0
     try clear p2
     try clear c3
     try clear hcz4_0
     try clear hcz4_1
     try clear hfz4_0
     try clear hfz4_1
     obtain ⟨x25_2, x324001_2, u324001, rfl, HA, HK2, HO_4, HO_324001, BK323, HB⟩ := hrel
     cases gk with
     | zero => exact absurd HA.out (by simp [keyeventlaw04_StreamLimit.l1])
     | succ k2 =>
      have H := HA.out
      clear HA
      simp only [keyeventlaw04_StreamLimit.l1] at H
      by_cases c5 : x25_2 < (wrap64 (Int.tdiv (wrap64 (512 + (wrap64 (Int.tmod a0 2)))) 2))
      ·rw [if_pos c5] at H
       have c5b0 := decide_eq_true c5
       (try have c5v : x25_2 < (Int.tdiv (512 + (Int.tmod a0 2)) 2) := by (try rw [← (show ((wrap64 (Int.tdiv (wrap64 (512 + (wrap64 (Int.tmod a0 2)))) 2)) : Int) = (Int.tdiv (512 + (Int.tmod a0 2)) 2) from by unfold wrap64; omega)]); exact c5)
       (try (have c5vb0 : decide (x25_2 < (Int.tdiv (512 + (Int.tmod a0 2)) 2)) = true := decide_eq_true c5v))
       (try clear c5v)
       clear c5
       by_cases c6 : 32 ≤ 281474976710656
       ·rw [if_pos c6] at H
        have c6b0 := eq_true c6
        have c6b1 := decide_eq_true c6
        clear c6
        obtain ⟨y324, hy324⟩ : ∃ y_ : List Int, y_ = (List.replicate 32 0) := ⟨_, rfl⟩
        replace H : ((some (([(⟨8, (⟨#[0,0,0,0,0,1]⟩ : ByteArray)⟩ : S27), (⟨1, strOfNums y324⟩ : S27)] : List (S27)) : List (S27))).bind fun y327 => (if x324001_2.length + y327.length < 5864062014805 then (keyeventlaw04_StreamLimit.l1 k2 a0 (wrap64 (512 + (wrap64 (Int.tmod a0 2)))) x4_1 x20_1 (wrap64 (Int.tdiv (wrap64 (512 + (wrap64 (Int.tmod a0 2)))) 2)) (wrap64 (x25_2 + 1)) 4 (x324001_2 ++ y327)) else (none))) = some r := by first | (rw [hy324]; with_reducible exact H) | (have H2_ := (Option.bind_some _ _).symm.trans H; rw [hy324]; with_reducible exact H2_) | (have H2_ := (Option.bind_some _ _).symm.trans H; with_reducible exact H2_) | with_reducible exact H | (rw [hy324]; exact H) | exact H
        have Ny324 := Aside0.mk hy324
        clear hy324
        obtain ⟨y327, hy327⟩ : ∃ y_ : List (S27), y_ = (([(⟨8, (⟨#[0,0,0,0,0,1]⟩ : ByteArray)⟩ : S27), (⟨1, strOfNums y324⟩ : S27)] : List (S27))) := ⟨_, rfl⟩
        replace H : (if x324001_2.length + y327.length < 5864062014805 then (keyeventlaw04_StreamLimit.l1 k2 a0 (wrap64 (512 + (wrap64 (Int.tmod a0 2)))) x4_1 x20_1 (wrap64 (Int.tdiv (wrap64 (512 + (wrap64 (Int.tmod a0 2)))) 2)) (wrap64 (x25_2 + 1)) 4 (x324001_2 ++ y327)) else (none)) = some r := by first | (rw [hy327]; with_reducible exact H) | (have H2_ := (Option.bind_some _ _).symm.trans H; rw [hy327]; with_reducible exact H2_) | (have H2_ := (Option.bind_some _ _).symm.trans H; with_reducible exact H2_) | with_reducible exact H | (rw [hy327]; exact H) | exact H
        have Ny327 := Aside0.mk hy327
        clear hy327
        by_cases c7 : x324001_2.length + y327.length < 5864062014805
        ·rw [if_pos c7] at H
         have LMc7 := Aside0.mk c7
         clear c7
         obtain ⟨y330, hy330⟩ : ∃ y_ : List (S27), y_ = (x324001_2 ++ y327) := ⟨_, rfl⟩
         replace H : (keyeventlaw04_StreamLimit.l1 k2 a0 (wrap64 (512 + (wrap64 (Int.tmod a0 2)))) x4_1 x20_1 (wrap64 (Int.tdiv (wrap64 (512 + (wrap64 (Int.tmod a0 2)))) 2)) (wrap64 (x25_2 + 1)) 4 y330) = some r := by first | (rw [hy330]; with_reducible exact H) | (have H2_ := (Option.bind_some _ _).symm.trans H; rw [hy330]; with_reducible exact H2_) | (have H2_ := (Option.bind_some _ _).symm.trans H; with_reducible exact H2_) | with_reducible exact H | (rw [hy330]; exact H) | exact H
         have Ny330 := Aside0.mk hy330
         clear hy330
         have H' := Aside0.mk H
         clear H
         try go_wp2
         replace HO_4 := Aside0.mk (Kd.N_drew HO_4.out)
         replace HO_324001 := Aside0.mk (Kd.R_drew HO_324001.out)
         replace BK323 := Aside0.mk (blk_drew BK323.out)
         replace HB := Aside0.mk (below_drew1 HB.out)
         refine start_ (n := 10) (S := fun w' => w'.cell? ⟨gb323, 0, none⟩ = some (.int .i64 4) ∧ w'.cell? ⟨gb323, 1, none⟩ = some (u324001)) (ds := [9]) #[false,false,false,false,false,false,false,false,false,false] (by kernel_rfl) rfl rfl ⟨(blk_cell BK323.out 0).trans rfl, (blk_cell BK323.out 1).trans rfl⟩ (fun hHeld => ?_); refine with_tabW keyeventlaw04_StreamLimit.tab8 keyeventlaw04_StreamLimit.bits8 (fun HT_ HW_ => ?_)
         generalize wr.drew = w8 at HO_4 HO_324001 BK323 HB hHeld ⊢
         refine pure_ (i := 0) (N := some 27) (v := ?_) (a' := ?_) #[true,false,false,false,false,false,false,false,false,false] rfl rfl (any_of HT_.out (by kernel_rfl)) (fun _ _ _ h => h) (Or.inl ⟨by rfl, pv⟩) pp ?_
         refine pure_ (i := 2) (N := some 29) (v := ?_) (a' := ?_) #[true,false,true,false,false,false,false,false,false,false] rfl rfl (any_of HT_.out (by kernel_rfl)) (fun _ _ _ h => h) (Or.inl ⟨by rfl, pv⟩) pp ?_
         refine take_ (i := 1) (N := some 28) (v := ?_) (a' := ?_) #[true,true,true,false,false,false,false,false,false,false] rfl rfl (take_ofW HT_.out HW_.out (by kernel_rfl)) (fun _ _ _ h => h) (Or.inl ⟨by rfl, by rintro w' ⟨s0, s1⟩; go_simp; with_reducible rfl⟩) hHeld pp ?_
         refine one_ (i := 3) (N := some 30) #[true,true,true,true,false,false,false,false,false,false] rfl rfl (one_of HT_.out (by kernel_rfl)) (by decide) (fun K hK => ?_)
         refine Kd.R_make_step (Kd.int .u8) _ 5 (by rfl) (N := 30) rfl 28 _ _ rfl 32 rfl rfl Try.underlying28 (.int .u8 0) 1 info5 rfl (by decide) (by omega) 0 (ok := fun _ => True) (okp := fun _ => True) rfl (fun _ hk => hk) trivial (by omega) (by omega) (Below.refl _ _) (Nat.le_refl _) ?_
         intro v325 w9 ho10 hb hg_ hnew_
         clear hg_ hnew_
         (first | rw [← Ny324.out] at ho10 | (simp only [Int.reduceToNat] at ho10; rw [← Ny324.out] at ho10))
         replace HO_4 := Aside0.mk (Kd.N_elder' (qN HO_4.out) (Kd.R_base ho10) hb)
         replace HO_324001 := Aside0.mk (Kd.R_below (qR HO_324001.out) hb)
         have HO326 := Aside0.mk (Kd.R_lower ho10 (below_size (hq1 HB.out GE323.out)))
         replace BK323 := Aside0.mk (blk_below (g := gb323) (o := .cells #[.int .i64 4, u324001] 25 (0, 0)) (bq BK323.out) hb)
         replace HB := Aside0.mk (below_step (hq1 HB.out GE323.out) hb)
         clear hb ho10
         refine hK.out _ _ ⟨(blk_cell BK323.out 0).trans rfl, (blk_cell BK323.out 1).trans rfl⟩ (fun hHeld => ?_)
         clear hK K
         refine norm_ (a' := ?_) (show Act.put _ (some 30) _ = _ from pp) ?_
         refine one_ (i := 4) (N := some 31) #[true,true,true,true,true,false,false,false,false,false] rfl rfl (one_of HT_.out (by kernel_rfl)) (by decide) (fun K hK => ?_)
         have hcv11 := own_string (P := Try.prog) Try.underlying28 Try.underlying5 Try.underlying9 (Kd.own_of_R HO326.out)
         refine value_ (w1 := ?_) (v := ?_) (by rfl) rfl ?_ ?_
         rotate_left 2
         ·go_simp
          constructor
          ·rfl
          ·rfl
         clear hcv11
         refine hK.out _ _ ⟨(blk_cell BK323.out 0).trans rfl, (blk_cell BK323.out 1).trans rfl⟩ (fun hHeld => ?_)
         clear hK K
         refine norm_ (a' := ?_) (show Act.put _ (some 31) _ = _ from pp) ?_
         refine pure_ (i := 5) (N := some 32) (v := ?_) (a' := ?_) #[true,true,true,true,true,true,false,false,false,false] rfl rfl (any_of HT_.out (by kernel_rfl)) (fun _ _ _ h => h) (Or.inl ⟨by rfl, pv⟩) pp ?_
         refine one_ (i := 6) (N := some 33) #[true,true,true,true,true,true,true,false,false,false] rfl rfl (one_of HT_.out (by kernel_rfl)) (by decide) (fun K hK => ?_)
         refine Kd.R_lit_step k27 _ 27 ?hg (N := 33) ?hd (xs := ([(⟨8, (⟨#[0,0,0,0,0,1]⟩ : ByteArray)⟩ : S27), (⟨1, strOfNums y324⟩ : S27)] : List (S27))) (inner := [.int .i64 8, .string (⟨#[0,0,0,0,0,1]⟩ : ByteArray), .int .i64 1, .string (strOfNums y324)]) (ok := fun _ => True) (okp := fun _ => True) ?hr ?hp (fun _ hk => hk) trivial (Below.refl _ _) (Nat.le_refl _) (by simp) ?_; (case hd => rfl); (case hg => rfl); (case hr => first | (go_simp; done) | (go_simp; rfl)); (case hp => exact (Reps.c2 (show Kd.M k27 _ _ _ (⟨8, (⟨#[0,0,0,0,0,1]⟩ : ByteArray)⟩ : S27) [.int .i64 8, .string (⟨#[0,0,0,0,0,1]⟩ : ByteArray)] from (k27_mkM _ _ _ (⟨8, (⟨#[0,0,0,0,0,1]⟩ : ByteArray)⟩ : S27) )) (Reps.c2 (show Kd.M k27 _ _ _ (⟨1, strOfNums y324⟩ : S27) [.int .i64 1, .string (strOfNums y324)] from (k27_mkM _ _ _ (⟨1, strOfNums y324⟩ : S27) )) (Reps.none _ _))))
         intro v328 w12 ho13 hb hg_ hnew_
         clear hg_ hnew_
         (first | rw [← Ny327.out] at ho13 | (simp only [Int.reduceToNat] at ho13; rw [← Ny327.out] at ho13))
         replace HO_4 := Aside0.mk (Kd.N_elder' (qN HO_4.out) (Kd.R_base ho13) hb)
         replace HO326 := Aside0.mk (Kd.R_below (qR HO326.out) hb)
         have HO329 := Aside0.mk (Kd.R_lower (Kd.R_new' ho13 (Kd.R_lt (qR HO_324001.out))) (below_size (hq1 HB.out GE323.out)))
         replace HO_324001 := Aside0.mk (Kd.R_elder' (qR HO_324001.out) (Kd.R_base ho13) hb)
         replace BK323 := Aside0.mk (blk_below (g := gb323) (o := .cells #[.int .i64 4, u324001] 25 (0, 0)) (bq BK323.out) hb)
         replace HB := Aside0.mk (below_step (hq1 HB.out GE323.out) hb)
         clear hb ho13
         obtain ⟨Ao15, co15, eo15⟩ := Kd.R_slice HO329.out
         (first | subst eo15 | (injection eo15 with f1_ f2_ f3_; have f4_ := f1_.symm; have f5_ := f3_.symm; clear f1_ f2_ f3_; subst f4_; subst f5_))
         refine hK.out _ _ ⟨(blk_cell BK323.out 0).trans rfl, (blk_cell BK323.out 1).trans rfl⟩ (fun hHeld => ?_)
         clear hK K
         refine norm_ (a' := ?_) (show Act.put _ (some 33) _ = _ from pp) ?_
         refine one_ (i := 7) (N := some 34) #[true,true,true,true,true,true,true,true,false,false] rfl rfl (one_of HT_.out (by kernel_rfl)) (by decide) (fun K hK => ?_)
         refine Kd.R_append_rows_step k27 (w0 := w) w.heap.size (by rfl) (.tmp 28) (.tmp 33) 23 27 (.agg #[(.int .i64 0), (.string ⟨#[]⟩)]) 24 rfl Try.underlying23 info27 rfl (by decide) (by omega) u324001 x324001_2 y327 _ _ _ (fun k_ => some k_ ≠ (.slice Ao15 y327.length co15 : Value).ownBlock) (fun _ => False) rfl rfl ?aO ?aR (fun _ _ h => h) (fun _ h => h.elim) ?aF ?aB ?aS ?aL ?_
         (case aR => repeat (first | exact (Kd.R_reads' HO329.out).2.2 | (with_reducible refine Kd.C_alloc ?_ _) | (with_reducible refine Kd.C_drewN ?_ _) | (with_reducible refine Kd.C_drew ?_)))
         (case aB => exact (hq1 HB.out GE323.out))
         (case aF => exact (fun k_ hk => Kd.fresh' (Kd.R_lt (qR HO329.out)) k_ hk))
         (case aO => exact (by (with_reducible repeat (first | apply Kd.R_alloc | apply Kd.R_drewN | apply Kd.R_drew)); exact Kd.R_mono HO_324001.out (fun _ hk => hk.2)))
         (case aS => exact (below_size (hq1 HB.out GE323.out)))
         (case aL => have := LMc7.out; omega)
         intro v331 w14 ho hb hg hat
         rw [← Ny330.out] at ho
         have n0_ := Aside0.mk (Kd.N_afterv (ok := (fun k_ => some k_ ≠ (v325 : Value).ownBlock ∧ some k_ ≠ (.slice Ao15 y327.length co15 : Value).ownBlock ∧ k_ ≠ gb323)) (by (with_reducible repeat (first | apply Kd.N_alloc | apply Kd.N_drewN | apply Kd.N_drew)); exact Kd.N_mono HO_4.out (fun _ hk => ⟨⟨hk.1.2, ⟨hk.2, hk.1.1.2⟩⟩, hk.1.1.1⟩)) hg hat)
         have n1_ := Aside0.mk (blk_grown (g := gb323) (o := .cells #[.int .i64 4, u324001] 25 (0, 0)) (bq BK323.out) hg (Kd.R_ne HO_324001.out BK323.out (by decide)))
         have n2_ := Aside0.mk (Kd.R_over' (qR HO326.out) (Kd.R_typed (qR HO_324001.out)) (by decide) hg)
         have n3_ := Aside0.mk (Kd.R_after (ok := (fun _ => True)) (qR HO329.out) hg hat)
         have n4_ := Aside0.mk (hb)
         have n5_ := Aside0.mk (ho)
         clear HO_4
         clear BK323
         clear HO326
         clear HO329
         clear HB
         clear HO_324001
         have HO_4 := n0_
         have BK323 := n1_
         have HO326 := n2_
         have HO329 := n3_
         have HB := n4_
         have HO332 := n5_
         clear n0_ n1_ n2_ n3_ n4_ n5_
         clear ho hb hg hat
         obtain ⟨Ao16, co16, eo16⟩ := Kd.R_slice HO332.out
         (first | subst eo16 | (injection eo16 with f1_ f2_ f3_; have f4_ := f1_.symm; have f5_ := f3_.symm; clear f1_ f2_ f3_; subst f4_; subst f5_))
         refine hK.out _ _ ⟨(blk_cell BK323.out 0).trans rfl, (blk_cell BK323.out 1).trans rfl⟩ (fun hHeld => ?_)
         clear hK K
         refine norm_ (a' := ?_) (show Act.put _ (some 34) _ = _ from pp) ?_
         refine pure_ (i := 8) (N := some 35) (v := ?_) (a' := ?_) #[true,true,true,true,true,true,true,true,true,false] rfl rfl (any_of HT_.out (by kernel_rfl)) (fun _ _ _ h => h) (Or.inl ⟨by rfl, pv⟩) pp ?_
         refine last_ (i := 9) (N := none) #[true,true,true,true,true,true,true,true,true,true] rfl rfl (one_of HT_.out (by kernel_rfl)) (by decide) (fun K hK => ?_)
         have hs17 : w14.cell? ⟨gb323, 1, none⟩ = some (u324001) := (blk_cell BK323.out 1).trans rfl
         have hfs17 := blk_frozen BK323.out 1
         refine skip_ (w1 := ?_) (by rfl) rfl ?_ ?_
         rotate_left
         ·go_simp
          rfl
         refine hK.out _ _ ?_
         clear hK K
         refine done_ (done_of HT_.out (by kernel_rfl)) ?_
         try go_wp2
         go_roundg k2
         case measure => have := HK1.out; have := HK2.out; omega
         case rel => exact ⟨(wrap64 (x25_2 + 1)), (y330), (.slice Ao16 y330.length co16), dq, H', ⟨by have := HK1.out; have := HK2.out; omega⟩, ⟨by (with_reducible repeat (first | apply Kd.N_alloc | apply Kd.N_drewN | apply Kd.N_drew)); exact Kd.N_mono (Kd.N_far (p := ⟨gb323, 1, none⟩) (Kd.N_mono HO_4.out (fun k_ hk => (⟨hk, hk.1.2.2⟩ : _ ∧ k_ ≠ gb323))) (fun _ hk => hk.2) (.slice Ao16 y330.length co16)) (fun _ hk => ⟨hk.1.2, hk.1.1.2.2⟩)⟩, ⟨by (with_reducible repeat (first | apply Kd.R_alloc | apply Kd.R_drewN | apply Kd.R_drew)); exact Kd.R_mono (Kd.R_far (p := ⟨gb323, 1, none⟩) (Kd.R_types HO332.out BK323.out (by decide)) (fun _ hk => hk.2) (.slice Ao16 y330.length co16)) (fun _ hk => trivial)⟩, ⟨by (with_reducible repeat (first | refine blk_drewN ?_ _ | refine blk_drew ?_ | refine blk_alloc ?_ _)); refine blk_put (cs := #[.int .i64 4, u324001]) ?_ 1 _ rfl; (with_reducible repeat (first | refine blk_drewN ?_ _ | refine blk_drew ?_ | refine blk_alloc ?_ _)); exact BK323.out⟩, ⟨hq1 HB.out GE323.out⟩⟩
        ·rw [if_neg c7] at H
         exact absurd H (by simp)
       ·rw [if_neg c6] at H
        exact absurd H (by simp)
      ·rw [if_neg c5] at H
       have c5b0 := decide_eq_false c5
       (try have c5v : ¬ (x25_2 < (Int.tdiv (512 + (Int.tmod a0 2)) 2)) := by (try rw [← (show ((wrap64 (Int.tdiv (wrap64 (512 + (wrap64 (Int.tmod a0 2)))) 2)) : Int) = (Int.tdiv (512 + (Int.tmod a0 2)) 2) from by unfold wrap64; omega)]); exact c5)
       (try (have c5vb0 : decide (x25_2 < (Int.tdiv (512 + (Int.tmod a0 2)) 2)) = false := decide_eq_false c5v))
       (try clear c5v)
       clear c5
       by_cases c18 : x4_1.length < 4398046511104
       ·rw [if_pos c18] at H
        have LMc18 := Aside0.mk c18
        clear c18
        obtain ⟨y333, hy333⟩ : ∃ y_ : List (S25), y_ = (x4_1 ++ [(⟨4, x324001_2⟩ : S25)]) := ⟨_, rfl⟩
        replace H : (keyeventlaw04_StreamLimit.l0 k2 a0 (wrap64 (512 + (wrap64 (Int.tmod a0 2)))) y333 (wrap64 (x20_1 + 1))) = some r := by first | (rw [hy333]; with_reducible exact H) | (have H2_ := (Option.bind_some _ _).symm.trans H; rw [hy333]; with_reducible exact H2_) | (have H2_ := (Option.bind_some _ _).symm.trans H; with_reducible exact H2_) | with_reducible exact H | (rw [hy333]; exact H) | exact H
        have Ny333 := Aside0.mk hy333
        clear hy333
        have H' := Aside0.mk H
        clear H
        have hcz19_0 : wr.cell? ⟨gb323, 0, none⟩ = some (.int .i64 4) := (blk_cell BK323.out 0).trans rfl
        have hcz19_1 : wr.cell? ⟨gb323, 1, none⟩ = some (u324001) := (blk_cell BK323.out 1).trans rfl
        have hfz19_0 := blk_frozen BK323.out 0
        have hfz19_1 := blk_frozen BK323.out 1
        obtain ⟨Ao21, co21, eo21⟩ := Kd.R_slice HO_324001.out
        subst eo21
        go_wp2_with (first | ((with_reducible refine gate_builtin (b := .append) (xs := #[.tmp 37, .tmp 39]) rfl ?_); at_builtin; refine Kd.N_append k25 (w0 := w) w.heap.size rfl (.tmp 37) (.tmp 39) 22 25 (.agg #[(.int .i64 0), (.slice none 0 0)]) 32 rfl Try.underlying22 info25 rfl (by decide) (by omega) u4 x4_1 (⟨4, x324001_2⟩ : S25) [.int .i64 4, .slice Ao21 x324001_2.length co21] (fun k_ => k_ ≠ gb323) (fun k_ => ((fun k_ => k_ ≠ gb323)) k_ ∧ some k_ ≠ (u4 : Value).ownBlock) rfl rfl ?aP (fun _ hk => hk) ?aF ?aO ?aB ?aS ?aL ?_; (case aP => exact (k25_mkF _ _ (⟨4, x324001_2⟩ : S25) (Kd.R_reads' (Kd.R_mono (ok' := (fun k_ => ((fun k_ => k_ ≠ gb323)) k_ ∧ some k_ ≠ (u4 : Value).ownBlock)) (Kd.R_types (Kd.R_apart' (HO_324001.out) (Kd.N_typed HO_4.out) (by decide)) BK323.out (by decide)) (fun k_ hk => ⟨hk.2, hk.1.2⟩))).2.1 (Kd.R_F (Kd.R_mono (ok' := (fun k_ => ((fun k_ => k_ ≠ gb323)) k_ ∧ some k_ ≠ (u4 : Value).ownBlock)) (Kd.R_types (Kd.R_apart' (HO_324001.out) (Kd.N_typed HO_4.out) (by decide)) BK323.out (by decide)) (fun k_ hk => ⟨hk.2, hk.1.2⟩))))); (case aB => exact (hq1 HB.out GE323.out)); (case aF => exact (fun k_ hk => Kd.freshB (g := gb323) (o := .cells #[.int .i64 4, .slice Ao21 x324001_2.length co21] 25 (0, 0)) (bq BK323.out) k_ hk)); (case aO => exact (by (with_reducible repeat (first | apply Kd.N_alloc | apply Kd.N_drewN | apply Kd.N_drew)); exact Kd.N_mono HO_4.out (fun _ hk => hk.2))); (case aS => exact (below_size (hq1 HB.out GE323.out))); (case aL => have := LMc18.out; omega); intro v334 w20 ho hb hg hat; rw [← Ny333.out] at ho; have n0_ := Aside0.mk (blk_grown (g := gb323) (o := .cells #[.int .i64 4, .slice Ao21 x324001_2.length co21] 25 (0, 0)) (bq BK323.out) hg (Kd.N_away HO_4.out (fun _ hk => hk.2))); have n1_ := Aside0.mk (hb); have n2_ := Aside0.mk (ho); clear BK323; clear HB; clear HO_4; clear HO_324001; have BK323 := n0_; have HB := n1_; have HO335 := n2_; clear n0_ n1_ n2_; clear ho hb hg hat))
        go_roundg k2
        case measure => have := HK1.out; have := HK2.out; omega
        case rel => exact ⟨(y333), (wrap64 (x20_1 + 1)), dq, H', ⟨by have := HK1.out; have := HK2.out; omega⟩, ⟨by (with_reducible repeat (first | apply Kd.N_alloc | apply Kd.N_drewN | apply Kd.N_drew)); exact Kd.N_mono HO335.out (fun _ hk => trivial)⟩, ⟨hq1 HB.out GE323.out⟩⟩
       ·rw [if_neg c18] at H
        exact absurd H (by simp)
   ·rw [if_neg c2] at H
    have c2b0 := decide_eq_false c2
    clear c2
    have HC22 := Aside0.mk H
    clear H
    go_upto_if 44 with (fail)
    go_cut [4] (fun v4 wc => ∃ (kq : Nat) (x4_21 : List (S25)), Aside0 (keyeventlaw04_StreamLimit.j2 kq a0 x4_21 = some r) ∧ Aside0 (kq ≤ k1) ∧ Aside0 (Kd.N k25 25 wc w.heap.size (fun _ => True) v4 x4_21) ∧ Aside0 (Below w.heap.size w wc))
    case first =>
     have H := HC22.out
     clear HC22
     by_cases c23 : (Int.tmod a0 2) = 1
     ·rw [if_pos c23] at H
      have c23b0 : ((Int.tmod a0 2) == 1) = true := beq_iff_eq.mpr c23
      have c23b1 : ((Int.tmod a0 2) != 1) = false := bne_eq_false_iff_eq.mpr c23
      clear c23
      (first | rw [c23b0] | (simp only [i64_w, i32_w]; rw [c23b0]) | skip)
      by_cases c24 : 0 < (x4_1.length : Int)
      ·rw [if_pos c24] at H
       have c24b0 := decide_eq_true c24
       have c24b1 : decide (0 < x4_1.length) = true := decide_eq_true (by omega)
       clear c24
       by_cases c25 : 2 ≤ (((rd_T25 x4_1 0).f1).length : Int)
       ·rw [if_pos c25] at H
        have c25b0 := eq_true c25
        have c25b1 := decide_eq_true c25
        clear c25
        obtain ⟨y337, hy337⟩ : ∃ y_ : List (S27), y_ = (((rd_T25 x4_1 0).f1).take 2) := ⟨_, rfl⟩
        replace H : (if x4_1.length < 4398046511104 then (keyeventlaw04_StreamLimit.j2 k1 a0 (x4_1 ++ [(⟨4, y337⟩ : S25)])) else (none)) = some r := by first | (rw [hy337]; with_reducible exact H) | (have H2_ := (Option.bind_some _ _).symm.trans H; rw [hy337]; with_reducible exact H2_) | (have H2_ := (Option.bind_some _ _).symm.trans H; with_reducible exact H2_) | with_reducible exact H | (rw [hy337]; exact H) | exact H
        have Ny337 := Aside0.mk hy337
        clear hy337
        by_cases c26 : x4_1.length < 4398046511104
        ·rw [if_pos c26] at H
         have LMc26 := Aside0.mk c26
         clear c26
         obtain ⟨y342, hy342⟩ : ∃ y_ : List (S25), y_ = (x4_1 ++ [(⟨4, y337⟩ : S25)]) := ⟨_, rfl⟩
         replace H : (keyeventlaw04_StreamLimit.j2 k1 a0 y342) = some r := by first | (rw [hy342]; with_reducible exact H) | (have H2_ := (Option.bind_some _ _).symm.trans H; rw [hy342]; with_reducible exact H2_) | (have H2_ := (Option.bind_some _ _).symm.trans H; with_reducible exact H2_) | with_reducible exact H | (rw [hy342]; exact H) | exact H
         have Ny342 := Aside0.mk hy342
         clear hy342
         have H' := Aside0.mk H
         clear H
         obtain ⟨Ao27, co27, eo27⟩ := Kd.N_slice HO_4.out
         subst eo27
         have p336 : 0 ≤ (0 : Int) := (by omega)
         have q336 : 0 < (x4_1.length : Int) := of_decide_eq_true aq
         obtain ⟨ad336, A336_1, c336_1, e336, hx336_0, hx336_1, hl336_1, hi336_1⟩ := at_T25 (Kd.N_reads' HO_4.out).2.2 0 p336 q336
         cases e336
         obtain ⟨ce336, hce336, hMe336, hcc336⟩ := Kd.N_get HO_4.out z25 0 p336 (by first | exact q336 | exact of_decide_eq_true aq | (have e_ := (Kd.N_reads' HO_4.out).1; omega))
         obtain ⟨ua336_1, uc336_1, rfl, ul336_1, ge336_1⟩ := k25_openF hMe336
         have hv336_1 := hcc336 1 _ rfl
         rw [add_field _ _ 1 (by omega)] at hv336_1
         replace hv336_1 := Option.some.inj (hv336_1.symm.trans hx336_1)
         injection hv336_1 with hva_ hvn_ hvc_
         rw [hva_] at ge336_1
         rw [hvc_] at ul336_1
         have HL336_1 := Aside0.mk (show Kd.V k27 27 _ w.heap.size _ _ ((rd_T25 x4_1 0).f1) from Kd.V_mk ul336_1 ge336_1)
         clear hva_ hvn_ hvc_ ge336_1 ul336_1
         clear hcc336 hce336
         have qi336 : (0 < x4_1.length) = True := eq_true (by omega)
         (try rw [show ((0 : Int)).toNat = 0 from rfl] at hx336_0)
         (try rw [show 0 * 2 = 0 from rfl] at hx336_0)
         (try rw [Addr.add_zero'] at hx336_0)
         (try rw [show ((0 : Int)).toNat = 0 from rfl] at hx336_1)
         (try rw [show 0 * 2 = 0 from rfl] at hx336_1)
         (try rw [Addr.add_zero'] at hx336_1)
         have HR336_1 := Aside0.mk hi336_1
         have HC336_1 := Aside0.mk hl336_1
         clear hi336_1 hl336_1
         replace p336 := eq_true p336
         replace q336 := eq_true q336
         have q28 : (2 : Int) ≤ ((((rd_T25 x4_1 0).f1).length : Int) : Int) := of_decide_eq_true aq
         obtain ⟨i028, hi028, _, hsz28, _⟩ := info_parts info27
         have hroom28 : ((rd_T25 x4_1 0).f1).length ≤ c336_1 := HC336_1.out
         have hC28 : Kd.F k27 _ _ A336_1 ((rd_T25 x4_1 0).f1).length ((rd_T25 x4_1 0).f1) := (Kd.V_at (base := w.heap.size) HL336_1.out).2.2
         have hcut28 := cut_to (P := Try.prog) 23 27 .i64 Try.underlying23 hi028 A336_1 ((rd_T25 x4_1 0).f1).length c336_1 2 (by omega) q28 hroom28
         have hr28 := Kd.F_take (m := 2) hC28 (by omega)
         have hy28 : y337.length = (2 : Int).toNat := (by rw [Ny337.out, List.length_take]; omega)
         rw [← Ny337.out] at hr28
         rw [← hy28] at hcut28
         have HO341 := Aside0.mk (show Kd.V k27 27 _ w.heap.size _ (.slice A336_1 y337.length c336_1) y337 from Kd.V_mk (by omega) hr28)
         have HC341 := Aside0.mk (show y337.length ≤ c336_1 from by omega)
         clear hr28 hC28 hroom28 hi028 hsz28
         have KY28 := Aside0.mk hy28
         clear hy28
         replace q28 := eq_true q28
         go_wp2_with (first | ((with_reducible refine gate_builtin (b := .append) (xs := #[.tmp 45, .tmp 52]) rfl ?_); at_builtin; refine Kd.N_append k25 (w0 := w) w.heap.size rfl (.tmp 45) (.tmp 52) 22 25 (.agg #[(.int .i64 0), (.slice none 0 0)]) 32 rfl Try.underlying22 info25 rfl (by decide) (by omega) (.slice (some ad336) x4_1.length co27) x4_1 (⟨4, y337⟩ : S25) [.int .i64 4, .slice A336_1 y337.length c336_1] (fun _ => True) (fun k_ => ((fun _ => True)) k_ ∧ some k_ ≠ (.slice (some ad336) x4_1.length co27 : Value).ownBlock) rfl rfl ?aP (fun _ hk => hk) ?aF ?aO ?aB ?aS ?aL ?_; (case aP => exact (k25_mkF _ _ (⟨4, y337⟩ : S25) (Kd.V_reads' (Kd.V_mono (ok' := (fun k_ => ((fun _ => True)) k_ ∧ some k_ ≠ (.slice (some ad336) x4_1.length co27 : Value).ownBlock)) (HO341.out) (fun k_ hk => ⟨trivial, hk.2⟩))).2.1 (Kd.V_F (Kd.V_mono (ok' := (fun k_ => ((fun _ => True)) k_ ∧ some k_ ≠ (.slice (some ad336) x4_1.length co27 : Value).ownBlock)) (HO341.out) (fun k_ hk => ⟨trivial, hk.2⟩))))); (case aB => exact (hq HB.out)); (case aF => exact (fun _ _ => trivial)); (case aO => exact (qN HO_4.out)); (case aS => exact (below_size (hq HB.out))); (case aL => have := LMc26.out; omega); intro v343 w29 ho hb hg hat; rw [← Ny342.out] at ho; have n0_ := Aside0.mk (Kd.V_afterv (ok := (fun _ => True)) (qV HL336_1.out) hg hat); have n1_ := Aside0.mk (Kd.V_afterv (ok := (fun _ => True)) (qV HO341.out) hg hat); have n2_ := Aside0.mk (hb); have n3_ := Aside0.mk (ho); clear HL336_1; clear HO341; clear HB; clear HO_4; have HL336_1 := n0_; have HO341 := n1_; have HB := n2_; have HO344 := n3_; clear n0_ n1_ n2_ n3_; clear ho hb hg hat))
         go_meet
         case rel => exact ⟨_, (y342), H', ⟨by have := HK1.out; first | omega | exact Nat.le_refl _⟩, ⟨by (with_reducible repeat (first | apply Kd.N_alloc | apply Kd.N_drewN | apply Kd.N_drew)); exact HO344.out⟩, ⟨hq HB.out⟩⟩
        ·rw [if_neg c26] at H
         exact absurd H (by simp)
       ·rw [if_neg c25] at H
        exact absurd H (by simp)
      ·rw [if_neg c24] at H
       exact absurd H (by simp)
     ·rw [if_neg c23] at H
      have c23b0 : ((Int.tmod a0 2) == 1) = false := beq_eq_false_iff_ne.mpr c23
      have c23b1 : ((Int.tmod a0 2) != 1) = true := bne_iff_ne.mpr c23
      (first | rw [c23b0] | (simp only [i64_w, i32_w]; rw [c23b0]) | skip)
      have H' := Aside0.mk H
      clear H
      go_wp2
      go_meet
      case rel => exact ⟨_, (x4_1), H', ⟨by have := HK1.out; first | omega | exact Nat.le_refl _⟩, ⟨by (with_reducible repeat (first | apply Kd.N_alloc | apply Kd.N_drewN | apply Kd.N_drew)); exact HO_4.out⟩, ⟨hq HB.out⟩⟩
    case rest =>
     clear HC22
     try clear c1
     try clear hcv1
     try clear c2
     try clear c2b0
     try clear p2
     try clear q2
     try clear c3
     try clear p3
     try clear q3
     try clear hx3
     try clear qi3
     try clear c5
     try clear c5b0
     try clear c6
     try clear c6b0
     try clear c6b1
     try clear p6
     try clear c7
     try clear hcv11
     try clear c18
     try clear c23
     try clear c23b0
     try clear c23b1
     try clear c24
     try clear c24b0
     try clear c24b1
     try clear c25
     try clear c25b0
     try clear c25b1
     try clear c26
     try clear q28
     try clear hcz19_0
     try clear hcz19_1
     try clear hcz4_0
     try clear hcz4_1
     try clear hfz19_0
     try clear hfz19_1
     try clear hfz4_0
     try clear hfz4_1
     try clear hx336_0
     try clear hx336_1
     try clear p2
     try clear p336
     try clear q28
     try clear q336
     obtain ⟨kq, x4_21, HA, HJ21, HO_4, HB⟩ := hcut
     cases kq with
     | zero => exact absurd HA.out (by simp [keyeventlaw04_StreamLimit.j2])
     | succ kj21 =>
      have H := HA.out
      clear HA
      simp only [keyeventlaw04_StreamLimit.j2] at H
      obtain ⟨⟨t345, t346⟩, A30, H⟩ := bindS H
      try dsimp only at H
      obtain ⟨⟨t347, t348⟩, A31, H⟩ := bindS H
      try dsimp only at H
      by_cases c32 : 2 ≤ (x4_21.length : Int)
      ·rw [if_pos c32] at H
       have c32b0 := eq_true c32
       have c32b1 := decide_eq_true c32
       clear c32
       obtain ⟨y349, hy349⟩ : ∃ y_ : List (S25), y_ = (x4_21.take 2) := ⟨_, rfl⟩
       replace H : ((keyeventref04_Encode.f kj21 y349).bind fun bt354 => (if 0 ≤ 60 then (if 60 ≤ (bt354.1.size : Int) then (if bt354.1.size + (bt354.1.extract 0 60).size ≤ 9223372036854775807 then ((stream_Decode.f kj21 (bt354.1 ++ (bt354.1.extract 0 60))).bind fun bt356 => ((keyeventref04_Decode.f kj21 (bt354.1 ++ (bt354.1.extract 0 60))).bind fun bt360 => (if t346 = t348 then (if ((t346 == 0) == ((Int.tmod a0 2) == 0)) = true then (if t346 = 0 then (if bt356.2 = bt360.2 then ((keyeventref04_Same.f kj21 bt356.1 bt360.1).bind fun t364 => (if t364 = true then ((keyeventlaw04_awake.f kj21).bind fun t365 => (some t365)) else (some false))) else (some false)) else (if t345.toList = ([] : List UInt8) then (if bt356.2 = bt360.2 then ((keyeventref04_Same.f kj21 bt356.1 bt360.1).bind fun t366 => (if t366 = true then ((keyeventlaw04_awake.f kj21).bind fun t367 => (some t367)) else (some false))) else (some false)) else (some false))) else (some false)) else (some false)))) else (none)) else (none)) else (none))) = some r := by first | (rw [hy349]; with_reducible exact H) | (have H2_ := (Option.bind_some _ _).symm.trans H; rw [hy349]; with_reducible exact H2_) | (have H2_ := (Option.bind_some _ _).symm.trans H; with_reducible exact H2_) | with_reducible exact H | (rw [hy349]; exact H) | exact H
       have Ny349 := Aside0.mk hy349
       clear hy349
       obtain ⟨⟨t354, t355⟩, A33, H⟩ := bindS H
       try dsimp only at H
       by_cases c34 : 0 ≤ 60
       ·rw [if_pos c34] at H
        have c34b0 := eq_true c34
        have c34b1 := decide_eq_true c34
        clear c34
        by_cases c35 : 60 ≤ (t354.size : Int)
        ·rw [if_pos c35] at H
         have c35b0 := eq_true c35
         have c35b1 := decide_eq_true c35
         clear c35
         by_cases c36 : t354.size + (t354.extract 0 60).size ≤ 9223372036854775807
         ·rw [if_pos c36] at H
          have c36b0 := eq_true c36
          have c36b1 := decide_eq_true c36
          try have c36b2 : (9223372036854775807 < t354.size + (t354.extract 0 60).size) = False := eq_false (Nat.not_lt.2 c36)
          have c36b3 : (9223372036854775807 < t354.size + 60) = False := eq_false (by have h_ := c36; simp only [ByteArray.size_extract] at h_; have l0_ : (60 : Int) ≤ (t354.size : Int) := of_eq_true (by assumption); omega)
          obtain ⟨⟨t356, t357⟩, A37, H⟩ := bindS H
          try dsimp only at H
          have c38b0 := eq_true (of_decide_eq_true aq : 0 ≤ 60)
          have c39b0 := eq_true (of_decide_eq_true aq : 60 ≤ (t354.size : Int))
          (try have c39b1 : decide (60 ≤ t354.size) = true := decide_eq_true (by have h_ := of_eq_true c39b0; omega))
          obtain ⟨⟨t360, t361⟩, A40, H⟩ := bindS H
          try dsimp only at H
          by_cases c41 : t346 = t348
          ·rw [if_pos c41] at H
           have c41b0 : (t346 == t348) = true := beq_iff_eq.mpr c41
           have c41b1 : (t346 != t348) = false := bne_eq_false_iff_eq.mpr c41
           clear c41
           by_cases c42 : ((t346 == 0) == ((Int.tmod a0 2) == 0)) = true
           ·rw [if_pos c42] at H
            have c42b0 : ((t346 == 0) == ((Int.tmod a0 2) == 0)) = true := c42
            (try (have c42b1 : decide ((t346 == 0) = ((Int.tmod a0 2) == 0)) = true := by simpa using c42))
            (try (have c42b2 : ((t346 == 0) == ((Int.tmod a0 2) == 0)) = true := by simpa using c42))
            clear c42
            by_cases c43 : t346 = 0
            ·rw [if_pos c43] at H
             have c43b0 : (t346 == 0) = true := beq_iff_eq.mpr c43
             have c43b1 : (t346 != 0) = false := bne_eq_false_iff_eq.mpr c43
             (try have c43q : ((Int.tmod a0 2) == 0) = true := by have h_ := c42b0; rw [c43b0] at h_; simpa using h_)
             clear c43
             by_cases c44 : t357 = t361
             ·rw [if_pos c44] at H
              have c44b0 : (t357 == t361) = true := beq_iff_eq.mpr c44
              have c44b1 : (t357 != t361) = false := bne_eq_false_iff_eq.mpr c44
              clear c44
              obtain ⟨t364, A45, H⟩ := bindS H
              by_cases c46 : t364 = true
              ·subst c46
               rw [if_pos rfl] at H
               obtain ⟨t365, A47, H⟩ := bindS H
               obtain rfl := Option.some.inj H
               obtain ⟨Ao48, co48, eo48⟩ := Kd.N_slice HO_4.out
               subst eo48
               go_wp2_with (first | ((with_reducible refine gate_callee (f := 8) rfl ?_); refine goesL_ (some 56) rfl rfl Try.func8 (by kernel_rfl) rfl #[.slice Ao48 x4_21.length co48] rfl eq_ ?_; (with_reducible refine (stream_Encode.calls kj21 _ _ x4_21 t345 t346 _ ?side1 ?side2 A30.out).mono ?_); (case side1 => repeat (first | exact (Kd.N_reads' HO_4.out).2.2 | (with_reducible refine Kd.C_alloc ?_ _) | (with_reducible refine Kd.C_drewN ?_ _) | (with_reducible refine Kd.C_drew ?_))); (case side2 => exact (Kd.N_reads' HO_4.out).2.1); rintro e w49 ⟨rfl, hb⟩; refine ⟨_, rfl, ?_⟩; replace HO_4 := Aside0.mk (Kd.N_below (qN HO_4.out) hb); replace HB := Aside0.mk (below_step (hq HB.out) hb); (try clear hb)) | ((with_reducible refine gate_callee (f := 9) rfl ?_); refine goesL_ (some 61) rfl rfl Try.func9 (by kernel_rfl) rfl #[.slice Ao48 x4_21.length co48] rfl eq_ ?_; (with_reducible refine (keyeventref04_Encode.calls kj21 _ _ x4_21 t347 t348 _ ?side1 ?side2 A31.out).mono ?_); (case side1 => repeat (first | exact (Kd.N_reads' HO_4.out).2.2 | (with_reducible refine Kd.C_alloc ?_ _) | (with_reducible refine Kd.C_drewN ?_ _) | (with_reducible refine Kd.C_drew ?_))); (case side2 => exact (Kd.N_reads' HO_4.out).2.1); rintro e w50 ⟨rfl, hb⟩; refine ⟨_, rfl, ?_⟩; replace HO_4 := Aside0.mk (Kd.N_below (qN HO_4.out) hb); replace HB := Aside0.mk (below_step (hq HB.out) hb); (try clear hb); have q51 : (2 : Int) ≤ ((x4_21.length : Int) : Int) := of_decide_eq_true aq; obtain ⟨i051, hi051, _, hsz51, _⟩ := info_parts info25; have hroom51 : x4_21.length ≤ co48 := (Kd.N_reads' HO_4.out).2.1; have hC51 : Kd.F k25 _ _ Ao48 x4_21.length x4_21 := (Kd.V_at (base := w.heap.size) (Kd.N_V HO_4.out)).2.2; have hcut51 := cut_to (P := Try.prog) 22 25 .i64 Try.underlying22 hi051 Ao48 x4_21.length co48 2 (by omega) q51 hroom51; have hr51 := Kd.F_take (m := 2) hC51 (by omega); have hy51 : y349.length = (2 : Int).toNat := (by rw [Ny349.out, List.length_take]; omega); rw [← Ny349.out] at hr51; rw [← hy51] at hcut51; have HO353 := Aside0.mk (show Kd.V k25 25 _ w.heap.size _ (.slice Ao48 y349.length co48) y349 from Kd.V_mk (by omega) hr51); have HC353 := Aside0.mk (show y349.length ≤ co48 from by omega); clear hr51 hC51 hroom51 hi051 hsz51; have KY51 := Aside0.mk hy51; clear hy51; replace q51 := eq_true q51) | ((with_reducible refine gate_callee (f := 9) rfl ?_); refine goesL_ (some 67) rfl rfl Try.func9 (by kernel_rfl) rfl #[.slice Ao48 y349.length co48] rfl eq_ ?_; (with_reducible refine (keyeventref04_Encode.calls kj21 _ _ y349 t354 t355 _ ?side1 ?side2 A33.out).mono ?_); (case side1 => repeat (first | exact (Kd.V_reads' HO353.out).2.2 | (with_reducible refine Kd.C_alloc ?_ _) | (with_reducible refine Kd.C_drewN ?_ _) | (with_reducible refine Kd.C_drew ?_))); (case side2 => exact (Kd.V_reads' HO353.out).2.1); rintro e w52 ⟨rfl, hb⟩; refine ⟨_, rfl, ?_⟩; replace HO_4 := Aside0.mk (Kd.N_below (qN HO_4.out) hb); replace HO353 := Aside0.mk (Kd.V_below (qV HO353.out) hb); replace HB := Aside0.mk (below_step (hq HB.out) hb); (try clear hb)) | ((with_reducible refine gate_callee (f := 10) rfl ?_); refine goesL_ (some 75) rfl rfl Try.func10 (by kernel_rfl) rfl #[.string (t354 ++ (t354.extract 0 60))] rfl eq_ ?_; (with_reducible refine (stream_Decode.calls kj21 (t354 ++ (t354.extract 0 60)) t356 t357 _ A37.out).mono ?_); rintro e w53 ⟨v358, rfl, ho0, hb⟩; refine ⟨_, rfl, ?_⟩; replace HO353 := Aside0.mk (Kd.V_elder' (qV HO353.out) (by first | exact Kd.N_base ho0 | exact Kd.S_base ho0 | exact Kd.N_base (Kd.S_N ho0)) hb); have HO359 := Aside0.mk (Kd.N_lower (Kd.N_mono (ok' := fun k_ => some k_ ≠ (.slice Ao48 x4_21.length co48 : Value).ownBlock) (Kd.S_N (Kd.S_bound ho0)) (fun k_ hk_ => (Kd.fresh' (Kd.N_lt (qN HO_4.out)) k_ hk_.2.1))) (below_size (hq HB.out))); replace HO_4 := Aside0.mk (Kd.N_elder' (qN HO_4.out) (by first | exact Kd.N_base ho0 | exact Kd.S_base ho0 | exact Kd.N_base (Kd.S_N ho0)) hb); replace HB := Aside0.mk (below_step (hq HB.out) hb); (try clear hb); (try clear ho0)) | ((with_reducible refine gate_callee (f := 11) rfl ?_); refine goesL_ (some 83) rfl rfl Try.func11 (by kernel_rfl) rfl #[.string (t354 ++ (t354.extract 0 60))] rfl eq_ ?_; (with_reducible refine (keyeventref04_Decode.calls kj21 (t354 ++ (t354.extract 0 60)) t360 t361 _ A40.out).mono ?_); rintro e w54 ⟨v362, rfl, ho0, hb⟩; refine ⟨_, rfl, ?_⟩; replace HO353 := Aside0.mk (Kd.V_elder' (qV HO353.out) (by first | exact Kd.N_base ho0 | exact Kd.S_base ho0 | exact Kd.N_base (Kd.S_N ho0)) hb); have HO363 := Aside0.mk (Kd.N_lower (Kd.N_mono (ok' := fun k_ => some k_ ≠ (.slice Ao48 x4_21.length co48 : Value).ownBlock ∧ some k_ ≠ (v358 : Value).ownBlock) (Kd.S_N (Kd.S_bound ho0)) (fun k_ hk_ => ⟨(Kd.fresh' (Kd.N_lt (qN HO_4.out)) k_ hk_.2.1), (Kd.fresh' (Kd.N_lt (qN HO359.out)) k_ hk_.2.1)⟩)) (below_size (hq HB.out))); replace HO_4 := Aside0.mk (Kd.N_elder' (qN HO_4.out) (by first | exact Kd.N_base ho0 | exact Kd.S_base ho0 | exact Kd.N_base (Kd.S_N ho0)) hb); replace HO359 := Aside0.mk (Kd.N_elder' (qN HO359.out) (by first | exact Kd.N_base ho0 | exact Kd.S_base ho0 | exact Kd.N_base (Kd.S_N ho0)) hb); replace HB := Aside0.mk (below_step (hq HB.out) hb); (try clear hb); (try clear ho0); obtain ⟨Ao55, co55, eo55⟩ := Kd.N_slice HO359.out; subst eo55; obtain ⟨Ao56, co56, eo56⟩ := Kd.N_slice HO363.out; subst eo56) | (go_at_call 12; (with_reducible refine (keyeventref04_Same.calls kj21 _ _ t356 _ _ t360 true _ ?side1 ?side2 ?side3 ?side4 A45.out).mono ?_); (case side1 => repeat (first | exact (Kd.N_reads' HO359.out).2.2 | (with_reducible refine Kd.C_alloc ?_ _) | (with_reducible refine Kd.C_drewN ?_ _) | (with_reducible refine Kd.C_drew ?_))); (case side2 => exact (Kd.N_reads' HO359.out).2.1); (case side3 => repeat (first | exact (Kd.N_reads' HO363.out).2.2 | (with_reducible refine Kd.C_alloc ?_ _) | (with_reducible refine Kd.C_drewN ?_ _) | (with_reducible refine Kd.C_drew ?_))); (case side4 => exact (Kd.N_reads' HO363.out).2.1); rintro e w57 ⟨rfl, hb⟩; replace HO_4 := Aside0.mk (Kd.N_below (qN HO_4.out) hb); replace HO353 := Aside0.mk (Kd.V_below (qV HO353.out) hb); replace HO359 := Aside0.mk (Kd.N_below (qN HO359.out) hb); replace HO363 := Aside0.mk (Kd.N_below (qN HO363.out) hb); replace HB := Aside0.mk (below_step (hq HB.out) hb); (try clear hb)) | (go_at_call 13; (with_reducible refine (keyeventlaw04_awake.calls kj21  t365 _ A47.out).mono ?_); rintro e w58 ⟨rfl, hb⟩; replace HO_4 := Aside0.mk (Kd.N_below (qN HO_4.out) hb); replace HO353 := Aside0.mk (Kd.V_below (qV HO353.out) hb); replace HO359 := Aside0.mk (Kd.N_below (qN HO359.out) hb); replace HO363 := Aside0.mk (Kd.N_below (qN HO363.out) hb); replace HB := Aside0.mk (below_step (hq HB.out) hb); (try clear hb)))
               go_ret
               exact ⟨rq_, hq HB.out⟩
              ·replace c46 := Bool.eq_false_iff.mpr c46
               subst c46
               rw [if_neg (show ¬ (false = true) by decide)] at H
               obtain rfl := Option.some.inj H
               obtain ⟨Ao59, co59, eo59⟩ := Kd.N_slice HO_4.out
               subst eo59
               go_wp2_with (first | ((with_reducible refine gate_callee (f := 8) rfl ?_); refine goesL_ (some 56) rfl rfl Try.func8 (by kernel_rfl) rfl #[.slice Ao59 x4_21.length co59] rfl eq_ ?_; (with_reducible refine (stream_Encode.calls kj21 _ _ x4_21 t345 t346 _ ?side1 ?side2 A30.out).mono ?_); (case side1 => repeat (first | exact (Kd.N_reads' HO_4.out).2.2 | (with_reducible refine Kd.C_alloc ?_ _) | (with_reducible refine Kd.C_drewN ?_ _) | (with_reducible refine Kd.C_drew ?_))); (case side2 => exact (Kd.N_reads' HO_4.out).2.1); rintro e w60 ⟨rfl, hb⟩; refine ⟨_, rfl, ?_⟩; replace HO_4 := Aside0.mk (Kd.N_below (qN HO_4.out) hb); replace HB := Aside0.mk (below_step (hq HB.out) hb); (try clear hb)) | ((with_reducible refine gate_callee (f := 9) rfl ?_); refine goesL_ (some 61) rfl rfl Try.func9 (by kernel_rfl) rfl #[.slice Ao59 x4_21.length co59] rfl eq_ ?_; (with_reducible refine (keyeventref04_Encode.calls kj21 _ _ x4_21 t347 t348 _ ?side1 ?side2 A31.out).mono ?_); (case side1 => repeat (first | exact (Kd.N_reads' HO_4.out).2.2 | (with_reducible refine Kd.C_alloc ?_ _) | (with_reducible refine Kd.C_drewN ?_ _) | (with_reducible refine Kd.C_drew ?_))); (case side2 => exact (Kd.N_reads' HO_4.out).2.1); rintro e w61 ⟨rfl, hb⟩; refine ⟨_, rfl, ?_⟩; replace HO_4 := Aside0.mk (Kd.N_below (qN HO_4.out) hb); replace HB := Aside0.mk (below_step (hq HB.out) hb); (try clear hb); have q62 : (2 : Int) ≤ ((x4_21.length : Int) : Int) := of_decide_eq_true aq; obtain ⟨i062, hi062, _, hsz62, _⟩ := info_parts info25; have hroom62 : x4_21.length ≤ co59 := (Kd.N_reads' HO_4.out).2.1; have hC62 : Kd.F k25 _ _ Ao59 x4_21.length x4_21 := (Kd.V_at (base := w.heap.size) (Kd.N_V HO_4.out)).2.2; have hcut62 := cut_to (P := Try.prog) 22 25 .i64 Try.underlying22 hi062 Ao59 x4_21.length co59 2 (by omega) q62 hroom62; have hr62 := Kd.F_take (m := 2) hC62 (by omega); have hy62 : y349.length = (2 : Int).toNat := (by rw [Ny349.out, List.length_take]; omega); rw [← Ny349.out] at hr62; rw [← hy62] at hcut62; have HO353 := Aside0.mk (show Kd.V k25 25 _ w.heap.size _ (.slice Ao59 y349.length co59) y349 from Kd.V_mk (by omega) hr62); have HC353 := Aside0.mk (show y349.length ≤ co59 from by omega); clear hr62 hC62 hroom62 hi062 hsz62; have KY62 := Aside0.mk hy62; clear hy62; replace q62 := eq_true q62) | ((with_reducible refine gate_callee (f := 9) rfl ?_); refine goesL_ (some 67) rfl rfl Try.func9 (by kernel_rfl) rfl #[.slice Ao59 y349.length co59] rfl eq_ ?_; (with_reducible refine (keyeventref04_Encode.calls kj21 _ _ y349 t354 t355 _ ?side1 ?side2 A33.out).mono ?_); (case side1 => repeat (first | exact (Kd.V_reads' HO353.out).2.2 | (with_reducible refine Kd.C_alloc ?_ _) | (with_reducible refine Kd.C_drewN ?_ _) | (with_reducible refine Kd.C_drew ?_))); (case side2 => exact (Kd.V_reads' HO353.out).2.1); rintro e w63 ⟨rfl, hb⟩; refine ⟨_, rfl, ?_⟩; replace HO_4 := Aside0.mk (Kd.N_below (qN HO_4.out) hb); replace HO353 := Aside0.mk (Kd.V_below (qV HO353.out) hb); replace HB := Aside0.mk (below_step (hq HB.out) hb); (try clear hb)) | ((with_reducible refine gate_callee (f := 10) rfl ?_); refine goesL_ (some 75) rfl rfl Try.func10 (by kernel_rfl) rfl #[.string (t354 ++ (t354.extract 0 60))] rfl eq_ ?_; (with_reducible refine (stream_Decode.calls kj21 (t354 ++ (t354.extract 0 60)) t356 t357 _ A37.out).mono ?_); rintro e w64 ⟨v358, rfl, ho0, hb⟩; refine ⟨_, rfl, ?_⟩; replace HO353 := Aside0.mk (Kd.V_elder' (qV HO353.out) (by first | exact Kd.N_base ho0 | exact Kd.S_base ho0 | exact Kd.N_base (Kd.S_N ho0)) hb); have HO359 := Aside0.mk (Kd.N_lower (Kd.N_mono (ok' := fun k_ => some k_ ≠ (.slice Ao59 x4_21.length co59 : Value).ownBlock) (Kd.S_N (Kd.S_bound ho0)) (fun k_ hk_ => (Kd.fresh' (Kd.N_lt (qN HO_4.out)) k_ hk_.2.1))) (below_size (hq HB.out))); replace HO_4 := Aside0.mk (Kd.N_elder' (qN HO_4.out) (by first | exact Kd.N_base ho0 | exact Kd.S_base ho0 | exact Kd.N_base (Kd.S_N ho0)) hb); replace HB := Aside0.mk (below_step (hq HB.out) hb); (try clear hb); (try clear ho0)) | ((with_reducible refine gate_callee (f := 11) rfl ?_); refine goesL_ (some 83) rfl rfl Try.func11 (by kernel_rfl) rfl #[.string (t354 ++ (t354.extract 0 60))] rfl eq_ ?_; (with_reducible refine (keyeventref04_Decode.calls kj21 (t354 ++ (t354.extract 0 60)) t360 t361 _ A40.out).mono ?_); rintro e w65 ⟨v362, rfl, ho0, hb⟩; refine ⟨_, rfl, ?_⟩; replace HO353 := Aside0.mk (Kd.V_elder' (qV HO353.out) (by first | exact Kd.N_base ho0 | exact Kd.S_base ho0 | exact Kd.N_base (Kd.S_N ho0)) hb); have HO363 := Aside0.mk (Kd.N_lower (Kd.N_mono (ok' := fun k_ => some k_ ≠ (.slice Ao59 x4_21.length co59 : Value).ownBlock ∧ some k_ ≠ (v358 : Value).ownBlock) (Kd.S_N (Kd.S_bound ho0)) (fun k_ hk_ => ⟨(Kd.fresh' (Kd.N_lt (qN HO_4.out)) k_ hk_.2.1), (Kd.fresh' (Kd.N_lt (qN HO359.out)) k_ hk_.2.1)⟩)) (below_size (hq HB.out))); replace HO_4 := Aside0.mk (Kd.N_elder' (qN HO_4.out) (by first | exact Kd.N_base ho0 | exact Kd.S_base ho0 | exact Kd.N_base (Kd.S_N ho0)) hb); replace HO359 := Aside0.mk (Kd.N_elder' (qN HO359.out) (by first | exact Kd.N_base ho0 | exact Kd.S_base ho0 | exact Kd.N_base (Kd.S_N ho0)) hb); replace HB := Aside0.mk (below_step (hq HB.out) hb); (try clear hb); (try clear ho0); obtain ⟨Ao66, co66, eo66⟩ := Kd.N_slice HO359.out; subst eo66; obtain ⟨Ao67, co67, eo67⟩ := Kd.N_slice HO363.out; subst eo67) | (go_at_call 12; (with_reducible refine (keyeventref04_Same.calls kj21 _ _ t356 _ _ t360 false _ ?side1 ?side2 ?side3 ?side4 A45.out).mono ?_); (case side1 => repeat (first | exact (Kd.N_reads' HO359.out).2.2 | (with_reducible refine Kd.C_alloc ?_ _) | (with_reducible refine Kd.C_drewN ?_ _) | (with_reducible refine Kd.C_drew ?_))); (case side2 => exact (Kd.N_reads' HO359.out).2.1); (case side3 => repeat (first | exact (Kd.N_reads' HO363.out).2.2 | (with_reducible refine Kd.C_alloc ?_ _) | (with_reducible refine Kd.C_drewN ?_ _) | (with_reducible refine Kd.C_drew ?_))); (case side4 => exact (Kd.N_reads' HO363.out).2.1); rintro e w68 ⟨rfl, hb⟩; replace HO_4 := Aside0.mk (Kd.N_below (qN HO_4.out) hb); replace HO353 := Aside0.mk (Kd.V_below (qV HO353.out) hb); replace HO359 := Aside0.mk (Kd.N_below (qN HO359.out) hb); replace HO363 := Aside0.mk (Kd.N_below (qN HO363.out) hb); replace HB := Aside0.mk (below_step (hq HB.out) hb); (try clear hb)))
               go_ret
               exact ⟨rq_, hq HB.out⟩
             ·rw [if_neg c44] at H
              have c44b0 : (t357 == t361) = false := beq_eq_false_iff_ne.mpr c44
              have c44b1 : (t357 != t361) = true := bne_iff_ne.mpr c44
              obtain rfl := Option.some.inj H
              obtain ⟨Ao69, co69, eo69⟩ := Kd.N_slice HO_4.out
              subst eo69
              go_wp2_with (first | ((with_reducible refine gate_callee (f := 8) rfl ?_); refine goesL_ (some 56) rfl rfl Try.func8 (by kernel_rfl) rfl #[.slice Ao69 x4_21.length co69] rfl eq_ ?_; (with_reducible refine (stream_Encode.calls kj21 _ _ x4_21 t345 t346 _ ?side1 ?side2 A30.out).mono ?_); (case side1 => repeat (first | exact (Kd.N_reads' HO_4.out).2.2 | (with_reducible refine Kd.C_alloc ?_ _) | (with_reducible refine Kd.C_drewN ?_ _) | (with_reducible refine Kd.C_drew ?_))); (case side2 => exact (Kd.N_reads' HO_4.out).2.1); rintro e w70 ⟨rfl, hb⟩; refine ⟨_, rfl, ?_⟩; replace HO_4 := Aside0.mk (Kd.N_below (qN HO_4.out) hb); replace HB := Aside0.mk (below_step (hq HB.out) hb); (try clear hb)) | ((with_reducible refine gate_callee (f := 9) rfl ?_); refine goesL_ (some 61) rfl rfl Try.func9 (by kernel_rfl) rfl #[.slice Ao69 x4_21.length co69] rfl eq_ ?_; (with_reducible refine (keyeventref04_Encode.calls kj21 _ _ x4_21 t347 t348 _ ?side1 ?side2 A31.out).mono ?_); (case side1 => repeat (first | exact (Kd.N_reads' HO_4.out).2.2 | (with_reducible refine Kd.C_alloc ?_ _) | (with_reducible refine Kd.C_drewN ?_ _) | (with_reducible refine Kd.C_drew ?_))); (case side2 => exact (Kd.N_reads' HO_4.out).2.1); rintro e w71 ⟨rfl, hb⟩; refine ⟨_, rfl, ?_⟩; replace HO_4 := Aside0.mk (Kd.N_below (qN HO_4.out) hb); replace HB := Aside0.mk (below_step (hq HB.out) hb); (try clear hb); have q72 : (2 : Int) ≤ ((x4_21.length : Int) : Int) := of_decide_eq_true aq; obtain ⟨i072, hi072, _, hsz72, _⟩ := info_parts info25; have hroom72 : x4_21.length ≤ co69 := (Kd.N_reads' HO_4.out).2.1; have hC72 : Kd.F k25 _ _ Ao69 x4_21.length x4_21 := (Kd.V_at (base := w.heap.size) (Kd.N_V HO_4.out)).2.2; have hcut72 := cut_to (P := Try.prog) 22 25 .i64 Try.underlying22 hi072 Ao69 x4_21.length co69 2 (by omega) q72 hroom72; have hr72 := Kd.F_take (m := 2) hC72 (by omega); have hy72 : y349.length = (2 : Int).toNat := (by rw [Ny349.out, List.length_take]; omega); rw [← Ny349.out] at hr72; rw [← hy72] at hcut72; have HO353 := Aside0.mk (show Kd.V k25 25 _ w.heap.size _ (.slice Ao69 y349.length co69) y349 from Kd.V_mk (by omega) hr72); have HC353 := Aside0.mk (show y349.length ≤ co69 from by omega); clear hr72 hC72 hroom72 hi072 hsz72; have KY72 := Aside0.mk hy72; clear hy72; replace q72 := eq_true q72) | ((with_reducible refine gate_callee (f := 9) rfl ?_); refine goesL_ (some 67) rfl rfl Try.func9 (by kernel_rfl) rfl #[.slice Ao69 y349.length co69] rfl eq_ ?_; (with_reducible refine (keyeventref04_Encode.calls kj21 _ _ y349 t354 t355 _ ?side1 ?side2 A33.out).mono ?_); (case side1 => repeat (first | exact (Kd.V_reads' HO353.out).2.2 | (with_reducible refine Kd.C_alloc ?_ _) | (with_reducible refine Kd.C_drewN ?_ _) | (with_reducible refine Kd.C_drew ?_))); (case side2 => exact (Kd.V_reads' HO353.out).2.1); rintro e w73 ⟨rfl, hb⟩; refine ⟨_, rfl, ?_⟩; replace HO_4 := Aside0.mk (Kd.N_below (qN HO_4.out) hb); replace HO353 := Aside0.mk (Kd.V_below (qV HO353.out) hb); replace HB := Aside0.mk (below_step (hq HB.out) hb); (try clear hb)) | ((with_reducible refine gate_callee (f := 10) rfl ?_); refine goesL_ (some 75) rfl rfl Try.func10 (by kernel_rfl) rfl #[.string (t354 ++ (t354.extract 0 60))] rfl eq_ ?_; (with_reducible refine (stream_Decode.calls kj21 (t354 ++ (t354.extract 0 60)) t356 t357 _ A37.out).mono ?_); rintro e w74 ⟨v358, rfl, ho0, hb⟩; refine ⟨_, rfl, ?_⟩; replace HO353 := Aside0.mk (Kd.V_elder' (qV HO353.out) (by first | exact Kd.N_base ho0 | exact Kd.S_base ho0 | exact Kd.N_base (Kd.S_N ho0)) hb); have HO359 := Aside0.mk (Kd.N_lower (Kd.N_mono (ok' := fun k_ => some k_ ≠ (.slice Ao69 x4_21.length co69 : Value).ownBlock) (Kd.S_N (Kd.S_bound ho0)) (fun k_ hk_ => (Kd.fresh' (Kd.N_lt (qN HO_4.out)) k_ hk_.2.1))) (below_size (hq HB.out))); replace HO_4 := Aside0.mk (Kd.N_elder' (qN HO_4.out) (by first | exact Kd.N_base ho0 | exact Kd.S_base ho0 | exact Kd.N_base (Kd.S_N ho0)) hb); replace HB := Aside0.mk (below_step (hq HB.out) hb); (try clear hb); (try clear ho0)) | ((with_reducible refine gate_callee (f := 11) rfl ?_); refine goesL_ (some 83) rfl rfl Try.func11 (by kernel_rfl) rfl #[.string (t354 ++ (t354.extract 0 60))] rfl eq_ ?_; (with_reducible refine (keyeventref04_Decode.calls kj21 (t354 ++ (t354.extract 0 60)) t360 t361 _ A40.out).mono ?_); rintro e w75 ⟨v362, rfl, ho0, hb⟩; refine ⟨_, rfl, ?_⟩; replace HO353 := Aside0.mk (Kd.V_elder' (qV HO353.out) (by first | exact Kd.N_base ho0 | exact Kd.S_base ho0 | exact Kd.N_base (Kd.S_N ho0)) hb); have HO363 := Aside0.mk (Kd.N_lower (Kd.N_mono (ok' := fun k_ => some k_ ≠ (.slice Ao69 x4_21.length co69 : Value).ownBlock ∧ some k_ ≠ (v358 : Value).ownBlock) (Kd.S_N (Kd.S_bound ho0)) (fun k_ hk_ => ⟨(Kd.fresh' (Kd.N_lt (qN HO_4.out)) k_ hk_.2.1), (Kd.fresh' (Kd.N_lt (qN HO359.out)) k_ hk_.2.1)⟩)) (below_size (hq HB.out))); replace HO_4 := Aside0.mk (Kd.N_elder' (qN HO_4.out) (by first | exact Kd.N_base ho0 | exact Kd.S_base ho0 | exact Kd.N_base (Kd.S_N ho0)) hb); replace HO359 := Aside0.mk (Kd.N_elder' (qN HO359.out) (by first | exact Kd.N_base ho0 | exact Kd.S_base ho0 | exact Kd.N_base (Kd.S_N ho0)) hb); replace HB := Aside0.mk (below_step (hq HB.out) hb); (try clear hb); (try clear ho0)))
              go_ret
              exact ⟨rq_, hq HB.out⟩
            ·rw [if_neg c43] at H
             have c43b0 : (t346 == 0) = false := beq_eq_false_iff_ne.mpr c43
             have c43b1 : (t346 != 0) = true := bne_iff_ne.mpr c43
             (try have c43q : ((Int.tmod a0 2) == 0) = false := by have h_ := c42b0; rw [c43b0] at h_; simpa using h_)
             by_cases c76 : t345.toList = ([] : List UInt8)
             ·rw [if_pos c76] at H
              have c76b0 : (t345.toList == ([] : List UInt8)) = true := beq_iff_eq.mpr c76
              have c76b1 : (t345.toList != ([] : List UInt8)) = false := bne_eq_false_iff_eq.mpr c76
              clear c76
              by_cases c77 : t357 = t361
              ·rw [if_pos c77] at H
               have c77b0 : (t357 == t361) = true := beq_iff_eq.mpr c77
               have c77b1 : (t357 != t361) = false := bne_eq_false_iff_eq.mpr c77
               clear c77
               obtain ⟨t366, A78, H⟩ := bindS H
               by_cases c79 : t366 = true
               ·subst c79
                rw [if_pos rfl] at H
                obtain ⟨t367, A80, H⟩ := bindS H
                obtain rfl := Option.some.inj H
                obtain ⟨Ao81, co81, eo81⟩ := Kd.N_slice HO_4.out
                subst eo81
                go_wp2_with (first | ((with_reducible refine gate_callee (f := 8) rfl ?_); refine goesL_ (some 56) rfl rfl Try.func8 (by kernel_rfl) rfl #[.slice Ao81 x4_21.length co81] rfl eq_ ?_; (with_reducible refine (stream_Encode.calls kj21 _ _ x4_21 t345 t346 _ ?side1 ?side2 A30.out).mono ?_); (case side1 => repeat (first | exact (Kd.N_reads' HO_4.out).2.2 | (with_reducible refine Kd.C_alloc ?_ _) | (with_reducible refine Kd.C_drewN ?_ _) | (with_reducible refine Kd.C_drew ?_))); (case side2 => exact (Kd.N_reads' HO_4.out).2.1); rintro e w82 ⟨rfl, hb⟩; refine ⟨_, rfl, ?_⟩; replace HO_4 := Aside0.mk (Kd.N_below (qN HO_4.out) hb); replace HB := Aside0.mk (below_step (hq HB.out) hb); (try clear hb)) | ((with_reducible refine gate_callee (f := 9) rfl ?_); refine goesL_ (some 61) rfl rfl Try.func9 (by kernel_rfl) rfl #[.slice Ao81 x4_21.length co81] rfl eq_ ?_; (with_reducible refine (keyeventref04_Encode.calls kj21 _ _ x4_21 t347 t348 _ ?side1 ?side2 A31.out).mono ?_); (case side1 => repeat (first | exact (Kd.N_reads' HO_4.out).2.2 | (with_reducible refine Kd.C_alloc ?_ _) | (with_reducible refine Kd.C_drewN ?_ _) | (with_reducible refine Kd.C_drew ?_))); (case side2 => exact (Kd.N_reads' HO_4.out).2.1); rintro e w83 ⟨rfl, hb⟩; refine ⟨_, rfl, ?_⟩; replace HO_4 := Aside0.mk (Kd.N_below (qN HO_4.out) hb); replace HB := Aside0.mk (below_step (hq HB.out) hb); (try clear hb); have q84 : (2 : Int) ≤ ((x4_21.length : Int) : Int) := of_decide_eq_true aq; obtain ⟨i084, hi084, _, hsz84, _⟩ := info_parts info25; have hroom84 : x4_21.length ≤ co81 := (Kd.N_reads' HO_4.out).2.1; have hC84 : Kd.F k25 _ _ Ao81 x4_21.length x4_21 := (Kd.V_at (base := w.heap.size) (Kd.N_V HO_4.out)).2.2; have hcut84 := cut_to (P := Try.prog) 22 25 .i64 Try.underlying22 hi084 Ao81 x4_21.length co81 2 (by omega) q84 hroom84; have hr84 := Kd.F_take (m := 2) hC84 (by omega); have hy84 : y349.length = (2 : Int).toNat := (by rw [Ny349.out, List.length_take]; omega); rw [← Ny349.out] at hr84; rw [← hy84] at hcut84; have HO353 := Aside0.mk (show Kd.V k25 25 _ w.heap.size _ (.slice Ao81 y349.length co81) y349 from Kd.V_mk (by omega) hr84); have HC353 := Aside0.mk (show y349.length ≤ co81 from by omega); clear hr84 hC84 hroom84 hi084 hsz84; have KY84 := Aside0.mk hy84; clear hy84; replace q84 := eq_true q84) | ((with_reducible refine gate_callee (f := 9) rfl ?_); refine goesL_ (some 67) rfl rfl Try.func9 (by kernel_rfl) rfl #[.slice Ao81 y349.length co81] rfl eq_ ?_; (with_reducible refine (keyeventref04_Encode.calls kj21 _ _ y349 t354 t355 _ ?side1 ?side2 A33.out).mono ?_); (case side1 => repeat (first | exact (Kd.V_reads' HO353.out).2.2 | (with_reducible refine Kd.C_alloc ?_ _) | (with_reducible refine Kd.C_drewN ?_ _) | (with_reducible refine Kd.C_drew ?_))); (case side2 => exact (Kd.V_reads' HO353.out).2.1); rintro e w85 ⟨rfl, hb⟩; refine ⟨_, rfl, ?_⟩; replace HO_4 := Aside0.mk (Kd.N_below (qN HO_4.out) hb); replace HO353 := Aside0.mk (Kd.V_below (qV HO353.out) hb); replace HB := Aside0.mk (below_step (hq HB.out) hb); (try clear hb)) | ((with_reducible refine gate_callee (f := 10) rfl ?_); refine goesL_ (some 75) rfl rfl Try.func10 (by kernel_rfl) rfl #[.string (t354 ++ (t354.extract 0 60))] rfl eq_ ?_; (with_reducible refine (stream_Decode.calls kj21 (t354 ++ (t354.extract 0 60)) t356 t357 _ A37.out).mono ?_); rintro e w86 ⟨v358, rfl, ho0, hb⟩; refine ⟨_, rfl, ?_⟩; replace HO353 := Aside0.mk (Kd.V_elder' (qV HO353.out) (by first | exact Kd.N_base ho0 | exact Kd.S_base ho0 | exact Kd.N_base (Kd.S_N ho0)) hb); have HO359 := Aside0.mk (Kd.N_lower (Kd.N_mono (ok' := fun k_ => some k_ ≠ (.slice Ao81 x4_21.length co81 : Value).ownBlock) (Kd.S_N (Kd.S_bound ho0)) (fun k_ hk_ => (Kd.fresh' (Kd.N_lt (qN HO_4.out)) k_ hk_.2.1))) (below_size (hq HB.out))); replace HO_4 := Aside0.mk (Kd.N_elder' (qN HO_4.out) (by first | exact Kd.N_base ho0 | exact Kd.S_base ho0 | exact Kd.N_base (Kd.S_N ho0)) hb); replace HB := Aside0.mk (below_step (hq HB.out) hb); (try clear hb); (try clear ho0)) | ((with_reducible refine gate_callee (f := 11) rfl ?_); refine goesL_ (some 83) rfl rfl Try.func11 (by kernel_rfl) rfl #[.string (t354 ++ (t354.extract 0 60))] rfl eq_ ?_; (with_reducible refine (keyeventref04_Decode.calls kj21 (t354 ++ (t354.extract 0 60)) t360 t361 _ A40.out).mono ?_); rintro e w87 ⟨v362, rfl, ho0, hb⟩; refine ⟨_, rfl, ?_⟩; replace HO353 := Aside0.mk (Kd.V_elder' (qV HO353.out) (by first | exact Kd.N_base ho0 | exact Kd.S_base ho0 | exact Kd.N_base (Kd.S_N ho0)) hb); have HO363 := Aside0.mk (Kd.N_lower (Kd.N_mono (ok' := fun k_ => some k_ ≠ (.slice Ao81 x4_21.length co81 : Value).ownBlock ∧ some k_ ≠ (v358 : Value).ownBlock) (Kd.S_N (Kd.S_bound ho0)) (fun k_ hk_ => ⟨(Kd.fresh' (Kd.N_lt (qN HO_4.out)) k_ hk_.2.1), (Kd.fresh' (Kd.N_lt (qN HO359.out)) k_ hk_.2.1)⟩)) (below_size (hq HB.out))); replace HO_4 := Aside0.mk (Kd.N_elder' (qN HO_4.out) (by first | exact Kd.N_base ho0 | exact Kd.S_base ho0 | exact Kd.N_base (Kd.S_N ho0)) hb); replace HO359 := Aside0.mk (Kd.N_elder' (qN HO359.out) (by first | exact Kd.N_base ho0 | exact Kd.S_base ho0 | exact Kd.N_base (Kd.S_N ho0)) hb); replace HB := Aside0.mk (below_step (hq HB.out) hb); (try clear hb); (try clear ho0); obtain ⟨Ao88, co88, eo88⟩ := Kd.N_slice HO359.out; subst eo88; obtain ⟨Ao89, co89, eo89⟩ := Kd.N_slice HO363.out; subst eo89) | (go_at_call 12; (with_reducible refine (keyeventref04_Same.calls kj21 _ _ t356 _ _ t360 true _ ?side1 ?side2 ?side3 ?side4 A78.out).mono ?_); (case side1 => repeat (first | exact (Kd.N_reads' HO359.out).2.2 | (with_reducible refine Kd.C_alloc ?_ _) | (with_reducible refine Kd.C_drewN ?_ _) | (with_reducible refine Kd.C_drew ?_))); (case side2 => exact (Kd.N_reads' HO359.out).2.1); (case side3 => repeat (first | exact (Kd.N_reads' HO363.out).2.2 | (with_reducible refine Kd.C_alloc ?_ _) | (with_reducible refine Kd.C_drewN ?_ _) | (with_reducible refine Kd.C_drew ?_))); (case side4 => exact (Kd.N_reads' HO363.out).2.1); rintro e w90 ⟨rfl, hb⟩; replace HO_4 := Aside0.mk (Kd.N_below (qN HO_4.out) hb); replace HO353 := Aside0.mk (Kd.V_below (qV HO353.out) hb); replace HO359 := Aside0.mk (Kd.N_below (qN HO359.out) hb); replace HO363 := Aside0.mk (Kd.N_below (qN HO363.out) hb); replace HB := Aside0.mk (below_step (hq HB.out) hb); (try clear hb)) | (go_at_call 13; (with_reducible refine (keyeventlaw04_awake.calls kj21  t367 _ A80.out).mono ?_); rintro e w91 ⟨rfl, hb⟩; replace HO_4 := Aside0.mk (Kd.N_below (qN HO_4.out) hb); replace HO353 := Aside0.mk (Kd.V_below (qV HO353.out) hb); replace HO359 := Aside0.mk (Kd.N_below (qN HO359.out) hb); replace HO363 := Aside0.mk (Kd.N_below (qN HO363.out) hb); replace HB := Aside0.mk (below_step (hq HB.out) hb); (try clear hb)))
                go_ret
                exact ⟨rq_, hq HB.out⟩
               ·replace c79 := Bool.eq_false_iff.mpr c79
                subst c79
                rw [if_neg (show ¬ (false = true) by decide)] at H
                obtain rfl := Option.some.inj H
                obtain ⟨Ao92, co92, eo92⟩ := Kd.N_slice HO_4.out
                subst eo92
                go_wp2_with (first | ((with_reducible refine gate_callee (f := 8) rfl ?_); refine goesL_ (some 56) rfl rfl Try.func8 (by kernel_rfl) rfl #[.slice Ao92 x4_21.length co92] rfl eq_ ?_; (with_reducible refine (stream_Encode.calls kj21 _ _ x4_21 t345 t346 _ ?side1 ?side2 A30.out).mono ?_); (case side1 => repeat (first | exact (Kd.N_reads' HO_4.out).2.2 | (with_reducible refine Kd.C_alloc ?_ _) | (with_reducible refine Kd.C_drewN ?_ _) | (with_reducible refine Kd.C_drew ?_))); (case side2 => exact (Kd.N_reads' HO_4.out).2.1); rintro e w93 ⟨rfl, hb⟩; refine ⟨_, rfl, ?_⟩; replace HO_4 := Aside0.mk (Kd.N_below (qN HO_4.out) hb); replace HB := Aside0.mk (below_step (hq HB.out) hb); (try clear hb)) | ((with_reducible refine gate_callee (f := 9) rfl ?_); refine goesL_ (some 61) rfl rfl Try.func9 (by kernel_rfl) rfl #[.slice Ao92 x4_21.length co92] rfl eq_ ?_; (with_reducible refine (keyeventref04_Encode.calls kj21 _ _ x4_21 t347 t348 _ ?side1 ?side2 A31.out).mono ?_); (case side1 => repeat (first | exact (Kd.N_reads' HO_4.out).2.2 | (with_reducible refine Kd.C_alloc ?_ _) | (with_reducible refine Kd.C_drewN ?_ _) | (with_reducible refine Kd.C_drew ?_))); (case side2 => exact (Kd.N_reads' HO_4.out).2.1); rintro e w94 ⟨rfl, hb⟩; refine ⟨_, rfl, ?_⟩; replace HO_4 := Aside0.mk (Kd.N_below (qN HO_4.out) hb); replace HB := Aside0.mk (below_step (hq HB.out) hb); (try clear hb); have q95 : (2 : Int) ≤ ((x4_21.length : Int) : Int) := of_decide_eq_true aq; obtain ⟨i095, hi095, _, hsz95, _⟩ := info_parts info25; have hroom95 : x4_21.length ≤ co92 := (Kd.N_reads' HO_4.out).2.1; have hC95 : Kd.F k25 _ _ Ao92 x4_21.length x4_21 := (Kd.V_at (base := w.heap.size) (Kd.N_V HO_4.out)).2.2; have hcut95 := cut_to (P := Try.prog) 22 25 .i64 Try.underlying22 hi095 Ao92 x4_21.length co92 2 (by omega) q95 hroom95; have hr95 := Kd.F_take (m := 2) hC95 (by omega); have hy95 : y349.length = (2 : Int).toNat := (by rw [Ny349.out, List.length_take]; omega); rw [← Ny349.out] at hr95; rw [← hy95] at hcut95; have HO353 := Aside0.mk (show Kd.V k25 25 _ w.heap.size _ (.slice Ao92 y349.length co92) y349 from Kd.V_mk (by omega) hr95); have HC353 := Aside0.mk (show y349.length ≤ co92 from by omega); clear hr95 hC95 hroom95 hi095 hsz95; have KY95 := Aside0.mk hy95; clear hy95; replace q95 := eq_true q95) | ((with_reducible refine gate_callee (f := 9) rfl ?_); refine goesL_ (some 67) rfl rfl Try.func9 (by kernel_rfl) rfl #[.slice Ao92 y349.length co92] rfl eq_ ?_; (with_reducible refine (keyeventref04_Encode.calls kj21 _ _ y349 t354 t355 _ ?side1 ?side2 A33.out).mono ?_); (case side1 => repeat (first | exact (Kd.V_reads' HO353.out).2.2 | (with_reducible refine Kd.C_alloc ?_ _) | (with_reducible refine Kd.C_drewN ?_ _) | (with_reducible refine Kd.C_drew ?_))); (case side2 => exact (Kd.V_reads' HO353.out).2.1); rintro e w96 ⟨rfl, hb⟩; refine ⟨_, rfl, ?_⟩; replace HO_4 := Aside0.mk (Kd.N_below (qN HO_4.out) hb); replace HO353 := Aside0.mk (Kd.V_below (qV HO353.out) hb); replace HB := Aside0.mk (below_step (hq HB.out) hb); (try clear hb)) | ((with_reducible refine gate_callee (f := 10) rfl ?_); refine goesL_ (some 75) rfl rfl Try.func10 (by kernel_rfl) rfl #[.string (t354 ++ (t354.extract 0 60))] rfl eq_ ?_; (with_reducible refine (stream_Decode.calls kj21 (t354 ++ (t354.extract 0 60)) t356 t357 _ A37.out).mono ?_); rintro e w97 ⟨v358, rfl, ho0, hb⟩; refine ⟨_, rfl, ?_⟩; replace HO353 := Aside0.mk (Kd.V_elder' (qV HO353.out) (by first | exact Kd.N_base ho0 | exact Kd.S_base ho0 | exact Kd.N_base (Kd.S_N ho0)) hb); have HO359 := Aside0.mk (Kd.N_lower (Kd.N_mono (ok' := fun k_ => some k_ ≠ (.slice Ao92 x4_21.length co92 : Value).ownBlock) (Kd.S_N (Kd.S_bound ho0)) (fun k_ hk_ => (Kd.fresh' (Kd.N_lt (qN HO_4.out)) k_ hk_.2.1))) (below_size (hq HB.out))); replace HO_4 := Aside0.mk (Kd.N_elder' (qN HO_4.out) (by first | exact Kd.N_base ho0 | exact Kd.S_base ho0 | exact Kd.N_base (Kd.S_N ho0)) hb); replace HB := Aside0.mk (below_step (hq HB.out) hb); (try clear hb); (try clear ho0)) | ((with_reducible refine gate_callee (f := 11) rfl ?_); refine goesL_ (some 83) rfl rfl Try.func11 (by kernel_rfl) rfl #[.string (t354 ++ (t354.extract 0 60))] rfl eq_ ?_; (with_reducible refine (keyeventref04_Decode.calls kj21 (t354 ++ (t354.extract 0 60)) t360 t361 _ A40.out).mono ?_); rintro e w98 ⟨v362, rfl, ho0, hb⟩; refine ⟨_, rfl, ?_⟩; replace HO353 := Aside0.mk (Kd.V_elder' (qV HO353.out) (by first | exact Kd.N_base ho0 | exact Kd.S_base ho0 | exact Kd.N_base (Kd.S_N ho0)) hb); have HO363 := Aside0.mk (Kd.N_lower (Kd.N_mono (ok' := fun k_ => some k_ ≠ (.slice Ao92 x4_21.length co92 : Value).ownBlock ∧ some k_ ≠ (v358 : Value).ownBlock) (Kd.S_N (Kd.S_bound ho0)) (fun k_ hk_ => ⟨(Kd.fresh' (Kd.N_lt (qN HO_4.out)) k_ hk_.2.1), (Kd.fresh' (Kd.N_lt (qN HO359.out)) k_ hk_.2.1)⟩)) (below_size (hq HB.out))); replace HO_4 := Aside0.mk (Kd.N_elder' (qN HO_4.out) (by first | exact Kd.N_base ho0 | exact Kd.S_base ho0 | exact Kd.N_base (Kd.S_N ho0)) hb); replace HO359 := Aside0.mk (Kd.N_elder' (qN HO359.out) (by first | exact Kd.N_base ho0 | exact Kd.S_base ho0 | exact Kd.N_base (Kd.S_N ho0)) hb); replace HB := Aside0.mk (below_step (hq HB.out) hb); (try clear hb); (try clear ho0); obtain ⟨Ao99, co99, eo99⟩ := Kd.N_slice HO359.out; subst eo99; obtain ⟨Ao100, co100, eo100⟩ := Kd.N_slice HO363.out; subst eo100) | (go_at_call 12; (with_reducible refine (keyeventref04_Same.calls kj21 _ _ t356 _ _ t360 false _ ?side1 ?side2 ?side3 ?side4 A78.out).mono ?_); (case side1 => repeat (first | exact (Kd.N_reads' HO359.out).2.2 | (with_reducible refine Kd.C_alloc ?_ _) | (with_reducible refine Kd.C_drewN ?_ _) | (with_reducible refine Kd.C_drew ?_))); (case side2 => exact (Kd.N_reads' HO359.out).2.1); (case side3 => repeat (first | exact (Kd.N_reads' HO363.out).2.2 | (with_reducible refine Kd.C_alloc ?_ _) | (with_reducible refine Kd.C_drewN ?_ _) | (with_reducible refine Kd.C_drew ?_))); (case side4 => exact (Kd.N_reads' HO363.out).2.1); rintro e w101 ⟨rfl, hb⟩; replace HO_4 := Aside0.mk (Kd.N_below (qN HO_4.out) hb); replace HO353 := Aside0.mk (Kd.V_below (qV HO353.out) hb); replace HO359 := Aside0.mk (Kd.N_below (qN HO359.out) hb); replace HO363 := Aside0.mk (Kd.N_below (qN HO363.out) hb); replace HB := Aside0.mk (below_step (hq HB.out) hb); (try clear hb)))
                go_ret
                exact ⟨rq_, hq HB.out⟩
              ·rw [if_neg c77] at H
               have c77b0 : (t357 == t361) = false := beq_eq_false_iff_ne.mpr c77
               have c77b1 : (t357 != t361) = true := bne_iff_ne.mpr c77
               obtain rfl := Option.some.inj H
               obtain ⟨Ao102, co102, eo102⟩ := Kd.N_slice HO_4.out
               subst eo102
               go_wp2_with (first | ((with_reducible refine gate_callee (f := 8) rfl ?_); refine goesL_ (some 56) rfl rfl Try.func8 (by kernel_rfl) rfl #[.slice Ao102 x4_21.length co102] rfl eq_ ?_; (with_reducible refine (stream_Encode.calls kj21 _ _ x4_21 t345 t346 _ ?side1 ?side2 A30.out).mono ?_); (case side1 => repeat (first | exact (Kd.N_reads' HO_4.out).2.2 | (with_reducible refine Kd.C_alloc ?_ _) | (with_reducible refine Kd.C_drewN ?_ _) | (with_reducible refine Kd.C_drew ?_))); (case side2 => exact (Kd.N_reads' HO_4.out).2.1); rintro e w103 ⟨rfl, hb⟩; refine ⟨_, rfl, ?_⟩; replace HO_4 := Aside0.mk (Kd.N_below (qN HO_4.out) hb); replace HB := Aside0.mk (below_step (hq HB.out) hb); (try clear hb)) | ((with_reducible refine gate_callee (f := 9) rfl ?_); refine goesL_ (some 61) rfl rfl Try.func9 (by kernel_rfl) rfl #[.slice Ao102 x4_21.length co102] rfl eq_ ?_; (with_reducible refine (keyeventref04_Encode.calls kj21 _ _ x4_21 t347 t348 _ ?side1 ?side2 A31.out).mono ?_); (case side1 => repeat (first | exact (Kd.N_reads' HO_4.out).2.2 | (with_reducible refine Kd.C_alloc ?_ _) | (with_reducible refine Kd.C_drewN ?_ _) | (with_reducible refine Kd.C_drew ?_))); (case side2 => exact (Kd.N_reads' HO_4.out).2.1); rintro e w104 ⟨rfl, hb⟩; refine ⟨_, rfl, ?_⟩; replace HO_4 := Aside0.mk (Kd.N_below (qN HO_4.out) hb); replace HB := Aside0.mk (below_step (hq HB.out) hb); (try clear hb); have q105 : (2 : Int) ≤ ((x4_21.length : Int) : Int) := of_decide_eq_true aq; obtain ⟨i0105, hi0105, _, hsz105, _⟩ := info_parts info25; have hroom105 : x4_21.length ≤ co102 := (Kd.N_reads' HO_4.out).2.1; have hC105 : Kd.F k25 _ _ Ao102 x4_21.length x4_21 := (Kd.V_at (base := w.heap.size) (Kd.N_V HO_4.out)).2.2; have hcut105 := cut_to (P := Try.prog) 22 25 .i64 Try.underlying22 hi0105 Ao102 x4_21.length co102 2 (by omega) q105 hroom105; have hr105 := Kd.F_take (m := 2) hC105 (by omega); have hy105 : y349.length = (2 : Int).toNat := (by rw [Ny349.out, List.length_take]; omega); rw [← Ny349.out] at hr105; rw [← hy105] at hcut105; have HO353 := Aside0.mk (show Kd.V k25 25 _ w.heap.size _ (.slice Ao102 y349.length co102) y349 from Kd.V_mk (by omega) hr105); have HC353 := Aside0.mk (show y349.length ≤ co102 from by omega); clear hr105 hC105 hroom105 hi0105 hsz105; have KY105 := Aside0.mk hy105; clear hy105; replace q105 := eq_true q105) | ((with_reducible refine gate_callee (f := 9) rfl ?_); refine goesL_ (some 67) rfl rfl Try.func9 (by kernel_rfl) rfl #[.slice Ao102 y349.length co102] rfl eq_ ?_; (with_reducible refine (keyeventref04_Encode.calls kj21 _ _ y349 t354 t355 _ ?side1 ?side2 A33.out).mono ?_); (case side1 => repeat (first | exact (Kd.V_reads' HO353.out).2.2 | (with_reducible refine Kd.C_alloc ?_ _) | (with_reducible refine Kd.C_drewN ?_ _) | (with_reducible refine Kd.C_drew ?_))); (case side2 => exact (Kd.V_reads' HO353.out).2.1); rintro e w106 ⟨rfl, hb⟩; refine ⟨_, rfl, ?_⟩; replace HO_4 := Aside0.mk (Kd.N_below (qN HO_4.out) hb); replace HO353 := Aside0.mk (Kd.V_below (qV HO353.out) hb); replace HB := Aside0.mk (below_step (hq HB.out) hb); (try clear hb)) | ((with_reducible refine gate_callee (f := 10) rfl ?_); refine goesL_ (some 75) rfl rfl Try.func10 (by kernel_rfl) rfl #[.string (t354 ++ (t354.extract 0 60))] rfl eq_ ?_; (with_reducible refine (stream_Decode.calls kj21 (t354 ++ (t354.extract 0 60)) t356 t357 _ A37.out).mono ?_); rintro e w107 ⟨v358, rfl, ho0, hb⟩; refine ⟨_, rfl, ?_⟩; replace HO353 := Aside0.mk (Kd.V_elder' (qV HO353.out) (by first | exact Kd.N_base ho0 | exact Kd.S_base ho0 | exact Kd.N_base (Kd.S_N ho0)) hb); have HO359 := Aside0.mk (Kd.N_lower (Kd.N_mono (ok' := fun k_ => some k_ ≠ (.slice Ao102 x4_21.length co102 : Value).ownBlock) (Kd.S_N (Kd.S_bound ho0)) (fun k_ hk_ => (Kd.fresh' (Kd.N_lt (qN HO_4.out)) k_ hk_.2.1))) (below_size (hq HB.out))); replace HO_4 := Aside0.mk (Kd.N_elder' (qN HO_4.out) (by first | exact Kd.N_base ho0 | exact Kd.S_base ho0 | exact Kd.N_base (Kd.S_N ho0)) hb); replace HB := Aside0.mk (below_step (hq HB.out) hb); (try clear hb); (try clear ho0)) | ((with_reducible refine gate_callee (f := 11) rfl ?_); refine goesL_ (some 83) rfl rfl Try.func11 (by kernel_rfl) rfl #[.string (t354 ++ (t354.extract 0 60))] rfl eq_ ?_; (with_reducible refine (keyeventref04_Decode.calls kj21 (t354 ++ (t354.extract 0 60)) t360 t361 _ A40.out).mono ?_); rintro e w108 ⟨v362, rfl, ho0, hb⟩; refine ⟨_, rfl, ?_⟩; replace HO353 := Aside0.mk (Kd.V_elder' (qV HO353.out) (by first | exact Kd.N_base ho0 | exact Kd.S_base ho0 | exact Kd.N_base (Kd.S_N ho0)) hb); have HO363 := Aside0.mk (Kd.N_lower (Kd.N_mono (ok' := fun k_ => some k_ ≠ (.slice Ao102 x4_21.length co102 : Value).ownBlock ∧ some k_ ≠ (v358 : Value).ownBlock) (Kd.S_N (Kd.S_bound ho0)) (fun k_ hk_ => ⟨(Kd.fresh' (Kd.N_lt (qN HO_4.out)) k_ hk_.2.1), (Kd.fresh' (Kd.N_lt (qN HO359.out)) k_ hk_.2.1)⟩)) (below_size (hq HB.out))); replace HO_4 := Aside0.mk (Kd.N_elder' (qN HO_4.out) (by first | exact Kd.N_base ho0 | exact Kd.S_base ho0 | exact Kd.N_base (Kd.S_N ho0)) hb); replace HO359 := Aside0.mk (Kd.N_elder' (qN HO359.out) (by first | exact Kd.N_base ho0 | exact Kd.S_base ho0 | exact Kd.N_base (Kd.S_N ho0)) hb); replace HB := Aside0.mk (below_step (hq HB.out) hb); (try clear hb); (try clear ho0)))
               go_ret
               exact ⟨rq_, hq HB.out⟩
             ·rw [if_neg c76] at H
              have c76b0 : (t345.toList == ([] : List UInt8)) = false := beq_eq_false_iff_ne.mpr c76
              have c76b1 : (t345.toList != ([] : List UInt8)) = true := bne_iff_ne.mpr c76
              obtain rfl := Option.some.inj H
              obtain ⟨Ao109, co109, eo109⟩ := Kd.N_slice HO_4.out
              subst eo109
              go_wp2_with (first | ((with_reducible refine gate_callee (f := 8) rfl ?_); refine goesL_ (some 56) rfl rfl Try.func8 (by kernel_rfl) rfl #[.slice Ao109 x4_21.length co109] rfl eq_ ?_; (with_reducible refine (stream_Encode.calls kj21 _ _ x4_21 t345 t346 _ ?side1 ?side2 A30.out).mono ?_); (case side1 => repeat (first | exact (Kd.N_reads' HO_4.out).2.2 | (with_reducible refine Kd.C_alloc ?_ _) | (with_reducible refine Kd.C_drewN ?_ _) | (with_reducible refine Kd.C_drew ?_))); (case side2 => exact (Kd.N_reads' HO_4.out).2.1); rintro e w110 ⟨rfl, hb⟩; refine ⟨_, rfl, ?_⟩; replace HO_4 := Aside0.mk (Kd.N_below (qN HO_4.out) hb); replace HB := Aside0.mk (below_step (hq HB.out) hb); (try clear hb)) | ((with_reducible refine gate_callee (f := 9) rfl ?_); refine goesL_ (some 61) rfl rfl Try.func9 (by kernel_rfl) rfl #[.slice Ao109 x4_21.length co109] rfl eq_ ?_; (with_reducible refine (keyeventref04_Encode.calls kj21 _ _ x4_21 t347 t348 _ ?side1 ?side2 A31.out).mono ?_); (case side1 => repeat (first | exact (Kd.N_reads' HO_4.out).2.2 | (with_reducible refine Kd.C_alloc ?_ _) | (with_reducible refine Kd.C_drewN ?_ _) | (with_reducible refine Kd.C_drew ?_))); (case side2 => exact (Kd.N_reads' HO_4.out).2.1); rintro e w111 ⟨rfl, hb⟩; refine ⟨_, rfl, ?_⟩; replace HO_4 := Aside0.mk (Kd.N_below (qN HO_4.out) hb); replace HB := Aside0.mk (below_step (hq HB.out) hb); (try clear hb); have q112 : (2 : Int) ≤ ((x4_21.length : Int) : Int) := of_decide_eq_true aq; obtain ⟨i0112, hi0112, _, hsz112, _⟩ := info_parts info25; have hroom112 : x4_21.length ≤ co109 := (Kd.N_reads' HO_4.out).2.1; have hC112 : Kd.F k25 _ _ Ao109 x4_21.length x4_21 := (Kd.V_at (base := w.heap.size) (Kd.N_V HO_4.out)).2.2; have hcut112 := cut_to (P := Try.prog) 22 25 .i64 Try.underlying22 hi0112 Ao109 x4_21.length co109 2 (by omega) q112 hroom112; have hr112 := Kd.F_take (m := 2) hC112 (by omega); have hy112 : y349.length = (2 : Int).toNat := (by rw [Ny349.out, List.length_take]; omega); rw [← Ny349.out] at hr112; rw [← hy112] at hcut112; have HO353 := Aside0.mk (show Kd.V k25 25 _ w.heap.size _ (.slice Ao109 y349.length co109) y349 from Kd.V_mk (by omega) hr112); have HC353 := Aside0.mk (show y349.length ≤ co109 from by omega); clear hr112 hC112 hroom112 hi0112 hsz112; have KY112 := Aside0.mk hy112; clear hy112; replace q112 := eq_true q112) | ((with_reducible refine gate_callee (f := 9) rfl ?_); refine goesL_ (some 67) rfl rfl Try.func9 (by kernel_rfl) rfl #[.slice Ao109 y349.length co109] rfl eq_ ?_; (with_reducible refine (keyeventref04_Encode.calls kj21 _ _ y349 t354 t355 _ ?side1 ?side2 A33.out).mono ?_); (case side1 => repeat (first | exact (Kd.V_reads' HO353.out).2.2 | (with_reducible refine Kd.C_alloc ?_ _) | (with_reducible refine Kd.C_drewN ?_ _) | (with_reducible refine Kd.C_drew ?_))); (case side2 => exact (Kd.V_reads' HO353.out).2.1); rintro e w113 ⟨rfl, hb⟩; refine ⟨_, rfl, ?_⟩; replace HO_4 := Aside0.mk (Kd.N_below (qN HO_4.out) hb); replace HO353 := Aside0.mk (Kd.V_below (qV HO353.out) hb); replace HB := Aside0.mk (below_step (hq HB.out) hb); (try clear hb)) | ((with_reducible refine gate_callee (f := 10) rfl ?_); refine goesL_ (some 75) rfl rfl Try.func10 (by kernel_rfl) rfl #[.string (t354 ++ (t354.extract 0 60))] rfl eq_ ?_; (with_reducible refine (stream_Decode.calls kj21 (t354 ++ (t354.extract 0 60)) t356 t357 _ A37.out).mono ?_); rintro e w114 ⟨v358, rfl, ho0, hb⟩; refine ⟨_, rfl, ?_⟩; replace HO353 := Aside0.mk (Kd.V_elder' (qV HO353.out) (by first | exact Kd.N_base ho0 | exact Kd.S_base ho0 | exact Kd.N_base (Kd.S_N ho0)) hb); have HO359 := Aside0.mk (Kd.N_lower (Kd.N_mono (ok' := fun k_ => some k_ ≠ (.slice Ao109 x4_21.length co109 : Value).ownBlock) (Kd.S_N (Kd.S_bound ho0)) (fun k_ hk_ => (Kd.fresh' (Kd.N_lt (qN HO_4.out)) k_ hk_.2.1))) (below_size (hq HB.out))); replace HO_4 := Aside0.mk (Kd.N_elder' (qN HO_4.out) (by first | exact Kd.N_base ho0 | exact Kd.S_base ho0 | exact Kd.N_base (Kd.S_N ho0)) hb); replace HB := Aside0.mk (below_step (hq HB.out) hb); (try clear hb); (try clear ho0)) | ((with_reducible refine gate_callee (f := 11) rfl ?_); refine goesL_ (some 83) rfl rfl Try.func11 (by kernel_rfl) rfl #[.string (t354 ++ (t354.extract 0 60))] rfl eq_ ?_; (with_reducible refine (keyeventref04_Decode.calls kj21 (t354 ++ (t354.extract 0 60)) t360 t361 _ A40.out).mono ?_); rintro e w115 ⟨v362, rfl, ho0, hb⟩; refine ⟨_, rfl, ?_⟩; replace HO353 := Aside0.mk (Kd.V_elder' (qV HO353.out) (by first | exact Kd.N_base ho0 | exact Kd.S_base ho0 | exact Kd.N_base (Kd.S_N ho0)) hb); have HO363 := Aside0.mk (Kd.N_lower (Kd.N_mono (ok' := fun k_ => some k_ ≠ (.slice Ao109 x4_21.length co109 : Value).ownBlock ∧ some k_ ≠ (v358 : Value).ownBlock) (Kd.S_N (Kd.S_bound ho0)) (fun k_ hk_ => ⟨(Kd.fresh' (Kd.N_lt (qN HO_4.out)) k_ hk_.2.1), (Kd.fresh' (Kd.N_lt (qN HO359.out)) k_ hk_.2.1)⟩)) (below_size (hq HB.out))); replace HO_4 := Aside0.mk (Kd.N_elder' (qN HO_4.out) (by first | exact Kd.N_base ho0 | exact Kd.S_base ho0 | exact Kd.N_base (Kd.S_N ho0)) hb); replace HO359 := Aside0.mk (Kd.N_elder' (qN HO359.out) (by first | exact Kd.N_base ho0 | exact Kd.S_base ho0 | exact Kd.N_base (Kd.S_N ho0)) hb); replace HB := Aside0.mk (below_step (hq HB.out) hb); (try clear hb); (try clear ho0)))
              go_ret
              exact ⟨rq_, hq HB.out⟩
           ·rw [if_neg c42] at H
            have c42b0 : ((t346 == 0) == ((Int.tmod a0 2) == 0)) = false := by simpa using c42
            (try (have c42b1 : decide ((t346 == 0) = ((Int.tmod a0 2) == 0)) = false := by simpa using c42))
            (try (have c42b2 : ((t346 == 0) == ((Int.tmod a0 2) == 0)) = false := by simpa using c42))
            (try (have c42b3 : ¬ ((t346 == 0) = ((Int.tmod a0 2) == 0)) := by simpa using c42))
            clear c42
            obtain rfl := Option.some.inj H
            obtain ⟨Ao116, co116, eo116⟩ := Kd.N_slice HO_4.out
            subst eo116
            go_wp2_with (first | ((with_reducible refine gate_callee (f := 8) rfl ?_); refine goesL_ (some 56) rfl rfl Try.func8 (by kernel_rfl) rfl #[.slice Ao116 x4_21.length co116] rfl eq_ ?_; (with_reducible refine (stream_Encode.calls kj21 _ _ x4_21 t345 t346 _ ?side1 ?side2 A30.out).mono ?_); (case side1 => repeat (first | exact (Kd.N_reads' HO_4.out).2.2 | (with_reducible refine Kd.C_alloc ?_ _) | (with_reducible refine Kd.C_drewN ?_ _) | (with_reducible refine Kd.C_drew ?_))); (case side2 => exact (Kd.N_reads' HO_4.out).2.1); rintro e w117 ⟨rfl, hb⟩; refine ⟨_, rfl, ?_⟩; replace HO_4 := Aside0.mk (Kd.N_below (qN HO_4.out) hb); replace HB := Aside0.mk (below_step (hq HB.out) hb); (try clear hb)) | ((with_reducible refine gate_callee (f := 9) rfl ?_); refine goesL_ (some 61) rfl rfl Try.func9 (by kernel_rfl) rfl #[.slice Ao116 x4_21.length co116] rfl eq_ ?_; (with_reducible refine (keyeventref04_Encode.calls kj21 _ _ x4_21 t347 t348 _ ?side1 ?side2 A31.out).mono ?_); (case side1 => repeat (first | exact (Kd.N_reads' HO_4.out).2.2 | (with_reducible refine Kd.C_alloc ?_ _) | (with_reducible refine Kd.C_drewN ?_ _) | (with_reducible refine Kd.C_drew ?_))); (case side2 => exact (Kd.N_reads' HO_4.out).2.1); rintro e w118 ⟨rfl, hb⟩; refine ⟨_, rfl, ?_⟩; replace HO_4 := Aside0.mk (Kd.N_below (qN HO_4.out) hb); replace HB := Aside0.mk (below_step (hq HB.out) hb); (try clear hb); have q119 : (2 : Int) ≤ ((x4_21.length : Int) : Int) := of_decide_eq_true aq; obtain ⟨i0119, hi0119, _, hsz119, _⟩ := info_parts info25; have hroom119 : x4_21.length ≤ co116 := (Kd.N_reads' HO_4.out).2.1; have hC119 : Kd.F k25 _ _ Ao116 x4_21.length x4_21 := (Kd.V_at (base := w.heap.size) (Kd.N_V HO_4.out)).2.2; have hcut119 := cut_to (P := Try.prog) 22 25 .i64 Try.underlying22 hi0119 Ao116 x4_21.length co116 2 (by omega) q119 hroom119; have hr119 := Kd.F_take (m := 2) hC119 (by omega); have hy119 : y349.length = (2 : Int).toNat := (by rw [Ny349.out, List.length_take]; omega); rw [← Ny349.out] at hr119; rw [← hy119] at hcut119; have HO353 := Aside0.mk (show Kd.V k25 25 _ w.heap.size _ (.slice Ao116 y349.length co116) y349 from Kd.V_mk (by omega) hr119); have HC353 := Aside0.mk (show y349.length ≤ co116 from by omega); clear hr119 hC119 hroom119 hi0119 hsz119; have KY119 := Aside0.mk hy119; clear hy119; replace q119 := eq_true q119) | ((with_reducible refine gate_callee (f := 9) rfl ?_); refine goesL_ (some 67) rfl rfl Try.func9 (by kernel_rfl) rfl #[.slice Ao116 y349.length co116] rfl eq_ ?_; (with_reducible refine (keyeventref04_Encode.calls kj21 _ _ y349 t354 t355 _ ?side1 ?side2 A33.out).mono ?_); (case side1 => repeat (first | exact (Kd.V_reads' HO353.out).2.2 | (with_reducible refine Kd.C_alloc ?_ _) | (with_reducible refine Kd.C_drewN ?_ _) | (with_reducible refine Kd.C_drew ?_))); (case side2 => exact (Kd.V_reads' HO353.out).2.1); rintro e w120 ⟨rfl, hb⟩; refine ⟨_, rfl, ?_⟩; replace HO_4 := Aside0.mk (Kd.N_below (qN HO_4.out) hb); replace HO353 := Aside0.mk (Kd.V_below (qV HO353.out) hb); replace HB := Aside0.mk (below_step (hq HB.out) hb); (try clear hb)) | ((with_reducible refine gate_callee (f := 10) rfl ?_); refine goesL_ (some 75) rfl rfl Try.func10 (by kernel_rfl) rfl #[.string (t354 ++ (t354.extract 0 60))] rfl eq_ ?_; (with_reducible refine (stream_Decode.calls kj21 (t354 ++ (t354.extract 0 60)) t356 t357 _ A37.out).mono ?_); rintro e w121 ⟨v358, rfl, ho0, hb⟩; refine ⟨_, rfl, ?_⟩; replace HO353 := Aside0.mk (Kd.V_elder' (qV HO353.out) (by first | exact Kd.N_base ho0 | exact Kd.S_base ho0 | exact Kd.N_base (Kd.S_N ho0)) hb); have HO359 := Aside0.mk (Kd.N_lower (Kd.N_mono (ok' := fun k_ => some k_ ≠ (.slice Ao116 x4_21.length co116 : Value).ownBlock) (Kd.S_N (Kd.S_bound ho0)) (fun k_ hk_ => (Kd.fresh' (Kd.N_lt (qN HO_4.out)) k_ hk_.2.1))) (below_size (hq HB.out))); replace HO_4 := Aside0.mk (Kd.N_elder' (qN HO_4.out) (by first | exact Kd.N_base ho0 | exact Kd.S_base ho0 | exact Kd.N_base (Kd.S_N ho0)) hb); replace HB := Aside0.mk (below_step (hq HB.out) hb); (try clear hb); (try clear ho0)) | ((with_reducible refine gate_callee (f := 11) rfl ?_); refine goesL_ (some 83) rfl rfl Try.func11 (by kernel_rfl) rfl #[.string (t354 ++ (t354.extract 0 60))] rfl eq_ ?_; (with_reducible refine (keyeventref04_Decode.calls kj21 (t354 ++ (t354.extract 0 60)) t360 t361 _ A40.out).mono ?_); rintro e w122 ⟨v362, rfl, ho0, hb⟩; refine ⟨_, rfl, ?_⟩; replace HO353 := Aside0.mk (Kd.V_elder' (qV HO353.out) (by first | exact Kd.N_base ho0 | exact Kd.S_base ho0 | exact Kd.N_base (Kd.S_N ho0)) hb); have HO363 := Aside0.mk (Kd.N_lower (Kd.N_mono (ok' := fun k_ => some k_ ≠ (.slice Ao116 x4_21.length co116 : Value).ownBlock ∧ some k_ ≠ (v358 : Value).ownBlock) (Kd.S_N (Kd.S_bound ho0)) (fun k_ hk_ => ⟨(Kd.fresh' (Kd.N_lt (qN HO_4.out)) k_ hk_.2.1), (Kd.fresh' (Kd.N_lt (qN HO359.out)) k_ hk_.2.1)⟩)) (below_size (hq HB.out))); replace HO_4 := Aside0.mk (Kd.N_elder' (qN HO_4.out) (by first | exact Kd.N_base ho0 | exact Kd.S_base ho0 | exact Kd.N_base (Kd.S_N ho0)) hb); replace HO359 := Aside0.mk (Kd.N_elder' (qN HO359.out) (by first | exact Kd.N_base ho0 | exact Kd.S_base ho0 | exact Kd.N_base (Kd.S_N ho0)) hb); replace HB := Aside0.mk (below_step (hq HB.out) hb); (try clear hb); (try clear ho0)))
            go_ret
            exact ⟨rq_, hq HB.out⟩
          ·rw [if_neg c41] at H
           have c41b0 : (t346 == t348) = false := beq_eq_false_iff_ne.mpr c41
           have c41b1 : (t346 != t348) = true := bne_iff_ne.mpr c41
           obtain rfl := Option.some.inj H
           obtain ⟨Ao123, co123, eo123⟩ := Kd.N_slice HO_4.out
           subst eo123
           go_wp2_with (first | ((with_reducible refine gate_callee (f := 8) rfl ?_); refine goesL_ (some 56) rfl rfl Try.func8 (by kernel_rfl) rfl #[.slice Ao123 x4_21.length co123] rfl eq_ ?_; (with_reducible refine (stream_Encode.calls kj21 _ _ x4_21 t345 t346 _ ?side1 ?side2 A30.out).mono ?_); (case side1 => repeat (first | exact (Kd.N_reads' HO_4.out).2.2 | (with_reducible refine Kd.C_alloc ?_ _) | (with_reducible refine Kd.C_drewN ?_ _) | (with_reducible refine Kd.C_drew ?_))); (case side2 => exact (Kd.N_reads' HO_4.out).2.1); rintro e w124 ⟨rfl, hb⟩; refine ⟨_, rfl, ?_⟩; replace HO_4 := Aside0.mk (Kd.N_below (qN HO_4.out) hb); replace HB := Aside0.mk (below_step (hq HB.out) hb); (try clear hb)) | ((with_reducible refine gate_callee (f := 9) rfl ?_); refine goesL_ (some 61) rfl rfl Try.func9 (by kernel_rfl) rfl #[.slice Ao123 x4_21.length co123] rfl eq_ ?_; (with_reducible refine (keyeventref04_Encode.calls kj21 _ _ x4_21 t347 t348 _ ?side1 ?side2 A31.out).mono ?_); (case side1 => repeat (first | exact (Kd.N_reads' HO_4.out).2.2 | (with_reducible refine Kd.C_alloc ?_ _) | (with_reducible refine Kd.C_drewN ?_ _) | (with_reducible refine Kd.C_drew ?_))); (case side2 => exact (Kd.N_reads' HO_4.out).2.1); rintro e w125 ⟨rfl, hb⟩; refine ⟨_, rfl, ?_⟩; replace HO_4 := Aside0.mk (Kd.N_below (qN HO_4.out) hb); replace HB := Aside0.mk (below_step (hq HB.out) hb); (try clear hb); have q126 : (2 : Int) ≤ ((x4_21.length : Int) : Int) := of_decide_eq_true aq; obtain ⟨i0126, hi0126, _, hsz126, _⟩ := info_parts info25; have hroom126 : x4_21.length ≤ co123 := (Kd.N_reads' HO_4.out).2.1; have hC126 : Kd.F k25 _ _ Ao123 x4_21.length x4_21 := (Kd.V_at (base := w.heap.size) (Kd.N_V HO_4.out)).2.2; have hcut126 := cut_to (P := Try.prog) 22 25 .i64 Try.underlying22 hi0126 Ao123 x4_21.length co123 2 (by omega) q126 hroom126; have hr126 := Kd.F_take (m := 2) hC126 (by omega); have hy126 : y349.length = (2 : Int).toNat := (by rw [Ny349.out, List.length_take]; omega); rw [← Ny349.out] at hr126; rw [← hy126] at hcut126; have HO353 := Aside0.mk (show Kd.V k25 25 _ w.heap.size _ (.slice Ao123 y349.length co123) y349 from Kd.V_mk (by omega) hr126); have HC353 := Aside0.mk (show y349.length ≤ co123 from by omega); clear hr126 hC126 hroom126 hi0126 hsz126; have KY126 := Aside0.mk hy126; clear hy126; replace q126 := eq_true q126) | ((with_reducible refine gate_callee (f := 9) rfl ?_); refine goesL_ (some 67) rfl rfl Try.func9 (by kernel_rfl) rfl #[.slice Ao123 y349.length co123] rfl eq_ ?_; (with_reducible refine (keyeventref04_Encode.calls kj21 _ _ y349 t354 t355 _ ?side1 ?side2 A33.out).mono ?_); (case side1 => repeat (first | exact (Kd.V_reads' HO353.out).2.2 | (with_reducible refine Kd.C_alloc ?_ _) | (with_reducible refine Kd.C_drewN ?_ _) | (with_reducible refine Kd.C_drew ?_))); (case side2 => exact (Kd.V_reads' HO353.out).2.1); rintro e w127 ⟨rfl, hb⟩; refine ⟨_, rfl, ?_⟩; replace HO_4 := Aside0.mk (Kd.N_below (qN HO_4.out) hb); replace HO353 := Aside0.mk (Kd.V_below (qV HO353.out) hb); replace HB := Aside0.mk (below_step (hq HB.out) hb); (try clear hb)) | ((with_reducible refine gate_callee (f := 10) rfl ?_); refine goesL_ (some 75) rfl rfl Try.func10 (by kernel_rfl) rfl #[.string (t354 ++ (t354.extract 0 60))] rfl eq_ ?_; (with_reducible refine (stream_Decode.calls kj21 (t354 ++ (t354.extract 0 60)) t356 t357 _ A37.out).mono ?_); rintro e w128 ⟨v358, rfl, ho0, hb⟩; refine ⟨_, rfl, ?_⟩; replace HO353 := Aside0.mk (Kd.V_elder' (qV HO353.out) (by first | exact Kd.N_base ho0 | exact Kd.S_base ho0 | exact Kd.N_base (Kd.S_N ho0)) hb); have HO359 := Aside0.mk (Kd.N_lower (Kd.N_mono (ok' := fun k_ => some k_ ≠ (.slice Ao123 x4_21.length co123 : Value).ownBlock) (Kd.S_N (Kd.S_bound ho0)) (fun k_ hk_ => (Kd.fresh' (Kd.N_lt (qN HO_4.out)) k_ hk_.2.1))) (below_size (hq HB.out))); replace HO_4 := Aside0.mk (Kd.N_elder' (qN HO_4.out) (by first | exact Kd.N_base ho0 | exact Kd.S_base ho0 | exact Kd.N_base (Kd.S_N ho0)) hb); replace HB := Aside0.mk (below_step (hq HB.out) hb); (try clear hb); (try clear ho0)) | ((with_reducible refine gate_callee (f := 11) rfl ?_); refine goesL_ (some 83) rfl rfl Try.func11 (by kernel_rfl) rfl #[.string (t354 ++ (t354.extract 0 60))] rfl eq_ ?_; (with_reducible refine (keyeventref04_Decode.calls kj21 (t354 ++ (t354.extract 0 60)) t360 t361 _ A40.out).mono ?_); rintro e w129 ⟨v362, rfl, ho0, hb⟩; refine ⟨_, rfl, ?_⟩; replace HO353 := Aside0.mk (Kd.V_elder' (qV HO353.out) (by first | exact Kd.N_base ho0 | exact Kd.S_base ho0 | exact Kd.N_base (Kd.S_N ho0)) hb); have HO363 := Aside0.mk (Kd.N_lower (Kd.N_mono (ok' := fun k_ => some k_ ≠ (.slice Ao123 x4_21.length co123 : Value).ownBlock ∧ some k_ ≠ (v358 : Value).ownBlock) (Kd.S_N (Kd.S_bound ho0)) (fun k_ hk_ => ⟨(Kd.fresh' (Kd.N_lt (qN HO_4.out)) k_ hk_.2.1), (Kd.fresh' (Kd.N_lt (qN HO359.out)) k_ hk_.2.1)⟩)) (below_size (hq HB.out))); replace HO_4 := Aside0.mk (Kd.N_elder' (qN HO_4.out) (by first | exact Kd.N_base ho0 | exact Kd.S_base ho0 | exact Kd.N_base (Kd.S_N ho0)) hb); replace HO359 := Aside0.mk (Kd.N_elder' (qN HO359.out) (by first | exact Kd.N_base ho0 | exact Kd.S_base ho0 | exact Kd.N_base (Kd.S_N ho0)) hb); replace HB := Aside0.mk (below_step (hq HB.out) hb); (try clear hb); (try clear ho0)))
           go_ret
           exact ⟨rq_, hq HB.out⟩
         ·rw [if_neg c36] at H
          exact absurd H (by simp)
        ·rw [if_neg c35] at H
         exact absurd H (by simp)
       ·rw [if_neg c34] at H
        exact absurd H (by simp)
      ·rw [if_neg c32] at H
       exact absurd H (by simp)

/-- THE ONE PURE STATEMENT of keyeventlaw04_StreamLimit: yours. -/
def keyeventlaw04_StreamLimit.Pure : Prop := ∀ (a0 : Int), (Lit.int .u8 a0).wf = true → ∃ k, keyeventlaw04_StreamLimit.f k a0 = some true
theorem keyeventlaw04_StreamLimit.walk (P : keyeventlaw04_StreamLimit.Pure) (a0 : Int) (w : World) (w0 : (Lit.int .u8 a0).wf = true) :
    Calls Try.prog 3 #[.int .u8 a0] w fun e w' => e = .returned (.bool true) ∧ Below w.heap.size w w' := by
  obtain ⟨k, h⟩ := P a0 w0
  refine (keyeventlaw04_StreamLimit.calls k a0 true w h).mono ?_
  rintro e w' ⟨rfl, hd⟩
  exact ⟨rfl, hd⟩

end Go.Proofs.Ytookjdhfpbmjkaa.X
